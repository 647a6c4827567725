/- Proves a closed fact of the set-up by the kernel. -/
import Derived.KernelRfl
import Derived.Test.YtihofefpkjfmnaaGreatNat
set_option linter.all false
set_option maxRecDepth 1000000
namespace Go.Sx
def Sq:nH cfg yH.get xI 3000 false 22 [LL] bV.empty=some (.kO [KQ,tT],bV.empty):=by kernel_rfl
end Go.Sx
