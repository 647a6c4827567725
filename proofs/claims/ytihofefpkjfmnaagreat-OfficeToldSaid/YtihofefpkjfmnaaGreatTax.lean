/- Proves a closed fact of the set-up by the kernel. -/
import Derived.KernelRfl
import Derived.Test.YtihofefpkjfmnaaGreatTaw
set_option linter.all false
set_option maxRecDepth 1000000
namespace Go.Sx
def PU:nM cfg xk.get wH 3000 false 22 [KC] aT.empty=some (.kq [JX,tT],aT.empty):=by kernel_rfl
end Go.Sx
