/- Proves a closed fact of the set-up by the kernel. -/
import Derived.KernelRfl
import Derived.Test.YtmnmenklbegmeaaGreatHas
set_option linter.all false
set_option maxRecDepth 1000000
namespace Go.Sx
def Ud:mg cfg vS.get ub 3000 false 18 [KP] aT.empty=some (.je [Cj,tT],aT.empty):=by kernel_rfl
end Go.Sx
