/- Proves a closed fact of the set-up by the kernel. -/
import Derived.KernelRfl
import Derived.Test.YtmnmenklbegmeaaGreatHas
set_option linter.all false
set_option maxRecDepth 1000000
namespace Go.Sx
def abE:qi x4 (kA 2998) yg nh.body nh.mv (params 0 Jl) aT.empty=some (.j1,Bi,Ba):=by kernel_rfl
end Go.Sx
