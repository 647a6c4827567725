/- Proves a closed fact of the set-up by the kernel. -/
import Derived.KernelRfl
import Derived.Test.YtmnmenklbegmeaaGreatHas
set_option linter.all false
set_option maxRecDepth 1000000
namespace Go.Sx
def XP:qi x4 (kA 2998) yg nh.body nh.mv (params 0 I7) aT.empty=some (.j1,BC,Cb):=by kernel_rfl
end Go.Sx
