/- Proves a closed fact of the set-up by the kernel. -/
import Derived.KernelRfl
import Derived.Test.YtgoeonlbgdamhaaGreatHas
set_option linter.all false
set_option maxRecDepth 1000000
namespace Go.Sx
def TY:lT cfg vn.get tK 3000 false 26 [Kt] aT.empty=some (.je [Aw,tT],aT.empty):=by kernel_rfl
end Go.Sx
