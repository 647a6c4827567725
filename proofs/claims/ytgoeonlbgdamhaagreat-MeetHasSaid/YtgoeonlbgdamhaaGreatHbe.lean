/- Proves a closed fact of the set-up by the kernel. -/
import Derived.KernelRfl
import Derived.Test.YtgoeonlbgdamhaaGreatHas
set_option linter.all false
set_option maxRecDepth 1000000
namespace Go.Sx
def YY:rH xm (kJ 2998) yc nb.body nb.lV (params 0 HE) aT.empty=some (.ka,Bg,Aq):=by kernel_rfl
end Go.Sx
