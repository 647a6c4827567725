/- Proves a closed fact of the set-up by the kernel. -/
import Derived.KernelRfl
import Derived.Test.YtgoeonlbgdamhaaGreatHas
set_option linter.all false
set_option maxRecDepth 1000000
namespace Go.Sx
def WD:rH xm (kJ 2998) yc nb.body nb.lV (params 0 Ih) aT.empty=some (.ka,AK,As):=by kernel_rfl
end Go.Sx
