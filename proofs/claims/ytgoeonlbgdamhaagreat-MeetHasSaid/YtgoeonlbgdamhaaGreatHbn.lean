/- Proves a closed fact of the set-up by the kernel. -/
import Derived.KernelRfl
import Derived.Test.YtgoeonlbgdamhaaGreatHas
set_option linter.all false
set_option maxRecDepth 1000000
namespace Go.Sx
def UC:Dd (qA 3 qa KM J6)=some (zV,aT.empty):=by kernel_rfl
end Go.Sx
