/- Proves a closed fact of the set-up by the kernel. -/
import Derived.KernelRfl
import Derived.Test.YtgoeonlbgdamhaaGreatHas
set_option linter.all false
set_option maxRecDepth 1000000
namespace Go.Sx
def VA:mW 1 qa Pb N1 QG PQ=true:=by kernel_rfl
end Go.Sx
