/- Proves a closed fact of the set-up by the kernel. -/
import Derived.KernelRfl
import Derived.Test.YtmnmenklbegmeaaGreatHas
set_option linter.all false
set_option maxRecDepth 1000000
namespace Go.Sx
def V4:DV (qy 3 p4 Kw KB)=some (AS,aT.empty):=by kernel_rfl
end Go.Sx
