/- Proves a closed fact of the set-up by the kernel. -/
import Derived.KernelRfl
import Derived.Test.YtmnmenklbegmeaaGreatHas
set_option linter.all false
set_option maxRecDepth 1000000
namespace Go.Sx
def Uq:DV (qy 3 p4 Lo Lk)=some (AK,aT.empty):=by kernel_rfl
end Go.Sx
