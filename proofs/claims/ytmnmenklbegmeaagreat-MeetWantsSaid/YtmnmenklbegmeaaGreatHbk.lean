/- Proves a closed fact of the set-up by the kernel. -/
import Derived.KernelRfl
import Derived.Test.YtmnmenklbegmeaaGreatHas
set_option linter.all false
set_option maxRecDepth 1000000
namespace Go.Sx
def TM:mW 1 p4 KD LA KM Lj=true:=by kernel_rfl
end Go.Sx
