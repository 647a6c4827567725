/- Proves a closed fact of the set-up by the kernel. -/
import Derived.KernelRfl
import Derived.Test.YtmnmenklbegmeaaGreatHas
set_option linter.all false
set_option maxRecDepth 1000000
namespace Go.Sx
def U5:mW 1 p4 Bi Ba Rc PC=true:=by kernel_rfl
end Go.Sx
