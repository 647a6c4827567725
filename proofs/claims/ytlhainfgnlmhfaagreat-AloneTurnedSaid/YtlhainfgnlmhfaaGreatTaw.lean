/- Proves a closed fact of the set-up by the kernel. -/
import Derived.KernelRfl
import Derived.Test.YtlhainfgnlmhfaaGreatTas
set_option linter.all false
set_option maxRecDepth 1000000
namespace Go.Sx
theorem SM:lg 1 qJ Sp Sq So Sr=true:=by kernel_rfl
end Go.Sx
