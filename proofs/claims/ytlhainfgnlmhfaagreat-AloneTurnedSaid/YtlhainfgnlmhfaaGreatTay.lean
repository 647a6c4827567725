/- Proves a closed fact of the set-up by the kernel. -/
import Derived.KernelRfl
import Derived.Test.YtlhainfgnlmhfaaGreatTas
set_option linter.all false
set_option maxRecDepth 1000000
namespace Go.Sx
theorem Ui:lg 1 qJ Sn Su Sw Sm=true:=by kernel_rfl
end Go.Sx
