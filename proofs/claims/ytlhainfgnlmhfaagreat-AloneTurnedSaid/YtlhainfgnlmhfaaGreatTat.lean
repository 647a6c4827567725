/- Proves a closed fact of the set-up by the kernel. -/
import Derived.KernelRfl
import Derived.Test.YtlhainfgnlmhfaaGreatTas
set_option linter.all false
set_option maxRecDepth 1000000
namespace Go.Sx
theorem JP:ja cfg eG.get sm 3000 false 9 [AH] bY.empty=some (.eP [xl,tT],bY.empty):=by kernel_rfl
end Go.Sx
