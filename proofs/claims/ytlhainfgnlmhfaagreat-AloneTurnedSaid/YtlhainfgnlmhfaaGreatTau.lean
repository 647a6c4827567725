/- Proves a closed fact of the set-up by the kernel. -/
import Derived.KernelRfl
import Derived.Test.YtlhainfgnlmhfaaGreatTas
set_option linter.all false
set_option maxRecDepth 1000000
namespace Go.Sx
theorem Tl:mG w5 (gA 2998) wy kn.body kn.oP (params 0 tH) bY.empty=some (.gf,AT,AN):=by kernel_rfl
end Go.Sx
