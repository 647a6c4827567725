/- Proves a closed fact of the set-up by the kernel. -/
import Derived.KernelRfl
import Derived.Test.YtojhnkioagammaaGreatTau
set_option linter.all false
set_option maxRecDepth 1000000
namespace Go.Sx
theorem aam:o1 Ap (iP 2998) zF nF.body nF.j7 (params 0 xm) ah.empty=some (.ig,FW,Fk):=by kernel_rfl
end Go.Sx
