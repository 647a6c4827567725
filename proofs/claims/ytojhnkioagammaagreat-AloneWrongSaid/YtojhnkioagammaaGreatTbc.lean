/- Proves a closed fact of the set-up by the kernel. -/
import Derived.KernelRfl
import Derived.Test.YtojhnkioagammaaGreatTau
set_option linter.all false
set_option maxRecDepth 1000000
namespace Go.Sx
theorem Xg:nB 1 uW O9 Pf Og Py=true:=by kernel_rfl
end Go.Sx
