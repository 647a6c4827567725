/- Proves a closed fact of the set-up by the kernel. -/
import Derived.KernelRfl
import Derived.Test.YtojhnkioagammaaGreatTau
set_option linter.all false
set_option maxRecDepth 1000000
namespace Go.Sx
theorem Uk:nB 1 uW Og Py Oc Nv=true:=by kernel_rfl
end Go.Sx
