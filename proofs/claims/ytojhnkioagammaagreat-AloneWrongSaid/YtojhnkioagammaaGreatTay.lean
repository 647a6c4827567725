/- Proves a closed fact of the set-up by the kernel. -/
import Derived.KernelRfl
import Derived.Test.YtojhnkioagammaaGreatTau
set_option linter.all false
set_option maxRecDepth 1000000
namespace Go.Sx
theorem aat:nB 1 uW YK YG Yu YD=true:=by kernel_rfl
end Go.Sx
