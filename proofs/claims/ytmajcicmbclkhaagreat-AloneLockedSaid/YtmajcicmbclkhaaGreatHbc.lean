/- Proves a closed fact by the kernel. -/
import Derived.Test.YtmajcicmbclkhaaGreatHat
set_option maxRecDepth 1000000
namespace Go.Sx
theorem Q3:qa 1 zm KY L3 Lj L1=true:=by kernel_rfl
end Go.Sx
