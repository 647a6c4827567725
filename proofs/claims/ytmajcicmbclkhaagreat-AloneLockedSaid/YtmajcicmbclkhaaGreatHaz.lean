/- Proves a closed fact by the kernel. -/
import Derived.Test.YtmajcicmbclkhaaGreatHat
set_option maxRecDepth 1000000
namespace Go.Sx
theorem Sz:qa 1 zm Qf OL OB Pq=true:=by kernel_rfl
end Go.Sx
