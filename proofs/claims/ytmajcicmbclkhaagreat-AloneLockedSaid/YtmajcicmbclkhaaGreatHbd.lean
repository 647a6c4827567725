/- Proves a closed fact by the kernel. -/
import Derived.Test.YtmajcicmbclkhaaGreatHat
set_option maxRecDepth 1000000
namespace Go.Sx
theorem Qu:qa 1 zm Lj L1 KA La=true:=by kernel_rfl
end Go.Sx
