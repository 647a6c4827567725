/- Proves a closed fact by the kernel. -/
import Derived.Test.YtmajcicmbclkhaaGreatHat
set_option maxRecDepth 1000000
namespace Go.Sx
theorem Us:P3 (rE 3 zm KA La)=some (xw,au.empty):=by kernel_rfl
end Go.Sx
