/- Proves a closed fact by the kernel. -/
import Derived.Test.YtmajcicmbclkhaaGreatHat
set_option maxRecDepth 1000000
namespace Go.Sx
theorem Uv:qa 1 zm O1 Pd Qf OL=true:=by kernel_rfl
end Go.Sx
