/- Proves a closed fact by the kernel. -/
import Derived.Test.YtmajcicmbclkhaaGreatHat
set_option maxRecDepth 1000000
namespace Go.Sx
theorem Rg:qa 1 zm KU LW KY L3=true:=by kernel_rfl
end Go.Sx
