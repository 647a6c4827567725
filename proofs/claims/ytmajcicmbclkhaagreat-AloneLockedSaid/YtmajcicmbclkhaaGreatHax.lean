/- Proves a closed fact by the kernel. -/
import Derived.Test.YtmajcicmbclkhaaGreatHat
set_option maxRecDepth 1000000
namespace Go.Sx
theorem Sw:qa 1 zm Pz PN O1 Pd=true:=by kernel_rfl
end Go.Sx
