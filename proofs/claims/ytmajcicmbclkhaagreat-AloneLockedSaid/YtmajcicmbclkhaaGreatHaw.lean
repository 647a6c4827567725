/- Proves a closed fact by the kernel. -/
import Derived.Test.YtmajcicmbclkhaaGreatHat
set_option maxRecDepth 1000000
namespace Go.Sx
theorem RG:qa 1 zm CL Ck Pz PN=true:=by kernel_rfl
end Go.Sx
