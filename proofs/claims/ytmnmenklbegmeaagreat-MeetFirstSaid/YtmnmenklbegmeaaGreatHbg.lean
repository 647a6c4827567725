/- Proves a closed fact by the kernel. -/
import Derived.Test.YtmnmenklbegmeaaGreatHat
set_option maxRecDepth 1000000
namespace Go.Sx
theorem afx:sp 1 w3 IG Iw Zw Zd=true:=by kernel_rfl
end Go.Sx
