/- Proves a closed fact by the kernel. -/
import Derived.Test.YtmnmenklbegmeaaGreatHat
set_option maxRecDepth 1000000
namespace Go.Sx
theorem abh:sp 1 w3 TE T0 Uy SR=true:=by kernel_rfl
end Go.Sx
