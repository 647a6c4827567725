/- Proves a closed fact by the kernel. -/
import Derived.Test.YtmnmenklbegmeaaGreatHat
set_option maxRecDepth 1000000
namespace Go.Sx
theorem aa1:sp 1 w3 UL SQ Tq SK=true:=by kernel_rfl
end Go.Sx
