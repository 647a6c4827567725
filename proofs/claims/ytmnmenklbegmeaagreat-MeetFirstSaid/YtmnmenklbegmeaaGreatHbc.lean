/- Proves a closed fact by the kernel. -/
import Derived.Test.YtmnmenklbegmeaaGreatHat
set_option maxRecDepth 1000000
namespace Go.Sx
theorem aa7:sp 1 w3 Uy SR UL SQ=true:=by kernel_rfl
end Go.Sx
