/- Proves a closed fact by the kernel. -/
import Derived.Test.YtmnmenklbegmeaaGreatHat
set_option maxRecDepth 1000000
namespace Go.Sx
theorem aby:sp 1 w3 T4 UT Ug Uu=true:=by kernel_rfl
end Go.Sx
