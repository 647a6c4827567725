/- Proves a closed fact by the kernel. -/
import Derived.Test.YtmnmenklbegmeaaGreatHat
set_option maxRecDepth 1000000
namespace Go.Sx
theorem abP:sp 1 w3 UC S9 T4 UT=true:=by kernel_rfl
end Go.Sx
