/- Proves a closed fact by the kernel. -/
import Derived.Test.YtmnmenklbegmeaaGreatHat
set_option maxRecDepth 1000000
namespace Go.Sx
theorem adT:sp 1 w3 YU YP YW Y3=true:=by kernel_rfl
end Go.Sx
