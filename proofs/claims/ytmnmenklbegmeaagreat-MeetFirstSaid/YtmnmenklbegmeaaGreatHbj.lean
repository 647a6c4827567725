/- Proves a closed fact by the kernel. -/
import Derived.Test.YtmnmenklbegmeaaGreatHat
set_option maxRecDepth 1000000
namespace Go.Sx
theorem adx:sp 1 w3 XL ZI Yv XG=true:=by kernel_rfl
end Go.Sx
