/- Proves a closed fact by the kernel. -/
import Derived.Test.YtmnmenklbegmeaaGreatHat
set_option maxRecDepth 1000000
namespace Go.Sx
theorem af2:sp 1 w3 Zs XY XL ZI=true:=by kernel_rfl
end Go.Sx
