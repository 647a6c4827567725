/- Proves a closed fact by the kernel. -/
import Derived.Test.YtmnmenklbegmeaaGreatHat
set_option maxRecDepth 1000000
namespace Go.Sx
theorem adZ:sp 1 w3 ZG Yl ZK Zy=true:=by kernel_rfl
end Go.Sx
