/- Proves a closed fact by the kernel. -/
import Derived.Test.YtmnmenklbegmeaaGreatHat
set_option maxRecDepth 1000000
namespace Go.Sx
theorem afo:sp 1 w3 ZK Zy YU YP=true:=by kernel_rfl
end Go.Sx
