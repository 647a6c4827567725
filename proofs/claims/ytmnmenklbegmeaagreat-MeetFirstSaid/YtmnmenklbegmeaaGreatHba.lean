/- Proves a closed fact by the kernel. -/
import Derived.Test.YtmnmenklbegmeaaGreatHat
set_option maxRecDepth 1000000
namespace Go.Sx
theorem adI:sp 1 w3 YW Y3 TE T0=true:=by kernel_rfl
end Go.Sx
