/- Proves a closed fact by the kernel. -/
import Derived.Test.YtmnmenklbegmeaaGreatHat
set_option maxRecDepth 1000000
namespace Go.Sx
theorem afP:LB (xy 3 w3 Tq SK)=some (HV,aT.empty):=by kernel_rfl
end Go.Sx
