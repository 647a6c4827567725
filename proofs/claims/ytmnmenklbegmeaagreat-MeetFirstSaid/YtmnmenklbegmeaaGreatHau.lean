/- Proves a closed fact by the kernel. -/
import Derived.Test.YtmnmenklbegmeaaGreatHat
set_option maxRecDepth 1000000
namespace Go.Sx
theorem afp:qi cfg Cs.get A5 3000 false 18 [UO] aT.empty=some (.mw [Jq,tT],aT.empty):=by kernel_rfl
end Go.Sx
