/- Proves a closed fact by the kernel. -/
import Derived.Test.YtmnmenklbegmeaaGreatHat
set_option maxRecDepth 1000000
namespace Go.Sx
theorem ae8:LB (xy 3 w3 UQ Tg)=some (HT,aT.empty):=by kernel_rfl
end Go.Sx
