/- Proves a closed fact by the kernel. -/
import Derived.Test.YtmnmenklbegmeaaGreatHat
set_option maxRecDepth 1000000
namespace Go.Sx
theorem aje:xa EC (oU 2998) FR sY.body sY.qC (params 0 RF) aT.empty=some (.oa,Ju,I8):=by kernel_rfl
end Go.Sx
