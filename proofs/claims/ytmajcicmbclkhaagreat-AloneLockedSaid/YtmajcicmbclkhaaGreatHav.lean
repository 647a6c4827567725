/- Proves a closed fact by the kernel. -/
import Derived.Test.YtmajcicmbclkhaaGreatHat
set_option maxRecDepth 1000000
namespace Go.Sx
theorem XO:qA Fj (iC 2998) Ha pt.body pt.lE (params 0 GX) au.empty=some (.gH,CL,Ck):=by kernel_rfl
end Go.Sx
