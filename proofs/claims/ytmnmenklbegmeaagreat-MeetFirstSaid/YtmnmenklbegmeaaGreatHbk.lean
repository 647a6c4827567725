/- Proves a closed fact by the kernel. -/
import Derived.Test.YtmnmenklbegmeaaGreatHat
set_option maxRecDepth 1000000
namespace Go.Sx
theorem adm:sp 1 w3 Yv XG UC S9=true:=by kernel_rfl
end Go.Sx
