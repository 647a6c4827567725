/- Proves a closed fact by the kernel. -/
import Derived.Test.YtmnmenklbegmeaaGreatHat
set_option maxRecDepth 1000000
namespace Go.Sx
theorem afd:sp 1 w3 Ju I8 ZG Yl=true:=by kernel_rfl
end Go.Sx
