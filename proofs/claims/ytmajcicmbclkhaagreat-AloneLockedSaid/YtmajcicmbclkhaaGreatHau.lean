/- Proves a closed fact by the kernel. -/
import Derived.Test.YtmajcicmbclkhaaGreatHat
set_option maxRecDepth 1000000
namespace Go.Sx
theorem RT:gP cfg wx.get ue 3000 false 5 [KK] au.empty=some (.fG [GD,tT],au.empty):=by kernel_rfl
end Go.Sx
