/- Proves a closed fact by the kernel. -/
import Derived.Test.YtmajcicmbclkhaaGreatHat
set_option maxRecDepth 1000000
namespace Go.Sx
noncomputable def xS:gQ:=λf=>match Nat.beq f 14 with
 | true=>some (HW GX xw GX xw)
 | false=>match Nat.beq f 5 with
   | true=>some (tO [KK] (.fG [GD,tT]))
   | false=>ue f
def HS:R2->Bool
 | some (.bool b,_)=>b
 | _=>false
theorem TM:HS (gP cfg wx.get xS 3000 false 4 [] au.empty)=true:=by kernel_rfl
end Go.Sx
