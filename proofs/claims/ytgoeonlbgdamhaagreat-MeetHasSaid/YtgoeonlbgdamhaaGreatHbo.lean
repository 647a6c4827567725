/- Proves a closed fact of the set-up by the kernel. -/
import Derived.KernelRfl
import Derived.Test.YtgoeonlbgdamhaaGreatHag
import Derived.Test.YtgoeonlbgdamhaaGreatHas
set_option linter.all false
set_option maxRecDepth 1000000
namespace Go.Sx
noncomputable def wU:kx:=λf=>match Nat.beq f 23 with
 | true=>some (FM Ih zM HE zV)
 | false=>match Nat.beq f 26 with
   | true=>some (tg [Kt] (.je [Aw,tT]))
   | false=>tK f
def FJ:R2->Bool
 | some (.bool b,_)=>b
 | _=>false
def T8:FJ (lT cfg vn.get wU 3000 false 8 [] aT.empty)=true:=by kernel_rfl
end Go.Sx
