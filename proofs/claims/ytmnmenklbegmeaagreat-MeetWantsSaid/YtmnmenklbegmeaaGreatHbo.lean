/- Proves a closed fact of the set-up by the kernel. -/
import Derived.KernelRfl
import Derived.Test.YtmnmenklbegmeaaGreatHah
import Derived.Test.YtmnmenklbegmeaaGreatHas
set_option linter.all false
set_option maxRecDepth 1000000
namespace Go.Sx
noncomputable def xC:ko:=λf=>match Nat.beq f 20 with
 | true=>some (Hi Jl AS I7 AK)
 | false=>match Nat.beq f 18 with
   | true=>some (tN [KP] (.je [Cj,tT]))
   | false=>ub f
def Hu:R2->Bool
 | some (.bool b,_)=>b
 | _=>false
def VI:Hu (mg cfg vS.get xC 3000 false 5 [] aT.empty)=true:=by kernel_rfl
end Go.Sx
