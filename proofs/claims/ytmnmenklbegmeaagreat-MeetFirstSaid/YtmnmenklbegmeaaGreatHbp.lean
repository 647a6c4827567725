/- Proves a closed fact by the kernel. -/
import Derived.Test.YtmnmenklbegmeaaGreatHah
import Derived.Test.YtmnmenklbegmeaaGreatHat
set_option linter.all false
set_option maxRecDepth 1000000
namespace Go.Sx
noncomputable def D7:om:=λf=>match Nat.beq f 20 with
 |true=>some (Pq RF HV Rz HT)
 |false=>match Nat.beq f 18 with
  |true=>some (AH [UO] (.mw [Jq,tT]))
  |false=>A5 f
def Qt:R2->Bool
 |some (.bool b,_)=>b
 |_=>false
def afL:Qt (qi cfg Cs.get D7 3000 false 5 [] aT.empty)=true:=by kernel_rfl
end Go.Sx
