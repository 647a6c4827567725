/- Proves a closed fact of the set-up by the kernel. -/
import Derived.KernelRfl
import Derived.Test.YtihofefpkjfmnaaGreatNat
set_option linter.all false
set_option maxRecDepth 1000000
namespace Go.Sx
noncomputable def yu:mM:=λf=>match Nat.beq f 22 with
 | true=>some (va [LL] (.kO [KQ,tT]))
 | false=>xI f
def GQ:R2->Bool
 | some (.bool b,_)=>b
 | _=>false
def Sf:GQ (nH cfg yH.get yu 3000 false 5 [] bV.empty)=true:=by kernel_rfl
end Go.Sx
