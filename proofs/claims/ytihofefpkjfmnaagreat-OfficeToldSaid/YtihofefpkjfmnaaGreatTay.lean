/- Proves a closed fact of the set-up by the kernel. -/
import Derived.KernelRfl
import Derived.Test.YtihofefpkjfmnaaGreatTaw
set_option linter.all false
set_option maxRecDepth 1000000
namespace Go.Sx
noncomputable def xH:mO:=λf=>match Nat.beq f 22 with
 | true=>some (ur [KC] (.kq [JX,tT]))
 | false=>wH f
def FC:R2->Bool
 | some (.bool b,_)=>b
 | _=>false
def Rx:FC (nM cfg xk.get xH 3000 false 5 [] aT.empty)=true:=by kernel_rfl
end Go.Sx
