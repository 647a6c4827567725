/- Proves a closed fact of the set-up by the kernel. -/
import Derived.KernelRfl
import Derived.Test.YtpelnddplemngaaGreatHar
set_option linter.all false
set_option maxRecDepth 1000000
namespace Go.Sx
noncomputable def xI:kU:=λf=>match Nat.beq f 14 with
 | true=>some (Fe DM xE DM xE)
 | false=>match Nat.beq f 12 with
   | true=>some (tW [K5] (.jl [Bz,tT]))
   | false=>sy f
def GB:R2->Bool
 | some (.bool b,_)=>b
 | _=>false
def Xe:GB (l3 cfg s5.get xI 3000 false 4 [] aT.empty)=true:=by kernel_rfl
end Go.Sx
