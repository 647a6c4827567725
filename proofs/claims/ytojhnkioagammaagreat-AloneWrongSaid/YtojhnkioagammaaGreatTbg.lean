/- Proves a closed fact of the set-up by the kernel. -/
import Derived.KernelRfl
import Derived.Test.YtojhnkioagammaaGreatTau
set_option linter.all false
set_option maxRecDepth 1000000
namespace Go.Sx
noncomputable def tg:iO:=fun f=>match Nat.beq f 200||Nat.beq f 201 with
 | true=>some mG
 | false=>match Nat.beq f 7 with
   | true=>some (nS xm yd)
   | false=>match Nat.beq f 5 with
     | true=>some (nS [Fu] (.fz [zE,tT]))
     | false=>none
def BE:R2→Bool
 | some (.bool b,_)=>b
 | _=>false
theorem Rk:BE (jt cfg sa.get tg 3000 false 4 [] ah.empty)=true:=by kernel_rfl
end Go.Sx
