/- Proves a closed fact of the set-up by the kernel. -/
import Derived.KernelRfl
import Derived.Test.YtlhainfgnlmhfaaGreatTas
set_option linter.all false
set_option maxRecDepth 1000000
namespace Go.Sx
noncomputable def pN:iw:=fun f=>match Nat.beq f 221||Nat.beq f 222 with
 | true=>some nL
 | false=>match Nat.beq f 11 with
   | true=>some (mc tH uA)
   | false=>match Nat.beq f 9 with
     | true=>some (mc [AH] (.eP [xl,tT]))
     | false=>none
def yt:R2→Bool
 | some (.bool b,_)=>b
 | _=>false
theorem IG:yt (ja cfg eG.get pN 3000 false 4 [] bY.empty)=true:=by kernel_rfl
end Go.Sx
