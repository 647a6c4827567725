/- Proves a closed fact of the set-up by the kernel. -/
import Derived.Test.YtihofefpkjfmnaaGreatNak
import Derived.Test.YtihofefpkjfmnaaGreatNaw
set_option linter.all false
namespace Go.Sx
open Go Go.Proofs
def PI:tl Tryz.prog cfg FT oB:=by
 refine ⟨yf,DO,Pw,?_⟩
 intro f p hp
 unfold oB at hp
 split at hp
 ·rename_i hb
  cases hp
  exact Hp f (Ll hb)
 ·split at hp
  ·rename_i hb
   cases hp
   have:=Nat.eq_of_beq_eq_true hb
   subst this
   exact RB
  ·split at hp
   ·rename_i hb
    cases hp
    have:=Nat.eq_of_beq_eq_true hb
    subst this
    exact risingOk
   ·cases hp
def YU:tl Tryz.prog cfg FT kJ:=by
 refine ⟨yf,DO,Pw,?_⟩
 intro f p hp
 unfold kJ at hp
 split at hp
 ·rename_i hb
  cases hp
  have:=Nat.eq_of_beq_eq_true hb
  subst this
  exact GI PI 76
 ·exact PI.D6 f p hp
end Go.Sx
