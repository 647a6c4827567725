/- Proves a closed fact of the set-up by the kernel. -/
import Derived.Test.YtmnmenklbegmeaaGreatHar
import Derived.Test.YtmnmenklbegmeaaGreatHbp
set_option linter.all false
namespace Go.Sx
open Go Go.Proofs
def YW:∀ f p,mA f=some p->mq Tryz.prog f p:=by
 intro f p hp
 unfold mA at hp
 split at hp
 ·rename_i hb
  cases hp
  exact GR f (LN hb)
 ·split at hp
  ·rename_i hb
   cases hp
   have:=Nat.eq_of_beq_eq_true hb
   subst this
   exact Uc
  ·split at hp
   ·rename_i hb
    cases hp
    have:=Nat.eq_of_beq_eq_true hb
    subst this
    exact sortNOk
   ·split at hp
    ·rename_i hb
     cases hp
     have:=Nat.eq_of_beq_eq_true hb
     subst this
     exact sortTOk
    ·cases hp
def P0:pf Tryz.prog cfg FT mA:=⟨oZ,rp,HL,YW⟩
def Yj:pf Tryz.prog cfg FT jx:=by
 refine ⟨oZ,rp,HL,?_⟩
 intro f p hp
 unfold jx at hp
 split at hp
 ·rename_i hb
  cases hp
  have:=Nat.eq_of_beq_eq_true hb
  subst this
  exact Gk P0 82
 ·exact P0.DO f p hp
end Go.Sx
