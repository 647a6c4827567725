/- Proves a closed fact of the set-up by the kernel. -/
import Derived.Test.YtgoeonlbgdamhaaGreatHak
import Derived.Test.YtgoeonlbgdamhaaGreatHbp
set_option linter.all false
namespace Go.Sx
open Go Go.Proofs
def VW:∀ f p,mr f=some p->nF Tryz.prog f p:=by
 intro f p hp
 unfold mr at hp
 split at hp
 ·rename_i hb
  cases hp
  exact F8 f (JR hb)
 ·split at hp
  ·rename_i hb
   cases hp
   have:=Nat.eq_of_beq_eq_true hb
   subst this
   exact Sn
  ·split at hp
   ·rename_i hb
    cases hp
    have:=Nat.eq_of_beq_eq_true hb
    subst this
    exact risingOk
   ·split at hp
    ·rename_i hb
     cases hp
     have:=Nat.eq_of_beq_eq_true hb
     subst this
     exact sortOk
    ·split at hp
     ·rename_i hb
      cases hp
      have:=Nat.eq_of_beq_eq_true hb
      subst this
      exact compOk
     ·cases hp
def PY:rE Tryz.prog cfg FT mr:=⟨pL,sp,Oc,VW⟩
def X8:rE Tryz.prog cfg FT jA:=by
 refine ⟨pL,sp,Oc,?_⟩
 intro f p hp
 unfold jA at hp
 split at hp
 ·rename_i hb
  cases hp
  have:=Nat.eq_of_beq_eq_true hb
  subst this
  exact Fl PY 101
 ·exact PY.CY f p hp
end Go.Sx
