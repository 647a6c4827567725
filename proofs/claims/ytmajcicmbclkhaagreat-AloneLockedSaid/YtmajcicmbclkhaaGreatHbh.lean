/- Proves rules for the walks and their soundness. -/
import Derived.Test.YtmajcicmbclkhaaGreatHbg
set_option linter.all false
namespace Go.Sx
open Go Go.Proofs
def primB:∀ f p,iq f=some p->lg Tryz.prog f p:=by
 intro f p hp
 unfold iq at hp
 split at hp
 ·rename_i hb
  cases hp
  have:=Nat.eq_of_beq_eq_true hb
  subst this
  exact sortOk
 ·cases hp
def tabsB:nF Tryz.prog cfg FT iq:=⟨oI,sy,EO,primB⟩
def ownOk:lg Tryz.prog 11 (mR (nN cfg Bm (gP cfg FT iq) RO)) :=
 II tabsB (tabsB.fns 11 Bm (by kernel_rfl)) λ_ _ h=>wF h
def zonOk2:lg Tryz.prog 137 (mR (nN cfg vn (gP cfg FT iq) RZ)) :=
 II tabsB (tabsB.fns 137 vn (by kernel_rfl)) λ_ _ h=>wF h
def heldOk:lg Tryz.prog 35 (mR (nN cfg wJ (λ_=>mZ cfg FT iq) RH)) :=
 No oI sy (tabsB.fns 35 wJ (by kernel_rfl)) λ_ _ h=>by
  obtain ⟨_,hb⟩:=wF h
  exact ⟨_,Jb (λn=>mT tabsB n),HF (λn=>pC tabsB n),hb⟩
end Go.Sx
