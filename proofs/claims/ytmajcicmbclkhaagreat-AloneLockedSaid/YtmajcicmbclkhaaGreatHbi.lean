/- Proves a closed fact by the kernel. -/
import Derived.Test.YtmajcicmbclkhaaGreatHbh
namespace Go.Sx
open Go Go.Proofs
theorem VW:∀ f p,lC f=some p->lg Tryz.prog f p:=by
 intro f p hp
 unfold lC at hp
 split at hp
 ·rename_i hb
  cases hp
  exact IH f (LZ hb)
 ·split at hp
  ·rename_i hb
   cases hp
   have:=Nat.eq_of_beq_eq_true hb
   subst this
   exact QN
  ·split at hp
   ·rename_i hb
    cases hp
    have:=Nat.eq_of_beq_eq_true hb
    subst this
    exact sortOk
   ·split at hp
    ·rename_i hb
     cases hp
     have:=Nat.eq_of_beq_eq_true hb
     subst this
     exact compOk
    ·split at hp
     ·rename_i hb
      cases hp
      have:=Nat.eq_of_beq_eq_true hb
      subst this
      exact sortTOk
     ·split at hp
      ·rename_i hb
       cases hp
       have:=Nat.eq_of_beq_eq_true hb
       subst this
       exact ownOk
      ·split at hp
       ·rename_i hb
        cases hp
        have:=Nat.eq_of_beq_eq_true hb
        subst this
        exact zonOk2
       ·split at hp
        ·rename_i hb
         cases hp
         have:=Nat.eq_of_beq_eq_true hb
         subst this
         exact heldOk
        ·cases hp
theorem PV:nF Tryz.prog cfg FT lC:=⟨oI,sy,EO,VW⟩
theorem Xm:nF Tryz.prog cfg FT fK:=by
 refine ⟨oI,sy,EO,?_⟩
 intro f p hp
 unfold fK at hp
 split at hp
 ·rename_i hb
  cases hp
  have:=Nat.eq_of_beq_eq_true hb
  subst this
  exact Hv PV 61
 ·exact PV.EP f p hp
end Go.Sx
