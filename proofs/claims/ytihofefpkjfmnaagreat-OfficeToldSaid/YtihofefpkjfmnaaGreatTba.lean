/- Proves a closed fact of the set-up by the kernel. -/
import Derived.Test.YtihofefpkjfmnaaGreatTal
import Derived.Test.YtihofefpkjfmnaaGreatTaz
set_option linter.all false
namespace Go.Sx
open Go Go.Proofs
def Oq:sF Tryz.prog cfg FT oU:=by
 refine ⟨xy,CK,N8,?_⟩
 intro f p hp
 unfold oU at hp
 split at hp
 ·rename_i hb
  cases hp
  exact E8 f (Kx hb)
 ·split at hp
  ·rename_i hb
   cases hp
   have:=Nat.eq_of_beq_eq_true hb
   subst this
   exact Ps
  ·split at hp
   ·rename_i hb
    cases hp
    have:=Nat.eq_of_beq_eq_true hb
    subst this
    exact risingOk
   ·cases hp
def Vn:sF Tryz.prog cfg FT ko:=by
 refine ⟨xy,CK,N8,?_⟩
 intro f p hp
 unfold ko at hp
 split at hp
 ·rename_i hb
  cases hp
  have:=Nat.eq_of_beq_eq_true hb
  subst this
  exact EG Oq 76
 ·exact Oq.CH f p hp
end Go.Sx
