/- Proves a closed fact of the set-up by the kernel. -/
import Derived.Test.YtihofefpkjfmnaaGreatTai
import Derived.Test.YtihofefpkjfmnaaGreatTav
import Derived.Test.YtihofefpkjfmnaaGreatTax
import Derived.Test.YtihofefpkjfmnaaGreatTay
set_option linter.all false
set_option maxRecDepth 100000
namespace Go.Sx
open Go Go.Proofs
def E8:∀ f,(f=246\/f=247)->sQ Tryz.prog f rp:=by
 rintro f (rfl | rfl)
 ·exact yU ⟨Tryz.f246,Tryz.func246,by kernel_rfl,by kernel_rfl⟩ (λb es clock w hb=>clone_a b es clock w hb) clone_a0
 ·exact yU ⟨Tryz.f247,Tryz.func247,by kernel_rfl,by kernel_rfl⟩ (λb es clock w hb=>clone_b b es clock w hb) clone_b0
def Kx {f a b:Nat} (h:(Nat.beq f a||Nat.beq f b)=true):f=a\/f=b:=by
 simp only [Bool.or_eq_true] at h
 exact h.imp Nat.eq_of_beq_eq_true Nat.eq_of_beq_eq_true
def N9:∀ f p,wH f=some p->sQ Tryz.prog f p:=by
 intro f p hp
 unfold wH at hp
 split at hp
 ·rename_i hb
  cases hp
  exact E8 f (Kx hb)
 ·split at hp
  ·rename_i hb
   cases hp
   have:=Nat.eq_of_beq_eq_true hb
   subst this
   exact risingOk
  ·cases hp
def VQ:sF Tryz.prog cfg xk.get wH:=⟨xy,CK,Iz,N9⟩
def UK:sF Tryz.prog cfg xk.get xH:=by
 refine ⟨xy,CK,Iz,?_⟩
 intro f p hp
 unfold xH at hp
 split at hp
 ·rename_i hb
  cases hp
  have:=Nat.eq_of_beq_eq_true hb
  subst this
  exact zR VQ PU
 ·exact N9 f p hp
def Jy:∃ h,nM cfg xk.get xH 3000 false 5 [] aT.empty=some (.bool true,h):=by
 have h:=Rx
 unfold FC at h
 split at h
 ·rename_i b h2 hq
  subst h
  exact ⟨h2,hq⟩
 ·cases h
def Ps:sQ Tryz.prog 5 (ur [] (.bool true)):=by
 obtain ⟨h2,hk⟩:=Jy
 exact zR UK hk
end Go.Sx
