/- Proves a closed fact of the set-up by the kernel. -/
import Derived.Test.YtihofefpkjfmnaaGreatNai
import Derived.Test.YtihofefpkjfmnaaGreatNas
import Derived.Test.YtihofefpkjfmnaaGreatNau
import Derived.Test.YtihofefpkjfmnaaGreatNav
set_option linter.all false
set_option maxRecDepth 100000
namespace Go.Sx
open Go Go.Proofs
def Hp:∀ f,(f=246\/f=247)->tD Tryz.prog f tz:=by
 rintro f (rfl | rfl)
 ·exact y9 ⟨Tryz.f246,Tryz.func246,by kernel_rfl,by kernel_rfl⟩ (λb es clock w hb=>clone_a b es clock w hb) clone_a0
 ·exact y9 ⟨Tryz.f247,Tryz.func247,by kernel_rfl,by kernel_rfl⟩ (λb es clock w hb=>clone_b b es clock w hb) clone_b0
def Ll {f a b:Nat} (h:(Nat.beq f a||Nat.beq f b)=true):f=a\/f=b:=by
 simp only [Bool.or_eq_true] at h
 exact h.imp Nat.eq_of_beq_eq_true Nat.eq_of_beq_eq_true
def Qa:∀ f p,xI f=some p->tD Tryz.prog f p:=by
 intro f p hp
 unfold xI at hp
 split at hp
 ·rename_i hb
  cases hp
  exact Hp f (Ll hb)
 ·split at hp
  ·rename_i hb
   cases hp
   have:=Nat.eq_of_beq_eq_true hb
   subst this
   exact risingOk
  ·cases hp
def VD:tl Tryz.prog cfg yH.get xI:=⟨yf,DO,Kc,Qa⟩
def UK:tl Tryz.prog cfg yH.get yu:=by
 refine ⟨yf,DO,Kc,?_⟩
 intro f p hp
 unfold yu at hp
 split at hp
 ·rename_i hb
  cases hp
  have:=Nat.eq_of_beq_eq_true hb
  subst this
  exact AN VD Sq
 ·exact Qa f p hp
def JT:∃ h,nH cfg yH.get yu 3000 false 5 [] bV.empty=some (.bool true,h):=by
 have h:=Sf
 unfold GQ at h
 split at h
 ·rename_i b h2 hq
  subst h
  exact ⟨h2,hq⟩
 ·cases h
def RB:tD Tryz.prog 5 (va [] (.bool true)):=by
 obtain ⟨h2,hk⟩:=JT
 exact AN UK hk
end Go.Sx
