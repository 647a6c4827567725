/- Proves a closed fact of the set-up by the kernel. -/
import Derived.Test.YtpelnddplemngaaGreatHai
import Derived.Test.YtpelnddplemngaaGreatHaq
import Derived.Test.YtpelnddplemngaaGreatHas
import Derived.Test.YtpelnddplemngaaGreatHat
import Derived.Test.YtpelnddplemngaaGreatHau
import Derived.Test.YtpelnddplemngaaGreatHav
import Derived.Test.YtpelnddplemngaaGreatHaw
import Derived.Test.YtpelnddplemngaaGreatHax
import Derived.Test.YtpelnddplemngaaGreatHay
import Derived.Test.YtpelnddplemngaaGreatHaz
import Derived.Test.YtpelnddplemngaaGreatHba
import Derived.Test.YtpelnddplemngaaGreatHbb
import Derived.Test.YtpelnddplemngaaGreatHbc
import Derived.Test.YtpelnddplemngaaGreatHbd
import Derived.Test.YtpelnddplemngaaGreatHbe
import Derived.Test.YtpelnddplemngaaGreatHbf
import Derived.Test.YtpelnddplemngaaGreatHbg
import Derived.Test.YtpelnddplemngaaGreatHbh
import Derived.Test.YtpelnddplemngaaGreatHbi
import Derived.Test.YtpelnddplemngaaGreatHbj
import Derived.Test.YtpelnddplemngaaGreatHbk
import Derived.Test.YtpelnddplemngaaGreatHbl
import Derived.Test.YtpelnddplemngaaGreatHbm
import Derived.Test.YtpelnddplemngaaGreatHbn
import Derived.Test.YtpelnddplemngaaGreatHbo
import Derived.Test.YtpelnddplemngaaGreatHbp
import Derived.Test.YtpelnddplemngaaGreatHbq
set_option linter.all false
set_option maxRecDepth 100000
namespace Go.Sx
open Go Go.Proofs
def oq {N:Nat} {jw:List Nat}:∀ (p:List Bool) (c:Code) (an:lK),codeOk N jw c an=true->codeOk N jw (pQ p c an).1 (pQ p c an).2=true
 | [],_,_,h=>h
 | true::p,c,an,h=>by
   cases c<;>try exact h
   cases an<;>try exact h
   ·simp only [codeOk,Bool.and_eq_true] at h; exact oq p _ _ h.2
   ·simp only [codeOk,Bool.and_eq_true] at h; exact oq p _ _ h.2
 | false::p,c,an,h=>by
   cases c<;>try exact h
   ·cases an<;>try exact h
    ·simp only [codeOk,Bool.and_eq_true] at h; exact oq p _ _ h.1
    ·simp only [codeOk,Bool.and_eq_true] at h; exact oq p _ _ h.1
   ·rename_i id a
    have h:codeOk N jw a an=true:=by cases an<;>exact h
    have:=oq p a an h
    cases an<;>exact this
   ·rename_i a
    have h:codeOk N jw a an=true:=by cases an<;>exact h
    have:=oq p a an h
    cases an<;>exact this
def G6:∀ f,(f=344\/f=345)->nT Tryz.prog f rB:=by
 rintro f (rfl | rfl)
 ·exact yO ⟨Tryz.f344,Tryz.func344,by kernel_rfl,by kernel_rfl⟩ (λb es clock w hb=>clone_a b es clock w hb) clone_a0
 ·exact yO ⟨Tryz.f345,Tryz.func345,by kernel_rfl,by kernel_rfl⟩ (λb es clock w hb=>clone_b b es clock w hb) clone_b0
def LD {f a b:Nat} (h:(Nat.beq f a||Nat.beq f b)=true):f=a\/f=b:=by
 simp only [Bool.or_eq_true] at h
 exact h.imp Nat.eq_of_beq_eq_true Nat.eq_of_beq_eq_true
def Iv:∀ f p,sy f=some p->nT Tryz.prog f p:=by
 intro f p hp
 unfold sy at hp
 split at hp
 ·rename_i hb
  cases hp
  exact G6 f (LD hb)
 ·split at hp
  ·rename_i hb
   cases hp
   have:=Nat.eq_of_beq_eq_true hb
   subst this
   exact risingOk
  ·split at hp
   ·rename_i hb
    cases hp
    have:=Nat.eq_of_beq_eq_true hb
    subst this
    exact sortOk
   ·split at hp
    ·rename_i hb
     cases hp
     have:=Nat.eq_of_beq_eq_true hb
     subst this
     exact compOk
    ·cases hp
def BN:qK Tryz.prog cfg s5.get sy:=⟨pe,rY,zh,Iv⟩
def BV:Code×lK->Bool
 | (.loop _,.loop _ _)=>true
 | _=>false
def Da {z:Code×lK} (h:BV z=true):∃ c live y,z=(.loop c,.loop live y):=by
 unfold BV at h
 split at h
 ·exact ⟨_,_,_,rfl⟩
 ·cases h
def acz:BV (pQ Eu pF.body pF.lX)=true:=by kernel_rfl
theorem QR (args:List AV) (h1:aT) (ha:lB h1 args=some Fk):zF Tryz.prog 45 args h1 xm h1:=by
 have hK:=V5
 unfold SQ at hK
 split at hK
 ·rename_i id e h Be
  split at hK
  ·rename_i r hb
   obtain ⟨x,e',h'⟩:=r
   obtain ⟨fn,hfn,hbody,hres,hname,hok⟩:=(zh 45 pF (by kernel_rfl)).ex
   obtain ⟨c,live,y,hz⟩:=Da acz
   have hF:O9=lQ live (kj Ec (kP 2998) c y):=by
    unfold O9
    rw [hz]
   have hch:tS (lQ live (kj Ec (kP 2998) c y)) B6 Bg (.ext id) e h:=by
    rw [<- hF]
    exact .piece 9 Wh (.last 10 Be (by simp))
   have hcs:codeOk fn.ntmps Ec.fa.jw c y=true:=by
    have:=oq Eu _ _ hok
    rw [hz] at this
    exact this
   refine x4 (args0:=Fk) (C:=cfg) rY hfn hbody hres hname (x:=x) (e':=e') (h':=h') ?_ ?_ ?_
   ·intro G0 hG0
    have hr:mv Tryz.prog fn.ntmps G0 (pQ Eu pF.body pF.lX).1 B6 Bg (.ext id) e h:=by
     rw [hz]
     exact zU (tH pe rY (oF BN 2998) (p4 BN 2998) 2998 c) hcs (by rw [hG0]; rfl) hch
    exact nJ (X:=Ec) pe rY (oF BN 2998) (p4 BN 2998) Eu pF.body pF.lX _ _ B6 Bg (.ext id) e h x e' h' hok aat hr hb
   ·cases hq:leave cfg pF.res (some (x,e',h')) with
    | none=>rw [hq] at hK; cases hK
    | some v0 =>
      obtain ⟨v0,h0⟩:=v0
      rw [hq] at hK
      simp only [frozen] at hK ⊢
      split at hK
      ·cases hK
      ·rename_i v1 hv1
       cases hK
       rfl
   ·exact ha
  ·cases hK
 ·cases hK
def Dz:qK Tryz.prog cfg s5.get As:=by
 refine ⟨pe,rY,zh,?_⟩
 intro f p hp
 unfold As at hp
 split at hp
 ·rename_i hb
  cases hp
  have:=Nat.eq_of_beq_eq_true hb
  subst this
  exact GG QR QR
 ·exact Iv f p hp
def abD:BV (pQ Fq pI.body pI.lX)=true:=by kernel_rfl
theorem RG (args:List AV) (h1:aT) (ha:lB h1 args=some DM):zF Tryz.prog 14 args h1 xE h1:=by
 have hK:=Wb
 unfold O0 at hK
 split at hK
 ·rename_i id e h Be
  split at hK
  ·rename_i r hb
   obtain ⟨x,e',h'⟩:=r
   obtain ⟨fn,hfn,hbody,hres,hname,hok⟩:=(zh 14 pI (by kernel_rfl)).ex
   obtain ⟨c,live,y,hz⟩:=Da abD
   have hF:qD=lQ live (kj ED (kP 2998) c y):=by
    unfold qD
    rw [hz]
   have hch:tS (lQ live (kj ED (kP 2998) c y)) AZ AW (.ext id) e h:=by
    rw [<- hF]
    exact .piece 0 Xl (.piece 0 UH (.piece 0 WN (.piece 0 V0 (.piece 0 WA (.piece 0 Va (.piece 0 U5 (.piece 0 Vz (.piece 0 VH (.piece 0 VD (.piece 0 Ud (.piece 0 UA (.piece 0 Uj (.piece 0 Uu (.piece 0 T3 (.piece 0 Uz (.piece 0 TQ (.piece 0 UB (.last 1 Be (by simp)))))))))))))))))))
   have hcs:codeOk fn.ntmps ED.fa.jw c y=true:=by
    have:=oq Fq _ _ hok
    rw [hz] at this
    exact this
   refine x4 (args0:=DM) (C:=cfg) rY hfn hbody hres hname (x:=x) (e':=e') (h':=h') ?_ ?_ ?_
   ·intro G0 hG0
    have hr:mv Tryz.prog fn.ntmps G0 (pQ Fq pI.body pI.lX).1 AZ AW (.ext id) e h:=by
     rw [hz]
     exact zU (tH pe rY (oF Dz 2998) (p4 Dz 2998) 2998 c) hcs (by rw [hG0]; rfl) hch
    exact nJ (X:=ED) pe rY (oF Dz 2998) (p4 Dz 2998) Fq pI.body pI.lX _ _ AZ AW (.ext id) e h x e' h' hok abd hr hb
   ·cases hq:leave cfg pI.res (some (x,e',h')) with
    | none=>rw [hq] at hK; cases hK
    | some v0 =>
      obtain ⟨v0,h0⟩:=v0
      rw [hq] at hK
      simp only [frozen] at hK ⊢
      split at hK
      ·cases hK
      ·rename_i v1 hv1
       cases hK
       rfl
   ·exact ha
  ·cases hK
 ·cases hK
def Ze:qK Tryz.prog cfg s5.get xI:=by
 refine ⟨pe,rY,zh,?_⟩
 intro f p hp
 unfold xI at hp
 split at hp
 ·rename_i hb
  cases hp
  have:=Nat.eq_of_beq_eq_true hb
  subst this
  exact GG RG RG
 ·split at hp
  ·rename_i hb
   cases hp
   have:=Nat.eq_of_beq_eq_true hb
   subst this
   exact Ad BN Xd
  ·exact Iv f p hp
def Hm:∃ h,l3 cfg s5.get xI 3000 false 4 [] aT.empty=some (.bool true,h):=by
 have h:=Xe
 unfold GB at h
 split at h
 ·rename_i b h2 hq
  subst h
  exact ⟨h2,hq⟩
 ·cases h
def Uf:nT Tryz.prog 4 (tW [] (.bool true)):=by
 obtain ⟨h2,hk⟩:=Hm
 exact Ad Ze hk
end Go.Sx
