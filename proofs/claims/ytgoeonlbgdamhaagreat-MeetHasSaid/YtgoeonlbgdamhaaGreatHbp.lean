/- Proves a closed fact of the set-up by the kernel. -/
import Derived.Test.YtgoeonlbgdamhaaGreatHai
import Derived.Test.YtgoeonlbgdamhaaGreatHar
import Derived.Test.YtgoeonlbgdamhaaGreatHat
import Derived.Test.YtgoeonlbgdamhaaGreatHau
import Derived.Test.YtgoeonlbgdamhaaGreatHav
import Derived.Test.YtgoeonlbgdamhaaGreatHaw
import Derived.Test.YtgoeonlbgdamhaaGreatHax
import Derived.Test.YtgoeonlbgdamhaaGreatHay
import Derived.Test.YtgoeonlbgdamhaaGreatHaz
import Derived.Test.YtgoeonlbgdamhaaGreatHba
import Derived.Test.YtgoeonlbgdamhaaGreatHbb
import Derived.Test.YtgoeonlbgdamhaaGreatHbc
import Derived.Test.YtgoeonlbgdamhaaGreatHbd
import Derived.Test.YtgoeonlbgdamhaaGreatHbe
import Derived.Test.YtgoeonlbgdamhaaGreatHbf
import Derived.Test.YtgoeonlbgdamhaaGreatHbg
import Derived.Test.YtgoeonlbgdamhaaGreatHbh
import Derived.Test.YtgoeonlbgdamhaaGreatHbi
import Derived.Test.YtgoeonlbgdamhaaGreatHbj
import Derived.Test.YtgoeonlbgdamhaaGreatHbk
import Derived.Test.YtgoeonlbgdamhaaGreatHbl
import Derived.Test.YtgoeonlbgdamhaaGreatHbm
import Derived.Test.YtgoeonlbgdamhaaGreatHbn
import Derived.Test.YtgoeonlbgdamhaaGreatHbo
set_option linter.all false
set_option maxRecDepth 100000
namespace Go.Sx
open Go Go.Proofs
def oU {N:Nat} {jm:List Nat}:∀ (p:List Bool) (c:Code) (an:lB),codeOk N jm c an=true->codeOk N jm (sk p c an).1 (sk p c an).2=true
 | [],_,_,h=>h
 | true::p,c,an,h=>by
   cases c<;>try exact h
   cases an<;>try exact h
   ·simp only [codeOk,Bool.and_eq_true] at h; exact oU p _ _ h.2
   ·simp only [codeOk,Bool.and_eq_true] at h; exact oU p _ _ h.2
 | false::p,c,an,h=>by
   cases c<;>try exact h
   ·cases an<;>try exact h
    ·simp only [codeOk,Bool.and_eq_true] at h; exact oU p _ _ h.1
    ·simp only [codeOk,Bool.and_eq_true] at h; exact oU p _ _ h.1
   ·rename_i id a
    have h:codeOk N jm a an=true:=by cases an<;>exact h
    have:=oU p a an h
    cases an<;>exact this
def F8:∀ f,(f=336\/f=337)->nF Tryz.prog f rJ:=by
 rintro f (rfl | rfl)
 ·exact xv ⟨Tryz.f336,Tryz.func336,by kernel_rfl,by kernel_rfl⟩ (λb es clock w hb=>clone_a b es clock w hb) clone_a0
 ·exact xv ⟨Tryz.f337,Tryz.func337,by kernel_rfl,by kernel_rfl⟩ (λb es clock w hb=>clone_b b es clock w hb) clone_b0
def JR {f a b:Nat} (h:(Nat.beq f a||Nat.beq f b)=true):f=a\/f=b:=by
 simp only [Bool.or_eq_true] at h
 exact h.imp Nat.eq_of_beq_eq_true Nat.eq_of_beq_eq_true
def Rn:∀ f p,tK f=some p->nF Tryz.prog f p:=by
 intro f p hp
 unfold tK at hp
 split at hp
 ·rename_i hb
  cases hp
  exact F8 f (JR hb)
 ·split at hp
  ·rename_i hb
   cases hp
   have:=Nat.eq_of_beq_eq_true hb
   subst this
   exact risingOk
  ·split at hp
   ·rename_i hb
    cases hp
    have:=Nat.eq_of_beq_eq_true hb
    subst this
    exact sortOk
   ·split at hp
    ·rename_i hb
     cases hp
     have:=Nat.eq_of_beq_eq_true hb
     subst this
     exact compOk
    ·cases hp
def th:rE Tryz.prog cfg vn.get tK:=⟨pL,sp,A2,Rn⟩
def EK:Code×lB->Bool
 | (.loop _,.loop _ _)=>true
 | _=>false
def Cb {z:Code×lB} (h:EK z=true):∃ c live y,z=(.loop c,.loop live y):=by
 unfold EK at h
 split at h
 ·exact ⟨_,_,_,rfl⟩
 ·cases h
def Pq:EK (sk yc nb.body nb.lV)=true:=by kernel_rfl
theorem Sm (args:List AV) (h1:aT) (ha:lf h1 args=some Ih):yV Tryz.prog 23 args h1 zM h1:=by
 have hK:=S7
 unfold Dd at hK
 split at hK
 ·rename_i id e h DI
  split at hK
  ·rename_i r hb
   obtain ⟨x,e',h'⟩:=r
   obtain ⟨fn,hfn,hbody,hres,hname,hok⟩:=(A2 23 nb (by kernel_rfl)).ex
   obtain ⟨c,live,y,hz⟩:=Cb Pq
   have hF:qa=lM live (jS xm (kJ 2998) c y):=by
    unfold qa
    rw [hz]
   have hch:tn (lM live (jS xm (kJ 2998) c y)) AK As (.ext id) e h:=by
    rw [<- hF]
    exact .piece 1 Un (.piece 1 VA (.piece 1 Ts (.piece 1 Uv (.piece 1 Tq (.piece 1 RV (.piece 1 SB (.piece 1 SQ (.last 3 DI (by simp)))))))))
   have hcs:codeOk fn.ntmps xm.fa.jm c y=true:=by
    have:=oU yc _ _ hok
    rw [hz] at this
    exact this
   refine xO (args0:=Ih) (C:=cfg) sp hfn hbody hres hname (x:=x) (e':=e') (h':=h') ?_ ?_ ?_
   ·intro G0 hG0
    have hr:mU Tryz.prog fn.ntmps G0 (sk yc nb.body nb.lV).1 AK As (.ext id) e h:=by
     rw [hz]
     exact zo (tD pL sp (oj th 2998) (pD th 2998) 2998 c) hcs (by rw [hG0]; rfl) hch
    exact nU (X:=xm) pL sp (oj th 2998) (pD th 2998) yc nb.body nb.lV _ _ AK As (.ext id) e h x e' h' hok WD hr hb
   ·cases hq:leave cfg nb.res (some (x,e',h')) with
    | none=>rw [hq] at hK; cases hK
    | some v0 =>
      obtain ⟨v0,h0⟩:=v0
      rw [hq] at hK
      simp only [frozen] at hK ⊢
      split at hK
      ·cases hK
      ·rename_i v1 hv1
       cases hK
       rfl
   ·exact ha
  ·cases hK
 ·cases hK
theorem R6 (args:List AV) (h1:aT) (ha:lf h1 args=some HE):yV Tryz.prog 23 args h1 zV h1:=by
 have hK:=UC
 unfold Dd at hK
 split at hK
 ·rename_i id e h DI
  split at hK
  ·rename_i r hb
   obtain ⟨x,e',h'⟩:=r
   obtain ⟨fn,hfn,hbody,hres,hname,hok⟩:=(A2 23 nb (by kernel_rfl)).ex
   obtain ⟨c,live,y,hz⟩:=Cb Pq
   have hF:qa=lM live (jS xm (kJ 2998) c y):=by
    unfold qa
    rw [hz]
   have hch:tn (lM live (jS xm (kJ 2998) c y)) Bg Aq (.ext id) e h:=by
    rw [<- hF]
    exact .piece 1 Tv (.piece 1 Vz (.piece 1 UH (.piece 1 TA (.piece 1 Tf (.piece 1 Sk (.piece 1 SC (.piece 1 RY (.last 3 DI (by simp)))))))))
   have hcs:codeOk fn.ntmps xm.fa.jm c y=true:=by
    have:=oU yc _ _ hok
    rw [hz] at this
    exact this
   refine xO (args0:=HE) (C:=cfg) sp hfn hbody hres hname (x:=x) (e':=e') (h':=h') ?_ ?_ ?_
   ·intro G0 hG0
    have hr:mU Tryz.prog fn.ntmps G0 (sk yc nb.body nb.lV).1 Bg Aq (.ext id) e h:=by
     rw [hz]
     exact zo (tD pL sp (oj th 2998) (pD th 2998) 2998 c) hcs (by rw [hG0]; rfl) hch
    exact nU (X:=xm) pL sp (oj th 2998) (pD th 2998) yc nb.body nb.lV _ _ Bg Aq (.ext id) e h x e' h' hok YY hr hb
   ·cases hq:leave cfg nb.res (some (x,e',h')) with
    | none=>rw [hq] at hK; cases hK
    | some v0 =>
      obtain ⟨v0,h0⟩:=v0
      rw [hq] at hK
      simp only [frozen] at hK ⊢
      split at hK
      ·cases hK
      ·rename_i v1 hv1
       cases hK
       rfl
   ·exact ha
  ·cases hK
 ·cases hK
def VY:rE Tryz.prog cfg vn.get wU:=by
 refine ⟨pL,sp,A2,?_⟩
 intro f p hp
 unfold wU at hp
 split at hp
 ·rename_i hb
  cases hp
  have:=Nat.eq_of_beq_eq_true hb
  subst this
  exact R5 Sm R6
 ·split at hp
  ·rename_i hb
   cases hp
   have:=Nat.eq_of_beq_eq_true hb
   subst this
   exact zi th TY
  ·exact Rn f p hp
def Hh:∃ h,lT cfg vn.get wU 3000 false 8 [] aT.empty=some (.bool true,h):=by
 have h:=T8
 unfold FJ at h
 split at h
 ·rename_i b h2 hq
  subst h
  exact ⟨h2,hq⟩
 ·cases h
def Sn:nF Tryz.prog 8 (tg [] (.bool true)):=by
 obtain ⟨h2,hk⟩:=Hh
 exact zi VY hk
end Go.Sx
