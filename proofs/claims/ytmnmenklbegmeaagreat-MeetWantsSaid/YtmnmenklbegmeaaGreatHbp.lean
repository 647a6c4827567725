/- Proves a closed fact of the set-up by the kernel. -/
import Derived.Test.YtmnmenklbegmeaaGreatHaj
import Derived.Test.YtmnmenklbegmeaaGreatHar
import Derived.Test.YtmnmenklbegmeaaGreatHat
import Derived.Test.YtmnmenklbegmeaaGreatHau
import Derived.Test.YtmnmenklbegmeaaGreatHav
import Derived.Test.YtmnmenklbegmeaaGreatHaw
import Derived.Test.YtmnmenklbegmeaaGreatHax
import Derived.Test.YtmnmenklbegmeaaGreatHay
import Derived.Test.YtmnmenklbegmeaaGreatHaz
import Derived.Test.YtmnmenklbegmeaaGreatHba
import Derived.Test.YtmnmenklbegmeaaGreatHbb
import Derived.Test.YtmnmenklbegmeaaGreatHbc
import Derived.Test.YtmnmenklbegmeaaGreatHbd
import Derived.Test.YtmnmenklbegmeaaGreatHbe
import Derived.Test.YtmnmenklbegmeaaGreatHbf
import Derived.Test.YtmnmenklbegmeaaGreatHbg
import Derived.Test.YtmnmenklbegmeaaGreatHbh
import Derived.Test.YtmnmenklbegmeaaGreatHbi
import Derived.Test.YtmnmenklbegmeaaGreatHbj
import Derived.Test.YtmnmenklbegmeaaGreatHbk
import Derived.Test.YtmnmenklbegmeaaGreatHbl
import Derived.Test.YtmnmenklbegmeaaGreatHbm
import Derived.Test.YtmnmenklbegmeaaGreatHbn
import Derived.Test.YtmnmenklbegmeaaGreatHbo
set_option linter.all false
set_option maxRecDepth 100000
namespace Go.Sx
open Go Go.Proofs
def nX {N:Nat} {jl:List Nat}:∀ (p:List Bool) (c:Code) (an:lz),codeOk N jl c an=true->codeOk N jl (qJ p c an).1 (qJ p c an).2=true
 | [],_,_,h=>h
 | true::p,c,an,h=>by
   cases c<;>try exact h
   cases an<;>try exact h
   ·simp only [codeOk,Bool.and_eq_true] at h; exact nX p _ _ h.2
   ·simp only [codeOk,Bool.and_eq_true] at h; exact nX p _ _ h.2
 | false::p,c,an,h=>by
   cases c<;>try exact h
   ·cases an<;>try exact h
    ·simp only [codeOk,Bool.and_eq_true] at h; exact nX p _ _ h.1
    ·simp only [codeOk,Bool.and_eq_true] at h; exact nX p _ _ h.1
   ·rename_i id a
    have h:codeOk N jl a an=true:=by cases an<;>exact h
    have:=nX p a an h
    cases an<;>exact this
   ·rename_i a
    have h:codeOk N jl a an=true:=by cases an<;>exact h
    have:=nX p a an h
    cases an<;>exact this
def GR:∀ f,(f=317\/f=318)->mq Tryz.prog f rO:=by
 rintro f (rfl | rfl)
 ·exact yM ⟨Tryz.f317,Tryz.func317,by kernel_rfl,by kernel_rfl⟩ (λb es clock w hb=>clone_a b es clock w hb) clone_a0
 ·exact yM ⟨Tryz.f318,Tryz.func318,by kernel_rfl,by kernel_rfl⟩ (λb es clock w hb=>clone_b b es clock w hb) clone_b0
def LN {f a b:Nat} (h:(Nat.beq f a||Nat.beq f b)=true):f=a\/f=b:=by
 simp only [Bool.or_eq_true] at h
 exact h.imp Nat.eq_of_beq_eq_true Nat.eq_of_beq_eq_true
def Q1:∀ f p,ub f=some p->mq Tryz.prog f p:=by
 intro f p hp
 unfold ub at hp
 split at hp
 ·rename_i hb
  cases hp
  exact GR f (LN hb)
 ·split at hp
  ·rename_i hb
   cases hp
   have:=Nat.eq_of_beq_eq_true hb
   subst this
   exact risingOk
  ·split at hp
   ·rename_i hb
    cases hp
    have:=Nat.eq_of_beq_eq_true hb
    subst this
    exact sortOk
   ·split at hp
    ·rename_i hb
     cases hp
     have:=Nat.eq_of_beq_eq_true hb
     subst this
     exact compOk
    ·cases hp
def tR:pf Tryz.prog cfg vS.get ub:=⟨oZ,rp,BM,Q1⟩
def Fl:Code×lz->Bool
 | (.loop _,.loop _ _)=>true
 | _=>false
def Dt {z:Code×lz} (h:Fl z=true):∃ c live y,z=(.loop c,.loop live y):=by
 unfold Fl at h
 split at h
 ·exact ⟨_,_,_,rfl⟩
 ·cases h
def Qp:Fl (qJ yg nh.body nh.mv)=true:=by kernel_rfl
theorem Tq (args:List AV) (h1:aT) (ha:kR h1 args=some Jl):zp Tryz.prog 20 args h1 AS h1:=by
 have hK:=V4
 unfold DV at hK
 split at hK
 ·rename_i id e h Fg
  split at hK
  ·rename_i r hb
   obtain ⟨x,e',h'⟩:=r
   obtain ⟨fn,hfn,hbody,hres,hname,hok⟩:=(BM 20 nh (by kernel_rfl)).ex
   obtain ⟨c,live,y,hz⟩:=Dt Qp
   have hF:p4=lH live (jN x4 (kA 2998) c y):=by
    unfold p4
    rw [hz]
   have hch:tD (lH live (jN x4 (kA 2998) c y)) Bi Ba (.ext id) e h:=by
    rw [<- hF]
    exact .piece 1 U5 (.piece 1 U7 (.piece 1 WB (.piece 1 Vl (.piece 1 UR (.piece 1 Tx (.piece 1 TX (.piece 1 Tb (.last 3 Fg (by simp)))))))))
   have hcs:codeOk fn.ntmps x4.fa.jl c y=true:=by
    have:=nX yg _ _ hok
    rw [hz] at this
    exact this
   refine yU (args0:=Jl) (C:=cfg) rp hfn hbody hres hname (x:=x) (e':=e') (h':=h') ?_ ?_ ?_
   ·intro G0 hG0
    have hr:ml Tryz.prog fn.ntmps G0 (qJ yg nh.body nh.mv).1 Bi Ba (.ext id) e h:=by
     rw [hz]
     exact Ah (tC oZ rp (nG tR 2998) (pP tR 2998) 2998 c) hcs (by rw [hG0]; rfl) hch
    exact nJ (X:=x4) oZ rp (nG tR 2998) (pP tR 2998) yg nh.body nh.mv _ _ Bi Ba (.ext id) e h x e' h' hok abE hr hb
   ·cases hq:leave cfg nh.res (some (x,e',h')) with
    | none=>rw [hq] at hK; cases hK
    | some v0 =>
      obtain ⟨v0,h0⟩:=v0
      rw [hq] at hK
      simp only [frozen] at hK ⊢
      split at hK
      ·cases hK
      ·rename_i v1 hv1
       cases hK
       rfl
   ·exact ha
  ·cases hK
 ·cases hK
theorem TN (args:List AV) (h1:aT) (ha:kR h1 args=some I7):zp Tryz.prog 20 args h1 AK h1:=by
 have hK:=Uq
 unfold DV at hK
 split at hK
 ·rename_i id e h Fg
  split at hK
  ·rename_i r hb
   obtain ⟨x,e',h'⟩:=r
   obtain ⟨fn,hfn,hbody,hres,hname,hok⟩:=(BM 20 nh (by kernel_rfl)).ex
   obtain ⟨c,live,y,hz⟩:=Dt Qp
   have hF:p4=lH live (jN x4 (kA 2998) c y):=by
    unfold p4
    rw [hz]
   have hch:tD (lH live (jN x4 (kA 2998) c y)) BC Cb (.ext id) e h:=by
    rw [<- hF]
    exact .piece 1 V3 (.piece 1 WK (.piece 1 Wv (.piece 1 Vr (.piece 1 Vv (.piece 1 TM (.piece 1 Tw (.piece 1 TU (.last 3 Fg (by simp)))))))))
   have hcs:codeOk fn.ntmps x4.fa.jl c y=true:=by
    have:=nX yg _ _ hok
    rw [hz] at this
    exact this
   refine yU (args0:=I7) (C:=cfg) rp hfn hbody hres hname (x:=x) (e':=e') (h':=h') ?_ ?_ ?_
   ·intro G0 hG0
    have hr:ml Tryz.prog fn.ntmps G0 (qJ yg nh.body nh.mv).1 BC Cb (.ext id) e h:=by
     rw [hz]
     exact Ah (tC oZ rp (nG tR 2998) (pP tR 2998) 2998 c) hcs (by rw [hG0]; rfl) hch
    exact nJ (X:=x4) oZ rp (nG tR 2998) (pP tR 2998) yg nh.body nh.mv _ _ BC Cb (.ext id) e h x e' h' hok XP hr hb
   ·cases hq:leave cfg nh.res (some (x,e',h')) with
    | none=>rw [hq] at hK; cases hK
    | some v0 =>
      obtain ⟨v0,h0⟩:=v0
      rw [hq] at hK
      simp only [frozen] at hK ⊢
      split at hK
      ·cases hK
      ·rename_i v1 hv1
       cases hK
       rfl
   ·exact ha
  ·cases hK
 ·cases hK
def abd:pf Tryz.prog cfg vS.get xC:=by
 refine ⟨oZ,rp,BM,?_⟩
 intro f p hp
 unfold xC at hp
 split at hp
 ·rename_i hb
  cases hp
  have:=Nat.eq_of_beq_eq_true hb
  subst this
  exact TS Tq TN
 ·split at hp
  ·rename_i hb
   cases hp
   have:=Nat.eq_of_beq_eq_true hb
   subst this
   exact Af tR Ud
  ·exact Q1 f p hp
def IL:∃ h,mg cfg vS.get xC 3000 false 5 [] aT.empty=some (.bool true,h):=by
 have h:=VI
 unfold Hu at h
 split at h
 ·rename_i b h2 hq
  subst h
  exact ⟨h2,hq⟩
 ·cases h
def Uc:mq Tryz.prog 5 (tN [] (.bool true)):=by
 obtain ⟨h2,hk⟩:=IL
 exact Af abd hk
end Go.Sx
