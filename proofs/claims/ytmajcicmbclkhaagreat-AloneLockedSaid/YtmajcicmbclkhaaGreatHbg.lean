/- Proves a closed fact by the kernel. -/
import Derived.Test.YtmajcicmbclkhaaGreatHas
import Derived.Test.YtmajcicmbclkhaaGreatHau
import Derived.Test.YtmajcicmbclkhaaGreatHav
import Derived.Test.YtmajcicmbclkhaaGreatHaw
import Derived.Test.YtmajcicmbclkhaaGreatHax
import Derived.Test.YtmajcicmbclkhaaGreatHay
import Derived.Test.YtmajcicmbclkhaaGreatHaz
import Derived.Test.YtmajcicmbclkhaaGreatHba
import Derived.Test.YtmajcicmbclkhaaGreatHbb
import Derived.Test.YtmajcicmbclkhaaGreatHbc
import Derived.Test.YtmajcicmbclkhaaGreatHbd
import Derived.Test.YtmajcicmbclkhaaGreatHbe
import Derived.Test.YtmajcicmbclkhaaGreatHbf
set_option maxRecDepth 100000
namespace Go.Sx
open Go Go.Proofs
theorem oG {N:Nat} {fY:List Nat}:∀ (p:List Bool) (c:Code) (an:ga),codeOk N fY c an=true->codeOk N fY (p6 p c an).1 (p6 p c an).2=true
 | [],_,_,h=>h
 | true::p,c,an,h=>by
   cases c<;>try exact h
   cases an<;>try exact h
   ·simp only [codeOk,Bool.and_eq_true] at h; exact oG p _ _ h.2
   ·simp only [codeOk,Bool.and_eq_true] at h; exact oG p _ _ h.2
 | false::p,c,an,h=>by
   cases c<;>try exact h
   ·cases an<;>try exact h
    ·simp only [codeOk,Bool.and_eq_true] at h; exact oG p _ _ h.1
    ·simp only [codeOk,Bool.and_eq_true] at h; exact oG p _ _ h.1
   ·rename_i id a
    have h:codeOk N fY a an=true:=by cases an<;>exact h
    have:=oG p a an h
    cases an<;>exact this
   ·rename_i a
    have h:codeOk N fY a an=true:=by cases an<;>exact h
    have:=oG p a an h
    cases an<;>exact this
theorem IH:∀ f,(f=79\/f=80)->lg Tryz.prog f oz:=by
 rintro f (rfl | rfl)
 ·exact Ak ⟨Tryz.f79,Tryz.func79,by kernel_rfl,by kernel_rfl⟩ (λb es clock w hb=>clone_a b es clock w hb) clone_a0
 ·exact Ak ⟨Tryz.f80,Tryz.func80,by kernel_rfl,by kernel_rfl⟩ (λb es clock w hb=>clone_b b es clock w hb) clone_b0
theorem LZ {f a b:Nat} (h:(Nat.beq f a||Nat.beq f b)=true):f=a\/f=b:=by
 simp only [Bool.or_eq_true] at h
 exact h.imp Nat.eq_of_beq_eq_true Nat.eq_of_beq_eq_true
theorem Pf:∀ f p,ue f=some p->lg Tryz.prog f p:=by
 intro f p hp
 unfold ue at hp
 split at hp
 ·rename_i hb
  cases hp
  exact IH f (LZ hb)
 ·split at hp
  ·rename_i hb
   cases hp
   have:=Nat.eq_of_beq_eq_true hb
   subst this
   exact sortOk
  ·split at hp
   ·rename_i hb
    cases hp
    have:=Nat.eq_of_beq_eq_true hb
    subst this
    exact compOk
   ·cases hp
theorem B0:nF Tryz.prog cfg wx.get ue:=⟨oI,sy,EG,Pf⟩
def Ff:Code×ga->Bool
 | (.loop _,.loop _ _)=>true
 | _=>false
theorem Lp {z:Code×ga} (h:Ff z=true):∃ c live y,z=(.loop c,.loop live y):=by
 unfold Ff at h
 split at h
 ·exact ⟨_,_,_,rfl⟩
 ·cases h
theorem Xu:Ff (p6 Ha pt.body pt.lE)=true:=by kernel_rfl
theorem If (args:List AV) (h1:au) (ha:gT h1 args=some GX):BY Tryz.prog 14 args h1 xw h1:=by
 have hK:=Us
 unfold P3 at hK
 split at hK
 ·rename_i id e h Qb
  split at hK
  ·rename_i r hb
   obtain ⟨x,e',h'⟩:=r
   obtain ⟨fn,hfn,hbody,hres,hname,hok⟩:=(EG 14 pt (by kernel_rfl)).ex
   obtain ⟨c,live,y,hz⟩:=Lp Xu
   have hF:zm=jo live (gF Fj (iC 2998) c y):=by
    unfold zm
    rw [hz]
   have hch:vZ (jo live (gF Fj (iC 2998) c y)) CL Ck (.ext id) e h:=by
    rw [<- hF]
    exact .piece 1 RG (.piece 1 Sw (.piece 1 Uv (.piece 1 Sz (.piece 1 Te (.piece 1 Rg (.piece 1 Q3 (.piece 1 Qu (.last 3 Qb (by simp)))))))))
   have hcs:codeOk fn.ntmps Fj.fa.fY c y=true:=by
    have:=oG Ha _ _ hok
    rw [hz] at this
    exact this
   refine Fy (args0:=GX) (C:=cfg) sy hfn hbody hres hname (x:=x) (e':=e') (h':=h') ?_ ?_ ?_
   ·intro G0 hG0
    have hr:lD Tryz.prog fn.ntmps G0 (p6 Ha pt.body pt.lE).1 CL Ck (.ext id) e h:=by
     rw [hz]
     exact HH (yu oI sy (mT B0 2998) (pC B0 2998) 2998 c) hcs (by rw [hG0]; rfl) hch
    exact nI (X:=Fj) oI sy (mT B0 2998) (pC B0 2998) Ha pt.body pt.lE _ _ CL Ck (.ext id) e h x e' h' hok XO hr hb
   ·cases hq:leave cfg pt.res (some (x,e',h')) with
    | none=>rw [hq] at hK; cases hK
    | some v0 =>
      obtain ⟨v0,h0⟩:=v0
      rw [hq] at hK
      simp only [frozen] at hK ⊢
      split at hK
      ·cases hK
      ·rename_i v1 hv1
       cases hK
       rfl
   ·exact ha
  ·cases hK
 ·cases hK
theorem W0:nF Tryz.prog cfg wx.get xS:=by
 refine ⟨oI,sy,EG,?_⟩
 intro f p hp
 unfold xS at hp
 split at hp
 ·rename_i hb
  cases hp
  have:=Nat.eq_of_beq_eq_true hb
  subst this
  exact Q5 If If
 ·split at hp
  ·rename_i hb
   cases hp
   have:=Nat.eq_of_beq_eq_true hb
   subst this
   exact AW B0 RT
  ·exact Pf f p hp
theorem Jx:∃ h,gP cfg wx.get xS 3000 false 4 [] au.empty=some (.bool true,h):=by
 have h:=TM
 unfold HS at h
 split at h
 ·rename_i b h2 hq
  subst h
  exact ⟨h2,hq⟩
 ·cases h
theorem QN:lg Tryz.prog 4 (tO [] (.bool true)):=by
 obtain ⟨h2,hk⟩:=Jx
 exact AW W0 hk
end Go.Sx
