/- Proves a closed fact of the set-up by the kernel. -/
import Derived.Test.YtojhnkioagammaaGreatTai
import Derived.Test.YtojhnkioagammaaGreatTaj
import Derived.Test.YtojhnkioagammaaGreatTat
import Derived.Test.YtojhnkioagammaaGreatTav
import Derived.Test.YtojhnkioagammaaGreatTaw
import Derived.Test.YtojhnkioagammaaGreatTax
import Derived.Test.YtojhnkioagammaaGreatTay
import Derived.Test.YtojhnkioagammaaGreatTaz
import Derived.Test.YtojhnkioagammaaGreatTba
import Derived.Test.YtojhnkioagammaaGreatTbb
import Derived.Test.YtojhnkioagammaaGreatTbc
import Derived.Test.YtojhnkioagammaaGreatTbd
import Derived.Test.YtojhnkioagammaaGreatTbe
import Derived.Test.YtojhnkioagammaaGreatTbf
import Derived.Test.YtojhnkioagammaaGreatTbg
set_option linter.all false
set_option maxRecDepth 100000
namespace Go.Sx
open Go Go.Proofs
theorem nh {N:Nat} {gx:List Nat}:∀ (p:List Bool) (c:Code) (an:jr),codeOk N gx c an=true→codeOk N gx (pM p c an).1 (pM p c an).2=true
 | [],_,_,h=>h
 | true::p,c,an,h=>by
   cases c<;>try exact h
   cases an<;>try exact h
   ·simp only [codeOk,Bool.and_eq_true] at h; exact nh p _ _ h.2
   ·simp only [codeOk,Bool.and_eq_true] at h; exact nh p _ _ h.2
 | false::p,c,an,h=>by
   cases c<;>try exact h
   ·cases an<;>try exact h
    ·simp only [codeOk,Bool.and_eq_true] at h; exact nh p _ _ h.1
    ·simp only [codeOk,Bool.and_eq_true] at h; exact nh p _ _ h.1
   ·rename_i id a
    have h:codeOk N gx a an=true:=by cases an<;>exact h
    have:=nh p a an h
    cases an<;>exact this
theorem xS:∀ f,(f=200∨f=201)→sh Tryz.prog f mG:=by
 rintro f (rfl | rfl)
 ·exact ua ⟨Tryz.f200,Tryz.func200,by kernel_rfl,by kernel_rfl⟩ (fun b es clock w hb=>clone_a b es clock w hb) clone_a0
 ·exact ua ⟨Tryz.f201,Tryz.func201,by kernel_rfl,by kernel_rfl⟩ (fun b es clock w hb=>clone_b b es clock w hb) clone_b0
theorem zq {f a b:Nat} (h:(Nat.beq f a||Nat.beq f b)=true):f=a∨f=b:=by
 simp only [Bool.or_eq_true] at h
 exact h.imp Nat.eq_of_beq_eq_true Nat.eq_of_beq_eq_true
theorem xf:oL Tryz.prog cfg sa.get u9:=by
 refine ⟨o8,tE,zd,?_⟩
 intro f p hp
 unfold u9 at hp
 split at hp
 ·rename_i hb
  cases hp
  exact xS f (zq hb)
 ·cases hp
def zL:Code×jr→Bool
 | (.loop _,.loop _ _)=>true
 | _=>false
theorem EE {z:Code×jr} (h:zL z=true):∃ c live y,z=(.loop c,.loop live y):=by
 unfold zL at h
 split at h
 ·exact ⟨_,_,_,rfl⟩
 ·cases h
theorem SP:zL (pM zF nF.body nF.j7)=true:=by kernel_rfl
theorem OT:xm.any AV.nw=false:=by kernel_rfl
theorem Sh (h1:ah):yR Tryz.prog 7 xm h1 yd h1:=by
 have hK:=Xf
 unfold JT at hK
 split at hK
 ·rename_i id e h Rx
  split at hK
  ·rename_i r hb
   obtain ⟨x,e',h'⟩:=r
   obtain ⟨fn,hfn,hbody,hres,hname,hok⟩:=(zd 7 nF (by kernel_rfl)).ex
   obtain ⟨c,live,y,hz⟩:=EE SP
   have hF:uW=jA live (gX Ap (iP 2998) c y):=by
    unfold uW
    rw [hz]
   have hch:rE (jA live (gX Ap (iP 2998) c y)) FW Fk (.ext id) e h:=by
    rw [← hF]
    exact .piece 1 abE (.piece 1 aat (.piece 1 ZZ (.piece 1 YX (.piece 1 YS (.piece 1 Xg (.piece 1 Uk (.piece 1 Tu (.last 3 Rx (by simp)))))))))
   have hcs:codeOk fn.ntmps Ap.fa.gx c y=true:=by
    have:=nh zF _ _ hok
    rw [hz] at this
    exact this
   refine Ba (C:=cfg) tE hfn hbody hres hname (x:=x) (e':=e') (h':=h') ?_ ?_ ?_
   ·intro G0 hG0
    have hr:kH Tryz.prog fn.ntmps G0 (pM zF nF.body nF.j7).1 FW Fk (.ext id) e h:=by
     rw [hz]
     exact A9 (sP o8 tE (nJ xf 2998) (po xf 2998) 2998 c) hcs (by rw [hG0]; rfl) hch
    exact mn (X:=Ap) o8 tE (nJ xf 2998) (po xf 2998) zF nF.body nF.j7 _ _ FW Fk (.ext id) e h x e' h' hok aam hr hb
   ·cases hq:leave cfg nF.res (some (x,e',h')) with
    | none=>rw [hq] at hK; cases hK
    | some v0 =>
      obtain ⟨v0,h0⟩:=v0
      rw [hq] at hK
      simp only [frozen] at hK ⊢
      split at hK
      ·cases hK
      ·rename_i v1 hv1
       cases hK
       rfl
   ·intro h2
    unfold kx
    rw [OT]
  ·cases hK
 ·cases hK
theorem UE:oL Tryz.prog cfg sa.get tg:=by
 refine ⟨o8,tE,zd,?_⟩
 intro f p hp
 unfold tg at hp
 split at hp
 ·rename_i hb
  cases hp
  exact xS f (zq hb)
 ·split at hp
  ·rename_i hb
   cases hp
   have:=Nat.eq_of_beq_eq_true hb
   subst this
   exact H0 (fun h1 _=>Sh h1)
  ·split at hp
   ·rename_i hb
    cases hp
    have:=Nat.eq_of_beq_eq_true hb
    subst this
    exact vI xf Rq
   ·cases hp
theorem CN:∃ h,jt cfg sa.get tg 3000 false 4 [] ah.empty=some (.bool true,h):=by
 have h:=Rk
 unfold BE at h
 split at h
 ·rename_i b h2 hq
  subst h
  exact ⟨h2,hq⟩
 ·cases h
theorem KR:oL Tryz.prog cfg FT jm:=by
 refine ⟨o8,tE,J0,?_⟩
 intro f p hp
 unfold jm at hp
 split at hp
 ·rename_i hb
  cases hp
  exact xS f (zq hb)
 ·split at hp
  ·rename_i hb
   cases hp
   have:=Nat.eq_of_beq_eq_true hb
   subst this
   obtain ⟨h2,hk⟩:=CN
   exact vI UE hk
  ·cases hp
theorem Tv:oL Tryz.prog cfg FT aT:=by
 refine ⟨o8,tE,J0,?_⟩
 intro f p hp
 unfold aT at hp
 split at hp
 ·rename_i hb
  cases hp
  have:=Nat.eq_of_beq_eq_true hb
  subst this
  exact Be KR 58
 ·exact KR.y3 f p hp
end Go.Sx
