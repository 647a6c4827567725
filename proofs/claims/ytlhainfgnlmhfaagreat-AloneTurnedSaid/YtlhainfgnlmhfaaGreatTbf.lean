/- Proves a closed fact of the set-up by the kernel. -/
import Derived.Test.YtlhainfgnlmhfaaGreatTaj
import Derived.Test.YtlhainfgnlmhfaaGreatTar
import Derived.Test.YtlhainfgnlmhfaaGreatTat
import Derived.Test.YtlhainfgnlmhfaaGreatTau
import Derived.Test.YtlhainfgnlmhfaaGreatTav
import Derived.Test.YtlhainfgnlmhfaaGreatTaw
import Derived.Test.YtlhainfgnlmhfaaGreatTax
import Derived.Test.YtlhainfgnlmhfaaGreatTay
import Derived.Test.YtlhainfgnlmhfaaGreatTaz
import Derived.Test.YtlhainfgnlmhfaaGreatTba
import Derived.Test.YtlhainfgnlmhfaaGreatTbb
import Derived.Test.YtlhainfgnlmhfaaGreatTbc
import Derived.Test.YtlhainfgnlmhfaaGreatTbd
import Derived.Test.YtlhainfgnlmhfaaGreatTbe
set_option linter.all false
set_option maxRecDepth 100000
namespace Go.Sx
open Go Go.Proofs
theorem kM {N:Nat} {fw:List Nat}:∀ (p:List Bool) (c:Code) (an:g8),codeOk N fw c an=true→codeOk N fw (m6 p c an).1 (m6 p c an).2=true
 | [],_,_,h=>h
 | true::p,c,an,h=>by
   cases c<;>try exact h
   cases an<;>try exact h
   ·simp only [codeOk,Bool.and_eq_true] at h; exact kM p _ _ h.2
   ·simp only [codeOk,Bool.and_eq_true] at h; exact kM p _ _ h.2
 | false::p,c,an,h=>by
   cases c<;>try exact h
   ·cases an<;>try exact h
    ·simp only [codeOk,Bool.and_eq_true] at h; exact kM p _ _ h.1
    ·simp only [codeOk,Bool.and_eq_true] at h; exact kM p _ _ h.1
   ·rename_i id a
    have h:codeOk N fw a an=true:=by cases an<;>exact h
    have:=kM p a an h
    cases an<;>exact this
theorem uB:∀ f,(f=221∨f=222)→ru Tryz.prog f nL:=by
 rintro f (rfl | rfl)
 ·exact rl ⟨Tryz.f221,Tryz.func221,by kernel_rfl,by kernel_rfl⟩ (fun b es clock w hb=>clone_a b es clock w hb) clone_a0
 ·exact rl ⟨Tryz.f222,Tryz.func222,by kernel_rfl,by kernel_rfl⟩ (fun b es clock w hb=>clone_b b es clock w hb) clone_b0
theorem wT {f a b:Nat} (h:(Nat.beq f a||Nat.beq f b)=true):f=a∨f=b:=by
 simp only [Bool.or_eq_true] at h
 exact h.imp Nat.eq_of_beq_eq_true Nat.eq_of_beq_eq_true
theorem tc:pz Tryz.prog cfg eG.get sm:=by
 refine ⟨oc,rQ,vq,?_⟩
 intro f p hp
 unfold sm at hp
 split at hp
 ·rename_i hb
  cases hp
  exact uB f (wT hb)
 ·cases hp
def wK:Code×g8→Bool
 | (.loop _,.loop _ _)=>true
 | _=>false
theorem At {z:Code×g8} (h:wK z=true):∃ c live y,z=(.loop c,.loop live y):=by
 unfold wK at h
 split at h
 ·exact ⟨_,_,_,rfl⟩
 ·cases h
theorem N1:wK (m6 wy kn.body kn.oP)=true:=by kernel_rfl
theorem LB:tH.any AV.ld=false:=by kernel_rfl
theorem MF (h1:bY):vM Tryz.prog 11 tH h1 uA h1:=by
 have hK:=Qw
 unfold ED at hK
 split at hK
 ·rename_i id e h hit
  split at hK
  ·rename_i r hb
   obtain ⟨x,e',h'⟩:=r
   obtain ⟨fn,hfn,hbody,hres,hname,hok⟩:=(vq 11 kn (by kernel_rfl)).ex
   obtain ⟨c,live,y,hz⟩:=At N1
   have hF:qJ=hZ live (fT w5 (gA 2998) c y):=by
    unfold qJ
    rw [hz]
   have hch:oz (hZ live (fT w5 (gA 2998) c y)) AT AN (.ext id) e h:=by
    rw [← hF]
    exact .piece 1 VH (.piece 1 SM (.piece 1 Uq (.piece 1 Ui (.piece 1 Un (.piece 1 Pc (.piece 1 OF (.piece 1 QK (.last 3 hit (by simp)))))))))
   have hcs:codeOk fn.ntmps w5.fa.fw c y=true:=by
    have:=kM wy _ _ hok
    rw [hz] at this
    exact this
   refine xU (C:=cfg) rQ hfn hbody hres hname (x:=x) (e':=e') (h':=h') ?_ ?_ ?_
   ·intro G0 hG0
    have hr:iZ Tryz.prog fn.ntmps G0 (m6 wy kn.body kn.oP).1 AT AN (.ext id) e h:=by
     rw [hz]
     exact xY (p8 oc rQ (mI tc 2998) (mW tc 2998) 2998 c) hcs (by rw [hG0]; rfl) hch
    exact jU (X:=w5) oc rQ (mI tc 2998) (mW tc 2998) wy kn.body kn.oP _ _ AT AN (.ext id) e h x e' h' hok Tl hr hb
   ·cases hq:leave cfg kn.res (some (x,e',h')) with
    | none=>rw [hq] at hK; cases hK
    | some v0 =>
      obtain ⟨v0,h0⟩:=v0
      rw [hq] at hK
      simp only [frozen] at hK ⊢
      split at hK
      ·cases hK
      ·rename_i v1 hv1
       cases hK
       rfl
   ·intro h2
    unfold iS
    rw [LB]
  ·cases hK
 ·cases hK
theorem Pp:pz Tryz.prog cfg eG.get pN:=by
 refine ⟨oc,rQ,vq,?_⟩
 intro f p hp
 unfold pN at hp
 split at hp
 ·rename_i hb
  cases hp
  exact uB f (wT hb)
 ·split at hp
  ·rename_i hb
   cases hp
   have:=Nat.eq_of_beq_eq_true hb
   subst this
   exact Cj (fun h1 _=>MF h1)
  ·split at hp
   ·rename_i hb
    cases hp
    have:=Nat.eq_of_beq_eq_true hb
    subst this
    exact sH tc JP
   ·cases hp
theorem yT:∃ h,ja cfg eG.get pN 3000 false 4 [] bY.empty=some (.bool true,h):=by
 have h:=IG
 unfold yt at h
 split at h
 ·rename_i b h2 hq
  subst h
  exact ⟨h2,hq⟩
 ·cases h
theorem Q3:pz Tryz.prog cfg eG.get ei:=by
 refine ⟨oc,rQ,vq,?_⟩
 intro f p hp
 unfold ei at hp
 split at hp
 ·rename_i hb
  cases hp
  exact uB f (wT hb)
 ·split at hp
  ·rename_i hb
   cases hp
   have:=Nat.eq_of_beq_eq_true hb
   subst this
   obtain ⟨h2,hk⟩:=yT
   exact sH Pp hk
  ·cases hp
end Go.Sx
