/- Proves the statement DayBounds. -/
import Derived.Test.YtpelnddplemngaaGreatRows
import Derived.ProofKit
import Derived.Test.YtpelnddplemngaaGreatHaf
import Derived.Test.YtpelnddplemngaaGreatHap
import Derived.Test.YtpelnddplemngaaGreatHbs
import Derived.Test.YtpelnddplemngaaGreatHbt
set_option linter.all false
set_option maxRecDepth 100000
namespace Go.Sx
open Go Go.Proofs
theorem Ug {G:Ga} {b:Bool} {u:Value} (h:VR G (.bool b) u):u=.bool b:=by
 cases h with
 | jE hp h=>cases h; rfl
def vN {α:Type} (r:Row α):vU r r:=⟨rfl,Iff.rfl⟩
theorem K4 (p:bG):Iy p p:=⟨vN _,vN _,vN _,Iff.rfl,rfl,λ_ _ _=>⟨rfl,vN _⟩,rfl,rfl,rfl,rfl,rfl⟩
def Mw {x:bG} (h:JG x):JG x.canon:=by
 refine ⟨h.1,?_⟩
 intro y hy
 simp only [bG.canon,Row.canon,Row.yP,List.mem_map] at hy
 obtain ⟨z,hz,rfl⟩:=hy
 exact h.2 z hz
def KI {W:World} {v0 v1:Value} {x0:bG} {x1:iO} (hJ:JG x0)  (h0:PR W (TW W) false (.agg x0.ag) v0) (h1:PR W (TW W) false (.agg x1.ag) v1) :
  Calls Tryz.prog 3 #[v0,v1] W (λe W'=>e=.returned (.bool true)/\Go.RowKit.Below W.heap.size W W'):=by
 have h0:PR W (TW W) false (.agg x0.canon.ag) v0:=by
  rw [<- G4 (K4 x0)]
  exact h0.wk
 obtain ⟨v,⟨mm,hm⟩,r0,hr,rfl⟩:=t3 x0.canon x1 x0.wh (Mw hJ) aT.empty
 subst hr
 have hc:=hm mm (Nat.le_refl _)
 have hW:WR (⟨W,TW W,aT.empty,λ_=>none,λ_=>none⟩:Ga):=by
  constructor
  ·intro b l g z xs h; cases h
  ·intro b l es c h; cases h
  ·intro d B cs h; cases h
  ·intro b l h; cases h
  ·intro b b' l l' h; cases h
  ·intro s b l h; cases h
  ·intro d d' B h; cases h
  ·intro s d B h; cases h
  ·intro d B b l h; cases h
  ·intro d B h; cases h
  ·intro s B h; exact h
  ·exact Nat.le_refl _
  ·intro b o h
   have:aT.empty.get b=none:=by
    unfold aT.get aT.empty
    cases Nat.ble 0 b<;>rfl
   rw [show (⟨W,TW W,aT.empty,λ_=>none,λ_=>none⟩:Ga).h=aT.empty from rfl,this] at h; cases h
 have hk:=oF XT mm false 3 _ _ _ _ hc ⟨W,TW W,aT.empty,λ_=>none,λ_=>none⟩ #[v0,v1] rfl rfl (λ_=>rfl) hW rfl (by
  intro i x y hx hy
  match i,hx,hy with
  | 0,hx,hy=>simp at hx hy; subst hx hy; exact h0.Ah
  | 1,hx,hy=>simp at hx hy; subst hx hy; exact h1.Ah
  | n+2,hx,hy=>simp at hx)
 refine hk.2 _ ?_
 intro u G' hS _ _ hv
 refine ⟨by rw [Ug (hv [] (λ_=>none))],hS.os,hS.tape,hS.output,hS.lv,λk hk=>hS.frame k hk (λb l h=>by cases h) (λd B h=>by cases h)⟩
end Go.Sx
namespace Go.Proofs.YtpelnddplemngaaGreat
open Go.ChangeShapes Go.WideShapes Go.ChangeAt Go.RowKit
open Go.Sx
def own:ownKnob Tryz.prog.godebug=none:=by kernel_rfl
def laidOut:laidOutB Tryz.prog=true:=by kernel_rfl
theorem params3:Tryz.f3.params = #[27,31]:=by kernel_rfl
def u4:Tryz.prog.underlying 4=some .bool:=by kernel_rfl
def VB:uS Tryz.prog DI 27=true:=by kernel_rfl
def Vv:uS Tryz.prog DA 31=true:=by kernel_rfl
def lifted (os:Os) (started:os.Started) (H:Type) (enc:TypeId×Value->H) :
  ReturnsInHanded {} Tryz.checked os 3 .any (Rows.dayBoundsSpec.pre6 enc Tryz.prog Tryz.f3 Rows.dayBoundsRow.domain false) (Rows.dayBoundsSpec.post enc Tryz.prog Tryz.f3 false true false false):=by
 refine returnsInHanded_of_change (C:=Tryz.checked) own started (by kernel_rfl) Tryz.func3
  (ChangeSpec.witness6 (enc:=enc) (C:=Tryz.checked) false ⟨#[],#[.agg #[.slice none 0 0,.slice none 0 0,.slice none 0 0,.slice none 0 0,.int .i64 0,.int .i64 0,.int .i64 0,.int .i64 0,.bool false],.agg #[.int .i64 0,.slice none 0 0,.slice none 0 0]],[]⟩ 8 (by kernel_rfl) (by kernel_rfl) (by kernel_rfl) (by kernel_rfl)) ?_
 intro W base args ds gs before hval0 hW hcnd _
 have hval:∀ (j:Nat) t v,Tryz.f3.params[j]?=some t->args[j]?=some v->Value.okWide Tryz.prog W .any base t v:=hval0
 have hW':=hW
 obtain ⟨p,q,hA0,hV,rfl,hfz,hnd⟩:=hW
 have hA:DataW.TrodAll enc Tryz.prog W 0 (λ_=>true) true Tryz.f3.params.toList args.toList ds p:=hA0
 rw [params3] at hA hval
 obtain ⟨v0,vs,d0,ds',p0,q0,hargs,rfl,rfl,h0,hA⟩:=trodAll_cons hA
 obtain ⟨v1,vs1,d1,ds1,p1,q1,rfl,rfl,rfl,h1,hA⟩:=trodAll_cons hA
 obtain ⟨rfl,rfl,rfl⟩:=trodAll_nil hA
 have hargs':args = #[v0,v1]:=by cases args; simp_all
 subst hargs'
 obtain ⟨rfl,rfl⟩:=trodVars_none hV
 have r0:∃ x:bG,JG x/\PR W (TW W) false (.agg x.ag) v0:=by
  obtain ⟨fuel,hf⟩:=h0
  obtain ⟨xs,hx,hp⟩:=C6 (BO fuel DI 27 _ _ VB hf) (by decide)
  obtain ⟨x,rfl,hJ⟩:=Mc hx
  exact ⟨x,hJ,hp⟩
 have r1:∃ x:iO,PR W (TW W) false (.agg x.ag) v1:=by
  obtain ⟨fuel,hf⟩:=h1
  obtain ⟨xs,hx,hp⟩:=C6 (BO fuel DA 31 _ _ Vv hf) (by decide)
  obtain ⟨x,rfl⟩:=Mg hx
  exact ⟨x,hp⟩
 obtain ⟨x0,hJ,hp0⟩:=r0
 obtain ⟨x1,hp1⟩:=r1
 clear hA0 hval0
 have rg:∀ n:Int,(Lit.int .i64 n).wf=true->tv n:=λn hn=>by
  have e1:IntKind.i64.min = -9223372036854775808:=by decide
  have e2:IntKind.i64.max=9223372036854775807:=by decide
  simp only [Lit.wf,e1,e2,Bool.and_eq_true,decide_eq_true_eq] at hn
  exact hn
 refine (KI hJ  hp0 hp1).mono λe W' ⟨he,hw⟩=>?_
 subst he
 have hlt:∀ x∈p0++(p1),x.block<W.heap.size:=λx hx=>by
  have:=hW'.lt x (by simpa using hx)
  simpa using this
 have c0:=Below.trod laidOut (by kernel_rfl) (of_decide_eq_true (by kernel_rfl)) h0 hw (λx hx=>hlt x (List.mem_append_left _ hx))
 have c1:=Below.trod laidOut (by kernel_rfl) (of_decide_eq_true (by kernel_rfl)) h1 hw (λx hx=>hlt x (List.mem_append_right _ (hx)))
 have hall:DataW.TrodAll enc Tryz.prog W' 0 (λb=>decide (b<W.heap.size)) true [27,31] [v0,v1] [d0,d1] (p0++(p1++([]))) :=
  ⟨p0,_,c0,⟨p1,[],c1,rfl,rfl⟩,rfl⟩
 refine ⟨_,rfl,_,_,_,[],_,[],hW',trodAll_mk1 (shut_bool u4 true),hall,rfl,hw.frame _,λh=>?_⟩
 cases h
def ahf:Tryz.pinned.checked.prog.funcNamed Rows.dayBoundsRow.func=some 3:=by kernel_rfl
def UO:Tryz.f3.isInstance Tryz.pinned.checked.prog Rows.dayBoundsRow.origin Rows.dayBoundsRow.targs:=of_decide_eq_true (by kernel_rfl)
def Xj:Tryz.f3.isWrapper Tryz.pinned.checked.prog Rows.dayBoundsRow.wrapper Rows.dayBoundsRow.mainSum:=by
 unfold Func.isWrapper
 first
 | (rw [if_pos (by decide +kernel)]; kernel_rfl)
 | (rw [if_neg (by decide +kernel)]; exact ⟨rfl,rfl⟩)
theorem dayBounds_holds:Rows.DayBoundsSaid :=
 OpenClaim.holds_of_wide 3 Tryz.f3 rfl rfl rfl rfl rfl rfl rfl ⟨rfl,rfl,rfl,rfl,rfl⟩ rfl rfl rfl rfl rfl ahf Tryz.func3 Wv UO Xj
  (λos started H enc _=>lifted os started H enc)
end Go.Proofs.YtpelnddplemngaaGreat
