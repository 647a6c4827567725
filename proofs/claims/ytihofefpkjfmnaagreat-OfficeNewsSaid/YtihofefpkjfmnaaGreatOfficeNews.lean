/- Proves the statement OfficeNews. -/
import Derived.Test.YtihofefpkjfmnaaGreatRows
import Derived.ProofKit
import Derived.Test.YtihofefpkjfmnaaGreatNaf
import Derived.Test.YtihofefpkjfmnaaGreatNar
import Derived.Test.YtihofefpkjfmnaaGreatNax
import Derived.Test.YtihofefpkjfmnaaGreatNay
set_option linter.all false
set_option maxRecDepth 100000
namespace Go.Sx
open Go.Proofs.Tryz
open Go Go.Proofs
theorem RP {G:Ga} {b:Bool} {u:Value} (h:VR G (.bool b) u):u=.bool b:=by
 cases h with
 | lA hp h=>cases h; rfl
def wB {α:Type} (r:Row α):w8 r r:=⟨rfl,Iff.rfl⟩
theorem Lw (p:bY):JY p p:=⟨wB _,wB _,wB _,Iff.rfl,rfl,λ_ _ _=>⟨rfl,wB _⟩,rfl,rfl,rfl,rfl,rfl⟩
def MW {x:bY} (h:JG x):JG x.canon:=by
 refine ⟨h.1,?_⟩
 intro y hy
 simp only [bY.canon,Row.canon,Row.yg,List.mem_map] at hy
 obtain ⟨z,hz,rfl⟩:=hy
 exact h.2 z hz
def LR {W:World} {v0 v1:Value} {x:bY} {d:dO} (hJ:JG x) (h0:PR W (TW W) false (.agg x.af) v0) (h1:PR W (TW W) false (.agg d.af) v1) :
  Calls prog 3 #[v0,v1] W (λe W'=>e=.returned (.bool true)/\Go.RowKit.Below W.heap.size W W'):=by
 have h0:PR W (TW W) false (.agg x.canon.af) v0:=by
  rw [<- HB (Lw x)]
  exact h0.wk
 obtain ⟨v,⟨m,hm⟩,r0,hr,rfl⟩:=t3 x.canon d x.xN (MW hJ) bV.empty
 subst hr
 have hc:=hm m (Nat.le_refl _)
 have hW:WR (⟨W,TW W,bV.empty,λ_=>none,λ_=>none⟩:Ga):=by
  constructor
  ·intro b l g z xs h; cases h
  ·intro b l es c h; cases h
  ·intro d B cs h; cases h
  ·intro b l h; cases h
  ·intro b b' l l' h; cases h
  ·intro s b l h; cases h
  ·intro d d' B h; cases h
  ·intro s d B h; cases h
  ·intro d B b l h; cases h
  ·intro d B h; cases h
  ·intro s B h; exact h
  ·exact Nat.le_refl _
  ·intro b o h
   have:bV.empty.get b=none:=by
    unfold bV.get bV.empty
    cases Nat.ble 0 b<;>rfl
   rw [show (⟨W,TW W,bV.empty,λ_=>none,λ_=>none⟩:Ga).h=bV.empty from rfl,this] at h; cases h
 have hk:=w4 YU m false 3 _ _ _ _ hc ⟨W,TW W,bV.empty,λ_=>none,λ_=>none⟩ #[v0,v1] rfl rfl (λ_=>rfl) hW rfl (by
  intro i x y hx hy
  match i,hx,hy with
  | 0,hx,hy=>simp at hx hy; subst hx hy; exact h0.A2
  | 1,hx,hy=>simp at hx hy; subst hx hy; exact h1.A2
  | n+2,hx,hy=>simp at hx)
 refine hk.2 _ ?_
 intro u G' hS _ _ hv
 refine ⟨by rw [RP (hv [] (λ_=>none))],hS.os,hS.tape,hS.output,hS.m4,λk hk=>hS.frame k hk (λb l h=>by cases h) (λd B h=>by cases h)⟩
end Go.Sx
namespace Go.Proofs.YtihofefpkjfmnaaGreat
open Go.Proofs.Tryz
open Go.ChangeShapes Go.WideShapes Go.ChangeAt Go.RowKit
open Go.Sx
def own:ownKnob prog.godebug=none:=by kernel_rfl
def laidOut:laidOutB prog=true:=by kernel_rfl
theorem params3:f3.params = #[27,31]:=by kernel_rfl
def u4:prog.underlying 4=some .bool:=by kernel_rfl
def Uq:vS prog D2 27=true:=by kernel_rfl
def S0:vS prog DT 31=true:=by kernel_rfl
def GH (os:Os) (started:os.Started) (H:Type) (enc:TypeId×Value->H) :
  ReturnsInHanded {} checked os 3 .any (Rows.officeNewsSpec.pre6 enc prog f3 Rows.officeNewsRow.domain false) (Rows.officeNewsSpec.post enc prog f3 false true false false):=by
 refine returnsInHanded_of_change (C:=checked) own started (by kernel_rfl) func3
  (ChangeSpec.witness6 (enc:=enc) (C:=checked) false ⟨#[],#[.agg #[.slice none 0 0,.slice none 0 0,.slice none 0 0,.slice none 0 0,.int .i64 0,.int .i64 0,.int .i64 0,.int .i64 0,.bool false],.agg #[.int .i64 0,.slice none 0 0,.slice none 0 0]],[]⟩ 8 (by kernel_rfl) (by kernel_rfl) (by kernel_rfl) (by kernel_rfl)) ?_
 intro W base args ds gs before hval0 hW hcnd _
 have hval:∀ (j:Nat) t v,f3.params[j]?=some t->args[j]?=some v->Value.okWide prog W .any base t v:=hval0
 have hW':=hW
 obtain ⟨p,q,hA0,hV,rfl,hfz,hnd⟩:=hW
 have hA:DataW.TrodAll enc prog W 0 (λ_=>true) true f3.params.toList args.toList ds p:=hA0
 rw [params3] at hA hval
 obtain ⟨v0,vs,d0,ds',p0,q0,hargs,rfl,rfl,h0,hA⟩:=trodAll_cons hA
 obtain ⟨v1,vs1,d1,ds1,p1,q1,rfl,rfl,rfl,h1,hA⟩:=trodAll_cons hA
 obtain ⟨rfl,rfl,rfl⟩:=trodAll_nil hA
 have hargs':args = #[v0,v1]:=by cases args; simp_all
 subst hargs'
 obtain ⟨rfl,rfl⟩:=trodVars_none hV
 have r0:∃ x:bY,JG x/\PR W (TW W) false (.agg x.af) v0:=by
  obtain ⟨fuel,hf⟩:=h0
  obtain ⟨xs,hx,hp⟩:=Dk (B8 fuel D2 27 _ _ Uq hf) (by decide)
  obtain ⟨x,rfl,hJ⟩:=Oq hx
  exact ⟨x,hJ,hp⟩
 have r1:∃ x:dO,PR W (TW W) false (.agg x.af) v1:=by
  obtain ⟨fuel,hf⟩:=h1
  obtain ⟨xs,hx,hp⟩:=Dk (B8 fuel DT 31 _ _ S0 hf) (by decide)
  obtain ⟨x,rfl⟩:=Nf hx
  exact ⟨x,hp⟩
 obtain ⟨xp,hJ,hp0⟩:=r0
 obtain ⟨xd,hp1⟩:=r1
 clear hA0 hval0
 refine (LR hJ hp0 hp1).mono λe W' ⟨he,hw⟩=>?_
 subst he
 have hlt:∀ x∈p0++p1,x.block<W.heap.size:=λx hx=>by
  have:=hW'.lt x (by simpa using hx)
  simpa using this
 have c0:=Below.trod laidOut (by kernel_rfl) (of_decide_eq_true (by kernel_rfl)) h0 hw (λx hx=>hlt x (List.mem_append_left _ hx))
 have c1:=Below.trod laidOut (by kernel_rfl) (of_decide_eq_true (by kernel_rfl)) h1 hw (λx hx=>hlt x (List.mem_append_right _ hx))
 have hall:DataW.TrodAll enc prog W' 0 (λb=>decide (b<W.heap.size)) true [27,31] [v0,v1] [d0,d1] (p0++(p1++[])) :=
  ⟨p0,_,c0,⟨p1,[],c1,rfl,rfl⟩,rfl⟩
 refine ⟨_,rfl,_,_,_,[],_,[],hW',trodAll_mk1 (shut_bool u4 true),hall,rfl,hw.frame _,λh=>?_⟩
 cases h
def aaq:Tryz.pinned.checked.prog.funcNamed Rows.officeNewsRow.func=some 3:=by kernel_rfl
def TN:f3.isInstance Tryz.pinned.checked.prog Rows.officeNewsRow.origin Rows.officeNewsRow.targs:=of_decide_eq_true (by kernel_rfl)
def SR:f3.isWrapper Tryz.pinned.checked.prog Rows.officeNewsRow.wrapper Rows.officeNewsRow.mainSum:=by
 unfold Func.isWrapper
 first
 | (rw [if_pos (by decide +kernel)]; kernel_rfl)
 | (rw [if_neg (by decide +kernel)]; exact ⟨rfl,rfl⟩)
theorem officeNews_holds:Rows.OfficeNewsSaid :=
 OpenClaim.holds_of_wide 3 f3 rfl rfl rfl rfl rfl rfl rfl ⟨rfl,rfl,rfl,rfl,rfl⟩ rfl rfl rfl rfl rfl aaq func3 Se TN SR
  (λos started H enc _=>GH os started H enc)
end Go.Proofs.YtihofefpkjfmnaaGreat
