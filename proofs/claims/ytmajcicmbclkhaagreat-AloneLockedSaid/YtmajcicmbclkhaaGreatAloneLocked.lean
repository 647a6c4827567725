/- Proves the statement AloneLocked. -/
import Derived.Test.YtmajcicmbclkhaaGreatHbi
import Derived.Test.YtmajcicmbclkhaaGreatHbj
set_option linter.all false
set_option maxRecDepth 100000
namespace Go.Sx
open Go Go.Proofs
def NA {w:World} {e:Ty} {v:Value} (h:Reads w (.slice e) v.cells.toList) (hv:∀ cs,v≠.agg cs):∃ x,Fit (.slice e) [x]/\PR w (TW w) false x v:=by
 obtain ⟨xs,h1,hs,hf,hp⟩:=h
 have hl:xs.length=1:=by rw [h1,hs]; rfl
 match xs,hl with
 | [x],_ =>
   refine ⟨x,hf,?_⟩
   cases v with
   | agg cs=>exact absurd rfl (hv cs)
   | _=>exact (hp 0 x _ rfl (by simp [Value.cells])).1
def ok_slice {P:Program} {w:World} {b:Nat} {t e:TypeId} {v:Value} (ht:P.underlying t=some (.slice e)) (h:Value.okWide P w .any b t v):∀ cs,v≠.agg cs:=by
 rintro cs rfl
 unfold Value.okWide at h
 rw [ht] at h
 simp [Cell.okWide,ht,Cell.ok] at h
theorem Qk {G:Ga} {b:Bool} {u:Value} (h:VR G (.bool b) u):u=.bool b:=by
 cases h with
 | gf hp h=>cases h; rfl
def vi {α:Type} (r:Row α):wA r r:=⟨rfl,Iff.rfl⟩
theorem K9 (p:bY):JP p p:=⟨vi _,vi _,vi _,Iff.rfl,rfl,λ_ _ _=>⟨rfl,vi _⟩,rfl,rfl,rfl,rfl,rfl⟩
def M9 {x:bY} (h:JG x):JG x.canon:=by
 refine ⟨h.1,?_⟩
 intro y hy
 simp only [bY.canon,Row.canon,Row.yx,List.mem_map] at hy
 obtain ⟨z,hz,rfl⟩:=hy
 exact h.2 z hz
def KE {W:World} {v0 v1 v2:Value} {x0:bY} {x1:Row Int} {x2:Int} (hJ:JG x0)  (h0:PR W (TW W) false (.agg x0.ai) v0) (h1:PR W (TW W) false (x1.av cI) v1) (h2:PR W (TW W) false (.int .i64 x2) v2) :
  Calls Tryz.prog 3 #[v0,v1,v2] W (λe W'=>e=.returned (.bool true)/\Go.RowKit.Below W.heap.size W W'):=by
 have h0:PR W (TW W) false (.agg x0.canon.ai) v0:=by
  rw [<- Ip (K9 x0)]
  exact h0.wk
 obtain ⟨v,⟨mm,hm⟩,r0,hr,rfl⟩:=t3 x0.canon x1 x2 x0.xh (M9 hJ) au.empty
 subst hr
 have hc:=hm mm (Nat.le_refl _)
 have hW:WR (⟨W,TW W,au.empty,λ_=>none,λ_=>none⟩:Ga):=by
  constructor
  ·intro b l g z xs h; cases h
  ·intro b l es c h; cases h
  ·intro d B cs h; cases h
  ·intro b l h; cases h
  ·intro b b' l l' h; cases h
  ·intro s b l h; cases h
  ·intro d d' B h; cases h
  ·intro s d B h; cases h
  ·intro d B b l h; cases h
  ·intro d B h; cases h
  ·intro s B h; exact h
  ·exact Nat.le_refl _
  ·intro b o h
   have:au.empty.get b=none:=by
    unfold au.get au.empty
    cases Nat.ble 0 b<;>rfl
   rw [show (⟨W,TW W,au.empty,λ_=>none,λ_=>none⟩:Ga).h=au.empty from rfl,this] at h; cases h
 have hk:=mT Xm mm false 3 _ _ _ _ hc ⟨W,TW W,au.empty,λ_=>none,λ_=>none⟩ #[v0,v1,v2] rfl rfl (λ_=>rfl) hW rfl (by
  intro i x y hx hy
  match i,hx,hy with
  | 0,hx,hy=>simp at hx hy; subst hx hy; exact h0.wv
  | 1,hx,hy=>simp at hx hy; subst hx hy; exact h1.wv
  | 2,hx,hy=>simp at hx hy; subst hx hy; exact h2.wv
  | n+3,hx,hy=>simp at hx)
 refine hk.2 _ ?_
 intro u G' hS _ _ hv
 refine ⟨by rw [Qk (hv [] (λ_=>none))],hS.os,hS.tape.1,hS.output,hS.jd,λk hk=>hS.frame k hk (λb l h=>by cases h) (λd B h=>by cases h)⟩
end Go.Sx
namespace Go.Proofs.YtmajcicmbclkhaaGreat
open Go.ChangeShapes Go.WideShapes Go.ChangeAt Go.RowKit
open Go.Sx
def own:ownKnob Tryz.prog.godebug=none:=by kernel_rfl
def laidOut:laidOutB Tryz.prog=true:=by kernel_rfl
theorem params3:Tryz.f3.params = #[27,28,3]:=by kernel_rfl
def u3:Tryz.prog.underlying 3=some (.int .i64):=by kernel_rfl
def u4:Tryz.prog.underlying 4=some .bool:=by kernel_rfl
def Tb:uV Tryz.prog EM 27=true:=by kernel_rfl
def uI:Tryz.prog.underlying 28=some (.slice 3):=by kernel_rfl
def tyI:uV Tryz.prog (.slice .int) 28=true:=by kernel_rfl
def lifted (os:Os) (started:os.Started) (H:Type) (enc:TypeId×Value->H) :
  ReturnsInHanded {} Tryz.checked os 3 .any (Rows.aloneLockedSpec.pre6 enc Tryz.prog Tryz.f3 Rows.aloneLockedRow.domain false) (Rows.aloneLockedSpec.post enc Tryz.prog Tryz.f3 false true false false):=by
 refine returnsInHanded_of_change (C:=Tryz.checked) own started (by kernel_rfl) Tryz.func3
  (ChangeSpec.witness6 (enc:=enc) (C:=Tryz.checked) false ⟨#[],#[.agg #[.slice none 0 0,.slice none 0 0,.slice none 0 0,.slice none 0 0,.int .i64 0,.int .i64 0,.int .i64 0,.int .i64 0,.bool false],.slice none 0 0,.int .i64 0],[]⟩ 8 (by kernel_rfl) (by kernel_rfl) (by kernel_rfl) (by kernel_rfl)) ?_
 intro W base args ds gs before hval0 hW hcnd _
 have hval:∀ (j:Nat) t v,Tryz.f3.params[j]?=some t->args[j]?=some v->Value.okWide Tryz.prog W .any base t v:=hval0
 have hW':=hW
 obtain ⟨p,q,hA0,hV,rfl,hfz,hnd⟩:=hW
 have hA:DataW.TrodAll enc Tryz.prog W 0 (λ_=>true) true Tryz.f3.params.toList args.toList ds p:=hA0
 rw [params3] at hA hval
 obtain ⟨v0,vs,d0,ds',p0,q0,hargs,rfl,rfl,h0,hA⟩:=trodAll_cons hA
 obtain ⟨v1,vs1,d1,ds1,p1,q1,rfl,rfl,rfl,h1,hA⟩:=trodAll_cons hA
 obtain ⟨v2,vs2,d2,ds2,p2,q2,rfl,rfl,rfl,h2,hA⟩:=trodAll_cons hA
 obtain ⟨rfl,rfl,rfl⟩:=trodAll_nil hA
 have hargs':args = #[v0,v1,v2]:=by cases args; simp_all
 subst hargs'
 obtain ⟨rfl,rfl⟩:=trodVars_none hV
 obtain ⟨x2,rfl,rfl,rfl,w2⟩:=open_int u3 (hval 2 3 v2 rfl rfl) h2
 have r0:∃ x:bY,JG x/\PR W (TW W) false (.agg x.ai) v0:=by
  obtain ⟨fuel,hf⟩:=h0
  obtain ⟨xs,hx,hp⟩:=Lx (B9 fuel EM 27 _ _ Tb hf) (by decide)
  obtain ⟨x,rfl,hJ⟩:=M3 hx
  exact ⟨x,hJ,hp⟩
 have r1:∃ r:Row Int,PR W (TW W) false (r.av cI) v1:=by
  obtain ⟨fuel,hf⟩:=h1
  obtain ⟨x,hx,hp⟩:=NA (B9 fuel (.slice .int) 28 _ _ tyI hf) (ok_slice uI (hval 1 28 v1 rfl rfl))
  obtain ⟨r,hr⟩:=Dd (λ_=>w9) hx
  cases hr
  exact ⟨r,hp⟩
 obtain ⟨x0,hJ,hp0⟩:=r0
 obtain ⟨x1,hp1⟩:=r1
 clear hA0 hval0
 refine (KE hJ hp0 hp1 (.int _ _ x2)).mono λe W' ⟨he,hw⟩=>?_
 subst he
 have hlt:∀ x∈p0++(p1),x.block<W.heap.size:=λx hx=>by
  have:=hW'.lt x (by simpa using hx)
  simpa using this
 have c0:=Below.trod laidOut (by kernel_rfl) (of_decide_eq_true (by kernel_rfl)) h0 hw (λx hx=>hlt x (List.mem_append_left _ hx))
 have c1:=Below.trod laidOut (by kernel_rfl) (of_decide_eq_true (by kernel_rfl)) h1 hw (λx hx=>hlt x (List.mem_append_right _ (hx)))
 have s2:∀ n:Int,(Lit.int .i64 n).wf=true->DataW.Trod enc Tryz.prog W' 0 (λb=>decide (b<W.heap.size)) true 3 (.int .i64 n) (.lit (.int .i64 n)) []:=λn hn=>shut_int u3 hn
 have hall:DataW.TrodAll enc Tryz.prog W' 0 (λb=>decide (b<W.heap.size)) true [27,28,3] [v0,v1,.int .i64 x2] [d0,d1,.lit (.int .i64 x2)] (p0++(p1++([]++([])))) :=
  ⟨p0,_,c0,⟨p1,_,c1,⟨[],[],s2 x2 w2,rfl,rfl⟩,rfl⟩,rfl⟩
 refine ⟨_,rfl,_,_,_,[],_,[],hW',trodAll_mk1 (shut_bool u4 true),hall,rfl,hw.frame _,λh=>?_⟩
 cases h
def ZO:Tryz.pinned.checked.prog.funcNamed Rows.aloneLockedRow.func=some 3:=by kernel_rfl
def RP:Tryz.f3.isInstance Tryz.pinned.checked.prog Rows.aloneLockedRow.origin Rows.aloneLockedRow.targs:=of_decide_eq_true (by kernel_rfl)
def Ux:Tryz.f3.isWrapper Tryz.pinned.checked.prog Rows.aloneLockedRow.wrapper Rows.aloneLockedRow.mainSum:=by
 unfold Func.isWrapper
 first
 | (rw [if_pos (by decide +kernel)]; kernel_rfl)
 | (rw [if_neg (by decide +kernel)]; exact ⟨rfl,rfl⟩)
theorem aloneLocked_holds:Rows.AloneLockedSaid :=
 OpenClaim.holds_of_wide 3 Tryz.f3 rfl rfl rfl rfl rfl rfl rfl ⟨rfl,rfl,rfl,rfl,rfl⟩ rfl rfl rfl rfl rfl ZO Tryz.func3 Tz RP Ux
  (λos started H enc _=>lifted os started H enc)
end Go.Proofs.YtmajcicmbclkhaaGreat
