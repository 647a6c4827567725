/- Proves the statement MeetHas. -/
import Derived.Test.YtgoeonlbgdamhaaGreatRows
import Derived.ProofKit
import Derived.Test.YtgoeonlbgdamhaaGreatHaf
import Derived.Test.YtgoeonlbgdamhaaGreatHag
import Derived.Test.YtgoeonlbgdamhaaGreatHaq
import Derived.Test.YtgoeonlbgdamhaaGreatHbq
import Derived.Test.YtgoeonlbgdamhaaGreatHbr
set_option linter.all false
set_option maxRecDepth 100000
namespace Go.Sx
open Go Go.Proofs
def LH {w:World} {e:Ty} {v:Value} (h:Reads w (.slice e) v.cells.toList) (hv:∀ cs,v≠.agg cs):∃ x,Fit (.slice e) [x]/\PR w (TW w) false x v:=by
 obtain ⟨xs,h1,hs,hf,hp⟩:=h
 have hl:xs.length=1:=by rw [h1,hs]; rfl
 match xs,hl with
 | [x],_ =>
   refine ⟨x,hf,?_⟩
   cases v with
   | agg cs=>exact absurd rfl (hv cs)
   | _=>exact (hp 0 x _ rfl (by simp [Value.cells])).1
def ok_slice {P:Program} {w:World} {b:Nat} {t e:TypeId} {v:Value} (ht:P.underlying t=some (.slice e)) (h:Value.okWide P w .any b t v):∀ cs,v≠.agg cs:=by
 rintro cs rfl
 unfold Value.okWide at h
 rw [ht] at h
 simp [Cell.okWide,ht,Cell.ok] at h
theorem SK {G:Ga} {b:Bool} {u:Value} (h:VR G (.bool b) u):u=.bool b:=by
 cases h with
 | jn hp h=>cases h; rfl
def u7 {α:Type} (r:Row α):vm r r:=⟨rfl,Iff.rfl⟩
theorem Jo (p:bS):GX p p:=⟨u7 _,u7 _,u7 _,Iff.rfl,rfl,λ_ _ _=>⟨rfl,u7 _⟩,rfl,rfl,rfl,rfl,rfl⟩
def Nh {x:bS} (h:JG x):JG x.canon:=by
 refine ⟨h.1,?_⟩
 intro y hy
 simp only [bS.canon,Row.canon,Row.yD,List.mem_map] at hy
 obtain ⟨z,hz,rfl⟩:=hy
 exact h.2 z hz
def BA:Ty:=.struct [.slice HY,.slice .int,.slice (.slice .int),.slice (.slice .int),.int]
def DQ {cs:List AV} (h:Fit (.slice .int) cs):∃ r:Row Int,cs=kp iP r:=(nR (λ_=>nP) h).imp λ_ h=>h
def JT {cs:List AV} (h:Fit BA cs):∃ x:jz,cs=x.af:=by
 unfold BA Fit at h
 simp only [pT] at h
 obtain ⟨_,_,rfl,h1,_,_,rfl,h2,_,_,rfl,h3,_,_,rfl,h4,_,_,rfl,h5,rfl⟩:=h
 obtain ⟨a,rfl⟩:=nR (λ_=>La) h1
 obtain ⟨b,rfl⟩:=nR (λ_=>nP) h2
 obtain ⟨c,rfl⟩:=nR (λ_=>DQ) h3
 obtain ⟨d,rfl⟩:=nR (λ_=>DQ) h4
 obtain ⟨e,rfl⟩:=nP h5
 exact ⟨⟨a,b,c,d,e⟩,rfl⟩
def KQ {W:World} {v0 v1 v2 v3 v4:Value} {x0:bS} {x1:iI} {x2:Row jz} {x3:Int} {x4:Int} (hJ:JG x0) (g3:mf x3) (g4:mf x4) (h0:PR W (TW W) false (.agg x0.af) v0) (h1:PR W (TW W) false (.agg x1.af) v1) (h2:PR W (TW W) false (x2.av jz.af) v2) (h3:PR W (TW W) false (.int .i64 x3) v3) (h4:PR W (TW W) false (.int .i64 x4) v4) :
  Calls Tryz.prog 4 #[v0,v1,v2,v3,v4] W (λe W'=>e=.returned (.bool true)/\Go.RowKit.Below W.heap.size W W'):=by
 have h0:PR W (TW W) false (.agg x0.canon.af) v0:=by
  rw [<- FH (Jo x0)]
  exact h0.wk
 obtain ⟨v,⟨mm,hm⟩,r0,hr,rfl⟩:=t4 x0.canon x1 x2 x3 x4 x0.v8 (Nh hJ) (by have:=g4; unfold mf at this; omega) aT.empty
 subst hr
 have hc:=hm mm (Nat.le_refl _)
 have hW:WR (⟨W,TW W,aT.empty,λ_=>none,λ_=>none⟩:Ga):=by
  constructor
  ·intro b l g z xs h; cases h
  ·intro b l es c h; cases h
  ·intro d B cs h; cases h
  ·intro b l h; cases h
  ·intro b b' l l' h; cases h
  ·intro s b l h; cases h
  ·intro d d' B h; cases h
  ·intro s d B h; cases h
  ·intro d B b l h; cases h
  ·intro d B h; cases h
  ·intro s B h; exact h
  ·exact Nat.le_refl _
  ·intro b o h
   have:aT.empty.get b=none:=by
    unfold aT.get aT.empty
    cases Nat.ble 0 b<;>rfl
   rw [show (⟨W,TW W,aT.empty,λ_=>none,λ_=>none⟩:Ga).h=aT.empty from rfl,this] at h; cases h
 have hk:=oj X8 mm false 4 _ _ _ _ hc ⟨W,TW W,aT.empty,λ_=>none,λ_=>none⟩ #[v0,v1,v2,v3,v4] rfl rfl (λ_=>rfl) hW rfl (by
  intro i x y hx hy
  match i,hx,hy with
  | 0,hx,hy=>simp at hx hy; subst hx hy; exact h0.ve
  | 1,hx,hy=>simp at hx hy; subst hx hy; exact h1.ve
  | 2,hx,hy=>simp at hx hy; subst hx hy; exact h2.ve
  | 3,hx,hy=>simp at hx hy; subst hx hy; exact h3.ve
  | 4,hx,hy=>simp at hx hy; subst hx hy; exact h4.ve
  | n+5,hx,hy=>simp at hx)
 refine hk.2 _ ?_
 intro u G' hS _ _ hv
 refine ⟨by rw [SK (hv [] (λ_=>none))],hS.os,hS.tape,hS.output,hS.kV,λk hk=>hS.frame k hk (λb l h=>by cases h) (λd B h=>by cases h)⟩
end Go.Sx
namespace Go.Proofs.YtgoeonlbgdamhaaGreat
open Go.ChangeShapes Go.WideShapes Go.ChangeAt Go.RowKit
open Go.Sx
def own:ownKnob Tryz.prog.godebug=none:=by kernel_rfl
def laidOut:laidOutB Tryz.prog=true:=by kernel_rfl
theorem params3:Tryz.f4.params = #[27,31,50,3,3]:=by kernel_rfl
def u3:Tryz.prog.underlying 3=some (.int .i64):=by kernel_rfl
def u4:Tryz.prog.underlying 4=some .bool:=by kernel_rfl
def Vc:sX Tryz.prog CZ 27=true:=by kernel_rfl
def VB:sX Tryz.prog C2 31=true:=by kernel_rfl
def uT:Tryz.prog.underlying 50=some (.slice 57):=by kernel_rfl
def tyT:sX Tryz.prog (.slice BA) 50=true:=by kernel_rfl
def lifted (os:Os) (started:os.Started) (H:Type) (enc:TypeId×Value->H) :
  ReturnsInHanded {} Tryz.checked os 4 .any (Rows.meetHasSpec.pre6 enc Tryz.prog Tryz.f4 Rows.meetHasRow.domain false) (Rows.meetHasSpec.post enc Tryz.prog Tryz.f4 false true false false):=by
 refine returnsInHanded_of_change (C:=Tryz.checked) own started (by kernel_rfl) Tryz.func4
  (ChangeSpec.witness6 (enc:=enc) (C:=Tryz.checked) false ⟨#[],#[.agg #[.slice none 0 0,.slice none 0 0,.slice none 0 0,.slice none 0 0,.int .i64 0,.int .i64 0,.int .i64 0,.int .i64 0,.bool false],.agg #[.int .i64 0,.slice none 0 0,.slice none 0 0],.slice none 0 0,.int .i64 0,.int .i64 0],[]⟩ 8 (by kernel_rfl) (by kernel_rfl) (by kernel_rfl) (by kernel_rfl)) ?_
 intro W base args ds gs before hval0 hW hcnd _
 have hval:∀ (j:Nat) t v,Tryz.f4.params[j]?=some t->args[j]?=some v->Value.okWide Tryz.prog W .any base t v:=hval0
 have hW':=hW
 obtain ⟨p,q,hA0,hV,rfl,hfz,hnd⟩:=hW
 have hA:DataW.TrodAll enc Tryz.prog W 0 (λ_=>true) true Tryz.f4.params.toList args.toList ds p:=hA0
 rw [params3] at hA hval
 obtain ⟨v0,vs,d0,ds',p0,q0,hargs,rfl,rfl,h0,hA⟩:=trodAll_cons hA
 obtain ⟨v1,vs1,d1,ds1,p1,q1,rfl,rfl,rfl,h1,hA⟩:=trodAll_cons hA
 obtain ⟨v2,vs2,d2,ds2,p2,q2,rfl,rfl,rfl,h2,hA⟩:=trodAll_cons hA
 obtain ⟨v3,vs3,d3,ds3,p3,q3,rfl,rfl,rfl,h3,hA⟩:=trodAll_cons hA
 obtain ⟨v4,vs4,d4,ds4,p4,q4,rfl,rfl,rfl,h4,hA⟩:=trodAll_cons hA
 obtain ⟨rfl,rfl,rfl⟩:=trodAll_nil hA
 have hargs':args = #[v0,v1,v2,v3,v4]:=by cases args; simp_all
 subst hargs'
 obtain ⟨rfl,rfl⟩:=trodVars_none hV
 obtain ⟨x3,rfl,rfl,rfl,w3⟩:=open_int u3 (hval 3 3 v3 rfl rfl) h3
 obtain ⟨x4,rfl,rfl,rfl,w4⟩:=open_int u3 (hval 4 3 v4 rfl rfl) h4
 have r0:∃ x:bS,JG x/\PR W (TW W) false (.agg x.af) v0:=by
  obtain ⟨fuel,hf⟩:=h0
  obtain ⟨xs,hx,hp⟩:=CH (xa fuel CZ 27 _ _ Vc hf) (by decide)
  obtain ⟨x,rfl,hJ⟩:=K7 hx
  exact ⟨x,hJ,hp⟩
 have r1:∃ x:iI,PR W (TW W) false (.agg x.af) v1:=by
  obtain ⟨fuel,hf⟩:=h1
  obtain ⟨xs,hx,hp⟩:=CH (xa fuel C2 31 _ _ VB hf) (by decide)
  obtain ⟨x,rfl⟩:=Me hx
  exact ⟨x,hp⟩
 have r2:∃ r:Row jz,PR W (TW W) false (r.av jz.af) v2:=by
  obtain ⟨fuel,hf⟩:=h2
  obtain ⟨x,hx,hp⟩:=LH (xa fuel (.slice BA) 50 _ _ tyT hf) (ok_slice uT (hval 2 50 v2 rfl rfl))
  obtain ⟨r,hr⟩:=nR (λ_=>JT) hx
  cases hr
  exact ⟨r,hp⟩
 obtain ⟨x0,hJ,hp0⟩:=r0
 obtain ⟨x1,hp1⟩:=r1
 obtain ⟨x2,hp2⟩:=r2
 clear hA0 hval0
 have rg:∀ n:Int,(Lit.int .i64 n).wf=true->mf n:=λn hn=>by
  have e1:IntKind.i64.min = -9223372036854775808:=by decide
  have e2:IntKind.i64.max=9223372036854775807:=by decide
  simp only [Lit.wf,e1,e2,Bool.and_eq_true,decide_eq_true_eq] at hn
  exact hn
 refine (KQ hJ (rg _ w3) (rg _ w4) hp0 hp1 hp2 (.int _ _ x3) (.int _ _ x4)).mono λe W' ⟨he,hw⟩=>?_
 subst he
 have hlt:∀ x∈p0++(p1++(p2)),x.block<W.heap.size:=λx hx=>by
  have:=hW'.lt x (by simpa using hx)
  simpa using this
 have c0:=Below.trod laidOut (by kernel_rfl) (of_decide_eq_true (by kernel_rfl)) h0 hw (λx hx=>hlt x (List.mem_append_left _ hx))
 have c1:=Below.trod laidOut (by kernel_rfl) (of_decide_eq_true (by kernel_rfl)) h1 hw (λx hx=>hlt x (List.mem_append_right _ (List.mem_append_left _ hx)))
 have c2:=Below.trod laidOut (by kernel_rfl) (of_decide_eq_true (by kernel_rfl)) h2 hw (λx hx=>hlt x (List.mem_append_right _ (List.mem_append_right _ (hx))))
 have s2:∀ n:Int,(Lit.int .i64 n).wf=true->DataW.Trod enc Tryz.prog W' 0 (λb=>decide (b<W.heap.size)) true 3 (.int .i64 n) (.lit (.int .i64 n)) []:=λn hn=>shut_int u3 hn
 have hall:DataW.TrodAll enc Tryz.prog W' 0 (λb=>decide (b<W.heap.size)) true [27,31,50,3,3] [v0,v1,v2,.int .i64 x3,.int .i64 x4] [d0,d1,d2,.lit (.int .i64 x3),.lit (.int .i64 x4)] (p0++(p1++(p2++([]++([]++([])))))) :=
  ⟨p0,_,c0,⟨p1,_,c1,⟨p2,_,c2,⟨[],_,s2 x3 w3,⟨[],[],s2 x4 w4,rfl,rfl⟩,rfl⟩,rfl⟩,rfl⟩,rfl⟩
 refine ⟨_,rfl,_,_,_,[],_,[],hW',trodAll_mk1 (shut_bool u4 true),hall,rfl,hw.frame _,λh=>?_⟩
 cases h
def adY:Tryz.pinned.checked.prog.funcNamed Rows.meetHasRow.func=some 4:=by kernel_rfl
def TS:Tryz.f4.isInstance Tryz.pinned.checked.prog Rows.meetHasRow.origin Rows.meetHasRow.targs:=of_decide_eq_true (by kernel_rfl)
def TJ:Tryz.f4.isWrapper Tryz.pinned.checked.prog Rows.meetHasRow.wrapper Rows.meetHasRow.mainSum:=by
 unfold Func.isWrapper
 first
 | (rw [if_pos (by decide +kernel)]; kernel_rfl)
 | (rw [if_neg (by decide +kernel)]; exact ⟨rfl,rfl⟩)
theorem meetHas_holds:Rows.MeetHasSaid :=
 OpenClaim.holds_of_wide 4 Tryz.f4 rfl rfl rfl rfl rfl rfl rfl ⟨rfl,rfl,rfl,rfl,rfl⟩ rfl rfl rfl rfl rfl adY Tryz.func4 TZ TS TJ
  (λos started H enc _=>lifted os started H enc)
end Go.Proofs.YtgoeonlbgdamhaaGreat
