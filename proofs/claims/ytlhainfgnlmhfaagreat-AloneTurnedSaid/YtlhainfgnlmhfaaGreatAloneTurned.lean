/- Proves the statement AloneTurned. -/
import Derived.Test.YtlhainfgnlmhfaaGreatRows
import Derived.ProofKit
import Derived.Test.YtlhainfgnlmhfaaGreatTaf
import Derived.Test.YtlhainfgnlmhfaaGreatTaq
import Derived.Test.YtlhainfgnlmhfaaGreatTbf
import Derived.Test.YtlhainfgnlmhfaaGreatTbg
set_option linter.all false
set_option maxRecDepth 100000
namespace Go.Sx
open Go Go.Proofs
theorem HJ {G:Ga} {b:Bool} {u:Value} (h:VR G (.bool b) u):u=.bool b:=by
 cases h with
 | fp hp h=>cases h; rfl
theorem AA {W:World} {v0 v1 v2 v3 v4 v5:Value} {p:eb} {d:eS} {a b c:Int} {bd:fi} (h0:PR W (TW W) false (.agg p.cells) v0) (h1:PR W (TW W) false (.agg d.cells) v1) (h2:PR W (TW W) false (.int .i64 a) v2) (h3:PR W (TW W) false (.int .i64 b) v3) (h4:PR W (TW W) false (.int .i64 c) v4) (h5:PR W (TW W) false (.agg bd.cells) v5) :
  Calls Tryz.prog 3 #[v0,v1,v2,v3,v4,v5] W (fun e W'=>e=.returned (.bool true)∧Go.RowKit.Below W.heap.size W W'):=by
 obtain ⟨v,⟨m,hm⟩,r0,hr,rfl⟩:=t3 p d a b c bd bY.empty
 subst hr
 have hc:=hm m (Nat.le_refl _)
 have hW:WR (⟨W,TW W,bY.empty,fun _=>none,fun _=>none⟩:Ga):=by
  constructor
  ·intro b l g z xs h; cases h
  ·intro b l es c h; cases h
  ·intro d B cs h; cases h
  ·intro b l h; cases h
  ·intro b b' l l' h; cases h
  ·intro s b l h; cases h
  ·intro d d' B h; cases h
  ·intro s d B h; cases h
  ·intro d B b l h; cases h
  ·intro d B h; cases h
  ·intro s B h; exact h
  ·exact Nat.le_refl _
  ·intro b o h
   have:bY.empty.get b=none:=by
    unfold bY.get bY.empty
    cases Nat.ble 0 b<;>rfl
   rw [show (⟨W,TW W,bY.empty,fun _=>none,fun _=>none⟩:Ga).h=bY.empty from rfl,this] at h; cases h
 have hk:=mI Q3 m false 3 _ _ _ _ hc ⟨W,TW W,bY.empty,fun _=>none,fun _=>none⟩ #[v0,v1,v2,v3,v4,v5] rfl rfl (fun _=>rfl) hW rfl (by
  intro i x y hx hy
  match i,hx,hy with
  | 0,hx,hy=>simp at hx hy; subst hx hy; exact h0.nY
  | 1,hx,hy=>simp at hx hy; subst hx hy; exact h1.nY
  | 2,hx,hy=>simp at hx hy; subst hx hy; exact h2.nY
  | 3,hx,hy=>simp at hx hy; subst hx hy; exact h3.nY
  | 4,hx,hy=>simp at hx hy; subst hx hy; exact h4.nY
  | 5,hx,hy=>simp at hx hy; subst hx hy; exact h5.nY
  | n+6,hx,hy=>simp at hx)
 refine hk.2 _ ?_
 intro u G' hS _ _ hv
 refine ⟨by rw [HJ (hv [] (fun _=>none))],hS.os,hS.tape,hS.output,hS.gG,fun k hk=>hS.frame k hk (fun b l h=>by cases h) (fun d B h=>by cases h)⟩
end Go.Sx
namespace Go.Proofs.YtlhainfgnlmhfaaGreat
open Go.ChangeShapes Go.WideShapes Go.ChangeAt Go.RowKit
open Go.Sx
theorem own:ownKnob Tryz.prog.godebug=none:=by kernel_rfl
theorem laidOut:laidOutB Tryz.prog=true:=by kernel_rfl
theorem params3:Tryz.f3.params = #[27,31,3,3,3,34]:=by kernel_rfl
theorem u3:Tryz.prog.underlying 3=some (.int .i64):=by kernel_rfl
theorem u4:Tryz.prog.underlying 4=some .bool:=by kernel_rfl
theorem IZ:m3 Tryz.prog vH 27=true:=by kernel_rfl
theorem KW:m3 Tryz.prog vE 31=true:=by kernel_rfl
theorem Jl:m3 Tryz.prog vD 34=true:=by kernel_rfl
theorem ve (os:Os) (started:os.Started) (H:Type) (enc:TypeId×Value→H) :
  ReturnsInHanded {} Tryz.checked os 3 .any (Rows.aloneTurnedSpec.pre6 enc Tryz.prog Tryz.f3 Rows.aloneTurnedRow.domain false) (Rows.aloneTurnedSpec.post enc Tryz.prog Tryz.f3 false true false false):=by
 refine returnsInHanded_of_change (C:=Tryz.checked) own started (by kernel_rfl) Tryz.func3
  (ChangeSpec.witness6 (enc:=enc) (C:=Tryz.checked) false ⟨#[],#[.agg #[.slice none 0 0,.slice none 0 0,.slice none 0 0,.slice none 0 0,.int .i64 0,.int .i64 0,.int .i64 0,.int .i64 0,.bool false],.agg #[.int .i64 0,.slice none 0 0,.slice none 0 0],.int .i64 0,.int .i64 0,.int .i64 0,.agg #[.int .i64 0,.slice none 0 0,.int .i64 0,.int .i64 0,.int .i64 0]],[]⟩ 8 (by kernel_rfl) (by kernel_rfl) (by kernel_rfl) (by kernel_rfl)) ?_
 intro W base args ds gs before hval0 hW hcnd _
 have hval:∀ (j:Nat) t v,Tryz.f3.params[j]?=some t→args[j]?=some v→Value.okWide Tryz.prog W .any base t v:=hval0
 have hW':=hW
 obtain ⟨p,q,hA0,hV,rfl,hfz,hnd⟩:=hW
 have hA:DataW.TrodAll enc Tryz.prog W 0 (fun _=>true) true Tryz.f3.params.toList args.toList ds p:=hA0
 rw [params3] at hA hval
 obtain ⟨v0,vs,d0,ds',p0,q0,hargs,rfl,rfl,h0,hA⟩:=trodAll_cons hA
 obtain ⟨v1,vs1,d1,ds1,p1,q1,rfl,rfl,rfl,h1,hA⟩:=trodAll_cons hA
 obtain ⟨v2,vs2,d2,ds2,p2,q2,rfl,rfl,rfl,h2,hA⟩:=trodAll_cons hA
 obtain ⟨v3,vs3,d3,ds3,p3,q3,rfl,rfl,rfl,h3,hA⟩:=trodAll_cons hA
 obtain ⟨v4,vs4,d4,ds4,p4,q4,rfl,rfl,rfl,h4,hA⟩:=trodAll_cons hA
 obtain ⟨v5,vs5,d5,ds5,p5,q5,rfl,rfl,rfl,h5,hA⟩:=trodAll_cons hA
 obtain ⟨rfl,rfl,rfl⟩:=trodAll_nil hA
 have hargs':args = #[v0,v1,v2,v3,v4,v5]:=by cases args; simp_all
 subst hargs'
 obtain ⟨rfl,rfl⟩:=trodVars_none hV
 obtain ⟨a,rfl,rfl,rfl,wa⟩:=open_int u3 (hval 2 3 v2 rfl rfl) h2
 obtain ⟨b,rfl,rfl,rfl,wb⟩:=open_int u3 (hval 3 3 v3 rfl rfl) h3
 obtain ⟨c,rfl,rfl,rfl,wc⟩:=open_int u3 (hval 4 3 v4 rfl rfl) h4
 have r0:∃ x:eb,PR W (TW W) false (.agg x.cells) v0:=by
  obtain ⟨fuel,hf⟩:=h0
  obtain ⟨xs,hx,hp⟩:=rk (qu fuel vH 27 _ _ IZ hf) (by decide)
  obtain ⟨x,rfl⟩:=BD hx
  exact ⟨x,hp⟩
 have r1:∃ x:eS,PR W (TW W) false (.agg x.cells) v1:=by
  obtain ⟨fuel,hf⟩:=h1
  obtain ⟨xs,hx,hp⟩:=rk (qu fuel vE 31 _ _ KW hf) (by decide)
  obtain ⟨x,rfl⟩:=Dm hx
  exact ⟨x,hp⟩
 have r5:∃ x:fi,PR W (TW W) false (.agg x.cells) v5:=by
  obtain ⟨fuel,hf⟩:=h5
  obtain ⟨xs,hx,hp⟩:=rk (qu fuel vD 34 _ _ Jl hf) (by decide)
  obtain ⟨x,rfl⟩:=Dy hx
  exact ⟨x,hp⟩
 obtain ⟨xp,hp0⟩:=r0
 obtain ⟨xd,hp1⟩:=r1
 obtain ⟨xb,hp5⟩:=r5
 clear hA0 hval0
 refine (AA hp0 hp1 (.int _ _ a) (.int _ _ b) (.int _ _ c) hp5).mono fun e W' ⟨he,hw⟩=>?_
 subst he
 have hlt:∀ x∈p0++(p1++p5),x.block<W.heap.size:=fun x hx=>by
  have:=hW'.lt x (by simpa using hx)
  simpa using this
 have c0:=Below.trod laidOut (by kernel_rfl) (of_decide_eq_true (by kernel_rfl)) h0 hw (fun x hx=>hlt x (List.mem_append_left _ hx))
 have c1:=Below.trod laidOut (by kernel_rfl) (of_decide_eq_true (by kernel_rfl)) h1 hw (fun x hx=>hlt x (List.mem_append_right _ (List.mem_append_left _ hx)))
 have c5:=Below.trod laidOut (by kernel_rfl) (of_decide_eq_true (by kernel_rfl)) h5 hw (fun x hx=>hlt x (List.mem_append_right _ (List.mem_append_right _ hx)))
 have s2:∀ n:Int,(Lit.int .i64 n).wf=true→DataW.Trod enc Tryz.prog W' 0 (fun b=>decide (b<W.heap.size)) true 3 (.int .i64 n) (.lit (.int .i64 n)) []:=fun n hn=>shut_int u3 hn
 have hall:DataW.TrodAll enc Tryz.prog W' 0 (fun b=>decide (b<W.heap.size)) true [27,31,3,3,3,34] [v0,v1,.int .i64 a,.int .i64 b,.int .i64 c,v5] [d0,d1,.lit (.int .i64 a),.lit (.int .i64 b),.lit (.int .i64 c),d5] (p0++(p1++([]++([]++([]++(p5++[])))))) :=
  ⟨p0,_,c0,⟨p1,_,c1,⟨[],_,s2 a wa,⟨[],_,s2 b wb,⟨[],_,s2 c wc,⟨p5,[],c5,rfl,rfl⟩,rfl⟩,rfl⟩,rfl⟩,rfl⟩,rfl⟩
 refine ⟨_,rfl,_,_,_,[],_,[],hW',trodAll_mk1 (shut_bool u4 true),hall,rfl,hw.frame _,fun h=>?_⟩
 cases h
theorem UF:Tryz.pinned.checked.prog.funcNamed Rows.aloneTurnedRow.func=some 3:=by kernel_rfl
theorem Ks:Tryz.f3.isInstance Tryz.pinned.checked.prog Rows.aloneTurnedRow.origin Rows.aloneTurnedRow.targs:=of_decide_eq_true (by kernel_rfl)
theorem Kb:Tryz.f3.isWrapper Tryz.pinned.checked.prog Rows.aloneTurnedRow.wrapper Rows.aloneTurnedRow.mainSum:=by
 unfold Func.isWrapper
 first
 | (rw [if_pos (by decide +kernel)]; kernel_rfl)
 | (rw [if_neg (by decide +kernel)]; exact ⟨rfl,rfl⟩)
theorem aloneTurned_holds:Rows.AloneTurnedSaid :=
 OpenClaim.holds_of_wide 3 Tryz.f3 rfl rfl rfl rfl rfl rfl rfl ⟨rfl,rfl,rfl,rfl,rfl⟩ rfl rfl rfl rfl rfl UF Tryz.func3 Kz Ks Kb
  (fun os started H enc _=>ve os started H enc)
end Go.Proofs.YtlhainfgnlmhfaaGreat
