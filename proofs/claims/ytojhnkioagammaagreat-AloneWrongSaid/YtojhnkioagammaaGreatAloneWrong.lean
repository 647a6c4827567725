/- Proves the statement AloneWrong. -/
import Derived.Test.YtojhnkioagammaaGreatRows
import Derived.ProofKit
import Derived.Test.YtojhnkioagammaaGreatTaf
import Derived.Test.YtojhnkioagammaaGreatTas
import Derived.Test.YtojhnkioagammaaGreatTbh
import Derived.Test.YtojhnkioagammaaGreatTbi
set_option linter.all false
set_option maxRecDepth 100000
namespace Go.Sx
open Go Go.Proofs
theorem IE {w:World} {e:Ty} {v:Value} (h:Reads w (.slice e) v.cells.toList) (hv:∀ cs,v≠.agg cs):∃ x,Fit (.slice e) [x]∧PR w (TW w) false x v:=by
 obtain ⟨xs,h1,hs,hf,hp⟩:=h
 have hl:xs.length=1:=by rw [h1,hs]; rfl
 match xs,hl with
 | [x],_ =>
   refine ⟨x,hf,?_⟩
   cases v with
   | agg cs=>exact absurd rfl (hv cs)
   | _=>exact (hp 0 x _ rfl (by simp [Value.cells])).1
theorem ok_slice {P:Program} {w:World} {b:Nat} {t e:TypeId} {v:Value} (ht:P.underlying t=some (.slice e)) (h:Value.okWide P w .any b t v):∀ cs,v≠.agg cs:=by
 rintro cs rfl
 unfold Value.okWide at h
 rw [ht] at h
 simp [Cell.okWide,ht,Cell.ok] at h
theorem LU {G:Ga} {b:Bool} {u:Value} (h:VR G (.bool b) u):u=.bool b:=by
 cases h with
 | gF hp h=>cases h; rfl
theorem rk {α:Type} (r:Row α):rW r r:=⟨rfl,Iff.rfl⟩
theorem EI (p:fh):CF p p:=⟨rk _,rk _,rk _,Iff.rfl,rfl,fun _ _ _=>⟨rfl,rk _⟩,rfl,rfl,rfl,rfl,rfl⟩
theorem FL {W:World} {v0 v1 v2:Value} {x:fh} {d:gp} {l:Row Int} (h0:PR W (TW W) false (.agg x.cells) v0) (h1:PR W (TW W) false (.agg d.cells) v1) (h2:PR W (TW W) false (l.av fu) v2) :
  Calls Tryz.prog 3 #[v0,v1,v2] W (fun e W'=>e=.returned (.bool true)∧Go.RowKit.Below W.heap.size W W'):=by
 have h0:PR W (TW W) false (.agg x.canon.cells) v0:=by
  rw [← BC (EI x)]
  exact h0.wk
 obtain ⟨v,⟨m,hm⟩,r0,hr,rfl⟩:=t3 x.canon d l x.sF ah.empty
 subst hr
 have hc:=hm m (Nat.le_refl _)
 have hW:WR (⟨W,TW W,ah.empty,fun _=>none,fun _=>none⟩:Ga):=by
  constructor
  ·intro b l g z xs h; cases h
  ·intro b l es c h; cases h
  ·intro d B cs h; cases h
  ·intro b l h; cases h
  ·intro b b' l l' h; cases h
  ·intro s b l h; cases h
  ·intro d d' B h; cases h
  ·intro s d B h; cases h
  ·intro d B b l h; cases h
  ·intro d B h; cases h
  ·intro s B h; exact h
  ·exact Nat.le_refl _
  ·intro b o h
   have:ah.empty.get b=none:=by
    unfold ah.get ah.empty
    cases Nat.ble 0 b<;>rfl
   rw [show (⟨W,TW W,ah.empty,fun _=>none,fun _=>none⟩:Ga).h=ah.empty from rfl,this] at h; cases h
 have hk:=nJ Tv m false 3 _ _ _ _ hc ⟨W,TW W,ah.empty,fun _=>none,fun _=>none⟩ #[v0,v1,v2] rfl rfl (fun _=>rfl) hW rfl (by
  intro i x y hx hy
  match i,hx,hy with
  | 0,hx,hy=>simp at hx hy; subst hx hy; exact h0.uB
  | 1,hx,hy=>simp at hx hy; subst hx hy; exact h1.uB
  | 2,hx,hy=>simp at hx hy; subst hx hy; exact h2.uB
  | n+3,hx,hy=>simp at hx)
 refine hk.2 _ ?_
 intro u G' hS _ _ hv
 refine ⟨by rw [LU (hv [] (fun _=>none))],hS.os,hS.tape,hS.output,hS.iX,fun k hk=>hS.frame k hk (fun b l h=>by cases h) (fun d B h=>by cases h)⟩
end Go.Sx
namespace Go.Proofs.YtojhnkioagammaaGreat
open Go.ChangeShapes Go.WideShapes Go.ChangeAt Go.RowKit
open Go.Sx
theorem own:ownKnob Tryz.prog.godebug=none:=by kernel_rfl
theorem laidOut:laidOutB Tryz.prog=true:=by kernel_rfl
theorem params3:Tryz.f3.params = #[27,31,32]:=by kernel_rfl
theorem u32:Tryz.prog.underlying 32=some (.slice 3):=by kernel_rfl
theorem u4:Tryz.prog.underlying 4=some .bool:=by kernel_rfl
theorem Pc:pI Tryz.prog zb 27=true:=by kernel_rfl
theorem RF:pI Tryz.prog yZ 31=true:=by kernel_rfl
theorem Pz:pI Tryz.prog (.slice .int) 32=true:=by kernel_rfl
theorem Ay (os:Os) (started:os.Started) (H:Type) (enc:TypeId×Value→H) :
  ReturnsInHanded {} Tryz.checked os 3 .any (Rows.aloneWrongSpec.pre6 enc Tryz.prog Tryz.f3 Rows.aloneWrongRow.domain false) (Rows.aloneWrongSpec.post enc Tryz.prog Tryz.f3 false true false false):=by
 refine returnsInHanded_of_change (C:=Tryz.checked) own started (by kernel_rfl) Tryz.func3
  (ChangeSpec.witness6 (enc:=enc) (C:=Tryz.checked) false ⟨#[],#[.agg #[.slice none 0 0,.slice none 0 0,.slice none 0 0,.slice none 0 0,.int .i64 0,.int .i64 0,.int .i64 0,.int .i64 0,.bool false],.agg #[.int .i64 0,.slice none 0 0,.slice none 0 0],.slice none 0 0],[]⟩ 8 (by kernel_rfl) (by kernel_rfl) (by kernel_rfl) (by kernel_rfl)) ?_
 intro W base args ds gs before hval0 hW hcnd _
 have hval:∀ (j:Nat) t v,Tryz.f3.params[j]?=some t→args[j]?=some v→Value.okWide Tryz.prog W .any base t v:=hval0
 have hW':=hW
 obtain ⟨p,q,hA0,hV,rfl,hfz,hnd⟩:=hW
 have hA:DataW.TrodAll enc Tryz.prog W 0 (fun _=>true) true Tryz.f3.params.toList args.toList ds p:=hA0
 rw [params3] at hA hval
 obtain ⟨v0,vs,d0,ds',p0,q0,hargs,rfl,rfl,h0,hA⟩:=trodAll_cons hA
 obtain ⟨v1,vs1,d1,ds1,p1,q1,rfl,rfl,rfl,h1,hA⟩:=trodAll_cons hA
 obtain ⟨v2,vs2,d2,ds2,p2,q2,rfl,rfl,rfl,h2,hA⟩:=trodAll_cons hA
 obtain ⟨rfl,rfl,rfl⟩:=trodAll_nil hA
 have hargs':args = #[v0,v1,v2]:=by cases args; simp_all
 subst hargs'
 obtain ⟨rfl,rfl⟩:=trodVars_none hV
 have r0:∃ x:fh,PR W (TW W) false (.agg x.cells) v0:=by
  obtain ⟨fuel,hf⟩:=h0
  obtain ⟨xs,hx,hp⟩:=yu (tu fuel zb 27 _ _ Pc hf) (by decide)
  obtain ⟨x,rfl⟩:=IX hx
  exact ⟨x,hp⟩
 have r1:∃ x:gp,PR W (TW W) false (.agg x.cells) v1:=by
  obtain ⟨fuel,hf⟩:=h1
  obtain ⟨xs,hx,hp⟩:=yu (tu fuel yZ 31 _ _ RF hf) (by decide)
  obtain ⟨x,rfl⟩:=HN hx
  exact ⟨x,hp⟩
 have r2:∃ r:Row Int,PR W (TW W) false (r.av fu) v2:=by
  obtain ⟨fuel,hf⟩:=h2
  obtain ⟨x,hx,hp⟩:=IE (tu fuel (.slice .int) 32 _ _ Pz hf) (ok_slice u32 (hval 2 32 v2 rfl rfl))
  obtain ⟨r,hr⟩:=nj (fun _=>o7) hx
  cases hr
  exact ⟨r,hp⟩
 obtain ⟨xp,hp0⟩:=r0
 obtain ⟨xd,hp1⟩:=r1
 obtain ⟨xl,hp2⟩:=r2
 clear hA0 hval0
 refine (FL hp0 hp1 hp2).mono fun e W' ⟨he,hw⟩=>?_
 subst he
 have hlt:∀ x∈p0++(p1++p2),x.block<W.heap.size:=fun x hx=>by
  have:=hW'.lt x (by simpa using hx)
  simpa using this
 have c0:=Below.trod laidOut (by kernel_rfl) (of_decide_eq_true (by kernel_rfl)) h0 hw (fun x hx=>hlt x (List.mem_append_left _ hx))
 have c1:=Below.trod laidOut (by kernel_rfl) (of_decide_eq_true (by kernel_rfl)) h1 hw (fun x hx=>hlt x (List.mem_append_right _ (List.mem_append_left _ hx)))
 have c2:=Below.trod laidOut (by kernel_rfl) (of_decide_eq_true (by kernel_rfl)) h2 hw (fun x hx=>hlt x (List.mem_append_right _ (List.mem_append_right _ hx)))
 have hall:DataW.TrodAll enc Tryz.prog W' 0 (fun b=>decide (b<W.heap.size)) true [27,31,32] [v0,v1,v2] [d0,d1,d2] (p0++(p1++(p2++[]))) :=
  ⟨p0,_,c0,⟨p1,_,c1,⟨p2,[],c2,rfl,rfl⟩,rfl⟩,rfl⟩
 refine ⟨_,rfl,_,_,_,[],_,[],hW',trodAll_mk1 (shut_bool u4 true),hall,rfl,hw.frame _,fun h=>?_⟩
 cases h
theorem ach:Tryz.pinned.checked.prog.funcNamed Rows.aloneWrongRow.func=some 3:=by kernel_rfl
theorem Rp:Tryz.f3.isInstance Tryz.pinned.checked.prog Rows.aloneWrongRow.origin Rows.aloneWrongRow.targs:=of_decide_eq_true (by kernel_rfl)
theorem OM:Tryz.f3.isWrapper Tryz.pinned.checked.prog Rows.aloneWrongRow.wrapper Rows.aloneWrongRow.mainSum:=by
 unfold Func.isWrapper
 first
 | (rw [if_pos (by decide +kernel)]; kernel_rfl)
 | (rw [if_neg (by decide +kernel)]; exact ⟨rfl,rfl⟩)
theorem aloneWrong_holds:Rows.AloneWrongSaid :=
 OpenClaim.holds_of_wide 3 Tryz.f3 rfl rfl rfl rfl rfl rfl rfl ⟨rfl,rfl,rfl,rfl,rfl⟩ rfl rfl rfl rfl rfl ach Tryz.func3 QC Rp OM
  (fun os started H enc _=>Ay os started H enc)
end Go.Proofs.YtojhnkioagammaaGreat
