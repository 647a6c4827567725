/- Proves the statement OfficeTold. -/
import Derived.Test.YtihofefpkjfmnaaGreatRows
import Derived.ProofKit
import Derived.Test.YtihofefpkjfmnaaGreatTaf
import Derived.Test.YtihofefpkjfmnaaGreatTau
import Derived.Test.YtihofefpkjfmnaaGreatTba
import Derived.Test.YtihofefpkjfmnaaGreatTbb
set_option linter.all false
set_option maxRecDepth 100000
namespace Go.Sx
open Go Go.Proofs
def Dx {w:World} {e:Ty} {v:Value} (h:Reads w (.slice e) v.cells.toList) (hv:∀ cs,v≠.agg cs):∃ x,Fit (.slice e) [x]/\PR w (TW w) false x v:=by
 obtain ⟨xs,h1,hs,hf,hp⟩:=h
 have hl:xs.length=1:=by rw [h1,hs]; rfl
 match xs,hl with
 | [x],_ =>
   refine ⟨x,hf,?_⟩
   cases v with
   | agg cs=>exact absurd rfl (hv cs)
   | _=>exact (hp 0 x _ rfl (by simp [Value.cells])).1
def ok_slice {P:Program} {w:World} {b:Nat} {t e:TypeId} {v:Value} (ht:P.underlying t=some (.slice e)) (h:Value.okWide P w .any b t v):∀ cs,v≠.agg cs:=by
 rintro cs rfl
 unfold Value.okWide at h
 rw [ht] at h
 simp [Cell.okWide,ht,Cell.ok] at h
theorem Px {G:Ga} {b:Bool} {u:Value} (h:VR G (.bool b) u):u=.bool b:=by
 cases h with
 | lD hp h=>cases h; rfl
def vC {α:Type} (r:Row α):wF r r:=⟨rfl,Iff.rfl⟩
theorem Kj (p:iF):Gz p p:=⟨vC _,vC _,vC _,Iff.rfl,rfl,λ_ _ _=>⟨rfl,vC _⟩,rfl,rfl,rfl,rfl,rfl⟩
def Mp {x:iF} (h:JG x):JG x.canon:=by
 refine ⟨h.1,?_⟩
 intro y hy
 simp only [iF.canon,Row.canon,Row.xP,List.mem_map] at hy
 obtain ⟨z,hz,rfl⟩:=hy
 exact h.2 z hz
def VZ {P:Program} {w:World} {b:Nat} {t:TypeId} {v:Value} (ht:P.underlying t=some (.int .u8)) (h:Value.okWide P w .any b t v):∃ n,v=.int .u8 n/\0<=n/\n<=255:=by
 unfold Value.okWide at h
 rw [ht] at h
 unfold Cell.okWide at h
 rw [ht] at h
 cases v<;>simp [Cell.ok,ht] at h
 obtain ⟨rfl,h1,h2⟩:=h
 exact ⟨_,rfl,h1,h2⟩
def KQ {W:World} {v0 v1 v2 v3 v4:Value} {x:iF} {d:jV} {l:Row Int} {n:Int} {m:Row Int} (hJ:JG x) (hn:0<=n/\n<=255) (h0:PR W (TW W) false (.agg x.ag) v0) (h1:PR W (TW W) false (.agg d.ag) v1) (h2:PR W (TW W) false (l.av j6) v2) (h3:PR W (TW W) false (.int .u8 n) v3) (h4:PR W (TW W) false (m.av j6) v4) :
  Calls Tryz.prog 4 #[v0,v1,v2,v3,v4] W (λe W'=>e=.returned (.bool true)/\Go.RowKit.Below W.heap.size W W'):=by
 have h0:PR W (TW W) false (.agg x.canon.ag) v0:=by
  rw [<- FB (Kj x)]
  exact h0.wk
 obtain ⟨v,⟨mm,hm⟩,r0,hr,rfl⟩:=t4 x.canon d l n m x.wK (Mp hJ) hn aT.empty
 subst hr
 have hc:=hm mm (Nat.le_refl _)
 have hW:WR (⟨W,TW W,aT.empty,λ_=>none,λ_=>none⟩:Ga):=by
  constructor
  ·intro b l g z xs h; cases h
  ·intro b l es c h; cases h
  ·intro d B cs h; cases h
  ·intro b l h; cases h
  ·intro b b' l l' h; cases h
  ·intro s b l h; cases h
  ·intro d d' B h; cases h
  ·intro s d B h; cases h
  ·intro d B b l h; cases h
  ·intro d B h; cases h
  ·intro s B h; exact h
  ·exact Nat.le_refl _
  ·intro b o h
   have:aT.empty.get b=none:=by
    unfold aT.get aT.empty
    cases Nat.ble 0 b<;>rfl
   rw [show (⟨W,TW W,aT.empty,λ_=>none,λ_=>none⟩:Ga).h=aT.empty from rfl,this] at h; cases h
 have hk:=wo Vn mm false 4 _ _ _ _ hc ⟨W,TW W,aT.empty,λ_=>none,λ_=>none⟩ #[v0,v1,v2,v3,v4] rfl rfl (λ_=>rfl) hW rfl (by
  intro i x y hx hy
  match i,hx,hy with
  | 0,hx,hy=>simp at hx hy; subst hx hy; exact h0.wq
  | 1,hx,hy=>simp at hx hy; subst hx hy; exact h1.wq
  | 2,hx,hy=>simp at hx hy; subst hx hy; exact h2.wq
  | 3,hx,hy=>simp at hx hy; subst hx hy; exact h3.wq
  | 4,hx,hy=>simp at hx hy; subst hx hy; exact h4.wq
  | n+5,hx,hy=>simp at hx)
 refine hk.2 _ ?_
 intro u G' hS _ _ hv
 refine ⟨by rw [Px (hv [] (λ_=>none))],hS.os,hS.tape,hS.output,hS.nh,λk hk=>hS.frame k hk (λb l h=>by cases h) (λd B h=>by cases h)⟩
end Go.Sx
namespace Go.Proofs.YtihofefpkjfmnaaGreat
open Go.ChangeShapes Go.WideShapes Go.ChangeAt Go.RowKit
open Go.Sx
def own:ownKnob Tryz.prog.godebug=none:=by kernel_rfl
def laidOut:laidOutB Tryz.prog=true:=by kernel_rfl
theorem params3:Tryz.f4.params = #[27,31,44,5,44]:=by kernel_rfl
def Wm:Tryz.prog.underlying 44=some (.slice 3):=by kernel_rfl
def u4:Tryz.prog.underlying 4=some .bool:=by kernel_rfl
def u5:Tryz.prog.underlying 5=some (.int .u8):=by kernel_rfl
def Q1:ue Tryz.prog CL 27=true:=by kernel_rfl
def Rw:ue Tryz.prog CS 31=true:=by kernel_rfl
def Ki:ue Tryz.prog (.slice .int) 44=true:=by kernel_rfl
def EH (os:Os) (started:os.Started) (H:Type) (enc:TypeId×Value->H) :
  ReturnsInHanded {} Tryz.checked os 4 .any (Rows.officeToldSpec.pre6 enc Tryz.prog Tryz.f4 Rows.officeToldRow.domain false) (Rows.officeToldSpec.post enc Tryz.prog Tryz.f4 false true false false):=by
 refine returnsInHanded_of_change (C:=Tryz.checked) own started (by kernel_rfl) Tryz.func4
  (ChangeSpec.witness6 (enc:=enc) (C:=Tryz.checked) false ⟨#[],#[.agg #[.slice none 0 0,.slice none 0 0,.slice none 0 0,.slice none 0 0,.int .i64 0,.int .i64 0,.int .i64 0,.int .i64 0,.bool false],.agg #[.int .i64 0,.slice none 0 0,.slice none 0 0],.slice none 0 0,.int .u8 0,.slice none 0 0],[]⟩ 8 (by kernel_rfl) (by kernel_rfl) (by kernel_rfl) (by kernel_rfl)) ?_
 intro W base args ds gs before hval0 hW hcnd _
 have hval:∀ (j:Nat) t v,Tryz.f4.params[j]?=some t->args[j]?=some v->Value.okWide Tryz.prog W .any base t v:=hval0
 have hW':=hW
 obtain ⟨p,q,hA0,hV,rfl,hfz,hnd⟩:=hW
 have hA:DataW.TrodAll enc Tryz.prog W 0 (λ_=>true) true Tryz.f4.params.toList args.toList ds p:=hA0
 rw [params3] at hA hval
 obtain ⟨v0,vs,d0,ds',p0,q0,hargs,rfl,rfl,h0,hA⟩:=trodAll_cons hA
 obtain ⟨v1,vs1,d1,ds1,p1,q1,rfl,rfl,rfl,h1,hA⟩:=trodAll_cons hA
 obtain ⟨v2,vs2,d2,ds2,p2,q2,rfl,rfl,rfl,h2,hA⟩:=trodAll_cons hA
 obtain ⟨v3,vs3,d3,ds3,p3,q3,rfl,rfl,rfl,h3,hA⟩:=trodAll_cons hA
 obtain ⟨v4,vs4,d4,ds4,p4,q4,rfl,rfl,rfl,h4,hA⟩:=trodAll_cons hA
 obtain ⟨rfl,rfl,rfl⟩:=trodAll_nil hA
 have hargs':args = #[v0,v1,v2,v3,v4]:=by cases args; simp_all
 subst hargs'
 obtain ⟨rfl,rfl⟩:=trodVars_none hV
 have r0:∃ x:iF,JG x/\PR W (TW W) false (.agg x.ag) v0:=by
  obtain ⟨fuel,hf⟩:=h0
  obtain ⟨xs,hx,hp⟩:=B9 (uH fuel CL 27 _ _ Q1 hf) (by decide)
  obtain ⟨x,rfl,hJ⟩:=NP hx
  exact ⟨x,hJ,hp⟩
 have r1:∃ x:jV,PR W (TW W) false (.agg x.ag) v1:=by
  obtain ⟨fuel,hf⟩:=h1
  obtain ⟨xs,hx,hp⟩:=B9 (uH fuel CS 31 _ _ Rw hf) (by decide)
  obtain ⟨x,rfl⟩:=K7 hx
  exact ⟨x,hp⟩
 have r2:∃ r:Row Int,PR W (TW W) false (r.av j6) v2:=by
  obtain ⟨fuel,hf⟩:=h2
  obtain ⟨x,hx,hp⟩:=Dx (uH fuel (.slice .int) 44 _ _ Ki hf) (ok_slice Wm (hval 2 44 v2 rfl rfl))
  obtain ⟨r,hr⟩:=ta (λ_=>sZ) hx
  cases hr
  exact ⟨r,hp⟩
 obtain ⟨n3,rfl,hn3⟩:=VZ u5 (hval 3 5 v3 rfl rfl)
 have r4:∃ r:Row Int,PR W (TW W) false (r.av j6) v4:=by
  obtain ⟨fuel,hf⟩:=h4
  obtain ⟨x,hx,hp⟩:=Dx (uH fuel (.slice .int) 44 _ _ Ki hf) (ok_slice Wm (hval 4 44 v4 rfl rfl))
  obtain ⟨r,hr⟩:=ta (λ_=>sZ) hx
  cases hr
  exact ⟨r,hp⟩
 obtain ⟨xp,hJ,hp0⟩:=r0
 obtain ⟨xd,hp1⟩:=r1
 obtain ⟨xl,hp2⟩:=r2
 obtain ⟨xm,hp4⟩:=r4
 clear hA0 hval0
 refine (KQ hJ hn3 hp0 hp1 hp2 (.int _ _ _) hp4).mono λe W' ⟨he,hw⟩=>?_
 subst he
 have hlt:∀ x∈p0++(p1++(p2++(p3++p4))),x.block<W.heap.size:=λx hx=>by
  have:=hW'.lt x (by simpa using hx)
  simpa using this
 have c0:=Below.trod laidOut (by kernel_rfl) (of_decide_eq_true (by kernel_rfl)) h0 hw (λx hx=>hlt x (List.mem_append_left _ hx))
 have c1:=Below.trod laidOut (by kernel_rfl) (of_decide_eq_true (by kernel_rfl)) h1 hw (λx hx=>hlt x (List.mem_append_right _ (List.mem_append_left _ hx)))
 have c2:=Below.trod laidOut (by kernel_rfl) (of_decide_eq_true (by kernel_rfl)) h2 hw (λx hx=>hlt x (List.mem_append_right _ (List.mem_append_right _ (List.mem_append_left _ hx))))
 have c3:=Below.trod laidOut (by kernel_rfl) (of_decide_eq_true (by kernel_rfl)) h3 hw (λx hx=>hlt x (List.mem_append_right _ (List.mem_append_right _ (List.mem_append_right _ (List.mem_append_left _ hx)))))
 have c4:=Below.trod laidOut (by kernel_rfl) (of_decide_eq_true (by kernel_rfl)) h4 hw (λx hx=>hlt x (List.mem_append_right _ (List.mem_append_right _ (List.mem_append_right _ (List.mem_append_right _ (hx))))))
 have hall:DataW.TrodAll enc Tryz.prog W' 0 (λb=>decide (b<W.heap.size)) true [27,31,44,5,44] [v0,v1,v2,.int .u8 n3,v4] [d0,d1,d2,d3,d4] (p0++(p1++(p2++(p3++(p4++[]))))) :=
  ⟨p0,_,c0,⟨p1,_,c1,⟨p2,_,c2,⟨p3,_,c3,⟨p4,[],c4,rfl,rfl⟩,rfl⟩,rfl⟩,rfl⟩,rfl⟩
 refine ⟨_,rfl,_,_,_,[],_,[],hW',trodAll_mk1 (shut_bool u4 true),hall,rfl,hw.frame _,λh=>?_⟩
 cases h
def Zb:Tryz.pinned.checked.prog.funcNamed Rows.officeToldRow.func=some 4:=by kernel_rfl
def Re:Tryz.f4.isInstance Tryz.pinned.checked.prog Rows.officeToldRow.origin Rows.officeToldRow.targs:=of_decide_eq_true (by kernel_rfl)
def Qy:Tryz.f4.isWrapper Tryz.pinned.checked.prog Rows.officeToldRow.wrapper Rows.officeToldRow.mainSum:=by
 unfold Func.isWrapper
 first
 | (rw [if_pos (by decide +kernel)]; kernel_rfl)
 | (rw [if_neg (by decide +kernel)]; exact ⟨rfl,rfl⟩)
theorem officeTold_holds:Rows.OfficeToldSaid :=
 OpenClaim.holds_of_wide 4 Tryz.f4 rfl rfl rfl rfl rfl rfl rfl ⟨rfl,rfl,rfl,rfl,rfl⟩ rfl rfl rfl rfl rfl Zb Tryz.func4 P2 Re Qy
  (λos started H enc _=>EH os started H enc)
end Go.Proofs.YtihofefpkjfmnaaGreat
