/- Proves rules for the walks and their soundness. -/
import Derived.Maps.RangeRun
import Derived.Test.YtlhainfgnlmhfaaGreatTaa
import Derived.Test.YtlhainfgnlmhfaaGreatTad
set_option linter.all false
namespace Go.Sx
open Go
def iu (G:Ga) (r:Nat) (i:It):Prop:=match i.k with
 | .nil=>G.w.heap[r]?=some (.mapIter none 0 #[] 0)
 | .fix last left=>∃ m ents clk s,G.T s m∧G.w.heap[m]?=some (.map ents clk) ∧
   ((ents = #[]∧left=[]∧last=none∧G.w.heap[r]?=some (.mapIter (some m) clk #[] clk)) ∨
    (∃ e0 x,ents = #[e0]∧e0.born<clk∧PR G.w G.T true x.1 e0.key∧PR G.w G.T true x.2 e0.val ∧
      ((left=[x]∧last=none∧G.w.heap[r]?=some (.mapIter (some m) clk #[] clk)) ∨
       (left=[]∧last=some x∧G.w.heap[r]?=some (.mapIter (some m) clk #[e0.born] clk)))))
 | .tN b clk seen=>∃ m,VR G (.hm b) (.map (some m))∧G.w.heap[r]?=some (.mapIter (some m) clk (match seen with | none=>#[] | some n=>#[n]) clk)
structure ma (G0 G:Ga) (a:Act) (i:It) (r:Nat):Prop where
 at_:a.eval (.tmp i.d)=.pointer (some ⟨r,0,none⟩)
 new:G0.w.heap.size≤r
 lt:r<G.w.heap.size
 T:∀ s,¬ G.T s r
 pi:∀ b l,G.pi b=some l→l.B≠r
 L:∀ d B,G.L d=some B→B≠r
 obj:iu G r i
def mo (G0 G:Ga) (a:Act):Option It→Prop
 | none=>True
 | some i=>∃ r,ma G0 G a i r
section
variable {P:Program} {X:Ctx} {N:Nat} {G0 G G':Ga} {a a':Act} {Q:Exit→Act→World→Prop}
theorem iu.ext {r:Nat} {i:It} (h:iu G r i) (E:Ext G G') (hr:G'.w.heap[r]?=G.w.heap[r]?):iu G' r i:=by
 unfold iu at h ⊢
 split at h
 ·exact hr.trans h
 ·obtain ⟨m,ents,clk,s,hT,hm,h⟩:=h
  refine ⟨m,ents,clk,s,E.T s m hT,(E.eB s m hT).trans hm,?_⟩
  rcases h with ⟨h1,h2,h3,h4⟩ | ⟨e0,x,h1,h2,h3,h4,h⟩
  ·exact .inl ⟨h1,h2,h3,hr.trans h4⟩
  ·refine .inr ⟨e0,x,h1,h2,h3.mono E.T E.eB,h4.mono E.T E.eB,?_⟩
   rcases h with ⟨k1,k2,k3⟩ | ⟨k1,k2,k3⟩
   ·exact .inl ⟨k1,k2,hr.trans k3⟩
   ·exact .inr ⟨k1,k2,hr.trans k3⟩
 ·obtain ⟨m,h1,h2⟩:=h
  exact ⟨m,h1.mono E,hr.trans h2⟩
theorem ma.step {i:It} {r:Nat} (h:ma G0 G a i r) (S:Step G G') (ha:a'.eval (.tmp i.d)=a.eval (.tmp i.d)):ma G0 G' a' i r:=by
 have hr:G'.w.heap[r]?=G.w.heap[r]?:=S.frame r h.lt h.pi h.L
 refine ⟨ha.trans h.at_,h.new,Nat.lt_of_lt_of_le h.lt S.gG,?_,?_,?_,h.obj.ext S.ext hr⟩
 ·intro s ht
  rcases S.l3 s r ht with h0 | hge
  ·exact h.T s h0
  ·have:=h.lt; omega
 ·intro b l hl e
  rcases S.iN b l hl with ⟨l0,h0,e0⟩ | hge
  ·exact h.pi b l0 h0 (e0.trans e)
  ·have:=h.lt; omega
 ·intro d B hd e
  rcases S.kZ d B hd with h0 | hge
  ·exact h.L d B h0 e
  ·have:=h.lt; omega
theorem ma.fill {i:It} {r:Nat} {bs ds:Nat→Prop} (h:ma G0 G a i r) (S:nO G G' bs ds):ma G0 G' a i r:=by
 have hr:G'.w.heap[r]?=G.w.heap[r]?:=S.frame r h.lt
 refine ⟨h.at_,h.new,Nat.lt_of_lt_of_le h.lt S.gG,?_,?_,?_,h.obj.ext S.ext hr⟩
 ·intro s ht
  rw [S.T] at ht
  exact h.T s ht
 ·intro b l hl e
  rcases S.iN b l hl with h0 | hge
  ·exact h.pi b l h0 e
  ·have:=h.lt; omega
 ·intro d B hd e
  rcases S.kZ d B hd with h0 | hge
  ·exact h.L d B h0 e
  ·have:=h.lt; omega
theorem mo.step {it:Option It} (h:mo G0 G a it) (S:Step G G') (ha:∀ i,it=some i→a'.eval (.tmp i.d)=a.eval (.tmp i.d)):mo G0 G' a' it:=by
 cases it with
 | none=>trivial
 | some i =>
   obtain ⟨r,h⟩:=h
   exact ⟨r,h.step S (ha i rfl)⟩
theorem iu.fR {r:Nat} {i:It} (h:iu G r i) {m:gN} {L:Nat→Option Nat}:iu (G.fR m L) r i:=by
 unfold iu at h ⊢
 split at h
 ·exact h
 ·exact h
 ·obtain ⟨m,h1,h2⟩:=h
  exact ⟨m,h1.fR rfl,h2⟩
theorem mo.fR {it:Option It} (h:mo G0 G a it) {m:gN} {L:Nat→Option Nat} (hL:∀ d B,L d=some B→G.L d=some B):mo G0 (G.fR m L) a it:=by
 cases it with
 | none=>trivial
 | some i =>
   obtain ⟨r,h⟩:=h
   exact ⟨r,h.at_,h.new,h.lt,h.T,h.pi,fun d B hd=>h.L d B (hL d B hd),h.obj.fR⟩
theorem nX {it:Option It} {o:Oper} {u:Value} (h:mA it o=true):∀ i,it=some i→(a.put o.dst u).eval (.tmp i.d)=a.eval (.tmp i.d):=by
 rintro i rfl
 refine Act.eval_put ?_
 intro d hd e
 cases e
 simp only [mA,hd,Bool.not_eq_true'] at h
 simp at h
theorem uz (hW:WR G) (o:Obj):Step G ⟨G.w.alloc o,G.T,G.h,G.pi,G.L⟩∧WR ⟨G.w.alloc o,G.T,G.h,G.pi,G.L⟩:=by
 have hA:=gv.alloc G.w o
 have hold:∀ B,B<G.w.heap.size→(G.w.alloc o).heap[B]?=G.w.heap[B]?:=fun B hB=>hA.mn (G:=G) hB
 have hsz:(G.w.alloc o).heap.size=G.w.heap.size+1:=hA.size (G:=G)
 have E:Ext G ⟨G.w.alloc o,G.T,G.h,G.pi,G.L⟩:=⟨fun _ _ h=>h,fun s B t=>hold B (hW.jn s B t),Nat.le_refl _,fun _ _ g z xs h=>⟨g,z,xs,h,Nat.le_refl _,fun _=>⟨rfl,fun _ h=>h⟩⟩,fun _ _ es c h=>⟨es,c,h,fun _ h=>h⟩,fun _ _ h=>h⟩
 have hle:G.w.heap.size≤(G.w.alloc o).heap.size:=by omega
 refine ⟨⟨E,hA.os,hA.output,hA.tape,hle,fun B hB _ _=>hold B hB,fun _ l h=>.inl ⟨l,h,rfl⟩,fun _ _ h=>.inl (by rw [show G.pi _ = _ from h]; rfl),fun _ _ h=>.inl h,rfl,fun _ _ _=>rfl,fun _ _ h=>.inl h,fun _ _ h=>.inl (by rw [show G.L _ = _ from h]; rfl),fun _ _ _ h=>h⟩,?_⟩
 obtain ⟨k1,k2,k3⟩:=hW.eB E hold
 exact ⟨k1,k2,k3,fun b l h=>⟨Nat.lt_of_lt_of_le (hW.gE b l h).1 hle,(hW.gE b l h).2⟩,hW.iU,hW.ll,hW.jZ,hW.LT,hW.kp,fun d B h=>⟨Nat.lt_of_lt_of_le (hW.iE d B h).1 hle,(hW.iE d B h).2⟩,fun s B h=>Nat.lt_of_lt_of_le (hW.jn s B h) hle,hW.lo,hW.lt⟩
theorem KB {r:Nat} {o:Obj} {w':World} (hF:Fr G0 G) (hW:WR G) (hh:w'.heap=G.w.heap.setIfInBounds r o) (hos:w'.os=G.w.os) (hou:w'.output=G.w.output) (hta:w'.tape=G.w.tape)
  (h0:G0.w.heap.size≤r) (hT:∀ s,¬ G.T s r) (hpi:∀ b l,G.pi b=some l→l.B≠r) (hL:∀ d B,G.L d=some B→B≠r) :
  Ext G ⟨w',G.T,G.h,G.pi,G.L⟩∧Fr G0 ⟨w',G.T,G.h,G.pi,G.L⟩∧WR ⟨w',G.T,G.h,G.pi,G.L⟩:=by
 have hne:∀ B,B≠r→w'.heap[B]?=G.w.heap[B]?:=by
  intro B hB
  rw [hh,Array.getElem?_setIfInBounds,if_neg (fun e=>hB e.symm)]
 have hsz:w'.heap.size=G.w.heap.size:=by rw [hh]; simp
 have E:Ext G ⟨w',G.T,G.h,G.pi,G.L⟩ :=
  ⟨fun _ _ h=>h,fun s B t=>hne B (fun e=>hT s (e▸t)),Nat.le_refl _,fun _ _ g z xs h=>⟨g,z,xs,h,Nat.le_refl _,fun _=>⟨rfl,fun _ h=>h⟩⟩,fun _ _ es c h=>⟨es,c,h,fun _ h=>h⟩,fun _ _ h=>h⟩
 refine ⟨E,⟨?_,fun d B h=>hF.L d B h⟩,?_⟩
 ·have hS:=hF.S
  refine ⟨⟨hS.ext.T,?_,hS.ext.size,hS.ext.eL,hS.ext.map,hS.ext.dO⟩,hos.trans hS.os,hou.trans hS.output,hta.trans hS.tape,?_,?_,hS.iN,hS.ji,hS.l3,hS.lo,hS.out,hS.kZ,hS.mf,hS.mH⟩
  ·intro s B t
   have:B≠r:=fun e=>hT s (e▸hS.ext.T s B t)
   exact (hne B this).trans (hS.ext.eB s B t)
  ·show G0.w.heap.size≤w'.heap.size
   rw [hsz]; exact hS.gG
  ·intro B hB hp hl
   have:B≠r:=by omega
   exact (hne B this).trans (hS.frame B hB hp hl)
 ·constructor
  ·exact fun b l g z xs hp hg=>(hW.eL b l g z xs hp hg).mono E (hne _ (hpi b l hp))
  ·exact fun b l es c hp hg=>(hW.map b l es c hp hg).mono E (hne _ (hpi b l hp))
  ·exact fun d B cs hd hcs=>(hW.loc d B cs hd hcs).mono E (hne _ (hL d B hd))
  ·exact fun b l h=>⟨by show l.B<w'.heap.size; rw [hsz]; exact (hW.gE b l h).1,(hW.gE b l h).2⟩
  ·exact hW.iU
  ·exact hW.ll
  ·exact hW.jZ
  ·exact hW.LT
  ·exact hW.kp
  ·exact fun d B h=>⟨by show B<w'.heap.size; rw [hsz]; exact (hW.iE d B h).1,(hW.iE d B h).2⟩
  ·exact fun s B h=>by show B<w'.heap.size; rw [hsz]; exact hW.jn s B h
  ·exact hW.lo
  ·exact hW.lt
theorem Bc (es:Array MapEntry) (seen:Array Nat) (h:∀ x∈es.toList,x.born∈seen.toList):(leftOf es seen).toList=[]:=by
 unfold leftOf
 rw [Array.toList_filter,List.filter_eq_nil_iff]
 intro x hx
 have:=h x hx
 simp only [Bool.not_eq_true,Bool.not_eq_false',Array.contains_eq_mem,decide_eq_true_eq]
 exact Array.mem_toList_iff.1 this
theorem zi (e0:MapEntry):(leftOf #[e0] #[]).toList=[e0]:=by
 unfold leftOf
 rw [Array.toList_filter]
 simp
theorem oH {w:World} {ty r m since:Nat} {seen:Array Nat} {es:Array MapEntry} (hr:w.heap[r]?=some (.mapIter (some m) since seen since)) (hb:w.heap[m]?=some (.map es since))
  (hold:∀ x∈es.toList,x.born<since) (h:∀ x∈es.toList,x.born∈seen.toList):(Instr.next (.pointer (some ⟨r,0,none⟩)) false ty).run P w=.ok (.tuple #[.bool false]) w:=by
 have hl:=Bc es seen h
 rcases run_next_at (P:=P) w ty r m since since seen es since hr hb hold (Nat.le_refl _) with ⟨_,h1⟩ | ⟨e,he,_⟩
 ·exact h1
 ·rw [hl] at he; cases he
theorem we {w:World} {ty r m since:Nat} {e0:MapEntry} (hr:w.heap[r]?=some (.mapIter (some m) since #[] since)) (hb:w.heap[m]?=some (.map #[e0] since)) (hold:e0.born<since) :
  ∃ w',(Instr.next (.pointer (some ⟨r,0,none⟩)) false ty).run P w=.ok (.tuple #[.bool true,e0.key,e0.val]) w'∧w'.heap=w.heap.setIfInBounds r (.mapIter (some m) since #[e0.born] since)∧w'.os=w.os∧w'.output=w.output∧w'.tape=w.tape:=by
 have hl:=zi e0
 rcases run_next_at (P:=P) w ty r m since since #[] #[e0] since hr hb (by intro x hx; simp at hx; subst hx; exact hold) (Nat.le_refl _) with ⟨h0,_⟩ | ⟨e,he,w1,hw1,h1⟩
 ·rw [← Array.length_toList,hl] at h0; cases h0
 ·rw [hl] at he
  have:=List.mem_singleton.1 he
  subst this
  refine ⟨_,h1,?_⟩
  rcases hw1 with rfl | rfl<;>exact ⟨rfl,rfl,rfl,rfl⟩
theorem wJ {k v:AV} {ku vu:Value} (hk:VR G k ku) (hv:VR G v vu):VR G (rJ (some (k,v))) (.tuple #[.bool true,ku,vu]):=by
 refine .eP _ _ rfl ?_
 intro i x y hx hy
 match i with
 | 0=>cases hx; cases hy; exact VR.bool _
 | 1=>cases hx; cases hy; exact hk
 | 2=>cases hx; cases hy; exact hv
 | i+3=>simp at hx
theorem zp:VR G (rJ none) (.tuple #[.bool false]):=by
 refine .eP _ _ rfl ?_
 intro i x y hx hy
 match i with
 | 0=>cases hx; cases hy; exact VR.bool _
 | i+1=>simp at hx
theorem ma.E5 {i:It} {r:Nat} {w':World} {o:Obj} {k':sI} (hA:ma G0 G a i r) (hh:w'.heap=G.w.heap.setIfInBounds r o) (hobj:iu ⟨w',G.T,G.h,G.pi,G.L⟩ r ⟨i.d,k'⟩):ma G0 ⟨w',G.T,G.h,G.pi,G.L⟩ a ⟨i.d,k'⟩ r :=
 ⟨hA.at_,hA.new,by show r<w'.heap.size; rw [hh]; simpa using hA.lt,hA.T,hA.pi,hA.L,hobj⟩
theorem wq (hF:Fr G0 G) (hW:WR G) {i:It} {r:Nat} (hA:ma G0 G a i r) {res:Option (AV×AV)} {k':sI} (h:nN G.h i.k=some (res,k')) (ty:Nat) :
  ∃ u G',(Instr.next (.pointer (some ⟨r,0,none⟩)) false ty).run P G.w=.ok u G'.w∧G'.h=G.h∧Ext G G'∧Fr G0 G'∧WR G'∧VR G' (rJ res) u∧ma G0 G' a ⟨i.d,k'⟩ r:=by
 have hobj:=hA.obj
 unfold iu at hobj
 have iG:(Instr.next (.pointer (some ⟨r,0,none⟩)) false ty).run P G.w=.ok (.tuple #[.bool false]) G.w→res=none→iu G r ⟨i.d,k'⟩ →
   ∃ u G',(Instr.next (.pointer (some ⟨r,0,none⟩)) false ty).run P G.w=.ok u G'.w∧G'.h=G.h∧Ext G G'∧Fr G0 G'∧WR G'∧VR G' (rJ res) u∧ma G0 G' a ⟨i.d,k'⟩ r:=by
  intro hrun hres ho
  subst hres
  exact ⟨_,G,hrun,rfl,.refl G,hF,hW,zp,⟨hA.at_,hA.new,hA.lt,hA.T,hA.pi,hA.L,ho⟩⟩
 split at hobj
 ·rename_i hk
  rw [hk] at h
  simp only [nN,Option.some.injEq,Prod.mk.injEq] at h
  obtain ⟨rfl,rfl⟩:=h
  refine iG ?_ rfl ?_
  ·simp [Instr.next,getObj,Sem.run,hobj]
  ·unfold iu; exact hobj
 ·rename_i last left hk
  rw [hk] at h
  obtain ⟨m,ents,clk,s,hT,hm,ho⟩:=hobj
  rcases ho with ⟨rfl,rfl,rfl,hr⟩ | ⟨e0,x,rfl,hlt,hpk,hpv,ho⟩
  ·simp only [nN,Option.some.injEq,Prod.mk.injEq] at h
   obtain ⟨rfl,rfl⟩:=h
   refine iG (oH hr hm (by simp) (by simp)) rfl ?_
   unfold iu
   exact ⟨m,#[],clk,s,hT,hm,.inl ⟨rfl,rfl,rfl,hr⟩⟩
  ·rcases ho with ⟨rfl,rfl,hr⟩ | ⟨rfl,rfl,hr⟩
   ·simp only [nN,Option.some.injEq,Prod.mk.injEq] at h
    obtain ⟨rfl,rfl⟩:=h
    obtain ⟨w',h1,h2,h3,h4,h5⟩:=we (P:=P) (ty:=ty) hr hm hlt
    obtain ⟨E,F',W'⟩:=KB hF hW h2 h3 h4 h5 hA.new hA.T hA.pi hA.L
    have hmr:m≠r:=fun e=>hA.T s (e▸hT)
    refine ⟨_,⟨w',G.T,G.h,G.pi,G.L⟩,h1,rfl,E,F',W',wJ (PR.qU (hpk.mono E.T E.eB)) (PR.qU (hpv.mono E.T E.eB)),hA.E5 h2 ?_⟩
    unfold iu
    refine ⟨m,#[e0],clk,s,hT,?_,.inr ⟨e0,x,rfl,hlt,hpk.mono E.T E.eB,hpv.mono E.T E.eB,.inr ⟨rfl,rfl,?_⟩⟩⟩
    ·show w'.heap[m]? = _
     rw [h2,Array.getElem?_setIfInBounds,if_neg (fun e=>hmr e.symm)]; exact hm
    ·show w'.heap[r]? = _
     rw [h2,Array.getElem?_setIfInBounds,if_pos rfl,if_pos hA.lt]
   ·simp only [nN,Option.some.injEq,Prod.mk.injEq] at h
    obtain ⟨rfl,rfl⟩:=h
    refine iG (oH hr hm (by intro y hy; simp at hy; subst hy; exact hlt) (by intro y hy; simp at hy; subst hy; simp)) rfl ?_
    unfold iu
    exact ⟨m,#[e0],clk,s,hT,hm,.inr ⟨e0,x,rfl,hlt,hpk,hpv,.inr ⟨rfl,rfl,hr⟩⟩⟩
 ·rename_i b clk seen hk
  rw [hk] at h
  obtain ⟨m,hv,hr⟩:=hobj
  simp only [nN] at h
  split at h
  ·rename_i es c hget
   obtain ⟨l,ents,hpi,hml,hB,hent,hyo⟩:=mX hW hv hget
   simp only [Value.map.injEq,Option.some.injEq] at hml
   subst hml
   have hold:∀ x∈ents.toList,x.born<c:=by
    intro x hx
    obtain ⟨j,hj⟩:=List.getElem?_of_mem hx
    have hjl:j<es.length:=by rw [hent.1]; exact (List.getElem?_eq_some_iff.1 hj).1
    have he:es[j]?=some es[j]:=by simp [hjl]
    rw [← (hent.2 j es[j] x he hj).2.2.2]
    exact hyo _ (List.getElem_mem hjl)
   generalize hbq:Nat.beq c clk=bq at h
   split at h
   ·rename_i sn
    have:=Nat.eq_of_beq_eq_true hbq
    subst this
    simp only [Option.some.injEq,Prod.mk.injEq] at h
    obtain ⟨rfl,rfl⟩:=h
    have he:ents.toList=[]:=List.eq_nil_of_length_eq_zero (by rw [← hent.1]; rfl)
    refine iG (oH hr hB hold (by rw [he]; simp)) rfl ?_
    unfold iu
    exact ⟨_,hv,hr⟩
   ·rename_i k v n
    have:=Nat.eq_of_beq_eq_true hbq
    subst this
    simp only [Option.some.injEq,Prod.mk.injEq] at h
    obtain ⟨rfl,rfl⟩:=h
    obtain ⟨e0,he0⟩:∃ e0,ents.toList=[e0]:=List.length_eq_one_iff.1 (by rw [← hent.1]; rfl)
    have hents:ents = #[e0]:=by rw [← Array.toArray_toList (xs:=ents),he0]
    subst hents
    obtain ⟨_,hpk,hvv,hn⟩:=hent.2 0 (k,v,n) e0 rfl rfl
    have hn:n=e0.born:=hn
    obtain ⟨w',h1,h2,h3,h4,h5⟩:=we (P:=P) (ty:=ty) hr hB (hold e0 (by simp))
    obtain ⟨E,F',W'⟩:=KB hF hW h2 h3 h4 h5 hA.new hA.T hA.pi hA.L
    refine ⟨_,⟨w',G.T,G.h,G.pi,G.L⟩,h1,rfl,E,F',W',wJ (PR.qU (hpk.mono E.T E.eB)) (hvv.vr.mono E),hA.E5 h2 ?_⟩
    unfold iu
    refine ⟨_,hv.mono E,?_⟩
    show w'.heap[r]? = _
    rw [h2,Array.getElem?_setIfInBounds,if_pos rfl,if_pos hA.lt,hn]
   ·rename_i k v n n'
    have:=Nat.eq_of_beq_eq_true hbq
    subst this
    split at h
    ·rename_i hnn
     have:=Nat.eq_of_beq_eq_true hnn
     subst this
     simp only [Option.some.injEq,Prod.mk.injEq] at h
     obtain ⟨rfl,rfl⟩:=h
     obtain ⟨e0,he0⟩:∃ e0,ents.toList=[e0]:=List.length_eq_one_iff.1 (by rw [← hent.1]; rfl)
     obtain ⟨_,_,_,hn⟩:=hent.2 0 (k,v,n) e0 rfl (by rw [he0]; rfl)
     have hn:n=e0.born:=hn
     refine iG (oH hr hB hold (by rw [he0]; intro y hy; simp at hy; subst hy; simp [hn])) rfl ?_
     unfold iu
     exact ⟨_,hv,hr⟩
    ·cases h
   ·cases h
  ·cases h
theorem vj (hW:WR G) {i:It} {r:Nat} (hA:ma G0 G a i r) {x:AV×AV} (h:so G.h i.k=some x) :
  ∃ u,(Instr.entry (.pointer (some ⟨r,0,none⟩))).run P G.w=.ok u G.w∧VR G (.eP [x.1,x.2]) u:=by
 have hobj:=hA.obj
 unfold iu at hobj
 have pair:∀ {k v:AV} {ku vu:Value},VR G k ku→VR G v vu→VR G (.eP [k,v]) (.tuple #[ku,vu]):=by
  intro k v ku vu hk hv
  refine .eP _ _ rfl ?_
  intro i x y hx hy
  match i with
  | 0=>cases hx; cases hy; exact hk
  | 1=>cases hx; cases hy; exact hv
  | i+2=>simp at hx
 split at hobj
 ·rename_i hk; rw [hk] at h; cases h
 ·rename_i last left hk
  rw [hk] at h
  obtain ⟨m,ents,clk,s,hT,hm,ho⟩:=hobj
  rcases ho with ⟨rfl,rfl,rfl,hr⟩ | ⟨e0,y,rfl,hlt,hpk,hpv,ho⟩
  ·cases h
  ·rcases ho with ⟨rfl,rfl,hr⟩ | ⟨rfl,rfl,hr⟩
   ·cases h
   ·simp only [so,Option.some.injEq] at h
    subst h
    refine ⟨_,run_entry_at G.w r m clk #[] #[e0] clk e0 hr hm (by simp) (by simp),pair (PR.qU hpk) (PR.qU hpv)⟩
 ·rename_i b clk seen hk
  rw [hk] at h
  obtain ⟨m,hv,hr⟩:=hobj
  cases seen with
  | none=>cases h
  | some n =>
    simp only [so] at h
    split at h
    ·rename_i k v n' c hget
     split at h
     ·rename_i hb
      simp only [Bool.and_eq_true] at hb
      have e1:=Nat.eq_of_beq_eq_true hb.1
      have e2:=Nat.eq_of_beq_eq_true hb.2
      subst e1; subst e2
      simp only [Option.some.injEq] at h
      subst h
      obtain ⟨l,ents,hpi,hml,hB,hent,hyo⟩:=mX hW hv hget
      simp only [Value.map.injEq,Option.some.injEq] at hml
      subst hml
      obtain ⟨e0,he0⟩:∃ e0,ents.toList=[e0]:=List.length_eq_one_iff.1 (by rw [← hent.1]; rfl)
      have hents:ents = #[e0]:=by rw [← Array.toArray_toList (xs:=ents),he0]
      subst hents
      obtain ⟨_,hpk,hvv,hn⟩:=hent.2 0 (k,v,n') e0 rfl rfl
      have hn:n'=e0.born:=hn
      refine ⟨_,run_entry_at G.w r l.B c #[] #[e0] c e0 (by rw [hr,hn]; rfl) hB (by simp) (by simp),pair (PR.qU hpk) hvv.vr⟩
     ·cases h
    ·cases h
theorem wH (hW:WR G) (hC:fV P X.C) {t:Nat} {x:AV} {x':Value} (hx:VR G x x') {k:sI} (h:xy X.C G.h t x=some k) {d:Nat} :
  ∃ o,(Instr.range t x').run P G.w=.ok (.pointer (some ⟨G.w.heap.size,0,none⟩)) (G.w.alloc o)∧iu ⟨G.w.alloc o,G.T,G.h,G.pi,G.L⟩ G.w.heap.size ⟨d,k⟩:=by
 unfold xy at h
 split at h
 ·rename_i ti hti
  split at h
  ·rename_i kt el hkind
   have hd:=qf hC hti hkind
   have hnew:∀ o:Obj,(G.w.alloc o).heap[G.w.heap.size]?=some o:=fun o=>(gv.alloc G.w o).new (G:=G)
   have hold:∀ (o:Obj) B,B<G.w.heap.size→(G.w.alloc o).heap[B]?=G.w.heap[B]?:=fun o B hB=>(gv.alloc G.w o).mn (G:=G) hB
   have hE:∀ o:Obj,Ext G ⟨G.w.alloc o,G.T,G.h,G.pi,G.L⟩:=fun o=>(uz hW o).1.ext
   unfold ym at h
   split at h
   ·cases h
    cases hx with
    | fp _ hx =>
      cases hx
      refine ⟨.mapIter none 0 #[] 0,by simp [Instr.range,run_underlying hd,newObj,Sem.run],?_⟩
      unfold iu
      exact hnew _
   ·cases h
    cases hx with
    | fp _ hx =>
      cases hx with
      | fm _ _ sn m ents clk _ hB hI hl hy hko hkk hvv =>
        have:ents = #[]:=Array.eq_empty_of_size_eq_zero hl.symm
        subst this
        refine ⟨.mapIter (some m) clk #[] clk,run_range_map G.w t kt el m #[] clk hd hB,?_⟩
        unfold iu
        exact ⟨m,#[],clk,_,hI,(hold _ m (hW.jn _ m hI)).trans hB,.inl ⟨rfl,rfl,rfl,hnew _⟩⟩
   ·rename_i y _
    cases h
    cases hx with
    | fp _ hx =>
      cases hx with
      | fm _ _ sn m ents clk _ hB hI hl hy hko hkk hvv =>
        obtain ⟨e0,he0⟩:∃ e0,ents.toList=[e0]:=List.length_eq_one_iff.1 (by rw [Array.length_toList,← hl]; rfl)
        have hents:ents = #[e0]:=by rw [← Array.toArray_toList (xs:=ents),he0]
        subst hents
        refine ⟨.mapIter (some m) clk #[] clk,run_range_map G.w t kt el m #[e0] clk hd hB,?_⟩
        unfold iu
        have E:=hE (.mapIter (some m) clk #[] clk)
        exact ⟨m,#[e0],clk,_,hI,(hold _ m (hW.jn _ m hI)).trans hB,.inr ⟨e0,y,rfl,hy 0 e0 rfl,((hkk 0 y e0 rfl rfl).yA).mono E.T E.eB,((hvv 0 y e0 rfl rfl).yA).mono E.T E.eB,.inl ⟨rfl,rfl,hnew _⟩⟩⟩
   ·rename_i b
    have key:∀ es c,G.h.get b=some (.map es c)→∃ o,(Instr.range t x').run P G.w=.ok (.pointer (some ⟨G.w.heap.size,0,none⟩)) (G.w.alloc o)∧iu ⟨G.w.alloc o,G.T,G.h,G.pi,G.L⟩ G.w.heap.size ⟨d,.tN b c none⟩:=by
     intro es c hget
     obtain ⟨l,ents,hpi,rfl,hB,hent,hyo⟩:=mX hW hx hget
     refine ⟨.mapIter (some l.B) c #[] c,run_range_map G.w t kt el l.B ents c hd hB,?_⟩
     unfold iu
     exact ⟨l.B,hx.mono (hE _),hnew _⟩
    split at h
    ·rename_i c hget; cases h; exact key _ c hget
    ·rename_i c hget; cases h; exact key _ c hget
    ·cases h
   ·cases h
  ·cases h
 ·cases h
end
end Go.Sx
namespace Go.Sx
open Go
section
variable {P:Program} {X:Ctx} {N:Nat} {G0 G G':Ga} {a a':Act} {Q:Exit→Act→World→Prop}
theorem A8 {o:Op} {t:Nat} {x:Operand} (h:vR o=.range t x):o=.range t x:=by
 unfold vR at h
 split at h<;>first | (cases h; rfl) | cases h
theorem Dr {o:Op} {t:Nat} (h:vR o=.next t):o=.next (.tmp t) false:=by
 unfold vR at h
 split at h<;>first | (cases h; rfl) | cases h
theorem A3 {o:Op} {t:Nat} (h:vR o=.entry t):o=.entry (.tmp t):=by
 unfold vR at h
 split at h<;>first | (cases h; rfl) | cases h
theorem nC {o:Oper} (h:pF o=true) (ops:Array Oper) (a:Act):Region.wanted o (yielded ops a.tmps)=true:=by
 unfold pF at h
 unfold Region.wanted
 split at h
 ·rename_i hg; rw [hg]
 ·cases h
theorem y5 (hC:fV P X.C) (hK:js P X.call) {ops:Array Oper} (hN:ops.toList.all (jV N)=true) :
  ∀ (l:List Oper) (i:Nat) (it:Option It) (e:Env) (h:bY) (it':Option It) (e':Env) (h':bY),ops.toList.drop i=l→qO X ops.toList l it e h=some (it',e',h') →
  ∀ (G:Ga) (a:Act) (Q:Exit→Act→World→Prop),G.h=h→St N G0 G e a→mo G0 G a it→(∀ G' a',G'.h=h'→St N G0 G' e' a'→mo G0 G' a' it'→Q .normal a' G'.w)→wpOps P ops Q (List.range' i (ops.size - i)) a G.w:=by
 intro l
 induction l with
 | nil =>
   intro i it e h it' e' h' hd hr G a Q hG hS hI hQ
   simp only [qO,Option.some.injEq,Prod.mk.injEq] at hr
   obtain ⟨rfl,rfl,rfl⟩:=hr
   have:ops.size - i=0:=by
    have:=congrArg List.length hd
    simpa using this
   rw [this]
   exact hQ G a hG hS hI
 | cons o l ih =>
   intro i it e h it' e' h' hd hr G a Q hG hS hI hQ
   have hoi:ops[i]?=some o:=by
    have h1:(ops.toList.drop i)[0]?=some o:=by rw [hd]; rfl
    rw [List.getElem?_drop] at h1
    simpa using h1
   have hlt:i<ops.size:=(Array.getElem?_eq_some_iff.1 hoi).1
   have hd':ops.toList.drop (i+1)=l:=by
    rw [← List.tail_drop,hd]; rfl
   have hon:jV N o=true:=List.all_eq_true.1 hN o (by rw [Array.mem_toList_iff]; exact Array.mem_of_getElem? hoi)
   have hrange:List.range' i (ops.size - i)=i::List.range' (i+1) (ops.size - (i+1)):=by
    have:ops.size - i=(ops.size - (i+1))+1:=by omega
    rw [this,List.range'_succ]
   rw [hrange]
   simp only [wpOps,hoi]
   simp only [qO] at hr
   have next:=ih (i+1)
   split at hr
   ·
    rename_i t x hk
    have hop:=A8 hk
    unfold yK at hr
    split at hr
    ·rename_i k d hrt hdst hng
     subst hG
     obtain ⟨ob,hrun,hobj⟩:=wH (P:=P) (d:=d) hS.wr hC (e9 hS.er x) hrt
     obtain ⟨S1,W1⟩:=uz hS.wr ob
     rw [nC hng]
     simp only [if_true]
     left
     unfold Oper.wp
     simp only [execOp,hop,Sem.run_bind,hrun,Result.andThen_ok,Sem.run_pure,Oper.upon_value]
     have hS1:=hS.put (o:=o) (v:=.undef) (u:=.pointer (some ⟨G.w.heap.size,0,none⟩)) S1 W1 hon (.undef _)
     have hes:eY e o .undef=w8 e d .undef:=by unfold eY; rw [hdst]
     rw [hes] at hS1
     refine next _ _ _ it' e' h' hd' hr ⟨G.w.alloc ob,G.T,G.h,G.pi,G.L⟩ _ Q rfl hS1 ⟨G.w.heap.size,?_,hS.fr.S.gG,?_,?_,?_,?_,hobj⟩ hQ
     ·rw [hdst,Act.w7 (Nat.lt_of_lt_of_le (pM hon hdst) hS.sz),if_pos rfl]
     ·show G.w.heap.size<(G.w.alloc ob).heap.size
      rw [(gv.alloc G.w ob).size (G:=G)]
      exact Nat.lt_succ_self _
     ·intro s ht
      exact Nat.lt_irrefl _ (hS.wr.jn s _ ht)
     ·intro b l hl e
      have:=(hS.wr.gE b l hl).1
      omega
     ·intro d2 B hB e
      have:=(hS.wr.iE d2 B hB).1
      omega
    ·cases hr
   ·
    rename_i t hk
    have hop:=Dr hk
    unfold AR at hr
    split at hr
    ·rename_i it0
     split at hr
     ·rename_i hb
      simp only [Bool.and_eq_true] at hb
      have hdt:=Nat.eq_of_beq_eq_true hb.1.1
      split at hr
      ·rename_i res k' hnx
       obtain ⟨r,hA⟩:=hI
       subst hG
       obtain ⟨u,G1,hrun,hh,E1,F1,W1,hv,hA1⟩:=wq (P:=P) hS.fr hS.wr hA hnx o.type
       rw [nC hb.2]
       simp only [if_true]
       left
       unfold Oper.wp
       have hat:a.eval (.tmp t)=.pointer (some ⟨r,0,none⟩):=by rw [← hdt]; exact hA.at_
       simp only [execOp,hop,hat,Sem.run_bind,hrun,Result.andThen_ok,Sem.run_pure,Oper.upon_value]
       have hS1:St N G0 G1 (eY e o (rJ res)) (a.put o.dst u) :=
        ⟨F1,W1,(hS.er.mono E1).put hS.sz hon hv,by rw [Act.wu]; exact hS.df,by rw [Act.sW]; exact hS.sz⟩
       refine next _ _ _ it' e' h' hd' hr G1 _ Q hh hS1 ⟨r,?_,hA1.new,hA1.lt,hA1.T,hA1.pi,hA1.L,hA1.obj⟩ hQ
       exact (nX (a:=a) (u:=u) hb.1.2 it0 rfl).trans hA1.at_
      ·cases hr
     ·cases hr
    ·cases hr
   ·
    rename_i t hk
    have hop:=A3 hk
    unfold yq at hr
    split at hr
    ·rename_i it0
     split at hr
     ·rename_i hb
      simp only [Bool.and_eq_true] at hb
      have hdt:=Nat.eq_of_beq_eq_true hb.1.1
      split at hr
      ·rename_i x hnx
       obtain ⟨r,hA⟩:=hI
       subst hG
       obtain ⟨u,hrun,hv⟩:=vj (P:=P) hS.wr hA hnx
       rw [nC hb.2]
       simp only [if_true]
       left
       unfold Oper.wp
       have hat:a.eval (.tmp t)=.pointer (some ⟨r,0,none⟩):=by rw [← hdt]; exact hA.at_
       simp only [execOp,hop,hat,Sem.run_bind,hrun,Result.andThen_ok,Sem.run_pure,Oper.upon_value]
       refine next _ _ _ it' e' h' hd' hr G _ Q rfl (hS.put (.refl G) hS.wr hon hv) ⟨r,hA.step (.refl G) (nX hb.1.2 it0 rfl)⟩ hQ
      ·cases hr
     ·cases hr
    ·cases hr
   ·
    split at hr
    ·rename_i haw
     cases hw:fk ops.toList e o with
     | none=>rw [hw] at hr; cases hr
     | some b =>
       rw [hw] at hr
       rw [nZ (fun _ _ d _ _ _ _ _=>hS.er.rel d) hw]
       cases b with
       | false =>
         simp only [Bool.false_eq_true,if_false]
         simp only [xv] at hr
         exact next _ _ _ it' e' h' hd' hr G _ Q hG (hS.put (.refl G) hS.wr hon (VR.Aa G)) (hI.step (.refl G) (nX haw)) hQ
       | true =>
         simp only [if_true]
         simp only [xv] at hr
         split at hr
         ·rename_i v h1 hop
          simp only [rU] at hr
          subst hG
          have:=qj hS.wr hC hS.er hK hop
          left
          refine this _ Q (fun u G' hh hst hwr hv=>?_)
          exact next _ _ _ it' e' h' hd' hr G' _ Q hh (hS.put hst hwr hon hv) (hI.step hst (nX haw)) hQ
         ·cases hr
    ·cases hr
   ·cases hr
theorem ou (live:List Nat) (k:Env→bY→nB) (e:Env) (h:bY):o7 live k e h=k (proj live e) { h with dO:=eV live h.dO }:=by
 unfold o7
 rw [vQ,uM]
theorem mo.hZ {it:Option It} (h:mo G0 G a it) (live:List Nat):mo G0 (G.fR (eV live G.h.dO) (ka live G.L)) a it:=by
 refine h.fR ?_
 intro d B hd
 unfold ka at hd
 split at hd
 ·exact hd
 ·cases hd
def tb (P:Program) (X:Ctx) (N:Nat) (G0:Ga) (n:Nat) (c:Code):Prop:=∀ (an:g8) (it:Option It) (e:Env) (h:bY) (x:Ex) (it':Option It) (e':Env) (h':bY),iM X n c an it e h=some (x,it',e',h')→codeOk N X.fa.fw c an=true →
 ∀ (G:Ga) (a:Act) (Q:Exit→Act→World→Prop),G.h=h→St N G0 G e a→mo G0 G a it→(∀ G' a',G'.h=h'→St N G0 G' e' a'→mo G0 G' a' it'→Q (sZ x) a' G'.w)→c.wp P Q a G.w
theorem xZ {c:Code} {n0:Nat} (ih:tb P X N G0 n0 c) {live:List Nat} {y:g8} (hok:codeOk N X.fa.fw c y=true) :
  ∀ (n:Nat) (it:Option It) (e:Env) (h:bY) (x:Ex) (it':Option It) (e':Env) (h':bY),tQ n (fun it e h=>o7 live (iM X n0 c y it) e h) it e h=some (x,it',e',h') →
  ∀ (G:Ga) (a:Act) (Q:Exit→Act→World→Prop),G.h=h→St N G0 G e a→mo G0 G a it→(∀ G' a',G'.h=h'→St N G0 G' e' a'→mo G0 G' a' it'→Q (sZ x) a' G'.w)→(Code.loop c).wp P Q a G.w:=by
 intro n it e h x it' e' h' hr G a Q hG hS hI hQ
 refine sS (fun m a w=>∃ G it e,G.w=w∧St N G0 G e a∧mo G0 G a it∧tQ m (fun it e h=>o7 live (iM X n0 c y it) e h) it e G.h=some (x,it',e',h')) ?_ n a G.w ⟨G,it,e,rfl,hS,hI,by rw [hG]; exact hr⟩
 rintro m a _ ⟨G,it,e,rfl,hS,hI,hr⟩
 cases m with
 | zero=>cases hr
 | succ m =>
   simp only [tQ] at hr
   have hj:=hS.hZ live
   have hji:=hI.hZ live
   split at hr
   ·rename_i it1 e1 h1 hb
    rw [ou] at hb
    refine ih y _ _ _ _ _ _ _ hb hok (G.fR (eV live G.h.dO) (ka live G.L)) a _ rfl hj hji ?_
    intro G' a' hG' hS' hI'
    exact ⟨m,Nat.lt_succ_self _,G',it1,e1,rfl,hS',hI',by rw [hG']; exact hr⟩
   ·rename_i hne
    rw [ou] at hr
    refine ih y _ _ _ _ _ _ _ hr hok (G.fR (eV live G.h.dO) (ka live G.L)) a _ rfl hj hji ?_
    intro G' a' hG' hS' hI'
    cases x with
    | gf=>exact (hne it' e' h' (by rw [ou]; exact hr)).elim
    | ext id=>exact hQ G' a' hG' hS' hI'
    | ret=>exact hQ G' a' hG' hS' hI'
theorem xS (hm:P.follows .mixedOrders=true) (hC:fV P X.C) (hK:js P X.call) (hIso:j4 X.call) (n:Nat):∀ c:Code,tb P X N G0 n c:=by
 intro c
 induction c with
 | skip =>
   intro an it e h x it' e' h' hr _ G a Q hG hS hI hQ
   simp only [iM,Option.some.injEq,Prod.mk.injEq] at hr
   obtain ⟨rfl,rfl,rfl,rfl⟩:=hr
   exact wp_skip (hQ G a hG hS hI)
 | label l =>
   intro an it e h x it' e' h' hr _ G a Q hG hS hI hQ
   simp only [iM,Option.some.injEq,Prod.mk.injEq] at hr
   obtain ⟨rfl,rfl,rfl,rfl⟩:=hr
   exact wp_label (hQ G a hG hS hI)
 | exit id =>
   intro an it e h x it' e' h' hr _ G a Q hG hS hI hQ
   simp only [iM,Option.some.injEq,Prod.mk.injEq] at hr
   obtain ⟨rfl,rfl,rfl,rfl⟩:=hr
   exact wp_exit (hQ G a hG hS hI)
 | ret =>
   intro an it e h x it' e' h' hr _ G a Q hG hS hI hQ
   simp only [iM,Option.some.injEq,Prod.mk.injEq] at hr
   obtain ⟨rfl,rfl,rfl,rfl⟩:=hr
   exact wp_ret (hQ G a hG hS hI)
 | region id ops draw =>
   intro an it e h x it' e' h' hr hok G a Q hG hS hI hQ
   cases draw with
   | true =>
     simp only [iM] at hr
     split at hr
     ·rename_i haw
      unfold AI at hr
      split at hr
      ·rename_i x1 e1 h1 hb
       simp only [Option.some.injEq,Prod.mk.injEq] at hr
       obtain ⟨rfl,rfl,rfl,rfl⟩:=hr
       simp only [qY] at hb
       split at hb
       ·rename_i sch
        unfold pX at hb
        split at hb
        ·rename_i e2 h2 hb2
         simp only [Option.some.injEq,Prod.mk.injEq] at hb
         obtain ⟨rfl,rfl,rfl⟩:=hb
         simp only [codeOk,Bool.and_eq_true] at hok
         have hJ:Bf ops (fun G a=>mo G0 G a it):=by
          refine ⟨fun G G' a h S=>h.step S (fun _ _=>rfl),?_,?_⟩
          ·intro G a o u ho h
           exact h.step (.refl G) (nX (List.all_eq_true.1 haw o ho))
          ·intro G G' a bs ds h S
           cases it with
           | none=>trivial
           | some i =>
             obtain ⟨r,h⟩:=h
             exact ⟨r,h.fill S⟩
         exact qX hJ hm hC hK hIso hok.2 hok.1 hb2 hG hS hI (fun G' a' k1 k2 k3=>hQ G' a' k1 k2 k3)
        ·cases hb
       ·cases hb
      ·cases hr
     ·cases hr
   | false =>
     simp only [iM] at hr
     simp only [codeOk,Bool.and_eq_true] at hok
     unfold J5 at hr
     split at hr
     ·rename_i it1 e1 h1 hb
      simp only [Option.some.injEq,Prod.mk.injEq] at hr
      obtain ⟨rfl,rfl,rfl,rfl⟩:=hr
      refine wp_region ?_
      have:=y5 hC hK hok.1 ops.toList 0 it e h it1 e1 h1 (by simp) hb G a Q hG hS hI (fun G' a' k1 k2 k3=>hQ G' a' k1 k2 k3)
      rw [Nat.sub_zero,← List.range_eq_range'] at this
      exact this
     ·cases hr
 | seq p q ihp ihq =>
   intro an it e h x it' e' h' hr hok G a Q hG hS hI hQ
   simp only [iM,Jf] at hr
   have key:∀ (y:g8) (k:Option It→Env→bY→nB),codeOk N X.fa.fw p y=true→vK k (iM X n p y it e h)=some (x,it',e',h') →
     (∀ it1 e1 h1,k it1 e1 h1=some (x,it',e',h')→∀ G1 a1,G1.h=h1→St N G0 G1 e1 a1→mo G0 G1 a1 it1→q.wp P Q a1 G1.w)→(Code.seq p q).wp P Q a G.w:=by
    intro y k hoy hr hk
    unfold vK at hr
    split at hr
    ·rename_i it1 e1 h1 hb
     refine wp_seq (ihp y _ _ _ _ _ _ _ hb hoy G a _ hG hS hI ?_)
     intro G1 a1 hG1 hS1 hI1
     exact hk it1 e1 h1 hr G1 a1 hG1 hS1 hI1
    ·rename_i hne
     refine wp_seq (ihp y _ _ _ _ _ _ _ hr hoy G a _ hG hS hI ?_)
     intro G1 a1 hG1 hS1 hI1
     cases x with
     | gf=>exact (hne it' e' h' hr).elim
     | ext id=>exact hQ G1 a1 hG1 hS1 hI1
     | ret=>exact hQ G1 a1 hG1 hS1 hI1
   split at hr
   ·rename_i live y z
    simp only [codeOk,Bool.and_eq_true] at hok
    refine key y _ hok.1 hr ?_
    intro it1 e1 h1 hk G1 a1 hG1 hS1 hI1
    rw [ou] at hk
    rw [← hG1] at hk
    exact ihq z _ _ _ _ _ _ _ hk hok.2 (G1.fR (eV live G1.h.dO) (ka live G1.L)) a1 Q rfl (hS1.hZ live) (hI1.hZ live) hQ
   ·rename_i y z
    simp only [codeOk,Bool.and_eq_true] at hok
    refine key y _ hok.1 hr ?_
    intro it1 e1 h1 hk G1 a1 hG1 hS1 hI1
    exact ihq z _ _ _ _ _ _ _ hk hok.2 G1 a1 Q hG1 hS1 hI1 hQ
   ·cases hr
 | cond c p q ihp ihq =>
   intro an it e h x it' e' h' hr hok G a Q hG hS hI hQ
   simp only [iM,Gs] at hr
   split at hr
   ·rename_i y z
    simp only [codeOk,Bool.and_eq_true] at hok
    have hv:=e9 hS.er c
    split at hr
    ·rename_i hb
     rw [bool?_eq hb] at hv
     exact wp_cond_true hv.of_bool (ihp y _ _ _ _ _ _ _ hr hok.1 G a Q hG hS hI hQ)
    ·rename_i hb
     rw [bool?_eq hb] at hv
     exact wp_cond_false hv.of_bool (ihq z _ _ _ _ _ _ _ hr hok.2 G a Q hG hS hI hQ)
    ·cases hr
   ·cases hr
 | block id p ih =>
   intro an it e h x it' e' h' hr hok G a Q hG hS hI hQ
   simp only [iM] at hr
   simp only [codeOk] at hok
   refine wp_block ?_
   unfold I3 at hr
   split at hr
   ·rename_i id' it1 e1 h1 hb
    split at hr
    ·rename_i hid
     have hid:=Nat.eq_of_beq_eq_true hid
     simp only [Option.some.injEq,Prod.mk.injEq] at hr
     obtain ⟨rfl,rfl,rfl,rfl⟩:=hr
     refine ih an _ _ _ _ _ _ _ hb hok G a _ hG hS hI ?_
     intro G1 a1 hG1 hS1 hI1
     show Exit.inBlock id Q (.exit id') a1 G1.w
     simp only [Exit.inBlock,hid,if_true]
     exact hQ G1 a1 hG1 hS1 hI1
    ·rename_i hid
     have hid:=Nat.ne_of_beq_eq_false hid
     simp only [Option.some.injEq,Prod.mk.injEq] at hr
     obtain ⟨rfl,rfl,rfl,rfl⟩:=hr
     refine ih an _ _ _ _ _ _ _ hb hok G a _ hG hS hI ?_
     intro G1 a1 hG1 hS1 hI1
     show Exit.inBlock id Q (.exit id') a1 G1.w
     simp only [Exit.inBlock,hid,if_false]
     exact hQ G1 a1 hG1 hS1 hI1
   ·rename_i hne
    refine ih an _ _ _ _ _ _ _ hr hok G a _ hG hS hI ?_
    intro G1 a1 hG1 hS1 hI1
    cases x with
    | gf=>exact hQ G1 a1 hG1 hS1 hI1
    | ext id'=>exact (hne id' it' e' h' hr).elim
    | ret=>exact hQ G1 a1 hG1 hS1 hI1
 | loop p ih =>
   intro an it e h x it' e' h' hr hok G a Q hG hS hI hQ
   simp only [iM] at hr
   split at hr
   ·rename_i live y
    simp only [codeOk] at hok
    exact xZ ih hok n it e h x it' e' h' hr G a Q hG hS hI hQ
   ·cases hr
 | scope p ih =>
   intro an it e h x it' e' h' hr hok G a Q hG hS hI hQ
   simp only [iM] at hr
   simp only [codeOk] at hok
   refine wp_scope_straight (ih an _ _ _ _ _ _ _ hr hok G a _ hG hS hI ?_)
   intro G1 a1 hG1 hS1 hI1
   cases x with
   | gf=>exact hQ G1 a1 hG1 hS1 hI1
   | ext id=>exact hQ G1 a1 hG1 hS1 hI1
   | ret=>exact hQ G1 a1 hG1 hS1 hI1
 | _=>intro an it e h x it' e' h' hr; cases hr
theorem ya (hm:P.follows .mixedOrders=true) (hC:fV P X.C) (hK:js P X.call) (hI:j4 X.call) {n:Nat} {c:Code} {an:g8} {b:Bool} {e:Env} {h:bY} {x:Ex} {e':Env} {h':bY} (hr:tZ X n c an e h b=some (x,e',h')) (hok:codeOk N X.fa.fw c an=true)
  {G:Ga} {a:Act} {Q:Exit→Act→World→Prop} (hG:G.h=h) (hS:St N G0 G e a) (hQ:∀ G' a',G'.h=h'→St N G0 G' e' a'→Q (sZ x) a' G'.w):c.wp P Q a G.w:=by
 cases b with
 | false=>exact p8 hm hC hK hI n c an e h x e' h' hr hok G a Q hG hS hQ
 | true =>
   simp only [tZ] at hr
   unfold AY at hr
   split at hr
   ·rename_i x1 it1 e1 h1 hb
    simp only [Option.some.injEq,Prod.mk.injEq] at hr
    obtain ⟨rfl,rfl,rfl⟩:=hr
    exact xS hm hC hK hI n c an none e h x1 it1 e1 h1 hb hok G a Q hG hS trivial (fun G' a' k1 k2 _=>hQ G' a' k1 k2)
   ·cases hr
end
end Go.Sx
namespace Go.Sx
open Go
def pV (G:Ga) (v:AV) (u:Value):Prop :=
 VC G v u∨∃ l vs,v=.eP l∧u=.tuple vs∧l.length=vs.size∧∀ (i:Nat) (x:AV) (y:Value),l[i]?=some x→vs[i]?=some y→VC G x y
theorem pV.fR {G:Ga} {m:gN} {L:Nat→Option Nat} {v:AV} {u:Value} (h:pV G v u):pV (G.fR m L) v u:=by
 rcases h with h | ⟨l,vs,rfl,rfl,h1,h2⟩
 ·exact .inl h.fR
 ·exact .inr ⟨l,vs,rfl,rfl,h1,fun i x y a b=>(h2 i x y a b).fR⟩
theorem pV.vr {G:Ga} {v:AV} {u:Value} (h:pV G v u):VR G v u:=by
 rcases h with h | ⟨l,vs,rfl,rfl,h1,h2⟩
 ·exact h.vr
 ·exact .eP l vs h1 (fun i x y a b=>(h2 i x y a b).vr)
def tK (tmps:Array Value):ResultVar→Sem Value
 | .tmp t=>pure (tmps.getD t undef)
 | .cell a t=>do loadVar t (← asAddr (tmps.getD a undef))
section
variable {P:Program} {C:fP} {G:Ga} {e:Env} {a:Act}
theorem zD (hW:WR G) (hC:fV P C) (hE:ER G e a) {r:ResultVar} {v:AV} (h:zJ C e G.h r=some v):∃ u,(tK a.tmps r).run P G.w=.ok u G.w∧VR G v u:=by
 cases r with
 | tmp t =>
   simp only [zJ,Option.some.injEq] at h
   subst h
   exact ⟨a.tmps.getD t undef,by simp [tK],hE.rel t⟩
 | cell b t =>
   simp only [zJ] at h
   split at h
   ·rename_i ti hti
    obtain ⟨u,hu,hv,_⟩:=tU hW (hC.ty t ti hti) (hE.rel b) h
    refine ⟨u,?_,hv⟩
    have hx:a.eval (.tmp b)=a.tmps.getD b undef:=rfl
    rw [hx] at hu
    show (do loadVar t (← asAddr (a.tmps.getD b undef)):Sem Value).run P G.w = _
    generalize a.tmps.getD b undef=x at hu ⊢
    cases x with
    | pointer p =>
      cases p with
      | some ad=>simpa [Instr.loadAt,Instr.sureAddr,asAddr] using hu
      | none=>simp [Instr.loadAt,Instr.sureAddr,Sem.run_bind,Result.andThen] at hu
    | _=>simp [Instr.loadAt,Instr.sureAddr,Sem.run_bind,Result.andThen] at hu
   ·cases h
theorem tM (hW:WR G) (hC:fV P C) (hE:ER G e a):∀ (l:List ResultVar) (vs:List AV),uF C e G.h l=some vs →
  ∃ us:List Value,(l.mapM (tK a.tmps)).run P G.w=.ok us G.w∧vs.length=us.length∧∀ (i:Nat) (x:AV) (y:Value),vs[i]?=some x→us[i]?=some y→VR G x y
 | [],vs,h=>by
   simp only [uF,Option.some.injEq] at h
   subst h
   exact ⟨[],by simp,rfl,by simp⟩
 | r::l,vs,h=>by
   simp only [uF] at h
   split at h
   ·cases h
   ·rename_i v hv
    split at h
    ·cases h
    ·rename_i vs' hvs
     simp only [Option.some.injEq] at h
     subst h
     obtain ⟨u,h1,h2⟩:=zD hW hC hE hv
     obtain ⟨us,k1,k2,k3⟩:=tM hW hC hE l vs' hvs
     refine ⟨u::us,?_,by simp [k2],?_⟩
     ·simp only [List.mapM_cons,Sem.run_bind,h1,Result.andThen_ok,k1,Sem.run_pure]
     ·intro i x y hx hy
      cases i with
      | zero =>
        simp only [List.getElem?_cons_zero,Option.some.injEq] at hx hy
        subst hx; subst hy
        exact h2
      | succ i =>
        rw [List.getElem?_cons_succ] at hx hy
        exact k3 i x y hx hy
theorem rb (hW:WR G) (hC:fV P C) (hE:ER G e a) {fn:Func} {v:AV} {h':bY} (h:leave.leave1 C fn.results.toList e G.h=some (v,h')) :
  h'=G.h∧∃ u,(results fn a.tmps).run P G.w=.ok u G.w∧pV G v u:=by
 unfold leave.leave1 at h
 split at h
 ·rename_i vs hvs
  split at h
  ·rename_i hok
   simp only [Option.some.injEq,Prod.mk.injEq] at h
   obtain ⟨rfl,rfl⟩:=h
   refine ⟨rfl,?_⟩
   obtain ⟨us,k1,k2,k3⟩:=tM hW hC hE _ _ hvs
   have hna:∀ x∈vs,x.iL=true:=fun x hx=>wo (List.all_eq_true.1 hok x hx)
   have hrun:(results fn a.tmps).run P G.w=.ok (if h:us.toArray.size=1 then us.toArray[0] else .tuple us.toArray) G.w:=by
    have:results fn a.tmps=(do let vs ← fn.results.mapM (tK a.tmps); pure (if h:vs.size=1 then vs[0] else .tuple vs)):=by
     unfold results
     congr 1
    rw [this,Array.mapM_eq_mapM_toList]
    simp [Sem.run_map,k1]
   rcases vs with _ | ⟨x,_ | ⟨x2,vs⟩⟩
   ·have:us=[]:=List.eq_nil_of_length_eq_zero (by simpa using k2.symm)
    subst this
    exact ⟨_,hrun,.inr ⟨[],#[],rfl,rfl,rfl,by simp⟩⟩
   ·obtain ⟨y,rfl⟩:∃ y,us=[y]:=List.length_eq_one_iff.1 (by simpa using k2.symm)
    refine ⟨y,by simpa using hrun,.inl ⟨k3 0 x y rfl rfl,hna x List.mem_cons_self⟩⟩
   ·have hsz:us.toArray.size≠1:=by simp only [List.size_toArray,← k2,List.length_cons]; omega
    rw [dif_neg hsz] at hrun
    refine ⟨_,hrun,.inr ⟨_,_,rfl,rfl,by simpa using k2,?_⟩⟩
    intro i p q hp hq
    exact ⟨k3 i p q hp (by simpa using hq),hna p (List.mem_of_getElem? hp)⟩
  ·cases h
 ·cases h
theorem sG:∀ (l:List AV) (k t:Nat),gY (params k l) t=if t<k then .undef else (l[t - k]?).getD .undef
 | [],k,t=>by simp [params,gY]
 | v::l,k,t=>by
   simp only [params,gY]
   cases hq:Nat.beq t k with
   | true =>
     have:=Nat.eq_of_beq_eq_true hq
     subst this
     simp
   | false =>
     have hne:=Nat.ne_of_beq_eq_false hq
     simp only [sG l (k+1) t]
     by_cases h:t<k
     ·rw [if_pos (by omega),if_pos h]
     ·rw [if_neg (by omega),if_neg h]
      rw [show t - k=(t - (k+1))+1 by omega,List.getElem?_cons_succ]
theorem uL {args:List AV} {args':Array Value} (hl:args.length=args'.size) (hr:∀ (i:Nat) (x:AV) (y:Value),args[i]?=some x→args'[i]?=some y→VC G x y) (k:Nat) :
  ER G (params 0 args) { tmps:=args'++Array.replicate k undef,defers:=[] }:=by
 constructor
 intro t
 rw [sG]
 simp only [Nat.not_lt_zero,if_false,Nat.sub_zero]
 simp only [Act.eval,Array.getD_eq_getD_getElem?]
 by_cases h:t<args.length
 ·have h1:args[t]?=some args[t]:=by simp [h]
  have h2:t<args'.size:=by rw [← hl]; exact h
  have h3:args'[t]?=some args'[t]:=by simp [h2]
  rw [Array.getElem?_append_left h2,h1,h3]
  exact (hr t _ _ h1 h3).vr
 ·have h1:args[t]?=none:=by simp at h ⊢; exact h
  rw [h1]
  exact .undef _
structure ey (P:Program) (f:Nat) (fa:eC):Prop where
 ex : ∃ fn : Func, P.funcs[f]? = some fn ∧ fn.body = some fa.body ∧ fn.results.toList = fa.res ∧ (fn.name == "runtime.NumGoroutine") = false ∧ codeOk fn.ntmps fa.fw fa.body fa.oP = true
theorem tq (hm:P.follows .mixedOrders=true) (hC:fV P C) {call:lD} (hK:js P call) (hI:j4 call) {n f:Nat} {fa:eC} (hF:ey P f fa) {args:List AV} {v:AV} {h':bY}
  (h:oG C fa call n args G.h=some (v,h')) (hlo:G.h.dO=[]) (hL:∀ d,G.L d=none) (hW:WR G) {args':Array Value} (hl:args.length=args'.size)
  (hr:∀ (i:Nat) (x:AV) (y:Value),args[i]?=some x→args'[i]?=some y→VC G x y) {R:Ending→World→Prop}
  (hR:∀ u G',Step G G'→WR G'→(∀ d,G'.L d=none)→G'.h = { h' with dO:=[] }→pV G' v u→R (.returned u) G'.w):Calls P f args' G.w R:=by
 obtain ⟨fn,hfn,hbody,hres,_,hcode⟩:=hF.ex
 unfold oG at h
 generalize hc:tZ ⟨C,fa,call⟩ n fa.body fa.oP (params 0 args) G.h fa.iter=rc at h
 have main:∀ (x:Ex) (e':Env) (h1:bY),rc=some (x,e',h1)→(x=.gf∨x=.ret)→leave.leave1 C fa.res e' h1=some (v,h')→Calls P f args' G.w R:=by
  intro x e' h1 hrc hx hlv
  subst hrc
  refine calls_of_wp hfn hbody ?_
  have hfr:Fr G G:=by
   refine ⟨⟨⟨fun _ _ h=>h,fun _ _ _=>rfl,Nat.le_refl _,fun _ _ g z xs h=>⟨g,z,xs,h,Nat.le_refl _,fun _=>⟨rfl,fun _ h=>h⟩⟩,fun _ _ es c h=>⟨es,c,h,fun _ h=>h⟩,fun d B h=>by rw [hL d] at h; cases h⟩,rfl,rfl,rfl,Nat.le_refl _,fun _ _ _ _=>rfl,
    fun _ l h=>.inl ⟨l,h,rfl⟩,fun _ _ h=>.inl (by rw [show G.pi _ = _ from h]; rfl),fun _ _ h=>.inl h,rfl,fun _ _ _=>rfl,fun _ _ h=>(by cases h),fun _ _ h=>(by cases h),?_⟩,fun d B h=>by rw [hL d] at h; cases h⟩
   intro d c _ hd
   rw [hlo] at hd
   cases hd
  have hSt:St fn.ntmps G G (params 0 args) { tmps:=args'++Array.replicate (fn.ntmps - args'.size) undef,defers:=[] } :=
   ⟨hfr,hW,uL hl hr _,rfl,by simp; omega⟩
  refine ya (X:=⟨C,fa,call⟩) (N:=fn.ntmps) (G0:=G) hm hC hK hI hc hcode rfl hSt ?_
  intro G1 a1 hG1 hS1
  have hpost:∃ u,(results fn a1.tmps).run P G1.w=.ok u G1.w∧R (.returned u) G1.w:=by
   rw [← hG1,← hres] at hlv
   obtain ⟨e1,u,e2,e3⟩:=rb hS1.wr hC hS1.er hlv
   refine ⟨u,e2,?_⟩
   exact hR u (G1.fR [] fun _=>none) hS1.fr.S (hS1.wr.vI (fun d B h=>by cases h) (fun d B h=>by cases h)) (fun _=>rfl) (by rw [e1]; rfl) e3.fR
  rcases hx with rfl | rfl
  ·exact ⟨hS1.df,hpost⟩
  ·exact ⟨hS1.df,hpost⟩
 cases rc with
 | none=>cases h
 | some p =>
   obtain ⟨x,e',h1⟩:=p
   cases x with
   | gf=>exact main .gf e' h1 rfl (.inl rfl) h
   | ret=>exact main .ret e' h1 rfl (.inr rfl) h
   | ext id=>cases h
end
end Go.Sx
namespace Go.Sx
open Go
theorem PR.yY {w:World} {T T':Bool→Nat→Prop} {m:Bool} {v:AV} {u:Value} (h:PR w T m v u) (hm:m=false) (hT:∀ B,T false B→T' false B):PR w T' m v u:=by
 induction h with
 | undef m v h=>exact .undef m v h
 | bool m b=>exact .bool m b
 | int m k n=>exact .int m k n
 | str m s b h=>exact .str m s b h
 | fS m=>exact .fS m
 | ip m cells off sn B base c e fr f hm' hB hB' hc h1 hr ih =>
   have hs:sn=false:=by
    cases sn with
    | false=>rfl
    | true=>rw [hm] at hm'; exact absurd (hm' rfl) (by simp)
   subst hs
   exact .ip m cells off false B base c e fr f hm' hB (hT B hB') hc h1 (fun i x hx=>ih i x hx rfl)
 | slnil m=>exact .slnil m
 | iO m cap a c hm' h=>exact .iO m cap a c hm' h
 | sl m xs cap B base c e fr cap' esz f hm' hB hB' hcap hle hz hc h1 hr ih =>
   have hs:lH cap=false:=by
    cases hq:lH cap with
    | false=>rfl
    | true=>rw [hm] at hm'; exact absurd (hm' hq) (by simp)
   refine .sl m xs cap B base c e fr cap' esz f hm' hB (by rw [hs] at hB' ⊢; exact hT B hB') hcap hle hz hc h1 ?_
   intro i cs j x h1 h2
   exact ih i cs j x h1 h2 hs
 | fZ m=>exact .fZ m
 | fm m es sn r ents clk hm' hB hB' hl hy hko hk hv ihk ihv =>
   have hs:sn=false:=by
    cases sn with
    | false=>rfl
    | true=>rw [hm] at hm'; exact absurd (hm' rfl) (by simp)
   subst hs
   exact .fm m es false r ents clk hm' hB (hT r hB') hl hy hko (fun i p e h1 h2=>ihk i p e h1 h2 rfl) (fun i p e h1 h2=>ihv i p e h1 h2 rfl)
 | gZ m=>exact .gZ m
 | fz m g a c a' c' ha hc hra hrc iha ihc=>exact .fz m g a c a' c' ha hc (fun i x y h1 h2=>iha i x y h1 h2 hm) (fun i x y h1 h2=>ihc i x y h1 h2 hm)
 | agg m l vs hl h1 hr ih=>exact .agg m l vs hl h1 (fun i x y h1 h2=>ih i x y h1 h2 hm)
section
variable {P:Program} {C:fP} {G:Ga}
def KQ (G:Ga):Bool→Nat→Prop:=fun s B=>G.T s B∨(s=true∧∃ b l,G.pi b=some l∧l.B=B)
def ko (G:Ga):Ga:=⟨G.w,KQ G,bY.empty,fun _=>none,fun _=>none⟩
theorem uO (b:Nat):bY.empty.get b=none:=by
 simp only [bY.get,bY.empty,Tr.get]
 split<;>rfl
theorem yB (hW:WR G):WR (ko G) where
 eL:=fun _ _ _ _ _ h=>by cases h
 map:=fun _ _ _ _ h=>by cases h
 loc:=fun _ _ _ h=>by cases h
 gE:=fun _ _ h=>by cases h
 iU:=fun _ _ _ _ h=>by cases h
 ll:=fun _ _ _ h=>by cases h
 jZ:=fun _ _ _ h=>by cases h
 LT:=fun _ _ _ h=>by cases h
 kp:=fun _ _ _ _ h=>by cases h
 iE:=fun _ _ h=>by cases h
 jn:=by
  intro s B h
  rcases h with h | ⟨_,b,l,h1,rfl⟩
  ·exact hW.jn s B h
  ·exact (hW.gE b l h1).1
 lo:=Nat.le_refl _
 lt:=fun b o h=>by rw [show (ko G).h=bY.empty from rfl,uO] at h; cases h
theorem Rc {x:AV} {u:Value} (h:VR G x u) (hx:x.ld=false) (hn:x.iL=true):VR (ko G) x u:=by
 have fp:∀ (x:AV) (u:Value),VR G x u→x.gl=true→VR (ko G) x u:=by
  intro x u h hi
  cases h with
  | fp _ h=>exact .fp hi (h.mono (fun s B t=>.inl t) (fun _ _ _=>rfl))
  | _=>simp [AV.gl] at hi
 have hp:∀ x:AV,x.gM=true→x.gl=true:=by
  intro x hx
  cases x<;>simp_all [AV.gM,AV.gl]
 have fz:∀ (g:Nat) (a c:List AV) (u:Value),VR G (.fz g a c) u→(a.all AV.gM&&c.all AV.gM)=true→VR (ko G) (.fz g a c) u:=by
  intro g a c u h hx
  simp only [Bool.and_eq_true,List.all_eq_true] at hx
  cases h with
  | fp hi _=>simp [AV.gl] at hi
  | fz _ _ _ a' c' ha hc hna hnc hra hrc =>
    exact .fz g a c a' c' ha hc hna hnc (fun i x y h1 h2=>fp x y (hra i x y h1 h2) (hp x (hx.1 x (List.mem_of_getElem? h1)))) (fun i x y h1 h2=>fp x y (hrc i x y h1 h2) (hp x (hx.2 x (List.mem_of_getElem? h1))))
 cases x with
 | undef=>exact .undef _
 | bool b=>exact fp _ _ h rfl
 | int k n=>exact fp _ _ h rfl
 | str s=>exact fp _ _ h rfl
 | fS=>exact fp _ _ h rfl
 | ip c o s=>exact fp _ _ h rfl
 | la d o=>cases hn
 | ptr b g i o=>simp [AV.ld] at hx
 | sl xs c=>exact fp _ _ h rfl
 | hs b g o l=>simp [AV.ld] at hx
 | fZ=>exact fp _ _ h rfl
 | fm es s=>exact fp _ _ h rfl
 | hm b=>simp [AV.ld] at hx
 | fz g a c =>
   simp only [AV.ld,Bool.not_eq_false'] at hx
   exact fz g a c u h hx
 | gZ=>exact fp _ _ h rfl
 | agg l =>
   simp only [AV.ld] at hx
   rw [List.any_eq_false] at hx
   cases h with
   | fp hi _=>simp [AV.gl] at hi
   | agg _ vs hl hna h1 hr =>
     refine .agg l vs hl hna h1 ?_
     intro i x y hi hy
     have hv:=hr i x y hi hy
     have hxx:=hx x (List.mem_of_getElem? hi)
     have hxn:=hna x (List.mem_of_getElem? hi)
     cases x with
     | undef=>exact .undef _
     | bool b=>exact fp _ _ hv rfl
     | int k n=>exact fp _ _ hv rfl
     | str s=>exact fp _ _ hv rfl
     | fS=>exact fp _ _ hv rfl
     | ip c o s=>exact fp _ _ hv rfl
     | la d o=>cases hxn
     | ptr b g i o=>simp at hxx
     | sl xs c=>exact fp _ _ hv rfl
     | hs b g o l=>simp at hxx
     | fZ=>exact fp _ _ hv rfl
     | fm es s=>exact fp _ _ hv rfl
     | hm b=>simp at hxx
     | fz g a c =>
       simp only [Bool.not_eq_true,Bool.not_eq_false'] at hxx
       exact fz g a c y hv hxx
     | gZ=>exact fp _ _ hv rfl
     | agg l2 =>
       cases hv with
       | fp hi _=>simp [AV.gl] at hi
       | agg _ vs2 _ _ _ _ =>
         have:=h1 i _ hy
         simp [Value.oneCell'] at this
     | eP l2=>cases hxn
 | eP l=>cases hn
theorem qG (hW:WR G) {args j7:List AV} (h:iS G.h args=some j7) {args':Array Value} (hl:args.length=args'.size)
  (hr:∀ (i:Nat) (x:AV) (y:Value),args[i]?=some x→args'[i]?=some y→VC G x y) :
  j7.length=args'.size∧∀ (i:Nat) (x:AV) (y:Value),j7[i]?=some x→args'[i]?=some y→VC (ko G) x y:=by
 unfold iS at h
 split at h
 ·obtain ⟨h1,h2⟩:=gO h
  refine ⟨h1.trans hl,?_⟩
  intro i x y hx hy
  obtain ⟨x0,k1,k2⟩:=h2 i x hx
  have hv:=hr i x0 y k1 hy
  have:PR G.w (KQ G) true x y:=qL hW (fun s B t=>.inl t) (fun b l hp=>.inr ⟨rfl,b,l,hp,rfl⟩) 8 x0 x y k2 hv.na hv.vr
  exact PR.nY (G:=ko G) this
 ·rename_i hany
  simp only [Option.some.injEq] at h
  subst h
  refine ⟨hl,?_⟩
  intro i x y hx hy
  have hv:=hr i x y hx hy
  rw [List.any_eq_false] at hany
  exact ⟨Rc hv.vr (by simpa using hany x (List.mem_of_getElem? hx)) hv.na,hv.na⟩
def LQ (G G2:Ga):Bool→Nat→Prop:=fun s B=>G.T s B∨(s=false∧G.w.heap.size≤B∧(G2.T false B∨∃ b l,G2.pi b=some l∧l.B=B))
def m4 (G G2:Ga):Ga:=⟨G2.w,LQ G G2,G.h,G.pi,G.L⟩
theorem uR (hW:WR G) (hL:∀ d,G.L d=none) {G2:Ga} (S:Step (ko G) G2) (W2:WR G2):Step G (m4 G G2)∧WR (m4 G G2):=by
 have hpi2:∀ b l,G2.pi b=some l→G.w.heap.size≤l.B:=by
  intro b l h
  rcases S.iN b l h with ⟨l0,h0,_⟩ | hge
  ·cases h0
  ·exact hge
 have E:Ext G (m4 G G2):=by
  refine ⟨fun s B t=>.inl t,?_,Nat.le_refl _,fun _ _ g z xs h=>⟨g,z,xs,h,Nat.le_refl _,fun _=>⟨rfl,fun _ h=>h⟩⟩,fun _ _ es c h=>⟨es,c,h,fun _ h=>h⟩,fun _ _ h=>h⟩
  intro s B t
  exact S.ext.eB s B (.inl t)
 have hkeep:∀ b l,G.pi b=some l→(m4 G G2).w.heap[l.B]?=G.w.heap[l.B]?:=fun b l h=>S.ext.eB true l.B (.inr ⟨rfl,b,l,h,rfl⟩)
 refine ⟨⟨E,S.os,S.output,S.tape,S.gG,?_,fun _ l h=>.inl ⟨l,h,rfl⟩,fun _ _ h=>.inl (by rw [show G.pi _ = _ from h]; rfl),?_,rfl,fun _ _ _=>rfl,fun _ _ h=>.inl h,fun _ _ h=>.inl (by rw [show G.L _ = _ from h]; rfl),fun _ _ _ h=>h⟩,?_⟩
 ·intro B hB _ _
  exact S.frame B hB (fun b l h=>by cases h) (fun d B' h=>by cases h)
 ·intro s B h
  rcases h with h | ⟨_,h,_⟩
  ·exact .inl h
  ·exact .inr h
 ·constructor
  ·exact fun b l g z xs hp hg=>(hW.eL b l g z xs hp hg).mono E (hkeep b l hp)
  ·exact fun b l es c hp hg=>(hW.map b l es c hp hg).mono E (hkeep b l hp)
  ·intro d B cs h; rw [show (m4 G G2).L d=G.L d from rfl,hL d] at h; cases h
  ·exact fun b l h=>⟨Nat.lt_of_lt_of_le (hW.gE b l h).1 S.gG,(hW.gE b l h).2⟩
  ·exact hW.iU
  ·intro s b l h ht
   rcases ht with ht | ⟨_,hge,_⟩
   ·exact hW.ll s b l h ht
   ·have:=(hW.gE b l h).1
    omega
  ·exact hW.jZ
  ·intro s d B h; rw [show (m4 G G2).L d=G.L d from rfl,hL d] at h; cases h
  ·exact hW.kp
  ·intro d B h; rw [show (m4 G G2).L d=G.L d from rfl,hL d] at h; cases h
  ·intro s B h
   rcases h with h | ⟨_,_,h | ⟨b,l,h,rfl⟩⟩
   ·exact Nat.lt_of_lt_of_le (hW.jn s B h) S.gG
   ·exact W2.jn false B h
   ·exact (W2.gE b l h).1
  ·exact hW.lo
  ·exact hW.lt
theorem tY {G2:Ga} (S:Step (ko G) G2) (W2:WR G2) {v v':AV} {u:Value} {n:Nat} (h:freeze false G2.h n v=some v') (hv:VC G2 v u):VC (m4 G G2) v' u:=by
 have k:PR G2.w (fun s B=>G2.T s B∨(s=false∧∃ b l,G2.pi b=some l∧l.B=B)) false v' u :=
  qL W2 (fun s B t=>.inl t) (fun b l hp=>.inr ⟨rfl,b,l,hp,rfl⟩) n v v' u h hv.na hv.vr
 have k2:=k.yY (T':=LQ G G2) rfl (by
  intro B hB
  rcases hB with hB | ⟨_,b,l,hp,rfl⟩
  ·rcases S.l3 false B hB with h0 | hge
   ·rcases h0 with h0 | ⟨h0,_⟩
    ·exact .inl h0
    ·cases h0
   ·exact .inr ⟨rfl,hge,.inl hB⟩
  ·refine .inr ⟨rfl,?_,.inr ⟨b,l,hp,rfl⟩⟩
   rcases S.iN b l hp with ⟨l0,h0,_⟩ | hge
   ·cases h0
   ·exact hge)
 exact PR.nY (G:=m4 G G2) k2
theorem tl {G2:Ga} (S:Step (ko G) G2) (W2:WR G2) {v v':AV} {u:Value} {n:Nat} (h:freeze false G2.h n v=some v') (hv:pV G2 v u):pV (m4 G G2) v' u:=by
 rcases hv with hv | ⟨l,vs,rfl,rfl,h1,h2⟩
 ·exact .inl (tY S W2 h hv)
 ·cases n with
  | zero=>simp [freeze] at h
  | succ n =>
    simp only [freeze] at h
    split at h
    ·rename_i l' hl
     simp only [Option.some.injEq] at h
     subst h
     obtain ⟨k1,k2⟩:=gO hl
     refine .inr ⟨l',vs,rfl,rfl,k1.trans h1,?_⟩
     intro i x y hx hy
     obtain ⟨x0,m1,m2⟩:=k2 i x hx
     exact tY S W2 m2 (h2 i x0 y m1 hy)
    ·cases h
def vM (P:Program) (f:Nat) (args:List AV) (h:bY) (v:AV) (h':bY):Prop :=
 ∀ (G:Ga) (args':Array Value),G.h=h→h.dO=[]→(∀ d,G.L d=none)→WR G→args.length=args'.size→(∀ (i:Nat) (x:AV) (y:Value),args[i]?=some x→args'[i]?=some y→VC G x y) →
 (∃ fn, P.funcs[f]? = some fn ∧ fn.body.isNone = false ∧ (fn.name == "runtime.NumGoroutine") = false) ∧
 ∀ R:Ending→World→Prop,(∀ u G',Step G G'→WR G'→(∀ m:gN,{ G'.h with dO:=m } = { h' with dO:=m })→(∀ m L,VR (G'.fR m L) v u)→R (.returned u) G'.w)→Calls P f args' G.w R
structure ru (P:Program) (f:Nat) (p:Bool→List AV→bY→Option (AV×bY)):Prop where
 call:∀ shd args h v h',p shd args h=some (v,h')→vM P f args h v h'
 Eo:∀ (args:List AV) (h:bY) (v:AV) (h':bY),p false args h=some (v,h')→h'=h∧∀ h2:bY,(∀ b o,h.get b=some o→h2.get b=some o)→p false args h2=some (v,h2)
structure pz (P:Program) (C:fP) (F:iI) (Pr:iw):Prop where
 mixed:P.follows .mixedOrders=true
 cfg:fV P C
 fns:∀ f fa,F f=some fa→ey P f fa
 FW:∀ f p,Pr f=some p→ru P f p
theorem Bi {fa:eC} {call:lD} {lp:Nat} {args:List AV} {h:bY} {v:AV} {h':bY} (hc:ml C fa call lp false args h=some (v,h')) :
  h'=h∧∀ h2:bY,(∀ b o,h.get b=some o→h2.get b=some o)→ml C fa call lp false args h2=some (v,h2):=by
 simp only [ml] at hc
 split at hc
 ·cases hc
 ·rename_i j7 ha
  generalize hb:oG C fa call lp j7 bY.empty=r at hc
  unfold frozen at hc
  split at hc
  ·rename_i v0 h0
   split at hc
   ·cases hc
   ·rename_i v1 hv1
    simp only [Option.some.injEq,Prod.mk.injEq] at hc
    obtain ⟨rfl,rfl⟩:=hc
    refine ⟨rfl,?_⟩
    intro h2 E
    have ha2:iS h2 args=some j7:=by
     unfold iS at ha ⊢
     split at ha
     ·obtain ⟨e1,e2⟩:=gO ha
      have:∀ (l l':List AV),fx (freeze true h 8) l=some l'→fx (freeze true h2 8) l=some l':=by
       intro l
       induction l with
       | nil=>intro l' k; exact k
       | cons x l ihl =>
         intro l' k
         simp only [fx] at k ⊢
         split at k
         ·cases k
         ·rename_i w hw
          rw [pL E _ _ _ hw]
          split at k
          ·cases k
          ·rename_i l2 hl2
           simp only [ihl _ hl2]
           exact k
      exact this _ _ ha
     ·exact ha
    simp only [ml,ha2,hb,frozen,hv1]
  ·cases hc
theorem mW {F:iI} {Pr:iw} (T:pz P C F Pr) (n:Nat):j4 (ja C F Pr n):=by
 intro f args h v h' hc
 cases n with
 | zero=>cases hc
 | succ n =>
   simp only [ja] at hc
   cases hp:Pr f with
   | some p =>
     rw [hp] at hc
     obtain ⟨k1,k2⟩:=(T.FW f p hp).Eo _ _ _ _ hc
     refine ⟨k1,fun h2 E=>?_⟩
     simp only [ja,hp]
     exact k2 h2 E
   | none =>
     rw [hp] at hc
     simp only at hc
     split at hc
     ·cases hc
     ·rename_i fa hfa
      obtain ⟨k1,k2⟩:=Bi hc
      refine ⟨k1,fun h2 E=>?_⟩
      simp only [ja,hp,hfa]
      exact k2 h2 E
theorem mI {F:iI} {Pr:iw} (T:pz P C F Pr):∀ n:Nat,js P (ja C F Pr n):=by
 intro n
 induction n with
 | zero=>intro shd f args h v h' hc; cases hc
 | succ n ih =>
   intro shd f args h v h' hc
   simp only [ja] at hc
   cases hp:Pr f with
   | some p =>
     rw [hp] at hc
     exact (T.FW f p hp).call _ _ _ _ _ hc
   | none =>
     rw [hp] at hc
     simp only at hc
     split at hc
     ·cases hc
     ·rename_i fa hfa
      intro G args' hG hlo hL hW hl hr
      have hF:=T.fns f fa hfa
      obtain ⟨fn,hfn,hbody,_,hname,_⟩:=hF.ex
      refine ⟨⟨fn,hfn,by rw [hbody]; rfl,hname⟩,?_⟩
      intro R hR
      subst hG
      cases shd with
      | true =>
        simp only [ml] at hc
        refine tq T.mixed T.cfg ih (mW T n) hF hc hlo hL hW hl hr ?_
        intro u G' S' W' _ hh hv
        exact hR u G' S' W' (fun m=>by rw [hh]) (fun m L=>(hv.fR).vr)
      | false =>
        simp only [ml] at hc
        split at hc
        ·cases hc
        ·rename_i j7 ha
         generalize hb:oG C fa (ja C F Pr n) n j7 bY.empty=r at hc
         unfold frozen at hc
         split at hc
         ·rename_i v0 h0
          split at hc
          ·cases hc
          ·rename_i v1 hv1
           simp only [Option.some.injEq,Prod.mk.injEq] at hc
           obtain ⟨rfl,rfl⟩:=hc
           obtain ⟨k1,k2⟩:=qG hW ha hl hr
           refine tq (G:=ko G) T.mixed T.cfg ih (mW T n) hF hb rfl (fun _=>rfl) (yB hW) k1 k2 ?_
           intro u G2 S2 W2 _ hh hv
           obtain ⟨S3,W3⟩:=uR hW hL S2 W2
           have hfz:freeze false G2.h 8 v0=some v1:=by
            rw [hh]
            exact pL (fun b o h=>h) _ _ _ hv1
           exact hR u (m4 G G2) S3 W3 (fun m=>rfl) (fun m L=>(tl S2 W2 hfz hv).fR.vr)
         ·cases hc
end
end Go.Sx
namespace Go.Sx
def nL (shd:Bool) (args:List AV) (h:bY):R2:=match args with
 | [.fZ]=>some (.fZ,h)
 | [.fm es s]=>some (.fm es s,h)
 | [.hm b]=>match shd with
   | true=>match h.get b with
     | some (.map es c)=>some (.hm h.size,h.push (.map es c))
     | _=>none
   | false=>none
 | _=>none
def KE (f:Func):Code:=match f.body with
 | some c=>c
 | none=>.skip
end Go.Sx
namespace Go.Sx
open Go
theorem BC {G:Ga} (hW:WR G) (o:Obj) (s:Bool) :
  let G':Ga:=⟨G.w.alloc o,fun s' B=>G.T s' B∨(s'=s∧B=G.w.heap.size),G.h,G.pi,G.L⟩
  Step G G'∧WR G':=by
 intro G'
 obtain ⟨S,W⟩:=uz hW o
 have hold:∀ B,B<G.w.heap.size→(G.w.alloc o).heap[B]?=G.w.heap[B]?:=fun B hB=>(gv.alloc G.w o).mn (G:=G) hB
 have E:Ext G G':=⟨fun _ _ h=>.inl h,S.ext.eB,S.ext.size,S.ext.eL,S.ext.map,S.ext.dO⟩
 refine ⟨⟨E,S.os,S.output,S.tape,S.gG,S.frame,S.iN,S.ji,?_,S.lo,S.out,S.kZ,S.mf,S.mH⟩,?_⟩
 ·rintro s' B (h | ⟨_,rfl⟩)
  ·exact .inl h
  ·exact .inr (Nat.le_refl _)
 ·obtain ⟨k1,k2,k3⟩:=hW.eB E hold
  refine ⟨k1,k2,k3,W.gE,W.iU,?_,W.jZ,?_,W.kp,W.iE,?_,W.lo,W.lt⟩
  ·rintro s' b l h (ht | ⟨_,ht⟩)
   ·exact hW.ll s' b l h ht
   ·have:=(hW.gE b l h).1
    omega
  ·rintro s' d B h (ht | ⟨_,ht⟩)
   ·exact hW.LT s' d B h ht
   ·have:=(hW.iE d B h).1
    omega
  ·rintro s' B (h | ⟨_,rfl⟩)
   ·exact W.jn s' B h
   ·show G.w.heap.size<(G.w.alloc o).heap.size
    rw [(gv.alloc G.w o).size (G:=G)]
    exact Nat.lt_succ_self _
theorem rl {P : Program} {f : Nat} (hex : ∃ fn, P.funcs[f]? = some fn ∧ fn.body.isNone = false ∧ (fn.name == "runtime.NumGoroutine") = false)
  (h1:∀ b es clock (w:World),w.heap[b]?=some (.map es clock)→Calls P f #[.map (some b)] w fun e w'=>e=.returned (.map (some w.heap.size))∧w'=w.alloc (.map es clock))
  (h0:∀ w:World,Calls P f #[.map none] w fun e w'=>e=.returned (.map none)∧w'=w):ru P f nL where
 call:=by
  intro shd args h v h' hc G args' hG hlo hL hW hl hr
  refine ⟨hex,?_⟩
  intro R hR
  subst hG
  have one:∀ x:AV,args=[x]→∃ y,args' = #[y]∧VC G x y:=by
   rintro x rfl
   cases args' with | mk l =>
   cases l with
   | nil=>simp at hl
   | cons y l =>
     cases l with
     | nil=>exact ⟨y,rfl,hr 0 x y rfl rfl⟩
     | cons _ _=>simp at hl
  unfold nL at hc
  split at hc
  ·obtain ⟨y,rfl,hy⟩:=one _ rfl
   cases hc
   have hv:=hy.vr
   cases hv with
   | fp _ hp =>
     cases hp
     refine (h0 G.w).mono ?_
     rintro e w' ⟨rfl,rfl⟩
     exact hR _ G (.refl G) hW (fun m=>rfl) (fun m L=>VR.fR (.fp rfl (.fZ _)) rfl)
  ·rename_i es s
   obtain ⟨y,rfl,hy⟩:=one _ rfl
   cases hc
   have hv:=hy.vr
   cases hv with
   | fp _ hp =>
     cases hp with
     | fm _ _ _ r ents clk _ hB hI hll hyo hko hk hvv =>
       refine (h1 r ents clk G.w hB).mono ?_
       rintro e w' ⟨rfl,rfl⟩
       obtain ⟨S1,W1⟩:=BC hW (.map ents clk) s
       refine hR _ _ S1 W1 (fun m=>rfl) (fun m L=>VR.fR (.fp rfl ?_) rfl)
       refine .fm _ es s G.w.heap.size ents clk (fun _=>rfl) ((gv.alloc G.w _).new (G:=G)) (.inr ⟨rfl,rfl⟩) hll hyo hko ?_ ?_
       ·exact fun i p e hp he=>(hk i p e hp he).mono S1.ext.T S1.ext.eB
       ·exact fun i p e hp he=>(hvv i p e hp he).mono S1.ext.T S1.ext.eB
  ·rename_i b
   obtain ⟨y,rfl,hy⟩:=one _ rfl
   split at hc
   ·split at hc
    ·rename_i es c hget
     cases hc
     obtain ⟨l,ents,hpi,rfl,hB,hent,hyo⟩:=mX hW hy.vr hget
     refine (h1 l.B ents c G.w hB).mono ?_
     rintro e w' ⟨rfl,rfl⟩
     obtain ⟨S1,W1⟩:=wh (ob:=.map es c) (cap:=0) hW (gv.alloc G.w (.map ents c)) (by intro g z xs e; cases e) (by
      intro es2 c2 e G' E hnew
      cases e
      have hent2:=hent.mono E
      exact ⟨ents,hnew,by simpa using hent2.1,hyo,fun i p e hp he=>hent2.2 i p e hp (by simpa using he)⟩)
     refine hR _ _ S1 W1 (fun m=>rfl) (fun m L=>VR.fR (.hm _ _ ?_ ?_) rfl)
     ·show G.h.size<(G.h.push (.map es c)).size
      rw [bY.size_push]
      exact Nat.lt_succ_self _
     ·intro es2 c2 _
      exact ⟨_,g6 _ _ _,rfl⟩
    ·cases hc
   ·cases hc
  ·cases hc
 Eo:=by
  intro args h v h' hc
  unfold nL at hc
  split at hc
  ·cases hc; exact ⟨rfl,fun _ _=>rfl⟩
  ·cases hc; exact ⟨rfl,fun _ _=>rfl⟩
  ·cases hc
  ·cases hc
end Go.Sx
namespace Go.Sx
open Go
def Wf (P:Program) (t n:Nat):Bool:=match P.info? t with
 | some i=>Nat.beq i.size n
 | none=>false
def yp (P:Program) (t:Nat) (k:TK):Bool:=match P.underlying t,k with
 | some .bool,.bool=>true
 | some (.int a),.int b=>jM a b
 | some .string,.str=>true
 | _,_=>false
def yV (P:Program) (t:Nat):Option Nat:=match P.underlying t with
 | some (.struct _)=>(P.info? t).map (·.size)
 | _=>none
def mT (P:Program) (rec:Nat→List TK→Bool):List Field→Nat→List TK→Bool
 | [],_,ks=>ks.isEmpty
 | f :: fs, off, ks => (f.name != "_") && Nat.beq f.offset off && match yV P f.type with
   | some n=>Nat.ble n ks.length&&rec f.type (ks.take n)&&mT P rec fs (off+n) (ks.drop n)
   | none=>match ks with
     | k::ks=>yp P f.type k&&mT P rec fs (off+1) ks
     | []=>false
def mS (P:Program):Nat→Nat→List TK→Bool
 | 0,_,_=>false
 | d+1,t,ks=>match P.underlying t with
   | some (.struct F)=>!P.stoodInHeld t&&mT P (mS P d) F.toList 0 ks
   | _=>false
section
variable {P:Program}
theorem sv:∀ {a b:List AV} (c d:List AV),a.length=b.length→iq (a++c) (b++d)=match iq a b,iq c d with
  | some x,some y=>some (x&&y)
  | _,_=>none
 | [],[],c,d,_=>by
   simp only [List.nil_append,iq]
   cases iq c d<;>simp
 | [],_::_,_,_,h=>by simp at h
 | _::_,[],_,_,h=>by simp at h
 | x::a,y::b,c,d,h=>by
   have ih:=sv c d (a:=a) (b:=b) (by simpa using h)
   simp only [List.cons_append,iq]
   cases hs:iz x y with
   | none=>rfl
   | some v =>
     cases v with
     | true=>simp only [ih]
     | false =>
       simp only [ih]
       cases iq a b<;>cases iq c d<;>simp
theorem qc:∀ {l m:List AV} {b:Bool},iq l m=some b→l.length=m.length
 | [],[],_,_=>rfl
 | [],_::_,_,h=>by cases h
 | _::_,[],_,h=>by cases h
 | x::l,y::m,b,h=>by
   simp only [iq] at h
   split at h
   ·simp [qc h]
   ·split at h
    ·rename_i q; simp [qc q]
    ·cases h
   ·cases h
theorem pQ:∀ {ks:List TK} {l:List AV},fitAll ks l=true→l.length=ks.length
 | [],[],_=>rfl
 | [],_::_,h=>by cases h
 | _::_,[],h=>by cases h
 | _::ks,_::l,h=>by
   simp only [fitAll,Bool.and_eq_true] at h
   simp [pQ h.2]
theorem rB:∀ (n:Nat) {ks:List TK} {l:List AV},fitAll ks l=true→fitAll (ks.take n) (l.take n)=true∧fitAll (ks.drop n) (l.drop n)=true
 | 0,ks,l,h=>⟨by simp [fitAll],by simpa using h⟩
 | n+1,[],[],_=>⟨rfl,rfl⟩
 | _+1,[],_::_,h=>by cases h
 | _+1,_::_,[],h=>by cases h
 | n+1,k::ks,a::l,h=>by
   simp only [fitAll,Bool.and_eq_true] at h
   obtain ⟨h1,h2⟩:=rB n h.2
   exact ⟨by simp [fitAll,h.1,h1],by simpa using h2⟩
def Rel (w:World) (T:Bool→Nat→Prop) (l:List AV) (xs:Array Value):Prop:=l.length=xs.size∧∀ (i:Nat) (x:AV) (y:Value),l[i]?=some x→xs[i]?=some y→PR w T true x y
theorem Rel.part {w:World} {T:Bool→Nat→Prop} {l:List AV} {xs:Array Value} (h:Rel w T l xs) (o n:Nat) (hle:o+n≤l.length):Rel w T ((l.drop o).take n) (xs.extract o (o+n)):=by
 refine ⟨by simp [← h.1]; omega,?_⟩
 intro i x y hx hy
 rw [List.getElem?_take] at hx
 split at hx
 ·rw [List.getElem?_drop] at hx
  rw [Array.getElem?_extract] at hy
  split at hy
  ·exact h.2 (o+i) x y hx hy
  ·cases hy
 ·cases hx
theorem o1 {t:Nat} {k:TK} (hk:yp P t k=true) {xs:Array Value} {o:Nat} {y:Value} (hy:xs[o]?=some y) (w:World):(Go.part t xs o).run P w=.ok y w:=by
 unfold yp at hk
 have:∃ d,P.underlying t=some d∧zg d=false:=by
  split at hk<;>first | exact ⟨_,by assumption,rfl⟩ | cases hk
 obtain ⟨d,hd,hag⟩:=this
 have hA:(Go.isAgg t).run P w=.ok false w:=by
  unfold Go.isAgg
  rw [Sem.run_bind,run_underlying hd w,← hag]
  cases d<;>rfl
 unfold Go.part
 rw [Sem.run_bind,hA]
 simp [hy]
theorem qB {t n:Nat} (hk:yV P t=some n) (xs:Array Value) (o:Nat) (w:World):(Go.part t xs o).run P w=.ok (.agg (xs.extract o (o+n))) w:=by
 unfold yV at hk
 split at hk
 ·rename_i F hF
  cases hi:P.info? t with
  | none=>rw [hi] at hk; cases hk
  | some i =>
    rw [hi] at hk
    simp only [Option.map_some,Option.some.injEq] at hk
    have hA:(Go.isAgg t).run P w=.ok true w:=by
     unfold Go.isAgg
     rw [Sem.run_bind,run_underlying hF w]
     rfl
    unfold Go.part
    rw [Sem.run_bind,hA]
    simp [Go.sizeOf,typeInfo,hi,hk]
 ·cases hk
theorem uZ {t:Nat} {k:TK} (hk:yp P t k=true) {a c:AV} {x y:Value} {b:Bool} {w:World} {T:Bool→Nat→Prop} (hf:mg k a=true) (hx:PR w T true a x) (hy:PR w T true c y) (h:iz a c=some b) (d:Nat) :
  (Op.equalIn (d+1) t x y).run P w=.ok b w:=by
 unfold yp at hk
 split at hk
 ·rename_i hd
  cases a<;>simp only [mg,Bool.false_eq_true] at hf
  cases c<;>simp only [iz,qI,AV.bool?,reduceCtorEq] at h
  cases hx; cases hy
  rw [run_equalIn_bool w d t _ _ hd]
  simp only [Option.some.injEq] at h
  rw [h]
 ·rename_i k1 k2 hd
  cases a<;>simp only [mg,Bool.false_eq_true] at hf
  cases c<;>simp only [iz,oA,AV.int?,reduceCtorEq] at h
  split at h
  ·rename_i hkk
   rw [lN] at hkk
   cases hx; cases hy
   subst hkk
   rw [run_equalIn_int w d t _ _ _ _ hd]
   simp only [lh,Option.some.injEq] at h
   rw [h]
  ·cases h
 ·rename_i hd
  cases a<;>simp only [mg,Bool.false_eq_true] at hf
  cases c<;>simp only [iz,rK,AV.str?,reduceCtorEq] at h
  cases hx with
  | str _ _ p hp =>
    cases hy with
    | str _ _ q hq =>
      have:(Op.equalIn (d+1) t (.string p) (.string q)).run P w=.ok (p==q) w:=by simp [Op.equalIn,run_underlying hd]
      rw [this,xk,hp,hq]
      simp only [Option.some.injEq] at h
      rw [h]
 ·cases hk
theorem lb {rec:Nat→List TK→Bool} {d:Nat}
  (hrec:∀ t ks,rec t ks=true→∀ (l m:List AV) (xs ys:Array Value) (b:Bool) (w:World) (T:Bool→Nat→Prop),fitAll ks l=true→Rel w T l xs→Rel w T m ys→iq l m=some b→(Op.equalIn d t (.agg xs) (.agg ys)).run P w=.ok b w)
  (hd:0<d) {l m:List AV} {xs ys:Array Value} {w:World} {T:Bool→Nat→Prop} (hx:Rel w T l xs) (hy:Rel w T m ys) :
  ∀ (fs:List Field) (off:Nat) (ks:List TK) (b:Bool),mT P rec fs off ks=true→fitAll ks (l.drop off)=true→iq (l.drop off) (m.drop off)=some b→off≤l.length→l.length=m.length →
    (Op.eqFields d xs ys fs).run P w=.ok b w
 | [],off,ks,b,hfl,hfit,he,_,_=>by
   simp only [mT,List.isEmpty_iff] at hfl
   subst hfl
   have h0:=pQ hfit
   have h1:l.drop off=[]:=List.eq_nil_of_length_eq_zero h0
   have h2:m.drop off=[]:=List.eq_nil_of_length_eq_zero (by rw [← qc he,h1]; rfl)
   rw [h1,h2] at he
   cases he
   simp [Op.eqFields]
 | f::fs,off,ks,b,hfl,hfit,he,hol,hlm=>by
   simp only [mT,Bool.and_eq_true,bne_iff_ne,ne_eq] at hfl
   obtain ⟨⟨hname,hoff⟩,hrest⟩:=hfl
   have hoff:=Nat.eq_of_beq_eq_true hoff
   unfold Op.eqFields
   rw [if_pos hname,hoff]
   split at hrest
   ·rename_i n hn
    simp only [Bool.and_eq_true,Nat.ble_eq] at hrest
    obtain ⟨⟨hnk,hr⟩,hfs⟩:=hrest
    have hlen:=pQ hfit
    rw [List.length_drop] at hlen
    obtain ⟨fit1,fit2⟩:=rB n hfit
    rw [List.drop_drop] at fit2
    have hsplit:iq (l.drop off) (m.drop off)=match iq ((l.drop off).take n) ((m.drop off).take n),iq (l.drop (off+n)) (m.drop (off+n)) with
      | some x,some y=>some (x&&y)
      | _,_=>none:=by
     have:=sv (a:=(l.drop off).take n) (b:=(m.drop off).take n) (l.drop (off+n)) (m.drop (off+n)) (by simp [hlm])
     rw [← List.drop_drop (i:=n) (j:=off),← List.drop_drop (i:=n) (j:=off),List.take_append_drop,List.take_append_drop] at this
     rw [this,List.drop_drop,List.drop_drop]
    rw [hsplit] at he
    split at he
    ·rename_i b1 b2 h1 h2
     cases he
     have e1:=hrec _ _ hr _ _ _ _ b1 w T fit1 (hx.part off n (by omega)) (hy.part off n (by omega)) h1
     have e2:=lb hrec hd hx hy fs (off+n) _ b2 hfs fit2 h2 (by omega) hlm
     simp only [Sem.run_bind,qB hn,Result.andThen_ok,e1,Sem.run_ite]
     cases b1 with
     | true=>simpa using e2
     | false=>simp
    ·cases he
   ·rename_i hn
    split at hrest
    ·rename_i k ks
     simp only [Bool.and_eq_true] at hrest
     obtain ⟨hk,hfs⟩:=hrest
     cases hld:l.drop off with
     | nil=>rw [hld] at hfit; cases hfit
     | cons a l' =>
       cases hmd:m.drop off with
       | nil=>rw [hld,hmd] at he; cases he
       | cons c m' =>
         have hl':l'=l.drop (off+1):=by rw [← List.drop_drop,hld]; rfl
         have hm':m'=m.drop (off+1):=by rw [← List.drop_drop,hmd]; rfl
         rw [hld] at hfit
         simp only [fitAll,Bool.and_eq_true] at hfit
         have hla:l[off]?=some a:=by
          have:(l.drop off)[0]?=some a:=by rw [hld]; rfl
          rw [List.getElem?_drop] at this; simpa using this
         have hmc:m[off]?=some c:=by
          have:(m.drop off)[0]?=some c:=by rw [hmd]; rfl
          rw [List.getElem?_drop] at this; simpa using this
         have hlt:=(List.getElem?_eq_some_iff.1 hla).1
         have hmt:=(List.getElem?_eq_some_iff.1 hmc).1
         have hlx:off<xs.size:=by rw [← hx.1]; exact hlt
         have hly:off<ys.size:=by rw [← hy.1]; exact hmt
         have hxo:xs[off]?=some xs[off]:=by simp [hlx]
         have hyo:ys[off]?=some ys[off]:=by simp [hly]
         rw [hld,hmd] at he
         simp only [iq] at he
         have next:∀ b2,iq l' m'=some b2→(Op.eqFields d xs ys fs).run P w=.ok b2 w:=by
          intro b2 h2
          rw [hl',hm'] at h2
          exact lb hrec hd hx hy fs (off+1) ks b2 hfs (by rw [← hl']; exact hfit.2) h2 (by omega) hlm
         obtain ⟨d',rfl⟩:∃ d',d=d'+1:=⟨d - 1,by omega⟩
         simp only [Sem.run_bind,o1 hk hxo,o1 hk hyo,Result.andThen_ok]
         split at he
         ·rename_i hs
          rw [uZ hk hfit.1 (hx.2 off a _ hla hxo) (hy.2 off c _ hmc hyo) hs d']
          simp only [Result.andThen_ok,Bool.not_true,Bool.false_eq_true,if_false]
          exact next b he
         ·rename_i hs
          rw [uZ hk hfit.1 (hx.2 off a _ hla hxo) (hy.2 off c _ hmc hyo) hs d']
          split at he
          ·cases he
           simp
          ·cases he
         ·cases he
    ·cases hrest
theorem sy:∀ (d t:Nat) (ks:List TK),mS P d t ks=true→∀ (D:Nat) (l m:List AV) (xs ys:Array Value) (b:Bool) (w:World) (T:Bool→Nat→Prop),fitAll ks l=true→Rel w T l xs→Rel w T m ys→iq l m=some b →
  (Op.equalIn (D+1+d) t (.agg xs) (.agg ys)).run P w=.ok b w
 | 0,_,_,h=>by cases h
 | d+1,t,ks,h=>by
   intro D l m xs ys b w T hfit hx hy he
   simp only [mS] at h
   split at h
   ·rename_i F hF
    simp only [Bool.and_eq_true,Bool.not_eq_true'] at h
    have hfo:P.fieldsOf t=F:=by simp [Program.fieldsOf,hF]
    rw [show D+1+(d+1)=(D+1+d)+1 by omega,run_equalIn_struct w (D+1+d) t xs ys (by rw [hfo]; exact hF) h.1,hfo]
    exact lb (fun t' ks' h'=>sy d t' ks' h' D) (by omega) hx hy F.toList 0 ks b h.2 (by simpa using hfit) (by simpa using he) (Nat.zero_le _) (qc he)
   ·cases h
theorem o9:∀ (d t:Nat) (ks:List TK),mS P d t ks=true→∀ (D:Nat) (em:Bool) (xs:Array Value) (w:World),xs.size=ks.length→(Instr.checkKey em (D+1+d) t (.agg xs)).run P w=.ok () w
 | 0,_,_,h=>by cases h
 | d+1,t,ks,h=>by
   intro D em xs w hsz
   simp only [mS] at h
   split at h
   ·rename_i F hF
    simp only [Bool.and_eq_true] at h
    have hfl:=h.2
    rw [show D+1+(d+1)=(D+1+d)+1 by omega]
    unfold Instr.checkKey
    simp only [Sem.run_bind,run_underlying hF,Result.andThen_ok]
    rw [← Array.forIn_toList]
    have go:∀ (fs:List Field) (off:Nat) (ks':List TK),mT P (mS P d) fs off ks'=true→off+ks'.length=xs.size →
      (forIn (m := Sem) fs PUnit.unit (fun f _ => if f.name ≠ "_" then do
        Instr.checkKey em (D+1+d) f.type (← Go.part f.type xs f.offset)
        pure (ForInStep.yield PUnit.unit) else pure (ForInStep.yield PUnit.unit))).run P w=.ok PUnit.unit w:=by
     intro fs
     induction fs with
     | nil=>intro off ks' _ _; simp
     | cons f fs ih =>
       intro off ks' hf ho
       simp only [mT,Bool.and_eq_true,bne_iff_ne,ne_eq] at hf
       obtain ⟨⟨hname,hoff⟩,hrest⟩:=hf
       have hoff:=Nat.eq_of_beq_eq_true hoff
       rw [List.forIn_cons]
       split at hrest
       ·rename_i n hn
        simp only [Bool.and_eq_true,Nat.ble_eq] at hrest
        obtain ⟨⟨hnk,hr⟩,hfs⟩:=hrest
        have e1:=o9 d f.type _ hr D em (xs.extract f.offset (f.offset+n)) w (by simp; omega)
        have e2:=ih (off+n) _ hfs (by simp; omega)
        simp only [Sem.run_bind,if_pos hname,qB hn,Result.andThen_ok,e1,Sem.run_pure]
        exact e2
       ·split at hrest
        ·rename_i k ks2
         simp only [Bool.and_eq_true] at hrest
         have hlt:f.offset<xs.size:=by rw [hoff,← ho]; simp
         have hxo:xs[f.offset]?=some xs[f.offset]:=by simp [hlt]
         have e0:(Instr.checkKey em (D+1+d) f.type xs[f.offset]).run P w=.ok () w:=by
          have hk:=hrest.1
          unfold yp at hk
          rw [show D+1+d=(D+d)+1 by omega]
          split at hk
          ·rename_i hu; exact mC hu (.inr (.inl rfl))
          ·rename_i hu; exact mC hu (.inr (.inr ⟨_,rfl⟩))
          ·rename_i hu; exact mC hu (.inl rfl)
          ·cases hk
         have e2:=ih (off+1) _ hrest.2 (by rw [← ho,List.length_cons]; omega)
         simp only [Sem.run_bind,if_pos hname,o1 hrest.1 hxo,Result.andThen_ok,e0,Sem.run_pure]
         exact e2
        ·cases hrest
    rw [go F.toList 0 ks hfl (by rw [hsz]; omega)]
    rfl
   ·cases h
def Hp (P:Program) (d:TypeDesc) (k:TK):Bool:=match d,k with
 | .bool,.bool=>true
 | .int a,.int b=>jM a b
 | .string,.str=>true
 | .pointer _,.ptr=>true
 | .slice a,.slice b=>Nat.beq a b
 | .array n a,.array m b=>Nat.beq n m&&Nat.beq a b
 | .map a b,.map c e=>Nat.beq a c&&Nat.beq b e
 | .struct F,.struct fs=>(fs==F.toList.map fun f=>(f.offset,f.type))&&F.toList.all fun f=>match P.info? f.type with
   | some i=>!(Nat.beq i.size 0)
   | none=>false
 | .func ..,.func=>true
 | _,.other=>true
 | _,_=>false
def Gz (ti:TI) (z:Value):Bool:=jX (jP 2) ti.zero (z.cells.toList.map wz)&&Nat.beq z.cells.size ti.size&&z.cells.toList.all (·.oneCell')&&match ti.agg,z with
 | true,.agg _=>true
 | true,_=>false
 | false,z=>z.oneCell'
def Ay (P:Program) (t:Nat) (ti:TI):Bool :=
 (match P.info? t with
 | some i=>Nat.beq i.size ti.size&&Nat.beq i.bytes ti.bytes&&match i.zero with
   | some z=>Gz ti z
   | none=>false
 | none=>false) &&
 (match P.underlying t with
 | some d=>wg (zg d) ti.agg&&Hp P d ti.kind
 | none=>false) &&
 Nat.ble ti.bytes 1048576 &&
 (!ti.flat||!(P.eqGuardType P.depth t)) &&
 (!(ti.flat&&ti.agg)||(mS P 3 t ti.sc&&Nat.beq ti.sc.length ti.size))
theorem Kq {t:Nat} {ti:TI} (h:Ay P t ti=true):iX P t ti:=by
 simp only [Ay,Bool.and_eq_true] at h
 obtain ⟨⟨⟨⟨h1,h2⟩,h3⟩,h4⟩,h5⟩:=h
 have hflat:ti.flat=true→ti.agg=true→mS P 3 t ti.sc=true∧ti.sc.length=ti.size:=by
  intro hf ha
  rw [hf,ha] at h5
  simp only [Bool.and_self,Bool.not_true,Bool.false_or,Bool.and_eq_true] at h5
  exact ⟨h5.1,Nat.eq_of_beq_eq_true h5.2⟩
 refine ⟨?_,?_,Nat.le_of_ble_eq_true h3,?_,?_,?_⟩
 ·split at h1
  ·rename_i i hi
   simp only [Bool.and_eq_true] at h1
   obtain ⟨⟨a1,a2⟩,a3⟩:=h1
   split at a3
   ·rename_i z hz
    simp only [Gz,Bool.and_eq_true,List.all_eq_true] at a3
    obtain ⟨⟨⟨z1,z2⟩,z3⟩,z4⟩:=a3
    refine ⟨i,z,hi,Nat.eq_of_beq_eq_true a1,Nat.eq_of_beq_eq_true a2,hz,iP (kh 2) _ _ z1,Nat.eq_of_beq_eq_true z2,z3,?_,?_⟩
    ·intro ha
     rw [ha] at z4
     split at z4
     ·exact ⟨_,rfl⟩
     ·cases z4
     ·rename_i hq; cases hq
    ·intro ha
     rw [ha] at z4
     exact z4
   ·cases a3
  ·cases h1
 ·split at h2
  ·rename_i d hd
   simp only [Bool.and_eq_true,wB,beq_iff_eq] at h2
   refine ⟨d,hd,h2.1,?_⟩
   have hk:=h2.2
   generalize ti.kind=kk at hk ⊢
   unfold Hp at hk
   split at hk<;>try (cases hk; done)
   ·exact rfl
   ·rw [lN] at hk; subst hk; exact rfl
   ·exact rfl
   ·exact ⟨_,rfl⟩
   ·have:=Nat.eq_of_beq_eq_true hk; subst this; exact rfl
   ·simp only [Bool.and_eq_true] at hk
    have e1:=Nat.eq_of_beq_eq_true hk.1
    have e2:=Nat.eq_of_beq_eq_true hk.2
    subst e1; subst e2; exact rfl
   ·simp only [Bool.and_eq_true] at hk
    have e1:=Nat.eq_of_beq_eq_true hk.1
    have e2:=Nat.eq_of_beq_eq_true hk.2
    subst e1; subst e2; exact rfl
   ·simp only [Bool.and_eq_true,beq_iff_eq,List.all_eq_true] at hk
    refine ⟨_,rfl,hk.1,?_⟩
    intro f hf
    have:=hk.2 f hf
    split at this
    ·rename_i i hi
     refine ⟨i,hi,?_⟩
     intro h0
     rw [h0] at this
     simp at this
    ·cases this
   ·exact ⟨_,_,_,rfl⟩
   ·trivial
  ·cases h2
 ·intro hf
  rw [hf] at h4
  simpa using h4
 ·intro hf ha l m xs ys b w T hfit hl hm hx hy he
  obtain ⟨f1,f2⟩:=hflat hf ha
  have rel:∀ {l:List AV} {xs:Array Value},PR w T true (.agg l) (.agg xs)→Rel w T l xs:=by
   intro l xs h
   cases h with
   | agg _ _ _ hl h1 hr=>exact ⟨hl,hr⟩
  exact sy 3 t ti.sc f1 9996 l m xs ys b w T hfit (rel hx) (rel hy) he
 ·intro hf ha e xs w hsz
  obtain ⟨f1,f2⟩:=hflat hf ha
  exact o9 3 t ti.sc f1 9996 e xs w (by rw [f2]; exact hsz)
def Tr.uC {α:Type} (p:Nat→α→Bool):Tr α→(Nat→Nat)→Bool
 | .leaf,_=>true
 | .node l v r,f=>(match v with
   | some x=>p (f 0) x
   | none=>true)&&Tr.uC p l (fun n=>f (2*n+1))&&Tr.uC p r (fun n=>f (2*n+2))
theorem Tr.s3 {α:Type} (p:Nat→α→Bool):∀ (t:Tr α) (f:Nat→Nat),Tr.uC p t f=true→∀ (n:Nat) (x : α),t.get n=some x→p (f n) x=true
 | .leaf,_,_,n,x,h=>by simp [Tr.get] at h
 | .node l v r,f,ha,n,x,h=>by
   simp only [Tr.uC,Bool.and_eq_true] at ha
   obtain ⟨⟨h1,h2⟩,h3⟩:=ha
   cases n with
   | zero =>
     simp only [Tr.get] at h
     rw [h] at h1
     exact h1
   | succ m =>
     simp only [Tr.get] at h
     split at h
     ·rename_i hm
      have hm:=Nat.eq_of_beq_eq_true hm
      have:=Tr.s3 p l _ h2 (m / 2) x h
      rw [show 2*(m / 2)+1=m+1 by omega] at this
      exact this
     ·rename_i hm
      have hm:m % 2≠0:=Nat.ne_of_beq_eq_false hm
      have:=Tr.s3 p r _ h3 (m / 2) x h
      rw [show 2*(m / 2)+2=m+1 by omega] at this
      exact this
def Tr.xn {α:Type} (q:Nat→α→Prop):Tr α→(Nat→Nat)→Prop
 | .leaf,_=>True
 | .node l v r,f=>(match v with
   | some x=>q (f 0) x
   | none=>True)∧Tr.xn q l (fun n=>f (2*n+1))∧Tr.xn q r (fun n=>f (2*n+2))
theorem Tr.sN {α:Type} (q:Nat→α→Prop):∀ (t:Tr α) (f:Nat→Nat),Tr.xn q t f→∀ (n:Nat) (x : α),t.get n=some x→q (f n) x
 | .leaf,_,_,n,x,h=>by simp [Tr.get] at h
 | .node l v r,f,ha,n,x,h=>by
   simp only [Tr.xn] at ha
   obtain ⟨h1,h2,h3⟩:=ha
   cases n with
   | zero =>
     simp only [Tr.get] at h
     rw [h] at h1
     exact h1
   | succ m =>
     simp only [Tr.get] at h
     split at h
     ·rename_i hm
      have hm:=Nat.eq_of_beq_eq_true hm
      have:=Tr.sN q l _ h2 (m / 2) x h
      rw [show 2*(m / 2)+1=m+1 by omega] at this
      exact this
     ·rename_i hm
      have hm:m % 2≠0:=Nat.ne_of_beq_eq_false hm
      have:=Tr.sN q r _ h3 (m / 2) x h
      rw [show 2*(m / 2)+2=m+1 by omega] at this
      exact this
theorem Jj {t:Tr TI} (h:Tr.uC (Ay P) t id=true):fV P ⟨t.get⟩ :=
 ⟨fun n ti hn=>Kq (Tr.s3 (Ay P) t id h n ti hn)⟩
end
end Go.Sx
namespace Go.Sx
open Go
section
variable (C:fP) (F:iI) (Pr:iw)
def eH (shd:Bool) (f:Nat) (args:List AV) (h:bY) (v:AV) (h':bY):Prop:=∃ m,∀ k,m≤k→ja C F Pr k shd f args h=some (v,h')
abbrev XN (fa:eC) (k:Nat):Ctx:=⟨C,fa,ja C F Pr k⟩
def Wp (fa:eC) (c:Code) (an:g8) (Q:Ex→Env→bY→Prop) (e:Env) (h:bY):Prop :=
 ∃ x e' h',(∃ m,∀ k,m≤k→fT (XN C F Pr fa k) (gA k) c an e h=some (x,e',h'))∧Q x e' h'
def gy (fa:eC) (all ops:List Oper) (Q:Env→bY→Prop) (e:Env) (h:bY):Prop :=
 ∃ e' h',(∃ m,∀ k,m≤k→rv (XN C F Pr fa k) all ops e h=some (e',h'))∧Q e' h'
def gz (fa:eC) (all:List Oper) (sch:List (Nat×List Nat)) (Q:Env→bY→Prop) (e:Env) (h:bY):Prop :=
 ∃ e' h',(∃ m,∀ k,m≤k→nb (XN C F Pr fa k) all sch e h=some (e',h'))∧Q e' h'
end
section
variable {C:fP} {F:iI} {Pr:iw} {fa:eC} {Q:Ex→Env→bY→Prop} {e:Env} {h:bY}
theorem Wp.mono {c:Code} {an:g8} {Q':Ex→Env→bY→Prop} (w:Wp C F Pr fa c an Q e h) (hq:∀ x e h,Q x e h→Q' x e h):Wp C F Pr fa c an Q' e h :=
 let ⟨x,e',h',m,q⟩:=w; ⟨x,e',h',m,hq _ _ _ q⟩
theorem CI {an:g8} (q:Q .gf e h):Wp C F Pr fa .skip an Q e h:=⟨_,_,_,⟨0,fun _ _=>rfl⟩,q⟩
theorem Bo {l:Nat} {an:g8} (q:Q .gf e h):Wp C F Pr fa (.label l) an Q e h:=⟨_,_,_,⟨0,fun _ _=>rfl⟩,q⟩
theorem Du {id:Nat} {an:g8} (q:Q (.ext id) e h):Wp C F Pr fa (.exit id) an Q e h:=⟨_,_,_,⟨0,fun _ _=>rfl⟩,q⟩
theorem HT {an:g8} (q:Q .ret e h):Wp C F Pr fa .ret an Q e h:=⟨_,_,_,⟨0,fun _ _=>rfl⟩,q⟩
theorem oo {c:Code} {an:g8} (w:Wp C F Pr fa c an Q e h):Wp C F Pr fa (.scope c) an Q e h:=w
def oj (next:Env→bY→Prop) (Q:Ex→Env→bY→Prop):Ex→Env→bY→Prop
 | .gf,e,h=>next e h
 | x,e,h=>Q x e h
theorem IH {a b:Code} {x y:g8} (w:Wp C F Pr fa a x (oj (Wp C F Pr fa b y Q) Q) e h):Wp C F Pr fa (.seq a b) (.sq x y) Q e h:=by
 obtain ⟨x1,e1,h1,⟨m1,hm1⟩,q1⟩:=w
 cases x1 with
 | gf =>
   obtain ⟨x2,e2,h2,⟨m2,hm2⟩,q2⟩:=q1
   refine ⟨x2,e2,h2,⟨max m1 m2,fun k hk=>?_⟩,q2⟩
   simp only [fT,rA,hm1 k (by omega),andThen]
   exact hm2 k (by omega)
 | ext id=>exact ⟨_,e1,h1,⟨m1,fun k hk=>by simp only [fT,rA,hm1 k hk,andThen]⟩,q1⟩
 | ret=>exact ⟨_,e1,h1,⟨m1,fun k hk=>by simp only [fT,rA,hm1 k hk,andThen]⟩,q1⟩
theorem yM {a b:Code} {live:List Nat} {x y:g8} (w:Wp C F Pr fa a x (oj (fun e h=>Wp C F Pr fa b y Q (proj live e) { h with dO:=eV live h.dO }) Q) e h):Wp C F Pr fa (.seq a b) (.seq live x y) Q e h:=by
 obtain ⟨x1,e1,h1,⟨m1,hm1⟩,q1⟩:=w
 cases x1 with
 | gf =>
   obtain ⟨x2,e2,h2,⟨m2,hm2⟩,q2⟩:=q1
   refine ⟨x2,e2,h2,⟨max m1 m2,fun k hk=>?_⟩,q2⟩
   simp only [fT,rA,hm1 k (by omega),andThen,jI]
   exact hm2 k (by omega)
 | ext id=>exact ⟨_,e1,h1,⟨m1,fun k hk=>by simp only [fT,rA,hm1 k hk,andThen]⟩,q1⟩
 | ret=>exact ⟨_,e1,h1,⟨m1,fun k hk=>by simp only [fT,rA,hm1 k hk,andThen]⟩,q1⟩
theorem vS {c:Operand} {a b:Code} {x y:g8} {t:Bool} (hc:eO e c=.bool t) (w1:t=true→Wp C F Pr fa a x Q e h) (w2:t=false→Wp C F Pr fa b y Q e h):Wp C F Pr fa (.cond c a b) (.two x y) Q e h:=by
 cases t with
 | true =>
   obtain ⟨x1,e1,h1,⟨m1,hm1⟩,q1⟩:=w1 rfl
   exact ⟨x1,e1,h1,⟨m1,fun k hk=>by simp only [fT,vC,vL,hc,AV.bool?,hm1 k hk]⟩,q1⟩
 | false =>
   obtain ⟨x1,e1,h1,⟨m1,hm1⟩,q1⟩:=w2 rfl
   exact ⟨x1,e1,h1,⟨m1,fun k hk=>by simp only [fT,vC,vL,hc,AV.bool?,hm1 k hk]⟩,q1⟩
def Ae (id:Nat) (Q:Ex→Env→bY→Prop):Ex→Env→bY→Prop
 | .ext i,e,h=>if i=id then Q .gf e h else Q (.ext i) e h
 | x,e,h=>Q x e h
theorem Au {id:Nat} {a:Code} {an:g8} (w:Wp C F Pr fa a an (Ae id Q) e h):Wp C F Pr fa (.block id a) an Q e h:=by
 obtain ⟨x1,e1,h1,⟨m1,hm1⟩,q1⟩:=w
 cases x1 with
 | gf=>exact ⟨_,e1,h1,⟨m1,fun k hk=>by simp only [fT,pe,hm1 k hk,atEnd]⟩,q1⟩
 | ret=>exact ⟨_,e1,h1,⟨m1,fun k hk=>by simp only [fT,pe,hm1 k hk,atEnd]⟩,q1⟩
 | ext i =>
   simp only [Ae] at q1
   split at q1
   ·rename_i hi
    subst hi
    exact ⟨_,e1,h1,⟨m1,fun k hk=>by simp only [fT,pe,hm1 k hk,atEnd,Nat.beq_refl]⟩,q1⟩
   ·rename_i hi
    have hb:Nat.beq i id=false:=by
     cases hq:Nat.beq i id with
     | true=>exact absurd (Nat.eq_of_beq_eq_true hq) hi
     | false=>rfl
    exact ⟨_,e1,h1,⟨m1,fun k hk=>by simp only [fT,pe,hm1 k hk,atEnd,hb]⟩,q1⟩
theorem iC {c:Code} {live:List Nat} {an:g8} (I:Nat→Env→bY→Prop)
  (round:∀ n e h,I n e h→Wp C F Pr fa c an (oj (fun e' h'=>∃ m,m<n∧I m e' h') Q) (proj live e) { h with dO:=eV live h.dO }) :
  ∀ (n:Nat) (e:Env) (h:bY),I n e h→Wp C F Pr fa (.loop c) (.loop live an) Q e h:=by
 have key:∀ (n:Nat) (e:Env) (h:bY),I n e h→∃ x e' h',(∃ M,∀ k j,M≤k→M≤j→gA j (hZ live (fT (XN C F Pr fa k) (gA k) c an)) e h=some (x,e',h'))∧Q x e' h':=by
  intro n
  induction n using Nat.strongRecOn with
  | _ n ih =>
    intro e h hI
    obtain ⟨x1,e1,h1,⟨m1,hm1⟩,q1⟩:=round n e h hI
    have other:∀ x1,(∀ e h,oj (fun e' h'=>∃ m,m<n∧I m e' h') Q x1 e h=Q x1 e h)→x1≠.gf→(∀ k,m1≤k→fT (XN C F Pr fa k) (gA k) c an (proj live e) { h with dO:=eV live h.dO }=some (x1,e1,h1))→Q x1 e1 h1 →
      ∃ x e' h',(∃ M,∀ k j,M≤k→M≤j→gA j (hZ live (fT (XN C F Pr fa k) (gA k) c an)) e h=some (x,e',h'))∧Q x e' h':=by
     intro x1 _ hne hm q
     refine ⟨x1,e1,h1,⟨m1+1,fun k j hk hj=>?_⟩,q⟩
     obtain ⟨j,rfl⟩:∃ j',j=j'+1:=⟨j - 1,by omega⟩
     simp only [gA,jI,hm k (by omega)]
     cases x1 with
     | gf=>exact absurd rfl hne
     | ext id=>rfl
     | ret=>rfl
    cases x1 with
    | gf =>
      obtain ⟨m,hlt,hI1⟩:=q1
      obtain ⟨x2,e2,h2,⟨M,hM⟩,q2⟩:=ih m hlt e1 h1 hI1
      refine ⟨x2,e2,h2,⟨max m1 M+1,fun k j hk hj=>?_⟩,q2⟩
      obtain ⟨j,rfl⟩:∃ j',j=j'+1:=⟨j - 1,by omega⟩
      simp only [gA,jI,hm1 k (by omega)]
      exact hM k j (by omega) (by omega)
    | ext id=>exact other (.ext id) (fun _ _=>rfl) (by simp) hm1 q1
    | ret=>exact other .ret (fun _ _=>rfl) (by simp) hm1 q1
 intro n e h hI
 obtain ⟨x,e',h',⟨M,hM⟩,q⟩:=key n e h hI
 exact ⟨x,e',h',⟨M,fun k hk=>hM k k hk hk⟩,q⟩
theorem Ar {id:Nat} {ops:Array Oper} {an:g8} (w:gy C F Pr fa ops.toList ops.toList (Q .gf) e h):Wp C F Pr fa (.region id ops false) an Q e h:=by
 obtain ⟨e1,h1,⟨m1,hm1⟩,q1⟩:=w
 exact ⟨.gf,e1,h1,⟨m1,fun k hk=>by simp only [fT,pr,Aq,hm1 k hk,pX]⟩,q1⟩
theorem A0 {id:Nat} {ops:Array Oper} {sch:List (Nat×List Nat)} (w:gz C F Pr fa ops.toList sch (Q .gf) e h):Wp C F Pr fa (.region id ops true) (.lZ sch) Q e h:=by
 obtain ⟨e1,h1,⟨m1,hm1⟩,q1⟩:=w
 exact ⟨.gf,e1,h1,⟨m1,fun k hk=>by simp only [fT,pr,qY,hm1 k hk,pX]⟩,q1⟩
variable {all rest:List Oper} {o:Oper} {q:Env→bY→Prop}
theorem IC (w:q e h):gy C F Pr fa all [] q e h:=⟨e,h,⟨0,fun _ _=>rfl⟩,w⟩
theorem rW {v:AV} {h1:bY} (hw:fk all e o=some true) (hop:∃ m,∀ k,m≤k→fC o.op (XN C F Pr fa k) e h o.dst=some (v,h1)) (w:gy C F Pr fa all rest q (eY e o v) h1):gy C F Pr fa all (o::rest) q e h:=by
 obtain ⟨m,hm⟩:=hop
 obtain ⟨e2,h2,⟨m2,hm2⟩,q2⟩:=w
 refine ⟨e2,h2,⟨max m m2,fun k hk=>?_⟩,q2⟩
 simp only [rv,hw,kG,hm k (by omega),rU]
 exact hm2 k (by omega)
theorem eg {v:AV} {h1:bY} (hw:fk all e o=some true) (hop:∀ call,fC o.op ⟨C,fa,call⟩ e h o.dst=some (v,h1)) (w:gy C F Pr fa all rest q (eY e o v) h1):gy C F Pr fa all (o::rest) q e h :=
 rW hw ⟨0,fun _ _=>hop _⟩ w
theorem Cq (hw:fk all e o=some false) (w:gy C F Pr fa all rest q (eY e o (.eP [])) h):gy C F Pr fa all (o::rest) q e h:=by
 obtain ⟨e2,h2,⟨m2,hm2⟩,q2⟩:=w
 refine ⟨e2,h2,⟨m2,fun k hk=>?_⟩,q2⟩
 simp only [rv,hw,kG]
 exact hm2 k hk
theorem HG (w:q e h):gz C F Pr fa all [] q e h:=⟨e,h,⟨0,fun _ _=>rfl⟩,w⟩
theorem uo {i:Nat} {sch:List (Nat×List Nat)} {v:AV} {h1:bY} (ho:all[i]?=some o) (hw:fk all e o=some true) (hop:∃ m,∀ k,m≤k→fC o.op (XN C F Pr fa k) e h o.dst=some (v,h1))
  (w:gz C F Pr fa all sch q (eY e o v) h1):gz C F Pr fa all ((i,[])::sch) q e h:=by
 obtain ⟨m,hm⟩:=hop
 obtain ⟨e2,h2,⟨m2,hm2⟩,q2⟩:=w
 refine ⟨e2,h2,⟨max m m2,fun k hk=>?_⟩,q2⟩
 simp only [nb,ho,hw,kG,hm k (by omega),rU,List.all_nil]
 exact hm2 k (by omega)
theorem eI {i:Nat} {sch:List (Nat×List Nat)} {v:AV} {h1:bY} (ho:all[i]?=some o) (hw:fk all e o=some true) (hop:∀ call,fC o.op ⟨C,fa,call⟩ e h o.dst=some (v,h1))
  (w:gz C F Pr fa all sch q (eY e o v) h1):gz C F Pr fa all ((i,[])::sch) q e h :=
 uo ho hw ⟨0,fun _ _=>hop _⟩ w
theorem C1 {i:Nat} {sch:List (Nat×List Nat)} (ho:all[i]?=some o) (hw:fk all e o=some false) (w:gz C F Pr fa all sch q (eY e o (.eP [])) h):gz C F Pr fa all ((i,[])::sch) q e h:=by
 obtain ⟨e2,h2,⟨m2,hm2⟩,q2⟩:=w
 refine ⟨e2,h2,⟨m2,fun k hk=>?_⟩,q2⟩
 simp only [nb,ho,hw,kG,List.all_nil]
 exact hm2 k hk
theorem vZ {f:Nat} {g:Operand} {c:Call} {args:List AV} {v:AV} {d:Option Nat} (hf:c.callee=.value g) (hg:eO e g=.fz f [] []) (ha:c.args.toList.map (eO e)=args) (hok:args.all AV.jg=true) (hs:fa.fw.elem f=false)
  (w:eH C F Pr false f args { h with dO:=[] } v { h with dO:=[] }):∃ m,∀ k,m≤k→fC (.call c) (XN C F Pr fa k) e h d=some (v,h):=by
 obtain ⟨m,hm⟩:=w
 refine ⟨m,fun k hk=>?_⟩
 simp only [fC,kX,jW,hf,hg,ha,n9,ub,List.nil_append,List.append_nil,hok,hs,hm k hk,pC]
theorem xw {f:Nat} {g:Operand} {c:Call} {args p q:List AV} {v:AV} {d:Option Nat} {h':bY} (hf:c.callee=.value g) (hg:eO e g=.fz f p q) (ha:c.args.toList.map (eO e)=args) (hok:(p++args++q).all AV.jg=true) (hs:fa.fw.elem f=true)
  (w:eH C F Pr true f (p++args++q) { h with dO:=[] } v h'):∃ m,∀ k,m≤k→fC (.call c) (XN C F Pr fa k) e h d=some (v,{ h' with dO:=h.dO }):=by
 obtain ⟨m,hm⟩:=w
 refine ⟨m,fun k hk=>?_⟩
 simp only [fC,kX,jW,hf,hg,ha,n9,ub,hok,hs,hm k hk,pC]
def Leaves (C:fP) (res:List ResultVar) (R:AV→bY→Prop):Ex→Env→bY→Prop
 | .ext _,_,_=>False
 | _,e,h=>∃ v,leave.leave1 C res e h=some (v,h)∧R v h
theorem gF {f:Nat} {args:List AV} {R:AV→bY→Prop} (hP:Pr f=none) (hF:F f=some fa) (hi:fa.iter=false) (w:Wp C F Pr fa fa.body fa.oP (Leaves C fa.res R) (params 0 args) h) :
  ∃ v h',eH C F Pr true f args h v h'∧R v h':=by
 obtain ⟨x,e1,h1,⟨m,hm⟩,q⟩:=w
 have fin:∀ x:Ex,(x=.gf∨x=.ret)→(∀ k,m≤k→fT (XN C F Pr fa k) (gA k) fa.body fa.oP (params 0 args) h=some (x,e1,h1))→(∃ v,leave.leave1 C fa.res e1 h1=some (v,h1)∧R v h1)→∃ v h',eH C F Pr true f args h v h'∧R v h':=by
  rintro x hx hm ⟨v,hv,hR⟩
  refine ⟨v,h1,⟨m+1,fun k hk=>?_⟩,hR⟩
  obtain ⟨k,rfl⟩:∃ k',k=k'+1:=⟨k - 1,by omega⟩
  simp only [ja,hP,hF,ml,oG,hi,tZ,hm k (by omega)]
  rcases hx with rfl | rfl<;>exact hv
 cases x with
 | gf=>exact fin .gf (.inl rfl) hm q
 | ret=>exact fin .ret (.inr rfl) hm q
 | ext id=>exact q.elim
theorem A6 {f:Nat} {args j7:List AV} {R:AV→Prop} (hP:Pr f=none) (hF:F f=some fa) (hi:fa.iter=false) (ha:iS h args=some j7)
  (w:Wp C F Pr fa fa.body fa.oP (Leaves C fa.res fun v h'=>∃ v1,freeze false h' 8 v=some v1∧R v1) (params 0 j7) bY.empty) :
  ∃ v,eH C F Pr false f args h v h∧R v:=by
 obtain ⟨v,h1,⟨m,hm⟩,v1,hv1,hR⟩:=gF hP hF hi w
 refine ⟨v1,⟨m+1,fun k hk=>?_⟩,hR⟩
 have hb:=hm k (by omega)
 obtain ⟨k,rfl⟩:∃ k',k=k'+1:=⟨k - 1,by omega⟩
 simp only [ja,hP,hF,ml] at hb
 simp only [ja,hP,hF,ml,ha,hb,frozen,hv1]
end
end Go.Sx
namespace Go.Sx
open Go
section
variable {C:fP} {F:iI} {Pr:iw} {fa:eC} {e:Env} {h:bY} {all rest:List Oper} {o:Oper} {q:Env→bY→Prop}
variable {t u:Nat} {x y:Operand} {k k':IntKind} {a b:Int}
theorem fD {c:BinOp} {X:Ctx} {d:Option Nat} {v:AV} (hx:eO e x=.int k a) (hy:eO e y=.int k' b) (hk:jM k k'=true) (hv:gW c k a b=some v):fC (.binOp c t x y u) X e h d=some (v,h):=by
 simp only [fC,sT,binOp,hx,hy,AV.int?,wE,hk,Bool.true_or,hv,gq]
theorem yJ (k:IntKind) (a b:Int):gW .lss k a b=some (.bool (decide (a<b))):=by
 simp only [gW,zB,qp,pf,nk]
 by_cases h:b≤a
 ·simp [h]
 ·have:a<b:=by omega
  simp [h,this]
theorem yD (k:IntKind) (a b:Int):gW .leq k a b=some (.bool (decide (a≤b))):=by
 simp only [gW,zu,qp,pf,sY]
theorem yG (k:IntKind) (a b:Int):gW .gtr k a b=some (.bool (decide (a > b))):=by
 simp only [gW,zX,qp,pf,nk]
 by_cases h:a≤b
 ·simp [h]
 ·have:a > b:=by omega
  simp [h,this]
theorem yn (k:IntKind) (a b:Int):gW .geq k a b=some (.bool (decide (a≥b))):=by
 simp only [gW,z7,qp,pf,sY,ge_iff_le]
theorem yO (k:IntKind) (a b:Int):gW .eql k a b=some (.bool (decide (a=b))):=by
 simp only [gW,y4,qp,lh,sY]
 rfl
theorem yl (k:IntKind) (a b:Int):gW .neq k a b=some (.bool (decide (a≠b))):=by
 simp only [gW,zl,qp,lh,nk]
 by_cases h:a=b
 ·simp [h]
 ·have:(a==b)=false:=by simpa using h
  simp [h,this]
theorem jA {p:Prop} [Decidable p] (hw:fk all e o=some true) (hop:∀ call,fC o.op ⟨C,fa,call⟩ e h o.dst=some (.bool (decide p),h))
  (w1:p→gy C F Pr fa all rest q (eY e o (.bool true)) h) (w2:¬ p→gy C F Pr fa all rest q (eY e o (.bool false)) h):gy C F Pr fa all (o::rest) q e h:=by
 by_cases hp:p
 ·exact eg hw (fun call=>by rw [hop call]; simp [hp]) (w1 hp)
 ·exact eg hw (fun call=>by rw [hop call]; simp [hp]) (w2 hp)
theorem rI {X:Ctx} {d:Option Nat} {s r:List UInt8} (hx:eO e x=.str s) (hy:eO e y=.str r):fC (.binOp .eql t x y u) X e h d=some (.bool (decide (s=r)),h):=by
 simp only [fC,sT,binOp,hx,hy,AV.int?,AV.str?,wP,tV,gq]
 have:(s==r)=decide (s=r):=by
  by_cases hs:s=r
  ·simp [hs]
  ·have:(s==r)=false:=by simpa using hs
   simp [hs,this]
 rw [this]
theorem mZ (k:IntKind) (a b:Int):gW .add k a b=some (.int k (k.wrap (a+b))):=by
 simp only [gW,zs,nd,jy,mu,uE]
theorem gD (k:IntKind) (a b:Int):gW .sub k a b=some (.int k (k.wrap (a - b))):=by
 simp only [gW,zc,nd,jy,mu,uE,uv]
 rfl
theorem yh (a b:Int) (h1 : -9223372036854775808≤a+b) (h2:a+b≤9223372036854775807):gW .add .i64 a b=some (.int .i64 (a+b)):=by
 rw [mZ,sf _ h1 h2]
theorem yf (a b:Int) (h1 : -9223372036854775808≤a - b) (h2:a - b≤9223372036854775807):gW .sub .i64 a b=some (.int .i64 (a - b)):=by
 rw [gD,sf _ h1 h2]
theorem F5 {X:Ctx} {d:Option Nat} {el:Nat} {ti te:TI} {xs:List (List AV)} {c:jx} {n:Int} {r:List AV} (hT:X.C.T t=some ti) (hk:ti.kind=.slice el) (hE:X.C.T el=some te) (hx:eO e x=.sl xs c) (hi:eO e y=.int k n) (h0:0≤n)
  (hr:xs[n.toNat]?=some r) (hl:r.length=te.size):fC (.indexAddr t x y) X e h d=some (.ip r 0 (kH c),h):=by
 obtain ⟨m,rfl⟩:=Int.eq_ofNat_of_zero_le h0
 simp only [Int.toNat_natCast] at hr
 have hai:kU (.int k (m:Int))=some m:=rfl
 have hb:Nat.beq r.length te.size=true:=by rw [hl]; exact Nat.beq_refl _
 simp only [fC,kQ,j1,hT,hi,hai,hk,hE,hx,lv,hr,hb]
end
end Go.Sx
namespace Go.Sx
open Go
section
variable {C:fP} {F:iI} {Pr:iw} {fa:eC} {e:Env} {h:bY} {all rest:List Oper} {o:Oper} {q:Env→bY→Prop} {Q:Ex→Env→bY→Prop}
theorem eN {c:Code} {live:List Nat} {an:g8} (N:Nat) (I:Nat→Env→bY→Prop)
  (round:∀ k e h,k≤N→I k e h→Wp C F Pr fa c an (oj (fun e' h'=>k<N∧I (k+1) e' h') Q) (proj live e) { h with dO:=eV live h.dO }) {k0:Nat} (hk:k0≤N) (h0:I k0 e h):Wp C F Pr fa (.loop c) (.loop live an) Q e h:=by
 refine iC (fun n e h=>∃ k,k≤N∧n=N - k∧I k e h) ?_ (N - k0) e h ⟨k0,hk,rfl,h0⟩
 rintro n e h ⟨k,hk,rfl,hI⟩
 refine (round k e h hk hI).mono ?_
 intro x e' h' hx
 cases x with
 | gf =>
   obtain ⟨hlt,hI'⟩:=hx
   exact ⟨N - (k+1),by omega,k+1,by omega,rfl,hI'⟩
 | ext id=>exact hx
 | ret=>exact hx
theorem Bu {f:Nat} {g:Operand} {c:Call} {args:List AV} {R:AV→Prop} (ho:o.op=.call c) (hw:fk all e o=some true) (hf:c.callee=.value g) (hg:eO e g=.fz f [] []) (ha:c.args.toList.map (eO e)=args) (hok:args.all AV.jg=true) (hs:fa.fw.elem f=false)
  (w:∀ h:bY,∃ v,eH C F Pr false f args h v h∧R v) (next:∀ v,R v→gy C F Pr fa all rest q (eY e o v) h):gy C F Pr fa all (o::rest) q e h:=by
 obtain ⟨v,hc,hR⟩:=w { h with dO:=[] }
 refine rW hw ?_ (next v hR)
 rw [ho]
 exact vZ hf hg ha hok hs hc
end
theorem eW {C:fP} {F:iI} {Pr:iw} {fa:eC} {f:Nat} {args:List AV} {h:bY} {R:AV→Prop} (hP:Pr f=none) (hF:F f=some fa) (hi:fa.iter=false) (ha:iS h args=some args)
  (w:Wp C F Pr fa fa.body fa.oP (Leaves C fa.res fun v0 h'=>∃ v1,freeze false h' 8 v0=some v1∧R v1) (params 0 args) bY.empty):∃ v,eH C F Pr false f args h v h∧R v:=A6 hP hF hi ha w
abbrev lO:Nat:=9223372036854775807
structure Xs (R:List AV→Prop) (xs:List (List AV)) (c:jx):Prop where
 row:∀ r∈xs,R r
 len:xs.length≤lO
 sn:kH c=false
end Go.Sx
namespace Go.Sx
open Go
structure Row (α:Type) where
 l:List α
 c:jx
 ok:l.length≤lO
 sn:kH c=false
 nl:c=.nil→l=[]
def Row.av {α:Type} (enc : α→List AV) (r:Row α):AV:=.sl (r.l.map enc) r.c
structure jd where
 l:List UInt8
 ok:l.length≤lO
def eu (n:Int):List AV:=[.int .i64 n]
def gS (s:jd):List AV:=[.str s.l]
structure ed where
 elem:Int
 en:Int
 deriving DecidableEq
def ed.cells (x:ed):List AV:=[.int .i64 x.elem,.int .i64 x.en]
structure e8 where
 name:jd
 kind:Int
 len:Int
def e8.cells (x:e8):List AV:=[.str x.name.l,.int .i64 x.kind,.int .i64 x.len]
structure fo where
 a:ed
 b:ed
def fo.cells (x:fo):List AV:=[.int .i64 x.a.elem,.int .i64 x.a.en,.int .i64 x.b.elem,.int .i64 x.b.en]
structure fe where
 name:jd
 at_:ed
 auto:Bool
def fe.cells (x:fe):List AV:=[.str x.name.l,.int .i64 x.at_.elem,.int .i64 x.at_.en,.bool x.auto]
structure eZ where
 name:jd
 elems:Row Int
def eZ.cells (x:eZ):List AV:=[.str x.name.l,x.elems.av eu]
structure eb where
 elems:Row e8
 eT:Row fo
 signals:Row fe
 lines:Row eZ
 top:Int
 gd:Int
 fQ:Int
 ga:Int
 gT:Bool
def eb.cells (p:eb):List AV:=[p.elems.av e8.cells,p.eT.av fo.cells,p.signals.av fe.cells,p.lines.av eZ.cells,.int .i64 p.top,.int .i64 p.gd,.int .i64 p.fQ,.int .i64 p.ga,.bool p.gT]
structure fM where
 name:jd
 len:Int
 top:Int
 acc:Int
 gd:Int
def fM.cells (x:fM):List AV:=[.str x.name.l,.int .i64 x.len,.int .i64 x.top,.int .i64 x.acc,.int .i64 x.gd]
structure fY where
 sV:Bool
 at_:Int
 end_:Int
 to:Int
def fY.cells (x:fY):List AV:=[.bool x.sV,.int .i64 x.at_,.int .i64 x.end_,.int .i64 x.to]
structure gj where
 name:jd
 fy:Int
 from_:Int
 left:Int
 fK:Row fY
def gj.cells (x:gj):List AV:=[.str x.name.l,.int .i64 x.fy,.int .i64 x.from_,.int .i64 x.left,x.fK.av fY.cells]
structure eS where
 xa:Int
 fy:Row fM
 runs:Row gj
def eS.cells (x:eS):List AV:=[.int .i64 x.xa,x.fy.av fM.cells,x.runs.av gj.cells]
structure fi where
 mode:Int
 eQ:Row ed
 left:Int
 iG:Int
 v:Int
def fi.cells (x:fi):List AV:=[.int .i64 x.mode,x.eQ.av ed.cells,.int .i64 x.left,.int .i64 x.iG,.int .i64 x.v]
structure gP where
 name:jd
 fy:Int
 at_:ed
 left:Int
def gP.cells (x:gP):List AV:=[.str x.name.l,.int .i64 x.fy,.int .i64 x.at_.elem,.int .i64 x.at_.en,.int .i64 x.left]
structure fc where
 out:Int
 pos:Int
def fc.cells (x:fc):List AV:=[.int .i64 x.out,.int .i64 x.pos]
structure ew where
 elem:Int
 iy:Int
 out:Int
def ew.cells (x:ew):List AV:=[.int .i64 x.elem,.int .i64 x.iy,.int .i64 x.out]
structure eA where
 elem:Int
 pos:Int
def eA.cells (x:eA):List AV:=[.int .i64 x.elem,.int .i64 x.pos]
structure eF where
 from_:Int
 to:Int
 end_:Int
 steps:Row ew
 gU:Row eA
 guards:Row eA
 j5:Row Int
 holds:Row Int
 bare:Bool
def eF.cells (x:eF):List AV:=[.int .i64 x.from_,.int .i64 x.to,.int .i64 x.end_,x.steps.av ew.cells,x.gU.av eA.cells,x.guards.av eA.cells,x.j5.av eu,x.holds.av eu,.bool x.bare]
section
variable {C:fP} {F:iI} {Pr:iw} {fa:eC} {e:Env} {h:bY} {all rest:List Oper} {o:Oper} {q:Env→bY→Prop} {Q:Ex→Env→bY→Prop}
variable {α:Type} {enc : α→List AV}
theorem ff {c:Code} {an:g8} {e':Env} {h':bY} (he:e=e') (hh:h=h') (w:Wp C F Pr fa c an Q e' h'):Wp C F Pr fa c an Q e h:=by subst he; subst hh; exact w
theorem gH {b:Bool} (hw:fk all e o=some true) (hop:∀ call,fC o.op ⟨C,fa,call⟩ e h o.dst=some (.bool b,h))
  (w1:b=true→gy C F Pr fa all rest q (eY e o (.bool true)) h) (w2:b=false→gy C F Pr fa all rest q (eY e o (.bool false)) h):gy C F Pr fa all (o::rest) q e h:=by
 cases b with
 | true=>exact eg hw hop (w1 rfl)
 | false=>exact eg hw hop (w2 rfl)
theorem jC {i:Nat} {sch:List (Nat×List Nat)} {p:Prop} [Decidable p] (ho:all[i]?=some o) (hw:fk all e o=some true) (hop:∀ call,fC o.op ⟨C,fa,call⟩ e h o.dst=some (.bool (decide p),h))
  (w1:p→gz C F Pr fa all sch q (eY e o (.bool true)) h) (w2:¬ p→gz C F Pr fa all sch q (eY e o (.bool false)) h):gz C F Pr fa all ((i,[])::sch) q e h:=by
 by_cases hp:p
 ·exact eI ho hw (fun call=>by rw [hop call]; simp [hp]) (w1 hp)
 ·exact eI ho hw (fun call=>by rw [hop call]; simp [hp]) (w2 hp)
theorem Ct {i:Nat} {sch:List (Nat×List Nat)} {f:Nat} {g:Operand} {c:Call} {args:List AV} {R:AV→Prop} (hi:all[i]?=some o) (hw:fk all e o=some true) (ho:o.op=.call c) (hf:c.callee=.value g) (hg:eO e g=.fz f [] []) (ha:c.args.toList.map (eO e)=args) (hok:args.all AV.jg=true) (hs:fa.fw.elem f=false)
  (w:∀ h:bY,∃ v,eH C F Pr false f args h v h∧R v) (next:∀ v,R v→gz C F Pr fa all sch q (eY e o v) h):gz C F Pr fa all ((i,[])::sch) q e h:=by
 obtain ⟨v,hc,hR⟩:=w { h with dO:=[] }
 refine uo hi hw ?_ (next v hR)
 rw [ho]
 exact vZ hf hg ha hok hs hc
theorem yi {X:Ctx} {d:Option Nat} {t el:Nat} {x:Operand} {cl:Call} {ti:TI} {r:Row α} (hc:cl.callee=.builtin .len) (ha:cl.args.toList=[x]) (hts:cl.argTypes.toList=[t]) (hT:X.C.T t=some ti) (hk:ti.kind=.slice el) (hx:eO e x=r.av enc) :
  fC (.call cl) X e h d=some (.int .i64 r.l.length,h):=by
 simp only [fC,kX,jW,hc,ha,hts,iQ,qh,nU,List.map_cons,List.map_nil,hT,hk,o5,hx,Row.av,oL,ke,List.length_map]
theorem po {X:Ctx} {d:Option Nat} {t el:Nat} {x y:Operand} {ti te:TI} {r:Row α} {k:IntKind} {n:Nat} (hT:X.C.T t=some ti) (hk:ti.kind=.slice el) (hE:X.C.T el=some te) (hx:eO e x=r.av enc) (hi:eO e y=.int k (n:Int))
  (hn:n<r.l.length) (hl:(enc r.l[n]).length=te.size):fC (.indexAddr t x y) X e h d=some (.ip (enc r.l[n]) 0 false,h):=by
 rw [← r.sn]
 exact F5 hT hk hE hx hi (by omega) (r:=enc r.l[n]) (by simp [hn]) hl
theorem fE {X:Ctx} {d:Option Nat} {t el:Nat} {x y:Operand} {ti te:TI} {r:Row α} {k:IntKind} {n:Int} (hT:X.C.T t=some ti) (hk:ti.kind=.slice el) (hE:X.C.T el=some te) (hx:eO e x=r.av enc) (hi:eO e y=.int k n) (h0:0≤n)
  (hn:n.toNat<r.l.length) (hl:(enc r.l[n.toNat]).length=te.size):fC (.indexAddr t x y) X e h d=some (.ip (enc r.l[n.toNat]) 0 false,h):=by
 obtain ⟨m,rfl⟩:=Int.eq_ofNat_of_zero_le h0
 exact po hT hk hE hx hi hn hl
theorem A7 (a b c d:Int):iq [.int .i64 a,.int .i64 b] [.int .i64 c,.int .i64 d]=some (decide (a=c∧b=d)):=by
 simp only [iq,iz,oA,AV.int?,jM,lh]
 have e1:(a==c)=decide (a=c):=rfl
 have e2:(b==d)=decide (b=d):=rfl
 rw [e1,e2]
 by_cases h1:a=c<;>by_cases h2:b=d<;>simp [h1,h2]
theorem mO {X:Ctx} {dd:Option Nat} {t u:Nat} {x y:Operand} {ti:TI} {a b c d:Int} (hx:eO e x=.agg [.int .i64 a,.int .i64 b]) (hy:eO e y=.agg [.int .i64 c,.int .i64 d])
  (hT:X.C.T t=some ti) (hf:∀ a b:Int,rT ti (.agg [.int .i64 a,.int .i64 b]) (.agg [.int .i64 c,.int .i64 d])=iq [.int .i64 a,.int .i64 b] [.int .i64 c,.int .i64 d]) :
  fC (.binOp .eql t x y u) X e h dd=some (.bool (decide (a=c∧b=d)),h):=by
 simp only [fC,sT,binOp,hx,hy,AV.int?,AV.str?,tv,hT,hf,A7,gq]
theorem kP {sn:Bool} {hp:bY} {n:Nat} (r:Row α):freeze sn hp (n+1) (Row.av enc r)=some (Row.av enc r):=by
 have:=r.sn
 unfold Row.av freeze
 cases hc:r.c with
 | kY=>rw [hc] at this; simp [kH] at this
 | nil=>rfl
 | exact m=>rfl
 | ee=>rfl
theorem lT {sn:Bool} {hp:bY} {n:Nat} (k:IntKind) (a:Int):freeze sn hp (n+1) (.int k a)=some (.int k a):=rfl
theorem kD {sn:Bool} {hp:bY} {n:Nat} (a:Bool):freeze sn hp (n+1) (.bool a)=some (.bool a):=rfl
theorem lK {sn:Bool} {hp:bY} {n:Nat} (a:List UInt8):freeze sn hp (n+1) (.str a)=some (.str a):=rfl
theorem Iv {sn:Bool} {hp:bY} {n:Nat} (l:List AV):freeze sn hp (n+1) (.agg l)=(match fx (freeze sn hp n) l with
   | some l=>some (.agg l)
   | none=>none):=rfl
theorem qR {X:Ctx} {d:Option Nat} {t:Nat} {x y:Operand} {ti:TI} {s:List UInt8} {k:IntKind} {n:Nat} (hT:X.C.T t=some ti) (hk:ti.kind=.str) (hx:eO e x=.str s) (hi:eO e y=.int k (n:Int)) (hn:n<s.length):fC (.index t x y) X e h d=some (.int .u8 s[n].toNat,h):=by
 have hai:kU (.int k (n:Int))=some n:=rfl
 simp only [fC,tD,rp,hT,hi,hai,hk,hx,AV.str?,List.getElem?_eq_getElem hn]
def Row.isNil (r:Row α):Bool:=match r.c with
 | .nil=>true
 | _=>false
theorem Row.of_nil {r:Row α} (h:r.isNil=true):r.l=[]:=by
 apply r.nl
 unfold Row.isNil at h
 split at h
 ·assumption
 ·cases h
end
end Go.Sx
namespace Go.Sx
open Go
def gI:AV→Option Nat
 | .hs b _ _ _=>some b
 | .hm b=>some b
 | .ptr b _ _ _=>some b
 | _=>none
def sF {α:Type} (H:bY) (n:Nat) (enc : α→List AV) (v:AV) (l:List α):Prop :=
 (l=[]∧v=.sl [] .nil)∨(v=.sl (l.map enc) (.exact l.length))∨∃ b g,b<H.size∧v=.hs b g 0 l.length∧H.get b=some (.eL g n (l.map enc))
structure rL (H H':bY) (v v':AV):Prop where
 lo:H'.lo=H.lo
 size:H.size≤H'.size
 get:∀ b,b<H.size→gI v≠some b→H'.get b=H.get b
 own:∀ b,gI v'=some b→gI v=some b∨H.size≤b
theorem bY.g5 (H:bY) (ls:gN) (b:Nat):({ H with dO:=ls }:bY).get b=H.get b:=rfl
theorem bY.ra (H:bY) (ls:gN) (o:ij):({ H with dO:=ls }:bY).push o = { H.push o with dO:=ls }:=by simp [bY.pb]
theorem bY.kL (H:bY) (ls:gN) (b:Nat) (o:ij):({ H with dO:=ls }:bY).set b o = { H.set b o with dO:=ls }:=by simp [bY.q7]
theorem rL.refl (H:bY) (v:AV):rL H H v v:=⟨rfl,Nat.le_refl _,fun _ _ _=>rfl,fun _ h=>.inl h⟩
theorem sF.eB {α:Type} {H H':bY} {n:Nat} {enc : α→List AV} {v v' w:AV} {l:List α} (h:sF H n enc w l) (k:rL H H' v v') (hd:∀ b,gI w=some b→gI v≠some b):sF H' n enc w l:=by
 rcases h with h | h | ⟨b,g,hb,rfl,hg⟩
 ·exact .inl h
 ·exact .inr (.inl h)
 ·exact .inr (.inr ⟨b,g,Nat.lt_of_lt_of_le hb k.size,rfl,by rw [k.get b hb (hd b rfl)]; exact hg⟩)
theorem sF.lt {α:Type} {H:bY} {n:Nat} {enc : α→List AV} {w:AV} {l:List α} (h:sF H n enc w l):∀ b,gI w=some b→b<H.size:=by
 rcases h with ⟨_,rfl⟩ | rfl | ⟨b,g,hb,rfl,hg⟩
 ·intro b hb; simp [gI] at hb
 ·intro b hb; simp [gI] at hb
 ·intro b' hb'; simp [gI] at hb'; omega
theorem rL.apart {H H':bY} {v v' w:AV} (k:rL H H' v v') (hd:∀ b,gI w=some b→gI v≠some b) (hl:∀ b,gI w=some b→b<H.size):∀ b,gI w=some b→gI v'≠some b:=by
 intro b hw hv
 rcases k.own b hv with h | h
 ·exact hd b hw h
 ·exact absurd (hl b hw) (by omega)
def qE (v w:AV):Prop:=∀ b,gI v=some b→gI w≠some b
theorem qE.symm {v w:AV} (h:qE v w):qE w v:=fun b hw hv=>h b hv hw
theorem qE.nil {w:AV} {xs:List (List AV)} {c:jx}:qE (.sl xs c) w:=fun b h=>by simp [gI] at h
theorem qE.eB {α:Type} {H H':bY} {n:Nat} {enc : α→List AV} {v v' w:AV} {l:List α} (hd:qE v w) (k:rL H H' v v') (h:sF H n enc w l):qE v' w:=qE.symm (k.apart hd.symm h.lt)
theorem sF.fh {α:Type} {H:bY} {n:Nat} {enc : α→List AV} {v:AV} {l:List α} (h:sF H n enc v l) (t:Nat):Go.Sx.eB t v=v:=by
 rcases h with ⟨_,rfl⟩ | rfl | ⟨_,_,_,rfl,_⟩<;>rfl
section
variable {C:fP} {F:iI} {Pr:iw} {fa:eC} {e:Env} {all rest:List Oper} {o:Oper} {q:Env→bY→Prop}
variable {α:Type} {enc : α→List AV}
theorem sF.jg {H:bY} {n:Nat} {v:AV} {l:List α} (hb:sF H n enc v l):AV.jg v=true:=by
 rcases hb with ⟨rfl,rfl⟩ | rfl | ⟨b,g,hlt,rfl,hg⟩<;>rfl
theorem ia {C:fP} {res:List ResultVar} {e:Env} {h:bY} {vs:List AV} (h1:uF C e h res=some vs) (h2:vs.all AV.jg=true):leave.leave1 C res e h=some (result vs,h):=by
 simp only [leave.leave1,h1,h2]
def Row.take (r:Row α) (k:Nat):Row α:=⟨r.l.take k,r.c,by have:=r.ok; rw [List.length_take]; omega,r.sn,fun h=>by rw [r.nl h]; simp⟩
theorem CT {X:Ctx} {d:Option Nat} {t el n k:Nat} {x y:Operand} {ti te:TI} {h:bY} {r:Row α} {kd:IntKind} (hT:X.C.T t=some ti) (hk:ti.kind=.slice el) (hE:X.C.T el=some te) (hx:eO e x=r.av enc) (hy:eO e y=.int kd (k:Int)) (hn:te.size=n) (hkl:k≤r.l.length) (henc:∀ x,(enc x).length=n) :
  fC (.slice t x none (some y) none) X e h d=some ((r.take k).av enc,h):=by
 have hai:kU (.int kd (k:Int))=some k:=rfl
 have h0:Nat.ble 0 k=true:=Nat.ble_eq.mpr (Nat.zero_le _)
 have h1:Nat.ble k (r.l.map enc).length=true:=Nat.ble_eq.mpr (by simpa using hkl)
 have h2:jB n (r.l.map enc)=true:=by
  cases r.l with
  | nil=>rfl
  | cons a l=>simp only [List.map_cons,jB,henc]; exact Nat.beq_refl n
 have h3:kb 0 r.c=r.c:=by cases r.c<;>rfl
 simp only [fC,kI,kg,hT,hk,hE,hx,hy,Row.av,slice,oi,jf,bound,hai,kS,hn,h1,h2,h0,Bool.true_and,Bool.and_true,List.drop_zero,Nat.sub_zero,kC,h3,gq,Row.take,List.map_take]
end
end Go.Sx
