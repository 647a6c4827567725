/- Proves rules for the walks and their soundness. -/
import GoSem.ClaimChange
import Derived.Test.YtlhainfgnlmhfaaGreatTaa
import Derived.Test.YtlhainfgnlmhfaaGreatTae
set_option linter.all false
namespace Go.Sx
open Go
def look {κ β:Type} [DecidableEq κ] (k : κ):List (κ×β)→Option β
 | []=>none
 | x::l=>if k=x.1 then some x.2 else look k l
def eM {κ β:Type} (ek : κ→AV) (ev : β→AV) (l:List (κ×β)):List (AV×AV):=l.map fun x=>(ek x.1,ev x.2)
def pK (p:ed):AV:=.agg p.cells
def iK (n:Int):AV:=.int .i64 n
def m8 (p:Int×Int):AV:=.agg [.int .i64 p.1,.int .i64 p.2]
structure eE where
 p:eb
 next:List (ed×ed)
 reads:List (ed×Int)
 line:List (Int×Int×Int)
 lead:List (Int×Int)
def eE.cells (n:eE):List AV:=[n.p.elems.av e8.cells,n.p.eT.av fo.cells,n.p.signals.av fe.cells,n.p.lines.av eZ.cells,.int .i64 n.p.top,.int .i64 n.p.gd,.int .i64 n.p.fQ,.int .i64 n.p.ga,.bool n.p.gT,
 .fm (eM pK pK n.next) false,.fm (eM pK iK n.reads) false,.fm (eM iK m8 n.line) false,.fm (eM iK iK n.lead) false]
theorem gB (a b:ed):gR (pK a) (pK b)=some (decide (a=b)):=by
 have h:(a=b)↔(a.elem=b.elem∧a.en=b.en):=by cases a; cases b; simp
 simp only [gR,pK,ed.cells,AV.agg?,tz,A7]
 congr 1
 exact decide_eq_decide.mpr h.symm
theorem mw (a b:Int):gR (iK a) (iK b)=some (decide (a=b)):=by
 simp only [gR,iK,AV.agg?,iz,oA,AV.int?,jM,lh]
 rfl
theorem xq {κ β:Type} [DecidableEq κ] {ek : κ→AV} {ev : β→AV} (hk:∀ a b,gR (ek a) (ek b)=some (decide (a=b))) (k : κ) (l:List (κ×β)):lJ (ek k) (eM ek ev l)=some ((look k l).map ev):=by
 induction l with
 | nil=>rfl
 | cons x l ih =>
   simp only [eM,List.map_cons,lJ,hk,look]
   by_cases h:k=x.1
   ·simp [h]
   ·simp only [h,decide_false,if_false]
    exact ih
section
variable {C:fP} {F:iI} {Pr:iw} {fa:eC} {e:Env} {h:bY} {all rest:List Oper} {o:Oper} {q:Env→bY→Prop}
variable {κ β:Type} [DecidableEq κ] {ek : κ→AV} {ev : β→AV}
theorem si {X:Ctx} {d:Option Nat} {t kt el:Nat} {m k:Operand} {tm te:TI} {key : κ} {l:List (κ×β)} {z:AV} {s:Bool} (hT:X.C.T t=some tm) (hk:tm.kind=.map kt el) (hE:X.C.T el=some te) (hm:eO e m=.fm (eM ek ev l) s) (hkk:eO e k=ek key) (hK:lx X.C kt (ek key)=true) (hz:asAgg te te.zero=some z) (hke:∀ a b,gR (ek a) (ek b)=some (decide (a=b))) :
  fC (.lookup t m k true) X e h d=some (match look key l with
   | some v=>.eP [ev v,.bool true]
   | none=>.eP [z,.bool false],h):=by
 simp only [fC,nt,lM,hT,hk,hE,hkk,hK,hm,lr,xq hke]
 cases look key l with
 | none=>simp only [Option.map_none,hz,p7,gq]
 | some v=>simp only [Option.map_some,p7,gq]
theorem pT {t kt el:Nat} {m k:Operand} {tm te:TI} {key : κ} {l:List (κ×β)} {z:AV} {s:Bool} (hw:fk all e o=some true) (ho:o.op=.lookup t m k true) (hT:C.T t=some tm) (hk:tm.kind=.map kt el) (hE:C.T el=some te) (hm:eO e m=.fm (eM ek ev l) s) (hkk:eO e k=ek key) (hK:lx C kt (ek key)=true) (hz:asAgg te te.zero=some z) (hke:∀ a b,gR (ek a) (ek b)=some (decide (a=b)))
  (w1:∀ v,look key l=some v→gy C F Pr fa all rest q (eY e o (.eP [ev v,.bool true])) h) (w2:look key l=none→gy C F Pr fa all rest q (eY e o (.eP [z,.bool false])) h):gy C F Pr fa all (o::rest) q e h:=by
 cases hl:look key l with
 | none=>exact eg hw (fun call=>by rw [ho,si hT hk hE hm hkk hK hz hke,hl]) (w2 hl)
 | some v=>exact eg hw (fun call=>by rw [ho,si hT hk hE hm hkk hK hz hke,hl]) (w1 v hl)
theorem vU {i:Nat} {sch:List (Nat×List Nat)} {t kt el:Nat} {m k:Operand} {tm te:TI} {key : κ} {l:List (κ×β)} {z:AV} {s:Bool} (hi:all[i]?=some o) (hw:fk all e o=some true) (ho:o.op=.lookup t m k true) (hT:C.T t=some tm) (hk:tm.kind=.map kt el) (hE:C.T el=some te) (hm:eO e m=.fm (eM ek ev l) s) (hkk:eO e k=ek key) (hK:lx C kt (ek key)=true) (hz:asAgg te te.zero=some z) (hke:∀ a b,gR (ek a) (ek b)=some (decide (a=b)))
  (w1:∀ v,look key l=some v→gz C F Pr fa all sch q (eY e o (.eP [ev v,.bool true])) h) (w2:look key l=none→gz C F Pr fa all sch q (eY e o (.eP [z,.bool false])) h):gz C F Pr fa all ((i,[])::sch) q e h:=by
 cases hl:look key l with
 | none=>exact eI hi hw (fun call=>by rw [ho,si hT hk hE hm hkk hK hz hke,hl]) (w2 hl)
 | some v=>exact eI hi hw (fun call=>by rw [ho,si hT hk hE hm hkk hK hz hke,hl]) (w1 v hl)
end
end Go.Sx
namespace Go.Sx
open Go
inductive gn where
 | sl (w t:Bool) (v:AV) (n:Nat) (xs:List (List AV))
 | map (v:AV) (es:List (AV×AV))
 | obj (v:AV) (cs:List AV)
def gn.v:gn→AV
 | .sl _ _ v _ _=>v
 | .map v _=>v
 | .obj v _=>v
def jv (es:List (AV×AV×Nat)):List (AV×AV):=es.map fun x=>(x.1,x.2.1)
def sC (es:List (AV×AV×Nat)) (c:Nat):Prop:=(∀ x∈es,x.2.2<c)∧es.Pairwise fun a b=>a.2.2≠b.2.2
theorem sC.snoc {es:List (AV×AV×Nat)} {c:Nat} (h:sC es c) (k v:AV):sC (es++[(k,v,c)]) (c+1):=by
 refine ⟨fun x hx=>?_,List.pairwise_append.mpr ⟨h.2,by simp,fun a ha b hb=>?_⟩⟩
 ·rcases List.mem_append.mp hx with hx | hx
  ·have:=h.1 x hx; omega
  ·simp at hx; subst hx; simp
 ·simp at hb; subst hb; have:=h.1 a ha; simp; omega
theorem sC.modify {es:List (AV×AV×Nat)} {c:Nat} (h:sC es c) (i:Nat) (f:AV×AV×Nat→AV×AV×Nat) (hf:∀ e,(f e).2.2=e.2.2):sC (es.modify i f) c:=by
 have hm:(es.modify i f).map (fun x=>x.2.2)=es.map (fun x=>x.2.2):=by
  apply List.ext_getElem (by simp)
  intro j h1 h2
  simp only [List.getElem_map,List.getElem_modify]
  split
  ·exact hf _
  ·rfl
 have h1:∀ x∈(es.modify i f).map (fun x=>x.2.2),x<c:=by
  rw [hm]; intro x hx; obtain ⟨y,hy,rfl⟩:=List.mem_map.mp hx; exact h.1 y hy
 refine ⟨fun x hx=>h1 _ (List.mem_map_of_mem hx),?_⟩
 have h2:((es.modify i f).map (fun x=>x.2.2)).Pairwise (·≠·):=by
  rw [hm,List.pairwise_map]; exact h.2
 rw [List.pairwise_map] at h2; exact h2
def gn.ok (H:bY):gn→Prop
 | .sl w t v n xs=>(∀ x∈xs,x.length=n)∧((xs=[]∧v=.sl [] .nil)∨((w=false∨xs=[])∧v=.sl xs (.exact xs.length))∨∃ b g j,b<H.size∧v=.hs b g 0 xs.length∧H.get b=some (.eL g n (xs++j))∧(t=true→j=[]))
 | .map v es=>∃ b es' c,b<H.size∧v=.hm b∧H.get b=some (.map es' c)∧jv es'=es∧sC es' c
 | .obj v cs=>∃ b z,b<H.size∧v=.ptr b 0 0 0∧H.get b=some (.eL 0 z [cs])
structure Sep (H:bY) (L:List gn):Prop where
 lo:H.lo≤H.size
 ok:∀ r∈L,r.ok H
 ue:L.Pairwise fun a b=>qE a.v b.v
theorem gg:Sep bY.empty []:=⟨Nat.le_refl _,by simp,.nil⟩
theorem gn.ok.eB {H H':bY} {r:gn} (h:r.ok H) (hs:H.size≤H'.size) (hg:∀ b,b<H.size→gI r.v=some b→H'.get b=H.get b):r.ok H':=by
 cases r with
 | sl w t v n xs =>
   obtain ⟨hl,h | h | ⟨b,g,j,hb,rfl,hq,ht⟩⟩:=h
   ·exact ⟨hl,.inl h⟩
   ·exact ⟨hl,.inr (.inl h)⟩
   ·exact ⟨hl,.inr (.inr ⟨b,g,j,by omega,rfl,by rw [hg b hb rfl]; exact hq,ht⟩)⟩
 | map v es =>
   obtain ⟨b,es',c,hb,rfl,hq,he,hst⟩:=h
   exact ⟨b,es',c,by omega,rfl,by rw [hg b hb rfl]; exact hq,he,hst⟩
 | obj v cs =>
   obtain ⟨b,z,hb,rfl,hq⟩:=h
   exact ⟨b,z,by omega,rfl,by rw [hg b hb rfl]; exact hq⟩
theorem gn.ok.lt {H:bY} {r:gn} (h:r.ok H):∀ b,gI r.v=some b→b<H.size:=by
 intro b0 hb0
 cases r with
 | sl w t v n xs =>
   obtain ⟨hl,⟨_,rfl⟩ | ⟨_,rfl⟩ | ⟨b,g,j,hb,rfl,hq,ht⟩⟩:=h<;>simp [gI,gn.v] at hb0
   omega
 | map v es =>
   obtain ⟨b,es',c,hb,rfl,hq,he,hst⟩:=h
   simp [gI,gn.v] at hb0; omega
 | obj v cs =>
   obtain ⟨b,z,hb,rfl,hq⟩:=h
   simp [gI,gn.v] at hb0; omega
theorem gn.ok.xx {H:bY} {r:gn} (h:r.ok H):AV.gm r.v=true∧(∀ t,Go.Sx.eB t r.v=r.v)∧AV.jg r.v=true:=by
 cases r with
 | sl w t v n xs =>
   obtain ⟨hl,⟨_,rfl⟩ | ⟨_,rfl⟩ | ⟨b,g,j,hb,rfl,hq,ht⟩⟩:=h<;>exact ⟨rfl,fun _=>rfl,rfl⟩
 | map v es=>obtain ⟨b,es',c,hb,rfl,hq,he,hst⟩:=h; exact ⟨rfl,fun _=>rfl,rfl⟩
 | obj v cs=>obtain ⟨b,z,hb,rfl,hq⟩:=h; exact ⟨rfl,fun _=>rfl,rfl⟩
theorem Sep.at {H:bY} {L:List gn} (h:Sep H L) {i:Nat} {r:gn} (hi:L[i]?=some r):r.ok H:=h.ok r (List.mem_of_getElem? hi)
theorem Sep.fh {H:bY} {L:List gn} (h:Sep H L) {i:Nat} {r:gn} (hi:L[i]?=some r) (t:Nat):Go.Sx.eB t r.v=r.v:=(h.at hi).xx.2.1 t
theorem Sep.cell {H:bY} {L:List gn} (h:Sep H L) {i:Nat} {r:gn} (hi:L[i]?=some r):AV.gm r.v=true:=(h.at hi).xx.1
theorem Sep.arg {H:bY} {L:List gn} (h:Sep H L) {i:Nat} {r:gn} (hi:L[i]?=some r):AV.jg r.v=true:=(h.at hi).xx.2.2
theorem Sep.jk {H H':bY} {L:List gn} (h:Sep H L) {i:Nat} {r r':gn} (hi:L[i]?=some r) (hlo:H'.lo≤H'.size) (hs:H.size≤H'.size) (hr:r'.ok H') (hg:∀ b,b<H.size→gI r.v≠some b→H'.get b=H.get b) (ho:∀ b,gI r'.v=some b→gI r.v=some b∨H.size≤b):Sep H' (L.set i r'):=by
 have hil:i<L.length:=(List.getElem?_eq_some_iff.mp hi).1
 have hri:L[i]=r:=(List.getElem?_eq_some_iff.mp hi).2
 have hp:=List.pairwise_iff_getElem.mp h.ue
 have ue:∀ j (hj:j<L.length),j≠i→qE r.v L[j].v:=by
  intro j hj hne
  rcases Nat.lt_or_gt_of_ne hne with hlt | hlt
  ·have:=hp j i hj hil hlt; rw [hri] at this; exact this.symm
  ·have:=hp i j hil hj hlt; rw [hri] at this; exact this
 have apt':∀ j (hj:j<L.length),j≠i→qE r'.v L[j].v:=by
  intro j hj hne b hb hb'
  rcases ho b hb with hx | hx
  ·exact ue j hj hne b hx hb'
  ·exact absurd ((h.ok _ (List.getElem_mem hj)).lt b hb') (by omega)
 refine ⟨hlo,?_,?_⟩
 ·intro x hx
  obtain ⟨j,hj,rfl⟩:=List.mem_iff_getElem.mp hx
  rw [List.length_set] at hj
  rw [List.getElem_set]
  split
  ·exact hr
  ·rename_i hne
   refine (h.ok _ (List.getElem_mem hj)).eB hs ?_
   intro b hb hbl
   exact hg b hb fun hq=>ue j hj (Ne.symm hne) b hq hbl
 ·rw [List.pairwise_iff_getElem]
  intro j k hj hk hjk
  rw [List.length_set] at hj hk
  simp only [List.getElem_set]
  split
  ·split
   ·omega
   ·rename_i h1 h2; exact apt' k hk (Ne.symm h2)
  ·split
   ·rename_i h1 h2; exact (apt' j hj (Ne.symm h1)).symm
   ·exact hp j k hj hk hjk
theorem Sep.new {H H':bY} {L:List gn} (h:Sep H L) {r':gn} (hlo:H'.lo≤H'.size) (hs:H.size≤H'.size) (hr:r'.ok H') (hg:∀ b,b<H.size→H'.get b=H.get b) (ho:∀ b,gI r'.v=some b→H.size≤b):Sep H' (r'::L):=by
 refine ⟨hlo,?_,.cons ?_ h.ue⟩
 ·intro x hx
  rcases List.mem_cons.mp hx with rfl | hx
  ·exact hr
  ·exact (h.ok x hx).eB hs fun b hb _=>hg b hb
 ·intro x hx b hb hb'
  exact absurd ((h.ok x hx).lt b hb') (by have:=ho b hb; omega)
theorem Sep.iF {H:bY} {L:List gn} (h:Sep H L) (n:Nat):Sep H (.sl true true (.sl [] .nil) n []::L):=h.new h.lo (Nat.le_refl _) ⟨by simp,.inl ⟨rfl,rfl⟩⟩ (fun _ _=>rfl) (fun b hb=>by simp [gI,gn.v] at hb)
theorem Sep.PB {H:bY} {L:List gn} (h:Sep H L) (n:Nat) (xs:List (List AV)) (hn:∀ x∈xs,x.length=n) {k:Nat} (hk:k=xs.length):Sep H (.sl false true (.sl xs (.exact k)) n xs::L):=by
 subst hk
 exact h.new h.lo (Nat.le_refl _) ⟨hn,.inr (.inl ⟨.inl rfl,rfl⟩)⟩ (fun _ _=>rfl) (fun b hb=>by simp [gI,gn.v] at hb)
theorem Sep.nH {H:bY} {L:List gn} (h:Sep H L) (n:Nat):Sep H (.sl true true (.sl [] (.exact 0)) n []::L):=h.new h.lo (Nat.le_refl _) ⟨by simp,.inr (.inl ⟨.inr rfl,rfl⟩)⟩ (fun _ _=>rfl) (fun b hb=>by simp [gI,gn.v] at hb)
theorem Im {α:Type} {R : α→α→Prop} (hs:∀ a b,R a b→R b a) {L:List α} (h:L.Pairwise R) {i j:Nat} (hi:i<L.length) (hj:j<L.length) (hne:i≠j):R L[i] L[j]:=by
 have hp:=List.pairwise_iff_getElem.mp h
 rcases Nat.lt_or_gt_of_ne hne with hlt | hlt
 ·exact hp i j hi hj hlt
 ·exact hs _ _ (hp j i hj hi hlt)
def Ny (is:List Nat) (n:Nat) (L:List gn):List gn:=is.filterMap (L[·]?)++L.drop n
theorem Sep.pick {H:bY} {L:List gn} (h:Sep H L) (is:List Nat) (n:Nat) (hn:is.Nodup) (hlt:∀ i∈is,i<n):Sep H (Ny is n L):=by
 have hp:=List.pairwise_iff_getElem.mp h.ue
 refine ⟨h.lo,?_,List.pairwise_append.mpr ⟨?_,h.ue.sublist (List.drop_sublist _ _),?_⟩⟩
 ·intro x hx
  rcases List.mem_append.mp hx with hx | hx
  ·obtain ⟨i,_,hi⟩:=List.mem_filterMap.mp hx
   exact h.ok x (List.mem_of_getElem? hi)
  ·exact h.ok x (List.mem_of_mem_drop hx)
 ·rw [List.pairwise_filterMap]
  refine hn.imp ?_
  intro i j hne x hx y hy
  obtain ⟨hi,rfl⟩:=List.getElem?_eq_some_iff.mp hx
  obtain ⟨hj,rfl⟩:=List.getElem?_eq_some_iff.mp hy
  exact Im (fun a b hab=>hab.symm) h.ue hi hj hne
 ·intro x hx y hy
  obtain ⟨i,hmem,hi⟩:=List.mem_filterMap.mp hx
  obtain ⟨hil,rfl⟩:=List.getElem?_eq_some_iff.mp hi
  obtain ⟨j,hj,rfl⟩:=List.mem_iff_getElem.mp hy
  rw [List.getElem_drop]
  have:=hlt i hmem
  have hjl:n+j<L.length:=by rw [List.length_drop] at hj; omega
  exact hp i (n+j) hil hjl (by omega)
theorem Sep.dO {H:bY} {L:List gn} (h:Sep H L) (ls:gN):Sep { H with dO:=ls } L:=by
 refine ⟨h.lo,fun r hr=>(h.ok r hr).eB (Nat.le_refl _) fun _ _ _=>rfl,h.ue⟩
section
variable {κ β:Type} [DecidableEq κ] {ek : κ→AV} {ev : β→AV}
def put (k : κ) (x : β):List (κ×β)→List (κ×β)
 | []=>[(k,x)]
 | p::l=>if k=p.1 then (k,x)::l else p::put k x l
theorem qx (k k' : κ) (x : β) (l:List (κ×β)):look k (put k' x l)=if k=k' then some x else look k l:=by
 induction l with
 | nil=>simp only [put,look]
 | cons p l ih =>
   simp only [put]
   split
   ·rename_i h; subst h
    simp only [look]
    split<;>rfl
   ·rename_i h
    simp only [look,ih]
    split
    ·rename_i h1
     rw [if_neg]
     intro h2; subst h2; exact h h1
    ·rfl
theorem o4 (hk:∀ a b,gR (ek a) (ek b)=some (decide (a=b))) (k : κ) (l:List (κ×β)) (es:List (AV×AV×Nat)) (he:jv es=eM ek ev l) (i:Nat) :
  (look k l=none→findKey (ek k) es i=some none)∧(∀ x,look k l=some x→∃ j,findKey (ek k) es i=some (some (i+j,ev x))∧j<es.length∧∀ y (f:AV×AV×Nat→AV×AV×Nat),(∀ e,(f e).1=ek k∧(f e).2.1=ev y)→jv (es.modify j f)=eM ek ev (put k y l))∧(look k l=none→∀ y c,jv (es++[(ek k,ev y,c)])=eM ek ev (put k y l)):=by
 induction l generalizing es i with
 | nil =>
   cases es with
   | nil=>exact ⟨fun _=>rfl,fun _ h=>by simp [look] at h,fun _ _ _=>rfl⟩
   | cons e es=>simp [jv,eM] at he
 | cons p l ih =>
   cases es with
   | nil=>simp [jv,eM] at he
   | cons e es =>
     obtain ⟨a,b,c⟩:=e
     simp only [jv,eM,List.map_cons,List.cons.injEq,Prod.mk.injEq] at he
     obtain ⟨⟨rfl,rfl⟩,he⟩:=he
     obtain ⟨i1,i2,i3⟩:=ih es he (i+1)
     by_cases h:k=p.1
     ·refine ⟨fun hn=>?_,fun x hx=>?_,fun hn=>?_⟩
      ·simp [look,h] at hn
      ·simp only [look,h,if_true,Option.some.injEq] at hx
       subst hx
       refine ⟨0,by simp [findKey,hk,h],by simp,fun y f hf=>?_⟩
       obtain ⟨f1,f2⟩:=hf (ek p.1,ev p.2,c)
       simp only [List.modify_zero_cons,jv,List.map_cons,put,h,if_true,eM,f1,f2]
       rw [show es.map (fun x=>(x.1,x.2.1))=l.map (fun x=>(ek x.1,ev x.2)) from he]
      ·simp [look,h] at hn
     ·refine ⟨fun hn=>?_,fun x hx=>?_,fun hn y c'=>?_⟩
      ·simp only [look,h,if_false] at hn
       simp only [findKey,hk,h,decide_false]
       exact i1 hn
      ·simp only [look,h,if_false] at hx
       obtain ⟨j,hj,hl,hm⟩:=i2 x hx
       refine ⟨j+1,?_,by simpa using hl,fun y f hf=>?_⟩
       ·simp only [findKey,hk,h,decide_false,hj]
        rw [show i+1+j=i+(j+1) from by omega]
       ·have:=hm y f hf
        simp only [List.modify_succ_cons,jv,List.map_cons,put,h,if_false,eM,List.cons.injEq,true_and]
        exact this
      ·simp only [look,h,if_false] at hn
       have:=i3 hn y c'
       simp only [List.cons_append,jv,List.map_cons,put,h,if_false,eM,List.cons.injEq,true_and]
       exact this
end
section
variable {C:fP} {F:iI} {Pr:iw} {fa:eC} {e:Env} {all rest:List Oper} {o:Oper} {q:Env→bY→Prop}
variable {H:bY} {ls:gN} {L:List gn} {i:Nat}
theorem e7 {P:AV→bY→Prop} (hw:fk all e o=some true) (hop:∃ v H',(∀ call,fC o.op ⟨C,fa,call⟩ e { H with dO:=ls } o.dst=some (v,{ H' with dO:=ls }))∧P v H') (next:∀ v H',P v H'→gy C F Pr fa all rest q (eY e o v) { H' with dO:=ls }):gy C F Pr fa all (o::rest) q e { H with dO:=ls }:=by
 obtain ⟨v,H',h1,h2⟩:=hop
 exact eg hw h1 (next v H' h2)
theorem iA {j:Nat} {sch:List (Nat×List Nat)} {P:AV→bY→Prop} (hj:all[j]?=some o) (hw:fk all e o=some true) (hop:∃ v H',(∀ call,fC o.op ⟨C,fa,call⟩ e { H with dO:=ls } o.dst=some (v,{ H' with dO:=ls }))∧P v H') (next:∀ v H',P v H'→gz C F Pr fa all sch q (eY e o v) { H' with dO:=ls }):gz C F Pr fa all ((j,[])::sch) q e { H with dO:=ls }:=by
 obtain ⟨v,H',h1,h2⟩:=hop
 exact eI hj hw h1 (next v H' h2)
theorem ic {t:Nat} {d:Option Nat} (hS:Sep H L):∃ v H',(∀ call,fC (.makeMap t none) ⟨C,fa,call⟩ e { H with dO:=ls } d=some (v,{ H' with dO:=ls }))∧∃ b,v=.hm b∧Sep H' (.map (.hm b) []::L):=by
 have hlo:=hS.lo
 refine ⟨.hm H.size,H.push (.map [] 0),fun call=>?_,H.size,rfl,?_⟩
 ·simp only [fC,xc,bY.ra]
 ·refine hS.new (by simp; omega) (by simp) ⟨H.size,[],0,by simp,rfl,?_,rfl,by simp,by simp⟩ ?_ ?_
  ·rw [bY.jr _ _ _ hlo]; simp
  ·intro b hb; rw [bY.jr _ _ _ hlo,if_neg (by omega)]
  ·intro b hb; simp [gI,gn.v] at hb; omega
variable {κ β:Type} [DecidableEq κ] {ek : κ→AV} {ev : β→AV}
theorem iR {t:Nat} {m k x:Operand} {d:Option Nat} {v:AV} {l:List (κ×β)} (key : κ) (y : β) (hS:Sep H L) (hi:L[i]?=some (.map v (eM ek ev l))) (hm:eO e m=v) (hk:eO e k=ek key) (hx:eO e x=ev y) (hK:mapKey C t (ek key)=true) (hV:AV.sa (ev y)=true) (hke:∀ a b,gR (ek a) (ek b)=some (decide (a=b))) :
  ∃ w H',(∀ call,fC (.mapUpdate t m k x) ⟨C,fa,call⟩ e { H with dO:=ls } d=some (w,{ H' with dO:=ls }))∧w=.undef∧Sep H' (L.set i (.map v (eM ek ev (put key y l)))):=by
 obtain ⟨b,es,c,hb,rfl,hg,he,hst⟩:=hS.at hi
 have hlob:H.lo≤b:=bY.jl hg
 obtain ⟨f1,f2,f3⟩:=o4 (ek:=ek) (ev:=ev) hke key l es he 0
 have fin:∀ es' c',rn (ek key) (ev y) es c=some (es',c')→jv es'=eM ek ev (put key y l)→sC es' c'→∃ w H',(∀ call,fC (.mapUpdate t m k x) ⟨C,fa,call⟩ e { H with dO:=ls } d=some (w,{ H' with dO:=ls }))∧w=.undef∧Sep H' (L.set i (.map (.hm b) (eM ek ev (put key y l)))):=by
  intro es' c' hu hun hst'
  refine ⟨.undef,H.set b (.map es' c'),fun call=>?_,rfl,?_⟩
  ·simp only [fC,nh,nm,hm,hk,hx,bY.g5,hg,hK,hV,Bool.and_self,hu,bY.kL]
  ·refine hS.jk hi (by simpa using hS.lo) (by simp) ⟨b,es',c',by simpa using hb,rfl,?_,hun,hst'⟩ ?_ ?_
   ·rw [bY.ik,if_pos ⟨rfl,hlob⟩]
   ·intro b' hb' hne
    rw [bY.ik,if_neg (by rintro ⟨rfl,_⟩; exact hne rfl)]
   ·intro b' hb'; exact .inl hb'
 cases hl:look key l with
 | none=>exact fin (es++[(ek key,ev y,c)]) (c+1) (by simp only [rn,f1 hl]) (f3 hl y c) (hst.snoc _ _)
 | some x0 =>
   obtain ⟨j,hj,hjl,hjm⟩:=f2 x0 hl
   exact fin _ c (by simp only [rn,hj,Nat.zero_add]) (hjm y (fun e=>(ek key,ev y,e.2.2)) fun _=>⟨rfl,rfl⟩) (hst.modify _ _ fun _=>rfl)
theorem qv {t kt el:Nat} {m k:Operand} {tm te:TI} {d:Option Nat} {v z:AV} {l:List (κ×β)} {ok:Bool} (key : κ) (hS:Sep H L) (hi:L[i]?=some (.map v (eM ek ev l))) (hT:C.T t=some tm) (hkd:tm.kind=.map kt el) (hE:C.T el=some te) (hm:eO e m=v) (hk:eO e k=ek key) (hK:lx C kt (ek key)=true) (hz:asAgg te te.zero=some z) (hke:∀ a b,gR (ek a) (ek b)=some (decide (a=b))) (call:lD) :
  fC (.lookup t m k ok) ⟨C,fa,call⟩ e { H with dO:=ls } d=match p7 ok (look key l).isSome (match look key l with
   | some x=>ev x
   | none=>z) with
   | some r=>some (r,{ H with dO:=ls })
   | none=>none:=by
 obtain ⟨b,es,c,hb,rfl,hg,he,hst⟩:=hS.at hi
 obtain ⟨f1,f2,f3⟩:=o4 (ek:=ek) (ev:=ev) hke key l es he 0
 cases hl:look key l with
 | none=>simp only [fC,nt,lM,hT,hkd,hE,hk,hK,hm,lr,bY.g5,hg,f1 hl,hz,Option.isSome_none]; cases ok<;>rfl
 | some x0 =>
   obtain ⟨j,hj,_⟩:=f2 x0 hl
   simp only [fC,nt,lM,hT,hkd,hE,hk,hK,hm,lr,bY.g5,hg,hj,Option.isSome_some]
   cases ok<;>rfl
end
section
variable {C:fP} {F:iI} {Pr:iw} {fa:eC} {e:Env} {all rest:List Oper} {o:Oper} {q:Env→bY→Prop}
variable {H:bY} {ls:gN} {L:List gn} {i:Nat}
variable {κ β:Type} [DecidableEq κ] {ek : κ→AV} {ev : β→AV}
def Gc (ok b:Bool) (v:AV):AV:=match ok with
 | true=>.eP [v,.bool b]
 | false=>v
theorem ix {t kt el:Nat} {m k:Operand} {tm te:TI} {v z:AV} {l:List (κ×β)} {ok:Bool} (key : κ) (hw:fk all e o=some true) (ho:o.op=.lookup t m k ok) (hS:Sep H L) (hi:L[i]?=some (.map v (eM ek ev l))) (hT:C.T t=some tm) (hkd:tm.kind=.map kt el) (hE:C.T el=some te) (hm:eO e m=v) (hk:eO e k=ek key) (hK:lx C kt (ek key)=true) (hz:asAgg te te.zero=some z) (hke:∀ a b,gR (ek a) (ek b)=some (decide (a=b)))
  (w1:∀ x,look key l=some x→gy C F Pr fa all rest q (eY e o (Gc ok true (ev x))) { H with dO:=ls }) (w2:look key l=none→gy C F Pr fa all rest q (eY e o (Gc ok false z)) { H with dO:=ls }):gy C F Pr fa all (o::rest) q e { H with dO:=ls }:=by
 cases hl:look key l with
 | none=>exact eg hw (fun call=>by rw [ho,qv key hS hi hT hkd hE hm hk hK hz hke call,hl]; cases ok<;>rfl) (w2 hl)
 | some x=>exact eg hw (fun call=>by rw [ho,qv key hS hi hT hkd hE hm hk hK hz hke call,hl]; cases ok<;>rfl) (w1 x hl)
theorem AW {j:Nat} {sch:List (Nat×List Nat)} {t kt el:Nat} {m k:Operand} {tm te:TI} {v z:AV} {l:List (κ×β)} {ok:Bool} (key : κ) (hj:all[j]?=some o) (hw:fk all e o=some true) (ho:o.op=.lookup t m k ok) (hS:Sep H L) (hi:L[i]?=some (.map v (eM ek ev l))) (hT:C.T t=some tm) (hkd:tm.kind=.map kt el) (hE:C.T el=some te) (hm:eO e m=v) (hk:eO e k=ek key) (hK:lx C kt (ek key)=true) (hz:asAgg te te.zero=some z) (hke:∀ a b,gR (ek a) (ek b)=some (decide (a=b)))
  (w1:∀ x,look key l=some x→gz C F Pr fa all sch q (eY e o (Gc ok true (ev x))) { H with dO:=ls }) (w2:look key l=none→gz C F Pr fa all sch q (eY e o (Gc ok false z)) { H with dO:=ls }):gz C F Pr fa all ((j,[])::sch) q e { H with dO:=ls }:=by
 cases hl:look key l with
 | none=>exact eI hj hw (fun call=>by rw [ho,qv key hS hi hT hkd hE hm hk hK hz hke call,hl]; cases ok<;>rfl) (w2 hl)
 | some x=>exact eI hj hw (fun call=>by rw [ho,qv key hS hi hT hkd hE hm hk hK hz hke call,hl]; cases ok<;>rfl) (w1 x hl)
theorem rh {es:List (AV×AV×Nat)} (hp:es.Pairwise fun a b=>a.2.2≠b.2.2) {j:Nat} (hj:j<es.length) (v:AV):kz (es[j].2.2:Int) v es=some (es.modify j fun e=>(e.1,v,e.2.2)):=by
 induction es generalizing j with
 | nil=>simp at hj
 | cons e es ih =>
   obtain ⟨a,b,c⟩:=e
   cases j with
   | zero=>simp [kz]
   | succ j =>
     have hj':j<es.length:=by simpa using hj
     have hne:c≠es[j].2.2:=(List.pairwise_cons.mp hp).1 _ (List.getElem_mem hj')
     have hb:((c:Int)==((es[j].2.2:Nat):Int))=false:=by
      rw [beq_eq_false_iff_ne]; intro h; exact hne (Int.ofNat.inj h)
     simp only [List.getElem_cons_succ,kz,hb,ih (List.pairwise_cons.mp hp).2 hj',List.modify_succ_cons]
     rfl
theorem lR {t kt el:Nat} {m k:Operand} {tm te:TI} {d:Option Nat} {v z:AV} {l:List (κ×β)} (key : κ) (y : β) (hS:Sep H L) (hi:L[i]?=some (.map v (eM ek ev l))) (hT:C.T t=some tm) (hkd:tm.kind=.map kt el) (hE:C.T el=some te) (hm:eO e m=v) (hk:eO e k=ek key) (hK:lx C kt (ek key)=true) (hz:asAgg te te.zero=some z) (hV:AV.sa (ev y)=true) (hke:∀ a b,gR (ek a) (ek b)=some (decide (a=b))) :
  ∃ (u:AV) (H1:bY),(∀ call,fC (.mapEntry t m k) ⟨C,fa,call⟩ e { H with dO:=ls } d=some (u,{ H1 with dO:=ls }))∧∃ (w:AV) (st:Int) (H2:bY),u=.eP [w,.int .i64 st] ∧
    (∀ (e2:Env) (ls2:gN) (t2:Nat) (m2 s2 x2:Operand) (X:Ctx) (d2:Option Nat),eO e2 m2=v→eO e2 s2=.int .i64 st→eO e2 x2=ev y→fC (.entryStore t2 m2 s2 x2) X e2 { H1 with dO:=ls2 } d2=some (.undef,{ H2 with dO:=ls2 }))∧Sep H2 (L.set i (.map v (eM ek ev (put key y l)))):=by
 obtain ⟨b,es,c,hb,rfl,hg,he,hst⟩:=hS.at hi
 have hlob:H.lo≤b:=bY.jl hg
 obtain ⟨f1,f2,f3⟩:=o4 (ek:=ek) (ev:=ev) hke key l es he 0
 have fin:∀ es1 c1 es2 (st:Int) w,(∀ call,fC (.mapEntry t m k) ⟨C,fa,call⟩ e { H with dO:=ls } d=some (.eP [w,.int .i64 st],{ H.set b (.map es1 c1) with dO:=ls }))→kz st (ev y) es1=some es2→jv es2=eM ek ev (put key y l)→sC es2 c1 →
   ∃ (u:AV) (H1:bY),(∀ call,fC (.mapEntry t m k) ⟨C,fa,call⟩ e { H with dO:=ls } d=some (u,{ H1 with dO:=ls }))∧∃ (w:AV) (st:Int) (H2:bY),u=.eP [w,.int .i64 st] ∧
   (∀ (e2:Env) (ls2:gN) (t2:Nat) (m2 s2 x2:Operand) (X:Ctx) (d2:Option Nat),eO e2 m2=.hm b→eO e2 s2=.int .i64 st→eO e2 x2=ev y→fC (.entryStore t2 m2 s2 x2) X e2 { H1 with dO:=ls2 } d2=some (.undef,{ H2 with dO:=ls2 }))∧Sep H2 (L.set i (.map (.hm b) (eM ek ev (put key y l)))):=by
  intro es1 c1 es2 st w h1 h2 h3 h4
  have hg1:(H.set b (.map es1 c1)).get b=some (.map es1 c1):=by rw [bY.ik,if_pos ⟨rfl,hlob⟩]
  refine ⟨_,H.set b (.map es1 c1),h1,w,st,(H.set b (.map es1 c1)).set b (.map es2 c1),rfl,?_,?_⟩
  ·intro e2 ls2 t2 m2 s2 x2 X d2 hm2 hs2 hx2
   simp only [fC,o0,mL,hm2,hs2,hx2,AV.int?,bY.g5,hg1,hV,h2,bY.kL]
  ·refine hS.jk hi (by simpa using hS.lo) (by simp) ⟨b,es2,c1,by simpa using hb,rfl,?_,h3,h4⟩ ?_ ?_
   ·rw [bY.ik,if_pos ⟨rfl,by simpa using hlob⟩]
   ·intro b' hb' hne
    rw [bY.ik,if_neg (by rintro ⟨rfl,_⟩; exact hne rfl),bY.ik,if_neg (by rintro ⟨rfl,_⟩; exact hne rfl)]
   ·intro b' hb'; exact .inl hb'
 cases hl:look key l with
 | none =>
   refine fin (es++[(ek key,z,c)]) (c+1) (es++[(ek key,ev y,c)]) c z ?_ ?_ (f3 hl y c) (hst.snoc _ _)
   ·intro call
    simp only [fC,oE,mQ,hT,hkd,hm,hE,bY.g5,hg,hk,hK,f1 hl,hz,bY.kL]
   ·have h0:=rh (hst.snoc (ek key) z).2 (j:=es.length) (by simp) (ev y)
    simp only [List.getElem_concat_length] at h0
    rw [h0]
    congr 1
    apply List.ext_getElem (by simp)
    intro n h1 h2
    rw [List.getElem_modify]
    split
    ·rename_i hq; subst hq; simp
    ·rename_i hq
     have:n<es.length:=by simp at h2; omega
     simp [List.getElem_append_left this]
 | some x0 =>
   obtain ⟨j,hj,hjl,hjm⟩:=f2 x0 hl
   rw [Nat.zero_add] at hj
   have hst1:sC (es.modify j fun x=>(ek key,x.2)) c:=hst.modify _ _ fun _=>rfl
   refine fin (es.modify j fun x=>(ek key,x.2)) c ((es.modify j fun x=>(ek key,x.2)).modify j fun e=>(e.1,ev y,e.2.2)) (es[j].2.2:Nat) (ev x0) ?_ ?_ ?_ (hst1.modify _ _ fun _=>rfl)
   ·intro call
    have hso:pG es j=es[j].2.2:=by simp [pG,hjl]
    simp only [fC,oE,mQ,hT,hkd,hm,hE,bY.g5,hg,hk,hK,hj,hso,bY.kL]
   ·have h0:=rh hst1.2 (j:=j) (by simpa using hjl) (ev y)
    simp only [List.getElem_modify,if_true] at h0
    exact h0
   ·rw [List.modify_modify_eq]
    exact hjm y _ fun _=>⟨rfl,rfl⟩
end
section
variable {C:fP} {F:iI} {Pr:iw} {fa:eC} {e:Env} {all rest:List Oper} {o:Oper} {q:Env→bY→Prop}
variable {H:bY} {ls:gN} {L:List gn} {i:Nat}
variable {α:Type} {enc : α→List AV} {w tt:Bool} {v:AV} {n:Nat} {l:List α}
theorem yz {n:Nat} {xs:List (List AV)} (h:∀ x∈xs,x.length=n):ju n xs=true:=by
 simp only [ju,List.all_eq_true]
 intro x hx; rw [h x hx]; exact Nat.beq_refl n
theorem DE {xs ys:List (List AV)} (hS:Sep H L) (hi:L[i]?=some (.sl w tt v n xs)) (hys:∀ x∈ys,x.length=n) (ht:tt=true∨ys.length=1) (hm:xs.length+ys.length≤oW) :
  ∃ v' H',append n { H with dO:=ls } v ys=some (v',{ H' with dO:=ls })∧Sep H' (L.set i (.sl w tt v' n (xs++ys))):=by
 have hlo:=hS.lo
 obtain ⟨hxl,hc⟩:=hS.at hi
 have hal:ju n ys=true:=yz hys
 have hxal:ju n xs=true:=yz hxl
 have hxy:∀ x∈xs++ys,x.length=n:=by
  intro x hx
  rcases List.mem_append.mp hx with hx | hx
  ·exact hxl x hx
  ·exact hys x hx
 have hset:∀ v',v'=v→Sep H (L.set i (.sl w tt v' n xs)):=by
  rintro v' rfl
  exact hS.jk hi hlo (Nat.le_refl _) ⟨hxl,hc⟩ (fun _ _ _=>rfl) (fun b hb=>.inl hb)
 cases ys with
 | nil =>
   rw [List.append_nil]
   refine ⟨v,H,?_,hset v rfl⟩
   rcases hc with ⟨rfl,rfl⟩ | ⟨_,rfl⟩ | ⟨b,g,j,hb,rfl,hg,htj⟩<;>rfl
 | cons y ys =>
   have new:∀ (hle:Nat.ble (xs.length+(ys.length+1)) oW=true),append n { H with dO:=ls } v (y::ys)=mR n { H with dO:=ls } xs (y::ys)→∃ v' H',append n { H with dO:=ls } v (y::ys)=some (v',{ H' with dO:=ls })∧Sep H' (L.set i (.sl w tt v' n (xs++(y::ys)))):=by
    intro hle hap
    refine ⟨.hs H.size 0 0 (xs.length+(ys.length+1)),H.push (.eL 0 n (xs++(y::ys))),?_,?_⟩
    ·rw [hap]
     simp [mR,hxal,hle,bY.ra]
    ·refine hS.jk hi (by simp; omega) (by simp) ⟨hxy,.inr (.inr ⟨H.size,0,[],by simp,by simp,?_,fun _=>rfl⟩)⟩ ?_ ?_
     ·rw [bY.jr _ _ _ hlo]; simp
     ·intro b hb _; rw [bY.jr _ _ _ hlo,if_neg (by omega)]
     ·intro b hb; simp [gI,gn.v] at hb; omega
   have hle:Nat.ble (xs.length+(ys.length+1)) oW=true:=Nat.ble_eq.mpr (by simpa using hm)
   rcases hc with ⟨rfl,rfl⟩ | ⟨_,rfl⟩ | ⟨b,g,j,hb,rfl,hg,htj⟩
   ·exact new hle (by simp [append,hal])
   ·have hbt:Nat.blt xs.length (xs.length+(ys.length+1))=true:=by simp [Nat.blt]
    exact new hle (by simp [append,hal,hbt])
   ·have hlob:H.lo≤b:=bY.jl hg
    have grow:j=[]→∃ v' H',append n { H with dO:=ls } (.hs b g 0 xs.length) (y::ys)=some (v',{ H' with dO:=ls })∧Sep H' (L.set i (.sl w tt v' n (xs++(y::ys)))):=by
     rintro rfl
     rw [List.append_nil] at hg
     refine ⟨.hs b (g+1) 0 (xs.length+(y::ys).length),H.set b (.eL (g+1) n (xs++(y::ys))),?_,?_⟩
     ·have h2:Nat.ble (xs.length+(ys.length+1)) xs.length=false:=by
       cases hq:Nat.ble (xs.length+(ys.length+1)) xs.length with
       | false=>rfl
       | true=>exact absurd (Nat.ble_eq.mp hq) (by omega)
      simp [append,hal,vk,bY.g5,hg,hle,h2,bY.kL]
     ·refine hS.jk hi (by simpa using hlo) (by simp) ⟨hxy,.inr (.inr ⟨b,g+1,[],by simpa using hb,by simp,?_,fun _=>rfl⟩)⟩ ?_ ?_
      ·rw [bY.ik,if_pos ⟨rfl,hlob⟩]; simp
      ·intro b' hb' hne; rw [bY.ik,if_neg (by rintro ⟨rfl,_⟩; exact hne rfl)]
      ·intro b' hb'; exact .inl hb'
    cases j with
    | nil=>exact grow rfl
    | cons j0 j =>
      have htt:tt=false:=by cases tt with
       | false=>rfl
       | true=>exact absurd (htj rfl) (by simp)
      have hy:ys=[]:=by
       rcases ht with ht | ht
       ·rw [htt] at ht; cases ht
       ·cases ys with
        | nil=>rfl
        | cons _ _=>simp at ht
      subst hy
      refine ⟨.hs b g 0 (xs.length+1),H.set b (.eL g n (xs++y::j)),?_,?_⟩
      ·have h1:Nat.ble (xs.length+1) (xs++j0::j).length=true:=Nat.ble_eq.mpr (by simp)
       have h3:Nat.ble (xs.length+1) oW=true:=hle
       have h2:overwrite (xs++j0::j) xs.length [y]=xs++y::j:=by
        simp [overwrite,List.drop_append]
       simp only [append,hal,vk,bY.g5,hg,Nat.zero_add,List.length_singleton,h1,h2,h3,Nat.beq_refl,Bool.and_self,jw,bY.kL,Bool.and_true]
      ·refine hS.jk hi (by simpa using hlo) (by simp) ⟨hxy,.inr (.inr ⟨b,g,j,by simpa using hb,by simp,?_,fun h=>absurd h (by simp [htt])⟩)⟩ ?_ ?_
       ·rw [bY.ik,if_pos ⟨rfl,hlob⟩]; simp
       ·intro b' hb' hne; rw [bY.ik,if_neg (by rintro ⟨rfl,_⟩; exact hne rfl)]
       ·intro b' hb'; exact .inl hb'
theorem fX {cl:Call} {s x:Operand} {t u:Nat} {ti:TI} {d:Option Nat} (ys:List α) (hS:Sep H L) (hi:L[i]?=some (.sl w tt v n (l.map enc))) (hc:cl.callee=.builtin .append) (ha:cl.args.toList=[s,x]) (hts:cl.argTypes.toList=[t,u]) (hT:nr C [t,u]=some ti) (hSr:BP C [t,u]=true) (hn:ti.size=n)
  (hs:eO e s=v) (hx:mD { H with dO:=ls } (eO e x)=some (ys.map enc)) (hok:∀ y,(enc y).all AV.gm=true) (ht:tt=true∨ys.length=1) (hm:l.length+ys.length≤oW) (henc:∀ x,(enc x).length=n) :
  ∃ v' H',(∀ call,fC (.call cl) ⟨C,fa,call⟩ e { H with dO:=ls } d=some (v',{ H' with dO:=ls }))∧Sep H' (L.set i (.sl w tt v' n ((l++ys).map enc))):=by
 obtain ⟨v',H',h1,h2⟩:=DE (ls:=ls) (ys:=ys.map enc) hS hi (by intro x hx; obtain ⟨y,_,rfl⟩:=List.mem_map.mp hx; exact henc y) (by simpa using ht) (by simpa using hm)
 refine ⟨v',H',fun call=>?_,by rw [List.map_append]; exact h2⟩
 have hall:vy (ys.map enc)=true:=by
  simp only [vy,List.all_map,List.all_eq_true,Function.comp]
  intro y _
  exact List.all_eq_true.mp (hok y)
 simp only [fC,kX,jW,hc,ha,hts,iQ,w4,ny,List.map_cons,List.map_nil,hT,hSr,hn,hs,hx,hall,h1]
theorem jb {X:Ctx} {d:Option Nat} {cl:Call} {t el:Nat} {x:Operand} {ti:TI} {h:bY} (hS:Sep H L) (hi:L[i]?=some (.sl w tt v n (l.map enc))) (hc:cl.callee=.builtin .len) (ha:cl.args.toList=[x]) (hts:cl.argTypes.toList=[t]) (hT:X.C.T t=some ti) (hk:ti.kind=.slice el) (hx:eO e x=v) :
  fC (.call cl) X e h d=some (.int .i64 l.length,h):=by
 obtain ⟨hxl,⟨h0,rfl⟩ | ⟨_,rfl⟩ | ⟨b,g,j,hb,rfl,hg,htj⟩⟩:=hS.at hi
 ·simp only [fC,kX,jW,hc,ha,hts,iQ,qh,nU,List.map_cons,List.map_nil,hT,hk,o5,hx,oL,ke,List.map_eq_nil_iff.mp h0,List.length_nil]
 ·simp only [fC,kX,jW,hc,ha,hts,iQ,qh,nU,List.map_cons,List.map_nil,hT,hk,o5,hx,oL,ke,List.length_map]
 ·simp only [fC,kX,jW,hc,ha,hts,iQ,qh,nU,List.map_cons,List.map_nil,hT,hk,o5,hx,oL,ke,List.length_map]
def EA (v:AV) (m:Nat) (a:AV) (cs:List AV):Prop:=(∃ xs k,v=.sl xs (.exact k)∧a=.ip cs 0 false)∨∃ b g len,v=.hs b g 0 len∧a=.ptr b g m 0
def lf (a:AV) (o:Nat):AV:=match a with
 | .ip cs _ s=>.ip cs o s
 | .ptr b g i _=>.ptr b g i o
 | v=>v
theorem g9 {m:Nat} {x : α} (h:m<l.length) (hx:l[m]=x):(l.map enc)[m]?=some (enc x):=by simp [h,hx]
theorem nu {P:AV→Prop} {h:bY} (hw:fk all e o=some true) (hop:∃ v,(∀ call,fC o.op ⟨C,fa,call⟩ e h o.dst=some (v,h))∧P v) (next:∀ v,P v→gy C F Pr fa all rest q (eY e o v) h):gy C F Pr fa all (o::rest) q e h:=by
 obtain ⟨v,h1,h2⟩:=hop
 exact eg hw h1 (next v h2)
theorem ki {j:Nat} {sch:List (Nat×List Nat)} {P:AV→Prop} {h:bY} (hj:all[j]?=some o) (hw:fk all e o=some true) (hop:∃ v,(∀ call,fC o.op ⟨C,fa,call⟩ e h o.dst=some (v,h))∧P v) (next:∀ v,P v→gz C F Pr fa all sch q (eY e o v) h):gz C F Pr fa all ((j,[])::sch) q e h:=by
 obtain ⟨v,h1,h2⟩:=hop
 exact eI hj hw h1 (next v h2)
theorem je {t el:Nat} {x y:Operand} {ti te:TI} {k:IntKind} {m:Nat} {d:Option Nat} {cs:List AV} {xs:List (List AV)} (hS:Sep H L) (hi:L[i]?=some (.sl w tt v n xs)) (hT:C.T t=some ti) (hk:ti.kind=.slice el) (hE:C.T el=some te) (hn:te.size=n) (hx:eO e x=v) (hy:eO e y=.int k (m:Int)) (hm:xs[m]?=some cs) :
  ∃ a,(∀ call,fC (.indexAddr t x y) ⟨C,fa,call⟩ e { H with dO:=ls } d=some (a,{ H with dO:=ls }))∧a=lf a 0∧EA v m a cs:=by
 have hml:m<xs.length:=(List.getElem?_eq_some_iff.mp hm).1
 have hai:kU (.int k (m:Int))=some m:=rfl
 obtain ⟨hxl,⟨h0,rfl⟩ | ⟨_,rfl⟩ | ⟨b,g,j,hb,rfl,hg,htj⟩⟩:=hS.at hi
 ·subst h0; simp at hm
 ·refine ⟨.ip cs 0 false,fun call=>?_,rfl,.inl ⟨xs,_,rfl,rfl⟩⟩
  have hl:Nat.beq cs.length te.size=true:=by
   rw [hn,hxl _ (List.mem_of_getElem? hm)]; exact Nat.beq_refl n
  simp only [fC,kQ,j1,hT,hy,hai,hk,hE,hx,lv,hm,hl,kH]
 ·refine ⟨.ptr b g m 0,fun call=>?_,rfl,.inr ⟨b,g,_,rfl,rfl⟩⟩
  have h1:Nat.blt m xs.length=true:=by simp only [Nat.blt]; exact Nat.ble_eq.mpr hml
  simp only [fC,kQ,j1,hT,hy,hai,hk,hE,hx,lv,bY.g5,hg,h1,hn,Nat.beq_refl,Bool.and_self,jw,Nat.zero_add]
theorem EA.Hh {m o off ft f t:Nat} {a:AV} {cs:List AV} {x:Operand} {X:Ctx} {d:Option Nat} {ti:TI} {fs:List (Nat×Nat)} {h:bY} (hE:EA v m a cs) (hT:X.C.T t=some ti) (hk:ti.kind=.struct fs) (hf:fs[f]?=some (off,ft)) (hx:eO e x=lf a o):fC (.fieldAddr t x f) X e h d=some (lf a (o+off),h):=by
 rcases hE with ⟨xs,k,rfl,rfl⟩ | ⟨b,g,len,rfl,rfl⟩<;>simp only [fC,mb,kN,hT,hk,hf,hx,lf,uy,CN,vN,jw,gq]
theorem kB {m o t:Nat} {a r:AV} {cs:List AV} {x:Operand} {X:Ctx} {d:Option Nat} {ti:TI} {xs:List (List AV)} (hS:Sep H L) (hi:L[i]?=some (.sl w tt v n xs)) (hm:xs[m]?=some cs) (hE:EA v m a cs) (hT:X.C.T t=some ti) (hp:part ti cs o=some r) (hx:eO e x=lf a o):fC (.load t x) X e { H with dO:=ls } d=some (r,{ H with dO:=ls }):=by
 have hml:m<xs.length:=(List.getElem?_eq_some_iff.mp hm).1
 obtain ⟨hxl,hc⟩:=hS.at hi
 rcases hE with ⟨xs',k,rfl,rfl⟩ | ⟨b,g,len,rfl,rfl⟩
 ·simp only [fC,rP,pS,hT,hx,lf,mM,JH,hp,gq]
 ·rcases hc with ⟨h0,hv⟩ | ⟨_,hv⟩ | ⟨b',g',j,hb,hv,hg,htj⟩
  ·cases hv
  ·cases hv
  ·cases hv
   have hmj:(xs++j)[m]?=some cs:=by rw [List.getElem?_append_left hml]; exact hm
   simp only [fC,rP,pS,hT,hx,lf,mM,tF,bY.g5,hg,Nat.beq_refl,hmj,hp,gq]
theorem Ab {cs new cs':List AV} {o:Nat} (h:jF cs o new=some cs'):cs'.length=cs.length:=by
 unfold jF at h
 split at h
 ·rename_i hle
  have hle:=Nat.ble_eq.mp hle
  simp only [kC,Option.some.injEq] at h
  subst h
  simp only [List.length_append,List.length_take,List.length_drop]
  omega
 ·cases h
theorem Jd {m o t:Nat} {a r:AV} {cs new cs':List AV} {x y:Operand} {d:Option Nat} {ti:TI} {xs:List (List AV)} (hS:Sep H L) (hi:L[i]?=some (.sl true tt v n xs)) (hm:xs[m]?=some cs) (hE:EA v m a cs) (hT:C.T t=some ti) (hx:eO e x=lf a o) (hy:eO e y=r) (hnew:cellsOf ti r=some new) (hok:new.all AV.gm=true) (hsp:jF cs o new=some cs') :
  ∃ u H',(∀ call,fC (.store t x y) ⟨C,fa,call⟩ e { H with dO:=ls } d=some (u,{ H' with dO:=ls }))∧u=.undef∧Sep H' (L.set i (.sl true tt v n (xs.set m cs'))):=by
 have hml:m<xs.length:=(List.getElem?_eq_some_iff.mp hm).1
 obtain ⟨hxl,hc⟩:=hS.at hi
 rcases hc with ⟨h0,rfl⟩ | ⟨h0 | h0,_⟩ | ⟨b,g,j,hb,rfl,hg,htj⟩
 ·subst h0; simp at hm
 ·cases h0
 ·subst h0; simp at hm
 ·rcases hE with ⟨xs',k,h0,_⟩ | ⟨b',g',len,hv,rfl⟩
  ·cases h0
  ·cases hv
   have hlob:H.lo≤b:=bY.jl hg
   have hmj:(xs++j)[m]?=some cs:=by rw [List.getElem?_append_left hml]; exact hm
   refine ⟨.undef,H.set b (.eL g n ((xs.set m cs')++j)),fun call=>?_,rfl,?_⟩
   ·have hse:(xs++j).set m cs'=xs.set m cs'++j:=by rw [List.set_append_left _ _ hml]
    simp only [fC,qQ,pH,hT,hx,hy,o6,hnew,hok,lf,rm,vn,bY.g5,hg,Nat.beq_refl,hmj,hsp,bY.kL,hse]
   ·refine hS.jk hi (by simpa using hS.lo) (by simp) ⟨?_,.inr (.inr ⟨b,g,j,by simpa using hb,by simp,?_,htj⟩)⟩ ?_ ?_
    ·intro z hz
     rcases List.mem_or_eq_of_mem_set hz with hz | rfl
     ·exact hxl z hz
     ·rw [Ab hsp]; exact hxl _ (List.mem_of_getElem? hm)
    ·rw [bY.ik,if_pos ⟨rfl,hlob⟩]
    ·intro b' hb' hne; rw [bY.ik,if_neg (by rintro ⟨rfl,_⟩; exact hne rfl)]
    ·intro b' hb'; exact .inl hb'
theorem pD {m o t:Nat} {a r:AV} {new:List AV} {x y:Operand} {d:Option Nat} {ti:TI} (z z' : α) (hS:Sep H L) (hi:L[i]?=some (.sl true tt v n (l.map enc))) (hml:m<l.length) (hz:l[m]=z) (hE:EA v m a (enc z)) (hT:C.T t=some ti) (hx:eO e x=lf a o) (hy:eO e y=r) (hnew:cellsOf ti r=some new) (hok:new.all AV.gm=true) (hsp:jF (enc z) o new=some (enc z')) :
  ∃ u H',(∀ call,fC (.store t x y) ⟨C,fa,call⟩ e { H with dO:=ls } d=some (u,{ H' with dO:=ls }))∧u=.undef∧Sep H' (L.set i (.sl true tt v n ((l.set m z').map enc))):=by
 rw [List.map_set]
 exact Jd hS hi (g9 hml hz) hE hT hx hy hnew hok hsp
def Le (v:AV) (k:Nat) (v':AV):Prop:=(v=.sl [] .nil∧v'=.sl [] .nil∧k=0)∨(v=.sl [] (.exact 0)∧v'=.sl [] (.exact 0)∧k=0)∨∃ b g len,v=.hs b g 0 len∧v'=.hs b g 0 k
theorem HC {t el k:Nat} {x y:Operand} {ti te:TI} {kd:IntKind} {d:Option Nat} {xs:List (List AV)} (hS:Sep H L) (hi:L[i]?=some (.sl true tt v n xs)) (hT:C.T t=some ti) (hk:ti.kind=.slice el) (hE:C.T el=some te) (hn:te.size=n) (hx:eO e x=v) (hy:eO e y=.int kd (k:Int)) (hkl:k≤xs.length) :
  ∃ v' H',(∀ call,fC (.slice t x none (some y) none) ⟨C,fa,call⟩ e { H with dO:=ls } d=some (v',{ H' with dO:=ls }))∧Le v k v'∧Sep H' (L.set i (.sl true false v' n (xs.take k))):=by
 obtain ⟨hxl,hc⟩:=hS.at hi
 have hai:kU (.int kd (k:Int))=some k:=rfl
 rcases hc with ⟨h0,rfl⟩ | ⟨h0 | h0,rfl⟩ | ⟨b,g,j,hb,rfl,hg,htj⟩
 ·subst h0
  have hk0:k=0:=by simpa using hkl
  subst hk0
  refine ⟨.sl [] .nil,H,fun call=>?_,.inl ⟨rfl,rfl,rfl⟩,?_⟩
  ·simp only [fC,kI,kg,hT,hk,hE,hx,hy,slice,oi,jf,bound,hai,kS,jB,kb]
   rfl
  ·exact hS.jk hi hS.lo (Nat.le_refl _) ⟨by simp,.inl ⟨by simp,rfl⟩⟩ (fun _ _ _=>rfl) (fun b hb=>by simp [gI,gn.v] at hb)
 ·cases h0
 ·subst h0
  have hk0:k=0:=by simpa using hkl
  subst hk0
  refine ⟨.sl [] (.exact 0),H,fun call=>?_,.inr (.inl ⟨rfl,rfl,rfl⟩),?_⟩
  ·simp only [fC,kI,kg,hT,hk,hE,hx,hy,slice,oi,jf,bound,hai,kS,jB,kb]
   rfl
  ·exact hS.jk hi hS.lo (Nat.le_refl _) ⟨by simp,.inr (.inl ⟨.inr (by simp),rfl⟩)⟩ (fun _ _ _=>rfl) (fun b hb=>by simp [gI,gn.v] at hb)
 ·have h0:Nat.ble 0 k=true:=Nat.ble_eq.mpr (Nat.zero_le _)
  have h1:Nat.ble k (xs++j).length=true:=Nat.ble_eq.mpr (by simp; omega)
  have h2:Nat.ble 0 (xs++j).length=true:=Nat.ble_eq.mpr (Nat.zero_le _)
  refine ⟨.hs b g 0 k,H,fun call=>?_,.inr (.inr ⟨b,g,_,rfl,rfl⟩),?_⟩
  ·simp only [fC,kI,kg,hT,hk,hE,hx,hy,slice,xo,bY.g5,hg,hn,Nat.beq_refl,Bool.and_self,jf,bound,hai,kS,Option.getD_none,Nat.zero_add,h0,h1,h2,Bool.and_true,Bool.true_and,vJ,jw,Nat.sub_zero,gq]
  ·refine hS.jk hi hS.lo (Nat.le_refl _) ⟨fun z hz=>hxl z (List.mem_of_mem_take hz),.inr (.inr ⟨b,g,xs.drop k++j,hb,?_,?_,fun h=>by cases h⟩)⟩ (fun _ _ _=>rfl) (fun b' hb'=>.inl hb')
   ·rw [List.length_take,Nat.min_eq_left hkl]
   ·rw [hg,← List.append_assoc,List.take_append_drop]
theorem nW {t el k:Nat} {x y:Operand} {ti te:TI} {kd:IntKind} {d:Option Nat} (hS:Sep H L) (hi:L[i]?=some (.sl true tt v n (l.map enc))) (hT:C.T t=some ti) (hk:ti.kind=.slice el) (hE:C.T el=some te) (hn:te.size=n) (hx:eO e x=v) (hy:eO e y=.int kd (k:Int)) (hkl:k≤l.length) :
  ∃ v' H',(∀ call,fC (.slice t x none (some y) none) ⟨C,fa,call⟩ e { H with dO:=ls } d=some (v',{ H' with dO:=ls }))∧Le v k v'∧Sep H' (L.set i (.sl true false v' n ((l.take k).map enc))):=by
 rw [List.map_take]
 exact HC hS hi hT hk hE hn hx hy (by simpa using hkl)
theorem m5 {t el k:Nat} {x y:Operand} {ti te:TI} {kd:IntKind} {d:Option Nat} {v':AV} {ys:List (List AV)} {X:Ctx} (hS:Sep H L) (hi:L[i]?=some (.sl true tt v' n ys)) (hc:Le v k v') (hT:X.C.T t=some ti) (hk:ti.kind=.slice el) (hE:X.C.T el=some te) (hn:te.size=n) (hx:eO e x=v) (hy:eO e y=.int kd (k:Int)) :
  fC (.slice t x none (some y) none) X e { H with dO:=ls } d=some (v',{ H with dO:=ls }):=by
 have hai:kU (.int kd (k:Int))=some k:=rfl
 obtain ⟨hxl,hq⟩:=hS.at hi
 rcases hc with ⟨rfl,rfl,rfl⟩ | ⟨rfl,rfl,rfl⟩ | ⟨b,g,len,rfl,rfl⟩
 ·simp only [fC,kI,kg,hT,hk,hE,hx,hy,slice,oi,jf,bound,hai,kS,jB,kb]
  rfl
 ·simp only [fC,kI,kg,hT,hk,hE,hx,hy,slice,oi,jf,bound,hai,kS,jB,kb]
  rfl
 ·rcases hq with ⟨_,hv⟩ | ⟨_,hv⟩ | ⟨b',g',j,hb,hv,hg,htj⟩
  ·cases hv
  ·cases hv
  ·cases hv
   have h0:Nat.ble 0 ys.length=true:=Nat.ble_eq.mpr (Nat.zero_le _)
   have h1:Nat.ble ys.length (ys++j).length=true:=Nat.ble_eq.mpr (by simp)
   have h2:Nat.ble 0 (ys++j).length=true:=Nat.ble_eq.mpr (Nat.zero_le _)
   simp only [fC,kI,kg,hT,hk,hE,hx,hy,slice,xo,bY.g5,hg,hn,Nat.beq_refl,Bool.and_self,jf,bound,hai,kS,Option.getD_none,Nat.zero_add,h0,h1,h2,Bool.and_true,Bool.true_and,vJ,jw,Nat.sub_zero,gq]
end
section
variable {C:fP} {F:iI} {Pr:iw} {fa:eC} {e:Env} {all rest:List Oper} {o:Oper} {q:Env→bY→Prop}
variable {H:bY} {ls:gN} {L:List gn} {i:Nat} {v:AV} {cs:List AV}
theorem tn {d:Nat} (hS:Sep H L) (hd:fa.dO.elem d=false):∃ v H',newVar fa d { H with dO:=ls } cs=some (v,{ H' with dO:=ls })∧∃ b,v=.ptr b 0 0 0∧Sep H' (.obj (.ptr b 0 0 0) cs::L):=by
 have hlo:=hS.lo
 refine ⟨.ptr H.size 0 0 0,H.push (.eL 0 cs.length [cs]),?_,H.size,rfl,?_⟩
 ·simp only [newVar,hd,bY.ra]
 ·refine hS.new (by simp; omega) (by simp) ⟨H.size,cs.length,by simp,rfl,?_⟩ ?_ ?_
  ·rw [bY.jr _ _ _ hlo]; simp
  ·intro b hb; rw [bY.jr _ _ _ hlo,if_neg (by omega)]
  ·intro b hb; simp [gI,gn.v] at hb; omega
theorem uY {t d:Nat} {ti:TI} (hS:Sep H L) (hd:fa.dO.elem d=false) (hT:C.T t=some ti):∃ v H',(∀ call,fC (.alloc t) ⟨C,fa,call⟩ e { H with dO:=ls } (some d)=some (v,{ H' with dO:=ls }))∧∃ b,v=.ptr b 0 0 0∧Sep H' (.obj (.ptr b 0 0 0) ti.zero::L):=by
 obtain ⟨v,H',h1,h2⟩:=tn (ls:=ls) (cs:=ti.zero) hS hd
 refine ⟨v,H',fun call=>?_,h2⟩
 simp only [fC,Bl,tI,hT,h1]
theorem mr {t d:Nat} {ti:TI} {x:Operand} {r:AV} (hS:Sep H L) (hd:fa.dO.elem d=false) (hT:C.T t=some ti) (hx:eO e x=r) (hc:cellsOf ti r=some cs) (hok:cs.all AV.gm=true):∃ v H',(∀ call,fC (.box t x) ⟨C,fa,call⟩ e { H with dO:=ls } (some d)=some (v,{ H' with dO:=ls }))∧∃ b,v=.ptr b 0 0 0∧Sep H' (.obj (.ptr b 0 0 0) cs::L):=by
 obtain ⟨v,H',h1,h2⟩:=tn (ls:=ls) (cs:=cs) hS hd
 refine ⟨v,H',fun call=>?_,h2⟩
 simp only [fC,Cg,Af,hT,hx,hc,hok,h1]
theorem Sep.p0 (hS:Sep H L) (hi:L[i]?=some (.obj v cs)):v=lf v 0:=by
 obtain ⟨b,z,hb,rfl,hg⟩:=hS.at hi; rfl
theorem fq {o off ft f t:Nat} {x:Operand} {X:Ctx} {d:Option Nat} {ti:TI} {fs:List (Nat×Nat)} {h:bY} (hS:Sep H L) (hi:L[i]?=some (.obj v cs)) (hT:X.C.T t=some ti) (hk:ti.kind=.struct fs) (hf:fs[f]?=some (off,ft)) (hx:eO e x=lf v o):fC (.fieldAddr t x f) X e h d=some (lf v (o+off),h):=by
 obtain ⟨b,z,hb,rfl,hg⟩:=hS.at hi
 simp only [fC,mb,kN,hT,hk,hf,hx,lf,uy,vN,jw,gq]
theorem gh {x:Operand} {X:Ctx} {d:Option Nat} {h:bY} {o:Nat} (hS:Sep H L) (hi:L[i]?=some (.obj v cs)) (hx:eO e x=lf v o):fC (.nilCheck x) X e h d=some (lf v o,h):=by
 obtain ⟨b,z,hb,rfl,hg⟩:=hS.at hi
 simp only [fC,oT,hx,lf,tW,gq]
theorem eU {o t:Nat} {r:AV} {x:Operand} {X:Ctx} {d:Option Nat} {ti:TI} (hS:Sep H L) (hi:L[i]?=some (.obj v cs)) (hT:X.C.T t=some ti) (hp:part ti cs o=some r) (hx:eO e x=lf v o):fC (.load t x) X e { H with dO:=ls } d=some (r,{ H with dO:=ls }):=by
 obtain ⟨b,z,hb,rfl,hg⟩:=hS.at hi
 simp only [fC,rP,pS,hT,hx,lf,mM,tF,bY.g5,hg,Nat.beq_refl,List.getElem?_cons_zero,hp,gq]
theorem gC {o t:Nat} {r:AV} {new cs':List AV} {x y:Operand} {d:Option Nat} {ti:TI} (hS:Sep H L) (hi:L[i]?=some (.obj v cs)) (hT:C.T t=some ti) (hx:eO e x=lf v o) (hy:eO e y=r) (hnew:cellsOf ti r=some new) (hok:new.all AV.gm=true) (hsp:jF cs o new=some cs') :
  ∃ u H',(∀ call,fC (.store t x y) ⟨C,fa,call⟩ e { H with dO:=ls } d=some (u,{ H' with dO:=ls }))∧u=.undef∧Sep H' (L.set i (.obj v cs')):=by
 obtain ⟨b,z,hb,rfl,hg⟩:=hS.at hi
 have hlob:H.lo≤b:=bY.jl hg
 refine ⟨.undef,H.set b (.eL 0 z [cs']),fun call=>?_,rfl,?_⟩
 ·simp only [fC,qQ,pH,hT,hx,hy,o6,hnew,hok,lf,rm,vn,bY.g5,hg,Nat.beq_refl,List.getElem?_cons_zero,hsp,bY.kL,List.set_cons_zero]
 ·refine hS.jk hi (by simpa using hS.lo) (by simp) ⟨b,z,by simpa using hb,rfl,?_⟩ ?_ ?_
  ·rw [bY.ik,if_pos ⟨rfl,hlob⟩]
  ·intro b' hb' hne; rw [bY.ik,if_neg (by rintro ⟨rfl,_⟩; exact hne rfl)]
  ·intro b' hb'; exact .inl hb'
end
theorem um {H:bY} {L:List gn} {i:Nat} {n:Nat} {tt:Bool} {v:AV} {m:Nat} {xs:List (List AV)} (hS:Sep H L) (hi:L[i]?=some (.sl true tt v m xs)):jP (n+1) v v=true:=by
 obtain ⟨hxl,⟨h0,rfl⟩ | ⟨h0 | h0,rfl⟩ | ⟨b,g,j,hb,rfl,hg,htj⟩⟩:=hS.at hi
 ·rfl
 ·cases h0
 ·subst h0; rfl
 ·simp [jP]
theorem jc {X:Ctx} {all:List Oper} {e:Env} {h h':bY} {i d:Nat} {o:Oper} {v:AV} (ho:all[i]?=some o) (hw:fk all e o=some true) (hd:o.dst=some d) (hop:fC o.op X e h (some d)=some (v,h')) (hv:gY e d=v) (hq:jP 8 v v=true):again X all e h i=true:=by
 simp only [again,ho,hw,hd,hop,wS,hv,hq]
section
variable {C:fP} {F:iI} {Pr:iw} {fa:eC} {e:Env} {h:bY} {all rest:List Oper} {o:Oper} {q:Env→bY→Prop} {H:bY} {ls:gN}
theorem xD {i:Nat} {chk:List Nat} {sch:List (Nat×List Nat)} {v:AV} {h1:bY} (ho:all[i]?=some o) (hw:fk all e o=some true) (hop:∃ m,∀ k,m≤k→fC o.op (XN C F Pr fa k) e h o.dst=some (v,h1))
  (hc:∀ call,∀ j∈chk,again ⟨C,fa,call⟩ all (eY e o v) h1 j=true) (w:gz C F Pr fa all sch q (eY e o v) h1):gz C F Pr fa all ((i,chk)::sch) q e h:=by
 obtain ⟨m,hm⟩:=hop
 obtain ⟨e2,h2,⟨m2,hm2⟩,q2⟩:=w
 refine ⟨e2,h2,⟨max m m2,fun k hk=>?_⟩,q2⟩
 have hall:chk.all (again (XN C F Pr fa k) all (eY e o v) h1)=true:=List.all_eq_true.mpr fun j hj=>hc _ j hj
 simp only [nb,ho,hw,kG,hm k (by omega),rU,hall]
 exact hm2 k (by omega)
theorem nv {j:Nat} {chk:List Nat} {sch:List (Nat×List Nat)} {P:AV→bY→Prop} (hj:all[j]?=some o) (hw:fk all e o=some true) (hop:∃ v H',(∀ call,fC o.op ⟨C,fa,call⟩ e { H with dO:=ls } o.dst=some (v,{ H' with dO:=ls }))∧P v H')
  (next:∀ v H',P v H'→(∀ call,∀ j∈chk,again ⟨C,fa,call⟩ all (eY e o v) { H' with dO:=ls } j=true)∧gz C F Pr fa all sch q (eY e o v) { H' with dO:=ls }):gz C F Pr fa all ((j,chk)::sch) q e { H with dO:=ls }:=by
 obtain ⟨v,H',h1,h2⟩:=hop
 obtain ⟨n1,n2⟩:=next v H' h2
 exact xD hj hw ⟨0,fun k _=>h1 _⟩ n1 n2
end
theorem sR {p:Nat→Prop} {a:Nat} (h:p a):∀ j∈[a],p j:=by intro j hj; simp at hj; exact hj▸h
theorem wM {p:Nat→Prop} {a:Nat} {l:List Nat} (h:p a) (hl:∀ j∈l,p j):∀ j∈a::l,p j:=by
 intro j hj
 rcases List.mem_cons.mp hj with rfl | hj
 ·exact h
 ·exact hl j hj
structure eR (α:Type) where
 l:List α
 c:jx
 ok:l.length≤lO
 nl:c=.nil→l=[]
def eR.av {α:Type} (enc : α→List AV) (r:eR α):AV:=.sl (r.l.map enc) r.c
def Row.iV {α:Type} (r:Row α):eR α:=⟨r.l,r.c,r.ok,r.nl⟩
section
variable {H:bY} {L:List gn} {i:Nat} {v:AV} {cs:List AV} {w tt:Bool} {n:Nat}
variable {α:Type} {enc : α→List AV} {l:List α}
theorem yC {xs:List (List AV)} {sn:Bool} (hS:Sep H L) (hi:L[i]?=some (.sl w tt v n xs)):∃ c,(kH c=true→sn=true)∧(c=.nil→xs=[])∧∀ ls m,(∀ x∈xs,fx (freeze sn { H with dO:=ls } m) x=some x)→freeze sn { H with dO:=ls } (m+1) v=some (.sl xs c):=by
 obtain ⟨hxl,⟨h0,rfl⟩ | ⟨_,rfl⟩ | ⟨b,g,j,hb,rfl,hg,htj⟩⟩:=hS.at hi
 ·subst h0; exact ⟨.nil,fun h=>(by cases h),fun _=>rfl,fun _ _ _=>rfl⟩
 ·exact ⟨.exact xs.length,fun h=>(by cases h),fun h=>(by cases h),fun _ _ _=>rfl⟩
 ·refine ⟨vO sn,?_,?_,fun ls m hm=>?_⟩
  ·cases sn
   ·intro h; cases h
   ·exact fun _=>rfl
  ·cases sn<;>exact fun h=>by cases h
  ·have h2:Nat.ble (0+xs.length) (xs++j).length=true:=Nat.ble_eq.mpr (by simp)
   have h3:((xs++j).drop 0).take xs.length=xs:=by rw [List.drop_zero]; simp
   have h5:∀ ys:List (List AV),(∀ x∈ys,fx (freeze sn { H with dO:=ls } m) x=some x)→jJ (freeze sn { H with dO:=ls } m) ys=some ys:=by
    intro ys
    induction ys with
    | nil=>intro _; rfl
    | cons a ys ih=>intro h; simp only [jJ,h a (by simp),ih (fun x hx=>h x (by simp [hx]))]
   simp only [freeze,bY.g5,hg,Nat.beq_refl,h2,Bool.and_self,h3,h5 xs hm]
theorem gQ (hS:Sep H L) (hi:L[i]?=some (.sl w tt v n (l.map enc))) (hl:l.length≤lO):∃ r:Row α,r.l=l∧∀ ls m,(∀ x,fx (freeze false { H with dO:=ls } m) (enc x)=some (enc x))→freeze false { H with dO:=ls } (m+1) v=some (r.av enc):=by
 obtain ⟨c,h1,h2,h3⟩:=yC (sn:=false) hS hi
 refine ⟨⟨l,c,hl,?_,fun h=>List.map_eq_nil_iff.mp (h2 h)⟩,rfl,fun ls m hm=>h3 ls m ?_⟩
 ·cases hq:kH c with
  | false=>rfl
  | true=>exact absurd (h1 hq) (by simp)
 ·intro x hx; obtain ⟨y,_,rfl⟩:=List.mem_map.mp hx; exact hm y
theorem gx (hS:Sep H L) (hi:L[i]?=some (.sl w tt v n (l.map enc))) (hl:l.length≤lO):∃ r:eR α,r.l=l∧∀ ls m,(∀ x,fx (freeze true { H with dO:=ls } m) (enc x)=some (enc x))→freeze true { H with dO:=ls } (m+1) v=some (r.av enc):=by
 obtain ⟨c,h1,h2,h3⟩:=yC (sn:=true) hS hi
 refine ⟨⟨l,c,hl,fun h=>List.map_eq_nil_iff.mp (h2 h)⟩,rfl,fun ls m hm=>h3 ls m ?_⟩
 intro x hx; obtain ⟨y,_,rfl⟩:=List.mem_map.mp hx; exact hm y
theorem yk {f:AV→Option AV}:∀ {es:List (AV×AV×Nat)},(∀ x∈jv es,f x.2=some x.2)→jO f es=some (jv es)
 | [],_=>rfl
 | (k,v,c)::es,h=>by
   have h1:f v=some v:=h (k,v) (by simp [jv])
   have h2:jO f es=some (jv es):=yk fun x hx=>h x (by simp only [jv,List.map_cons,List.mem_cons]; exact .inr hx)
   simp only [jO,h1,h2,jv,List.map_cons]
theorem nF {sn:Bool} {es:List (AV×AV)} (hS:Sep H L) (hi:L[i]?=some (.map v es)) (ls:gN) (m:Nat) (hm:∀ x∈es,freeze sn { H with dO:=ls } m x.2=some x.2):freeze sn { H with dO:=ls } (m+1) v=some (.fm es sn):=by
 obtain ⟨b,es',c,hb,rfl,hg,rfl,hst⟩:=hS.at hi
 simp only [freeze,bY.g5,hg,yk hm]
theorem oa {sn:Bool} {cs':List AV} (hS:Sep H L) (hi:L[i]?=some (.obj v cs)) (ls:gN) (m:Nat) (hm:fx (freeze sn { H with dO:=ls } m) cs=some cs'):freeze sn { H with dO:=ls } (m+1) v=some (.ip cs' 0 sn):=by
 obtain ⟨b,z,hb,rfl,hg⟩:=hS.at hi
 simp only [freeze,bY.g5,hg,List.getElem?_cons_zero,hm]
end
def AV.lF:AV→Bool
 | .agg l=>l.all AV.gm
 | .eP _=>false
 | _=>true
theorem u9 {sn:Bool} {h:bY} {n:Nat} {v w:AV} (hp:v.gM=true) (hf:freeze sn h n v=some w):w=v:=by
 cases n with
 | zero=>simp [freeze] at hf
 | succ n =>
   cases v<;>simp only [AV.gM,Bool.false_eq_true] at hp<;>simp only [freeze,Option.some.injEq] at hf<;>try exact hf.symm
   ·rename_i s; cases s<;>simp_all [AV.gM]
   ·rename_i xs c; cases c<;>simp_all [AV.gM]
   ·rename_i es s; cases s<;>simp_all [AV.gM]
theorem mV {f:AV→Option AV}:∀ {l l':List AV},(∀ x∈l,∀ y,f x=some y→y=x)→fx f l=some l'→l'=l
 | [],_,_,h=>by simp only [fx,Option.some.injEq] at h; exact h.symm
 | a::l,l',hx,h=>by
   simp only [fx] at h
   split at h
   ·cases h
   ·rename_i w hw
    split at h
    ·cases h
    ·rename_i r hr
     simp only [Option.some.injEq] at h
     subst h
     rw [hx a (by simp) w hw,mV (fun x hm=>hx x (by simp [hm])) hr]
theorem yE {hp:bY} {n:Nat} (c:List AV) (o:Nat) (s:Bool):freeze true hp (n+1) (.ip c o s)=some (.ip c o s):=by simp [freeze]
theorem yj {hp:bY} {n:Nat} (c:List (AV×AV)) (s:Bool):freeze true hp (n+1) (.fm c s)=some (.fm c s):=by simp [freeze]
theorem wD {h:bY} {n:Nat} {v w:AV} (hr:v.ld=false) (hc:v.gm=true) (hf:freeze true h n v=some w):w=v:=by
 cases n with
 | zero=>simp [freeze] at hf
 | succ n =>
   cases v with
   | undef=>cases hc
   | la _ _=>cases hc
   | agg _=>cases hc
   | eP _=>cases hc
   | ptr _ _ _ _=>cases hr
   | hs _ _ _ _=>cases hr
   | hm _=>cases hr
   | sl xs c=>cases c<;>exact (Option.some.inj hf).symm
   | ip c o s=>rw [yE] at hf; exact (Option.some.inj hf).symm
   | fm c s=>rw [yj] at hf; exact (Option.some.inj hf).symm
   | fz f a c =>
     simp only [AV.ld,Bool.not_eq_false',Bool.and_eq_true,List.all_eq_true] at hr
     simp only [freeze] at hf
     split at hf
     ·rename_i a' c' ha hc'
      simp only [Option.some.injEq] at hf
      subst hf
      rw [mV (fun x hx y hy=>u9 (hr.1 x hx) hy) ha,mV (fun x hx y hy=>u9 (hr.2 x hx) hy) hc']
     ·cases hf
   | _=>exact (Option.some.inj hf).symm
theorem Br {l:List AV} (hr:(AV.agg l).ld=false) {x:AV} (hx:x∈l) (hc:x.gm=true):x.ld=false:=by
 simp only [AV.ld,List.any_eq_false] at hr
 have h1:=hr x hx
 cases x with
 | ptr _ _ _ _=>simp at h1
 | hs _ _ _ _=>simp at h1
 | hm _=>simp at h1
 | fz f a c=>simpa [AV.ld] using h1
 | agg _=>cases hc
 | _=>rfl
theorem Ch {h:bY} {n:Nat} {v w:AV} (hr:v.ld=false) (hfi:v.lF=true) (hf:freeze true h n v=some w):w=v:=by
 cases n with
 | zero=>simp [freeze] at hf
 | succ n =>
   cases v with
   | agg l =>
     rw [Iv] at hf
     split at hf
     ·rename_i l' hl
      simp only [Option.some.injEq] at hf
      subst hf
      simp only [AV.lF,List.all_eq_true] at hfi
      rw [mV (fun x hx y hy=>wD (Br hr hx (hfi x hx)) (hfi x hx) hy) hl]
     ·cases hf
   | eP l=>cases hfi
   | undef=>cases hf
   | la _ _=>cases hf
   | _=>exact wD hr rfl hf
theorem gb {h:bY} {args args':List AV} (hf:fx (freeze true h 8) args=some args') (hfi:args.all AV.lF=true):iS h args=some args':=by
 unfold iS
 cases hq:args.any AV.ld with
 | true=>exact hf
 | false =>
   simp only [List.any_eq_false,Bool.not_eq_true] at hq
   have:args'=args:=mV (fun x hx y hy=>Ch (hq x hx) (List.all_eq_true.mp hfi x hx) hy) hf
   rw [this]
theorem Sep.lF {H:bY} {L:List gn} (h:Sep H L) {i:Nat} {r:gn} (hi:L[i]?=some r):AV.lF r.v=true:=by
 cases r with
 | sl w t v n xs=>obtain ⟨hl,⟨_,rfl⟩ | ⟨_,rfl⟩ | ⟨b,g,j,hb,rfl,hq,ht⟩⟩:=h.at hi<;>rfl
 | map v es=>obtain ⟨b,es',c,hb,rfl,hq,he,hst⟩:=h.at hi; rfl
 | obj v cs=>obtain ⟨b,z,hb,rfl,hq⟩:=h.at hi; rfl
theorem wk {α:Type} {enc : α→List AV} {hp:bY} {n:Nat} (r:eR α):freeze true hp (n+1) (eR.av enc r)=some (eR.av enc r):=by
 unfold eR.av freeze
 cases r.c<;>rfl
theorem kE {α:Type} {enc : α→List AV} {hp:bY} {n:Nat} (r:Row α):freeze true hp (n+1) (Row.av enc r)=some (Row.av enc r):=wk r.iV
theorem HA {sn:Bool} {hp:bY} {n:Nat} (c:List AV) (o:Nat):freeze sn hp (n+1) (.ip c o false)=some (.ip c o false):=by simp [freeze]
theorem Hv {sn:Bool} {hp:bY} {n:Nat} (c:List (AV×AV)):freeze sn hp (n+1) (.fm c false)=some (.fm c false):=by simp [freeze]
theorem qn {C:fP} {fa:eC} {e:Env} {h:bY} {call:lD} {f:Nat} {a c:Array Operand} {as cs:List AV} {d:Option Nat} (ha:a.toList.map (eO e)=as) (hc:c.toList.map (eO e)=cs) (hok:(as.all AV.gm&&cs.all AV.gm)=true):fC (.makeFunc (.func f) a c) ⟨C,fa,call⟩ e h d=some (.fz f as cs,h):=by
 simp only [fC,oq,m0,ha,hc,hok]
section
variable {C:fP} {fa:eC} {e:Env} {h:bY} {α:Type} {enc : α→List AV}
theorem lG {X:Ctx} {d:Option Nat} {t el:Nat} {x:Operand} {cl:Call} {ti:TI} {r:eR α} (hc:cl.callee=.builtin .len) (ha:cl.args.toList=[x]) (hts:cl.argTypes.toList=[t]) (hT:X.C.T t=some ti) (hk:ti.kind=.slice el) (hx:eO e x=r.av enc) :
  fC (.call cl) X e h d=some (.int .i64 r.l.length,h):=by
 simp only [fC,kX,jW,hc,ha,hts,iQ,qh,nU,List.map_cons,List.map_nil,hT,hk,o5,hx,eR.av,oL,ke,List.length_map]
theorem lS {X:Ctx} {d:Option Nat} {t el:Nat} {x y:Operand} {ti te:TI} {r:eR α} {k:IntKind} {n:Nat} (hT:X.C.T t=some ti) (hk:ti.kind=.slice el) (hE:X.C.T el=some te) (hx:eO e x=r.av enc) (hi:eO e y=.int k (n:Int))
  (hn:n<r.l.length) (hl:(enc r.l[n]).length=te.size):fC (.indexAddr t x y) X e h d=some (.ip (enc r.l[n]) 0 (kH r.c),h) :=
 F5 hT hk hE hx hi (by omega) (r:=enc r.l[n]) (by simp [hn]) hl
def Row.drop (r:Row α) (k:Nat):Row α:=⟨r.l.drop k,kb k r.c,by have:=r.ok; rw [List.length_drop]; omega,by have:=r.sn; cases hc:r.c<;>rw [hc] at this<;>first | rfl | exact this,fun h=>by
 cases hc:r.c<;>rw [hc] at h<;>first | (rw [r.nl hc]; simp) | cases h⟩
theorem Cx {X:Ctx} {d:Option Nat} {t el n k:Nat} {x y:Operand} {ti te:TI} {r:Row α} {kd:IntKind} (hT:X.C.T t=some ti) (hk:ti.kind=.slice el) (hE:X.C.T el=some te) (hx:eO e x=r.av enc) (hy:eO e y=.int kd (k:Int)) (hn:te.size=n) (hkl:k≤r.l.length) (henc:∀ x,(enc x).length=n) :
  fC (.slice t x (some y) none none) X e h d=some ((r.drop k).av enc,h):=by
 have hai:kU (.int kd (k:Int))=some k:=rfl
 have h0:Nat.ble k (r.l.map enc).length=true:=Nat.ble_eq.mpr (by simpa using hkl)
 have h1:Nat.ble (r.l.map enc).length (r.l.map enc).length=true:=Nat.ble_eq.mpr (Nat.le_refl _)
 have h2:jB n (r.l.map enc)=true:=by
  cases r.l with
  | nil=>rfl
  | cons a l=>simp only [List.map_cons,jB,henc]; exact Nat.beq_refl n
 have h3:((r.l.map enc).drop k).take ((r.l.map enc).length - k)=(r.l.drop k).map enc:=by
  rw [List.take_of_length_le (by simp),List.map_drop]
 simp only [fC,kI,kg,hT,hk,hE,hx,hy,Row.av,slice,oi,jf,bound,hai,kS,hn,h1,h2,h0,Bool.and_true,h3,kC,gq,Row.drop]
end
section
variable {C:fP} {F:iI} {Pr:iw} {fa:eC} {e:Env} {h:bY} {all rest:List Oper} {o:Oper} {q:Env→bY→Prop}
theorem HZ {f:Nat} {args args':List AV} {v:AV} {h h':bY} (hP:Pr f=none) (h1:iS h args=some args') (h2:iS h' args'=some args') (w:eH C F Pr false f args' h' v h'):eH C F Pr false f args h v h:=by
 obtain ⟨m,hm⟩:=w
 refine ⟨m+1,fun k hk=>?_⟩
 obtain ⟨k,rfl⟩:∃ k',k=k'+1:=⟨k - 1,by omega⟩
 have:=hm (k+1) (by omega)
 simp only [ja,hP] at this ⊢
 cases hF:F f with
 | none=>simp [hF] at this
 | some fb =>
   simp only [hF,ml,h1,h2] at this ⊢
   cases hb:oG C fb (ja C F Pr k) k args' bY.empty with
   | none=>simp [hb,frozen] at this
   | some r =>
     obtain ⟨u,hu⟩:=r
     simp only [hb,frozen] at this ⊢
     cases hfz:freeze false hu 8 u with
     | none=>simp [hfz] at this
     | some z =>
       simp only [hfz,Option.some.injEq,Prod.mk.injEq] at this ⊢
       exact ⟨this.1,trivial⟩
theorem AS {f:Nat} {g:Operand} {c:Call} {args p r:List AV} {v:AV} {d:Option Nat} (hf:c.callee=.value g) (hg:eO e g=.fz f p r) (ha:c.args.toList.map (eO e)=args) (hok:(p++args++r).all AV.jg=true) (hs:fa.fw.elem f=false)
  (w:eH C F Pr false f (p++args++r) { h with dO:=[] } v { h with dO:=[] }):∃ m,∀ k,m≤k→fC (.call c) (XN C F Pr fa k) e h d=some (v,h):=by
 obtain ⟨m,hm⟩:=w
 refine ⟨m,fun k hk=>?_⟩
 simp only [fC,kX,jW,hf,hg,ha,n9,ub,hok,hs,hm k hk,pC]
theorem ib {f:Nat} {g:Operand} {c:Call} {args p r args':List AV} {R:AV→Prop} (ho:o.op=.call c) (hw:fk all e o=some true) (hf:c.callee=.value g) (hg:eO e g=.fz f p r) (ha:c.args.toList.map (eO e)=args) (hok:(p++args++r).all AV.jg=true) (hs:fa.fw.elem f=false)
  (hP:Pr f=none) (h1:iS { h with dO:=[] } (p++args++r)=some args') (h2:iS bY.empty args'=some args')
  (w:∀ h:bY,∃ v,eH C F Pr false f args' h v h∧R v) (next:∀ v,R v→gy C F Pr fa all rest q (eY e o v) h):gy C F Pr fa all (o::rest) q e h:=by
 obtain ⟨v,hc,hR⟩:=w bY.empty
 refine rW hw ?_ (next v hR)
 rw [ho]
 exact AS hf hg ha hok hs (HZ hP h1 h2 hc)
variable {H:bY} {ls:gN}
theorem fU {f:Nat} {g:Operand} {c:Call} {args p r:List AV} {R:AV→bY→Prop} (ho:o.op=.call c) (hw:fk all e o=some true) (hf:c.callee=.value g) (hg:eO e g=.fz f p r) (ha:c.args.toList.map (eO e)=args) (hok:(p++args++r).all AV.jg=true) (hs:fa.fw.elem f=true)
  (w:∃ v H',eH C F Pr true f (p++args++r) { H with dO:=[] } v H'∧R v H') (next:∀ v H',R v H'→gy C F Pr fa all rest q (eY e o v) { H' with dO:=ls }):gy C F Pr fa all (o::rest) q e { H with dO:=ls }:=by
 obtain ⟨v,H',hc,hR⟩:=w
 refine rW hw ?_ (next v H' hR)
 rw [ho]
 exact xw hf hg ha hok hs hc
theorem If {j:Nat} {sch:List (Nat×List Nat)} {f:Nat} {g:Operand} {c:Call} {args p r:List AV} {R:AV→bY→Prop} (hj:all[j]?=some o) (ho:o.op=.call c) (hw:fk all e o=some true) (hf:c.callee=.value g) (hg:eO e g=.fz f p r) (ha:c.args.toList.map (eO e)=args) (hok:(p++args++r).all AV.jg=true) (hs:fa.fw.elem f=true)
  (w:∃ v H',eH C F Pr true f (p++args++r) { H with dO:=[] } v H'∧R v H') (next:∀ v H',R v H'→gz C F Pr fa all sch q (eY e o v) { H' with dO:=ls }):gz C F Pr fa all ((j,[])::sch) q e { H with dO:=ls }:=by
 obtain ⟨v,H',hc,hR⟩:=w
 refine uo hj hw ?_ (next v H' hR)
 rw [ho]
 exact xw hf hg ha hok hs hc
end
def gi {α:Type} (enc : α→List AV) (r:Row α):List AV:=[r.av enc]
structure iT where
 mi:Int
 steps:eR ew
 pos:eR Int
 left:eR (Row fc)
def iT.cells (x:iT):List AV:=[.int .i64 x.mi,x.steps.av ew.cells,x.pos.av eu,x.left.av (gi fc.cells)]
structure lj where
 from_:Int
 to:Int
 end_:Int
 steps:eR ew
 gU:eR eA
 guards:eR eA
 j5:eR Int
 holds:eR Int
 bare:Bool
def lj.cells (x:lj):List AV:=[.int .i64 x.from_,.int .i64 x.to,.int .i64 x.end_,x.steps.av ew.cells,x.gU.av eA.cells,x.guards.av eA.cells,x.j5.av eu,x.holds.av eu,.bool x.bare]
structure gp where
 KC:eb
 roads:Row eF
def gp.cells (x:gp):List AV:=x.KC.cells++[x.roads.av eF.cells]
def sK (s:List UInt8):AV:=.str s
def bK (b:Bool):AV:=.bool b
theorem kW (a b:List UInt8):gR (sK a) (sK b)=some (decide (a=b)):=by
 simp only [gR,sK,AV.agg?,iz,rK,AV.str?]
 congr 1
 by_cases h:a=b
 ·simp [h]
 ·have:(a==b)=false:=by simpa using h
  simp [h,this]
theorem Sep.pA {H:bY} {L:List gn} {i:Nat} {w t:Bool} {v:AV} {n:Nat} {xs:List (List AV)} (h:Sep H L) (hi:L[i]?=some (.sl w t v n xs)):Sep H (L.set i (.sl w false v n xs)):=by
 obtain ⟨hxl,hc⟩:=h.at hi
 refine h.jk hi h.lo (Nat.le_refl _) ⟨hxl,?_⟩ (fun _ _ _=>rfl) (fun b hb=>.inl hb)
 rcases hc with h1 | h1 | ⟨b,g,j,h1,h2,h3,h4⟩
 ·exact .inl h1
 ·exact .inr (.inl h1)
 ·exact .inr (.inr ⟨b,g,j,h1,h2,h3,fun h=>by cases h⟩)
theorem iJ {ti:TI} {v:AV} (ha:ti.agg=false) (hs:ti.size=1) (hc:v.gm=true):cellsOf ti v=some [v]:=by
 simp only [cellsOf,ha,hc,hs,Nat.beq_refl,Bool.and_self]
theorem fG {p:AV→Bool}:([]:List AV).all p=true:=rfl
theorem eJ {p:AV→Bool} {a:AV} {l:List AV} (h:p a=true) (hl:l.all p=true):(a::l).all p=true:=by rw [List.all_cons,h,hl]; rfl
theorem qo {a b:Bool} (h:a=true) (hl:b=true):(a&&b)=true:=by rw [h,hl]; rfl
theorem FI {l:List AV} (h:l.all AV.gm=true):AV.lF (.agg l)=true:=h
theorem pg {κ β:Type} {ek : κ→AV} {ev : β→AV} {p:AV×AV→Prop} {l:List (κ×β)} (h:∀ x : κ×β,p (ek x.1,ev x.2)):∀ x∈eM ek ev l,p x:=by
 intro x hx; obtain ⟨y,_,rfl⟩:=List.mem_map.mp hx; exact h y
theorem JL (a b:Int):gW .xor .i64 a b=some (.int .i64 (IntKind.i64.wrap ((BitVec.ofInt 64 a ^^^ BitVec.ofInt 64 b).toNat:Int))):=by
 simp only [gW,tG,nd,jy,IntKind.bits]
 rfl
theorem ir {α:Type} {enc : α→List AV} (r:Row α):AV.rO (r.av enc)=true:=by
 have h:=r.sn
 unfold Row.av
 cases hc:r.c<;>rw [hc] at h<;>first | rfl | cases h
theorem vB {X:Ctx} {e:Env} {h:bY} {t n d:Nat} {ps:Array (Nat×Operand)} {ti:TI} {xs:List (List AV)} (hT:nE X.C t=some ti) (hle:Nat.ble (n*ti.size) 16777216=true) (hf:ni ti (jq e ps) (List.replicate n ti.zero)=some xs) (hd:X.fa.ES.elem d=false) (hp:mz xs=true):fC (.buildSlice t n ps) X e h (some d)=some (.sl xs (.exact xs.length),h):=by
 simp only [fC,oU,mJ,hT,hle,hf,sX,hd,hp,Bool.not_true,Bool.or_self]
def eR.isNil {α:Type} (r:eR α):Bool:=match r.c with
 | .nil=>true
 | _=>false
theorem eR.of_nil {α:Type} {r:eR α} (h:r.isNil=true):r.l=[]:=by
 apply r.nl
 unfold eR.isNil at h
 split at h
 ·assumption
 ·cases h
theorem lE {α:Type} {enc : α→List AV} {e:Env} {h:bY} {X:Ctx} {d:Option Nat} {t u el:Nat} {x y:Operand} {ti:TI} {r:eR α} (hT:X.C.T t=some ti) (hk:ti.kind=.slice el) (hx:eO e x=r.av enc) (hy:eO e y=.sl [] .nil):fC (.binOp .eql t x y u) X e h d=some (.bool r.isNil,h):=by
 simp only [fC,sT,binOp,hx,hy,eR.av,AV.int?,AV.str?,tv,hT,rT,hk,np,eR.isNil]
 cases r.c<;>rfl
theorem Sep.NW {H:bY} {L:List gn} {i:Nat} {t:Bool} {v:AV} {n:Nat} {xs:List (List AV)} (h:Sep H L) (hi:L[i]?=some (.sl true t v n xs)):(v=.sl [] .nil∧xs=[])∨(v=.sl [] (.exact 0)∧xs=[])∨∃ b g,v=.hs b g 0 xs.length:=by
 obtain ⟨hxl,h1 | ⟨h1 | h1,h2⟩ | ⟨b,g,j,h1,h2,h3,h4⟩⟩:=h.at hi
 ·exact .inl ⟨h1.2,h1.1⟩
 ·cases h1
 ·subst h1; exact .inr (.inl ⟨h2,rfl⟩)
 ·exact .inr (.inr ⟨b,g,h2⟩)
end Go.Sx
namespace Go.Sx
open Go
def iY (p:eb):Prop:=p.elems.l.length≤60∧p.eT.l.length≤120∧p.signals.l.length≤60∧p.lines.l.length≤20∧∀ x∈p.lines.l,x.elems.l.length≤60
theorem iY.elems {p:eb} (h:iY p):p.elems.l.length≤60:=h.1
theorem iY.eT {p:eb} (h:iY p):p.eT.l.length≤120:=h.2.1
theorem iY.signals {p:eb} (h:iY p):p.signals.l.length≤60:=h.2.2.1
theorem iY.lines {p:eb} (h:iY p):p.lines.l.length≤20:=h.2.2.2.1
theorem iY.line {p:eb} (h:iY p):∀ x∈p.lines.l,x.elems.l.length≤60:=h.2.2.2.2
theorem jt {κ β:Type} [DecidableEq κ] {k : κ} {x : β} {l:List (κ×β)} (h:look k l=some x):(k,x)∈l:=by
 induction l with
 | nil=>cases h
 | cons p l ih =>
   simp only [look] at h
   split at h
   ·rename_i hk
    simp only [Option.some.injEq] at h
    subst h hk
    exact List.mem_cons_self
   ·exact List.mem_cons_of_mem _ (ih h)
theorem yc {κ β:Type} [DecidableEq κ] {k : κ} {x : β} {l:List (κ×β)} {y : κ×β} (h:y∈put k x l):y=(k,x)∨y∈l:=by
 induction l with
 | nil=>left; simpa [put] using h
 | cons p l ih =>
   simp only [put] at h
   split at h
   ·rcases List.mem_cons.mp h with h | h
    ·exact .inl h
    ·exact .inr (List.mem_cons_of_mem _ h)
   ·rcases List.mem_cons.mp h with h | h
    ·exact .inr (h▸List.mem_cons_self)
    ·exact (ih h).imp id (List.mem_cons_of_mem _)
theorem pI {κ β:Type} [DecidableEq κ] {k : κ} {x : β} {l:List (κ×β)} {P : β→Prop} (hl:∀ y∈l,P y.2) (hx:P x):∀ y∈put k x l,P y.2:=by
 intro y hy
 rcases yc hy with rfl | hy
 ·exact hx
 ·exact hl y hy
theorem tj {κ β:Type} [DecidableEq κ] {k : κ} {x : β} {l:List (κ×β)}:(put k x l).length≤l.length+1:=by
 induction l with
 | nil=>simp [put]
 | cons p l ih =>
   simp only [put]
   split
   ·simp
   ·simp only [List.length_cons]; omega
def l9 {κ β:Type} (l:List (κ×β)):Prop:=(l.map Prod.fst).Nodup
theorem uH {κ β:Type} [DecidableEq κ] {k : κ} {l:List (κ×β)} (h:look k l=none):k∉l.map Prod.fst:=by
 induction l with
 | nil=>simp
 | cons p l ih =>
   simp only [look] at h
   split at h
   ·cases h
   ·rename_i hk
    simp only [List.map_cons,List.mem_cons,not_or]
    exact ⟨hk,ih h⟩
theorem uk {κ β:Type} [DecidableEq κ] {k : κ} {x : β} {l:List (κ×β)} (h:look k l=none):put k x l=l++[(k,x)]:=by
 induction l with
 | nil=>rfl
 | cons p l ih =>
   simp only [look] at h
   split at h
   ·cases h
   ·rename_i hk
    simp only [put,hk,if_false,List.cons_append,ih h]
theorem qZ {α:Type} [DecidableEq α]:∀ {a b:List α},a.Nodup→(∀ x∈a,x∈b)→a.length≤b.length
 | [],_,_,_=>Nat.zero_le _
 | x::a,b,hn,hs=>by
   have hx:x∈b:=hs x List.mem_cons_self
   have h1:=qZ (a:=a) (b:=b.erase x) (List.nodup_cons.mp hn).2 (by
    intro y hy
    have hne:y≠x:=by rintro rfl; exact (List.nodup_cons.mp hn).1 hy
    exact (List.mem_erase_of_ne hne).mpr (hs y (List.mem_cons_of_mem _ hy)))
   have h2:=List.length_erase_of_mem hx
   have h3:0<b.length:=List.length_pos_of_mem hx
   simp only [List.length_cons]; omega
def jG (p:eb) (e:Int):Int:=if e<0 then 0 else match p.elems.l[e.toNat]? with
 | some x=>x.kind
 | none=>0
theorem Bq {p:eb} {e:Int} (h:e<0∨e≥p.elems.l.length):jG p e=0:=by
 unfold jG
 split
 ·rfl
 ·rename_i h0
  rw [List.getElem?_eq_none (by omega)]
theorem C8 {p:eb} {e:Int} {x:e8} (h0:0≤e) (hx:e.toNat<p.elems.l.length) (hq:p.elems.l[e.toNat]=x):jG p e=x.kind:=by
 unfold jG
 rw [if_neg (by omega),List.getElem?_eq_getElem hx,hq]
def gJ:List fo→ed→Option ed
 | [],_=>none
 | j::l,x=>if j.a=x then some j.b else if j.b=x then some j.a else gJ l x
theorem pk {a b:ed} (h:a.elem=b.elem∧a.en=b.en):a=b:=by
 cases a; cases b; simp_all
theorem A4 {l:List fo} {y:ed} {k:Nat} {x:fo} (hx:k<l.length) (hq:l[k]=x) (h1:¬(x.a.elem=y.elem∧x.a.en=y.en)) (h2:¬(x.b.elem=y.elem∧x.b.en=y.en)):gJ (l.drop (k+1)) y=gJ (l.drop k) y:=by
 rw [List.drop_eq_getElem_cons hx,hq,gJ,if_neg (by rintro rfl; exact h1 ⟨rfl,rfl⟩),if_neg (by rintro rfl; exact h2 ⟨rfl,rfl⟩)]
theorem Av {l:List fo} {y:ed} {k:Nat} {x:fo} (hx:k<l.length) (hq:l[k]=x) (h1:x.a.elem=y.elem∧x.a.en=y.en):gJ (l.drop k) y=some x.b:=by
 rw [List.drop_eq_getElem_cons hx,hq,gJ,if_pos (pk h1)]
theorem AQ {l:List fo} {y:ed} {k:Nat} {x:fo} (hx:k<l.length) (hq:l[k]=x) (h1:¬(x.a.elem=y.elem∧x.a.en=y.en)) (h2:x.b.elem=y.elem∧x.b.en=y.en):gJ (l.drop k) y=some x.a:=by
 rw [List.drop_eq_getElem_cons hx,hq,gJ,if_neg (by rintro rfl; exact h1 ⟨rfl,rfl⟩),if_pos (pk h2)]
theorem BZ {l:List fo} {y:ed} {k:Nat} (hx:l.length≤k):gJ (l.drop k) y=none:=by
 rw [List.drop_eq_nil_of_le hx]; rfl
def gw (x:ed):Nat→List fe→Option Int
 | _,[]=>none
 | i,s::l=>if s.at_=x then some i else gw x (i+1) l
def ig (l:List fe) (x:ed):Option Int:=gw x 0 l
theorem uG {l:List fe} {y:ed} {k:Nat} {x:fe} (hx:k<l.length) (hq:l[k]=x) (h1:¬(x.at_.elem=y.elem∧x.at_.en=y.en)):gw y (k+1) (l.drop (k+1))=gw y k (l.drop k):=by
 rw [List.drop_eq_getElem_cons hx,hq,gw,if_neg (by rintro rfl; exact h1 ⟨rfl,rfl⟩)]
theorem vf {l:List fe} {y:ed} {k:Nat} {x:fe} (hx:k<l.length) (hq:l[k]=x) (h1:x.at_.elem=y.elem∧x.at_.en=y.en):gw y k (l.drop k)=some (k:Int):=by
 rw [List.drop_eq_getElem_cons hx,hq,gw,if_pos (pk h1)]
theorem vc {l:List fe} {y:ed} {k:Nat} (hx:l.length≤k):gw y k (l.drop k)=none:=by
 rw [List.drop_eq_nil_of_le hx]; rfl
def iD (l:List fe) (i:Int):Option ed:=if i<0 then none else (l[i.toNat]?).map (·.at_)
theorem C6 {l:List fe} {e:Int} (h:e<0∨e≥l.length):iD l e=none:=by
 unfold iD
 split
 ·rfl
 ·rw [List.getElem?_eq_none (by omega)]; rfl
theorem HE {l:List fe} {e:Int} {x:fe} (h0:0≤e) (hx:e.toNat<l.length) (hq:l[e.toNat]=x):iD l e=some x.at_:=by
 unfold iD
 rw [if_neg (by omega),List.getElem?_eq_getElem hx,hq]; rfl
def nc:Nat→List (Row fc)→Nat
 | _,[]=>0
 | i,r::l=>r.l.length*(2 ^ (12 - i) - 1)+nc (i+1) l
theorem F6 (l:List (Row fc)):∃ n,n=nc 0 l:=⟨_,rfl⟩
noncomputable def wt (l:List (Row fc)):Nat:=Classical.choose (F6 l)
theorem nQ (l:List (Row fc)):wt l=nc 0 l:=Classical.choose_spec (F6 l)
theorem yd (n:Nat):∃ m,m=2 ^ (13 - n) - 1:=⟨_,rfl⟩
noncomputable def n7 (n:Nat):Nat:=Classical.choose (yd n)
theorem pY (n:Nat):n7 n=2 ^ (13 - n) - 1:=Classical.choose_spec (yd n)
theorem JK:wt []=0:=by rw [nQ]; rfl
theorem Kx:n7 0=8191:=by rw [pY]
theorem vX (w:Row fc):∀ (l:List (Row fc)) (i:Nat),nc i (l++[w])=nc i l+w.l.length*(2 ^ (12 - (i+l.length)) - 1)
 | [],i=>by simp [nc]
 | r::l,i=>by
   simp only [List.cons_append,nc,vX w l (i+1),List.length_cons]
   rw [show i+1+l.length=i+(l.length+1) from by omega]; omega
theorem s5 {n:Nat} (h:n≤12):1≤n7 n:=by
 rw [pY]
 have:2 ^ 1≤2 ^ (13 - n):=Nat.pow_le_pow_right (by omega) (by omega)
 omega
theorem HF {l:List (Row fc)} {w:Row fc} (hn:l.length<12) (hw:w.l.length≤2):wt (l++[w])+1≤wt l+n7 l.length:=by
 rw [nQ,nQ,pY]
 rw [vX,Nat.zero_add]
 have h1:13 - l.length=(12 - l.length)+1:=by omega
 have h2:1≤2 ^ (12 - l.length):=Nat.one_le_two_pow
 rw [h1,Nat.pow_succ]
 have h3:w.l.length*(2 ^ (12 - l.length) - 1)≤2*(2 ^ (12 - l.length) - 1):=Nat.mul_le_mul_right _ hw
 omega
theorem wZ:∀ {l:List (Row fc)} {i k:Nat} (hk:k+1=l.length) (_:(l[k]'(by omega)).l.length=0),nc i (l.take k)=nc i l
 | [],_,_,hk,_=>by simp at hk
 | [r],i,k,hk,h0=>by
   have:k=0:=by simpa using hk
   subst this
   simp only [List.getElem_cons_zero] at h0
   simp [nc,h0]
 | r::s::l,i,k,hk,h0=>by
   obtain ⟨k,rfl⟩:∃ k',k=k'+1:=⟨k - 1,by simp at hk; omega⟩
   simp only [List.getElem_cons_succ] at h0
   rw [List.take_succ_cons,nc,nc,wZ (l:=s::l) (by simpa using hk) h0]
theorem yx:∀ {l:List (Row fc)} {i k:Nat} {r r':Row fc} (hk:k<l.length) (_:l[k]=r) (_:1≤r.l.length) (_:r'.l.length+1=r.l.length),nc i (l.set k r')+(2 ^ (12 - (i+k)) - 1)=nc i l
 | [],_,_,_,_,hk,_,_,_=>by simp at hk
 | x::l,i,0,r,r',_,hr,h1,h2=>by
   simp only [List.getElem_cons_zero] at hr
   subst hr
   simp only [List.set_cons_zero,nc,Nat.add_zero]
   rw [← h2,Nat.add_mul]; omega
 | x::l,i,k+1,r,r',hk,hr,h1,h2=>by
   simp only [List.getElem_cons_succ] at hr
   simp only [List.set_cons_succ,nc]
   have:=yx (l:=l) (i:=i+1) (k:=k) (by simpa using hk) hr h1 h2
   rw [show i+1+k=i+(k+1) from by omega] at this
   omega
theorem Ig {l:List (Row fc)} {k:Nat} {r:Row fc} (hk:k<l.length) (hk1:k+1=l.length) (hr:l[k]=r) (h0:r.l.length=0):wt (l.take k)=wt l:=by rw [nQ,nQ]; exact wZ hk1 (by rw [hr]; exact h0)
theorem Lr {l:List (Row fc)} {k:Nat} {r r':Row fc} (hk:k<l.length) (hk1:k+1=l.length) (hr:l[k]=r) (h1:1≤r.l.length) (h2:r'.l.length+1=r.l.length):wt (l.set k r')+n7 l.length=wt l:=by
 have:=yx (i:=0) hk hr h1 h2
 rw [nQ,nQ,pY]
 rw [← hk1,show 13 - (k+1)=12 - (0+k) from by omega]; exact this
def rY (l:List fo):Prop:=∀ (i:Nat) (h:i<l.length),gJ (l.take i) (l[i]).a=none∧gJ (l.take i) (l[i]).b=none∧(l[i]).a≠(l[i]).b
def nR (l:List fe):Prop:=∀ (i:Nat) (h:i<l.length),∀ y∈l.take i,y.at_≠(l[i]).at_
theorem Bt (l:List fo) (j:fo) (x:ed):gJ (l++[j]) x=match gJ l x with
  | some y=>some y
  | none=>if j.a=x then some j.b else if j.b=x then some j.a else none:=by
 induction l with
 | nil=>simp only [List.nil_append,gJ]
 | cons a l ih =>
   simp only [List.cons_append,gJ]
   split
   ·rfl
   ·split
    ·rfl
    ·exact ih
theorem y9 {l:List fo} {j:fo} {m:List (ed×ed)} (hD:∀ x,look x m=gJ l x) (ha:look j.a m=none) (hb:look j.b m=none) (hne:j.a≠j.b) (x:ed):look x (put j.b j.a (put j.a j.b m))=gJ (l++[j]) x:=by
 rw [qx,qx,Bt,← hD]
 by_cases h1:x=j.b
 ·subst h1
  rw [if_pos rfl,hb,if_neg hne,if_pos rfl]
 ·by_cases h2:x=j.a
  ·subst h2
   rw [if_neg h1,if_pos rfl,ha,if_pos rfl]
  ·rw [if_neg h1,if_neg h2]
   cases look x m with
   | some y=>rfl
   | none=>simp only [Ne.symm h2,if_false,Ne.symm h1]
theorem sr {l:List fo} {j:fo} {m:List (ed×ed)} {k:Nat} (hk:k<l.length) (hj:l[k]=j) (hD:∀ x,look x m=gJ (l.take k) x) (ha:look j.a m=none) (hb:look j.b m=none) (hne:¬(j.a.elem=j.b.elem∧j.a.en=j.b.en)):∀ x,look x (put j.b j.a (put j.a j.b m))=gJ (l.take (k+1)) x:=by
 intro x
 have:l.take (k+1)=l.take k++[j]:=by rw [List.take_succ_eq_append_getElem hk,hj]
 rw [this]
 exact y9 hD ha hb (fun h=>hne (by rw [h]; exact ⟨rfl,rfl⟩)) x
theorem xm {l:List fo} {j:fo} {m:List (ed×ed)} {k:Nat} (hk:k<l.length) (hj:l[k]=j) (hD:∀ x,look x m=gJ (l.take k) x) (hJ:∀ (i:Nat) (h:i<l.length),i<k→gJ (l.take i) (l[i]).a=none∧gJ (l.take i) (l[i]).b=none∧(l[i]).a≠(l[i]).b) (ha:look j.a m=none) (hb:look j.b m=none) (hne:¬(j.a.elem=j.b.elem∧j.a.en=j.b.en)) :
  ∀ (i:Nat) (h:i<l.length),i<k+1→gJ (l.take i) (l[i]).a=none∧gJ (l.take i) (l[i]).b=none∧(l[i]).a≠(l[i]).b:=by
 intro i h h2
 rcases Nat.lt_succ_iff_lt_or_eq.mp h2 with h3 | h3
 ·exact hJ i h h3
 ·subst h3
  rw [hj]
  exact ⟨by rw [← hD]; exact ha,by rw [← hD]; exact hb,fun h=>hne (by rw [h]; exact ⟨rfl,rfl⟩)⟩
theorem DF {l:List fe} {n k:Nat} (hV:∀ (i:Nat) (h:i<l.length),i<k→0≤(l[i]).at_.elem∧(l[i]).at_.elem<(n:Int)∧0≤(l[i]).at_.en) (hk:l.length≤k):∀ s∈l,0≤s.at_.elem∧s.at_.elem<(n:Int)∧0≤s.at_.en:=by
 intro s hs
 obtain ⟨i,hi,rfl⟩:=List.mem_iff_getElem.mp hs
 exact hV i hi (by omega)
theorem uQ {l:List fe} {n k:Nat} {x:fe} {hk:k<l.length} (hq:l[k]=x) (hV:∀ (i:Nat) (h:i<l.length),i<k→0≤(l[i]).at_.elem∧(l[i]).at_.elem<(n:Int)∧0≤(l[i]).at_.en) (hx:0≤x.at_.elem∧x.at_.elem<(n:Int)∧0≤x.at_.en):∀ (i:Nat) (h:i<l.length),i<k+1→0≤(l[i]).at_.elem∧(l[i]).at_.elem<(n:Int)∧0≤(l[i]).at_.en:=by
 intro i h h2
 rcases Nat.lt_succ_iff_lt_or_eq.mp h2 with h3 | h3
 ·exact hV i h h3
 ·subst h3
  rw [hq]; exact hx
theorem uX {l:List fe} {k:Nat} {x:fe} {m:List (ed×Bool)} (hk:k<l.length) (hq:l[k]=x) (hD:∀ y:ed,(∃ s,s∈l.take k∧s.at_=y)→look y m=some true):∀ y:ed,(∃ s,s∈l.take (k+1)∧s.at_=y)→look y (put x.at_ true m)=some true:=by
 rintro y ⟨s,hs,rfl⟩
 rw [qx]
 split
 ·rfl
 ·rename_i hne
  rw [List.take_succ_eq_append_getElem hk,hq] at hs
  rcases List.mem_append.mp hs with hs | hs
  ·exact hD _ ⟨s,hs,rfl⟩
  ·simp at hs; subst hs; exact absurd rfl hne
theorem uS {l:List fe} {k:Nat} {x:fe} {m:List (ed×Bool)} (hk:k<l.length) (hq:l[k]=x) (hD:∀ y:ed,(∃ s,s∈l.take k∧s.at_=y)→look y m=some true) (hJ:∀ (i:Nat) (h:i<l.length),i<k→∀ y∈l.take i,y.at_≠(l[i]).at_) (hn:look x.at_ m=none):∀ (i:Nat) (h:i<l.length),i<k+1→∀ y∈l.take i,y.at_≠(l[i]).at_:=by
 intro i h h2
 rcases Nat.lt_succ_iff_lt_or_eq.mp h2 with h3 | h3
 ·exact hJ i h h3
 ·subst h3
  intro y hy he
  rw [hq] at he
  have:=hD x.at_ ⟨y,hy,he⟩
  rw [hn] at this; cases this
theorem yw {α:Type} {P : α→Prop} {l:List α} {k:Nat} {x : α} (hl:∀ y∈l,P y) (hx:P x):∀ y∈l.set k x,P y:=by
 intro y hy
 rcases List.mem_or_eq_of_mem_set hy with hy | rfl
 ·exact hl y hy
 ·exact hx
theorem sj {e:Env} {h:bY} {t d o:Nat} {x y:Operand} {X:Ctx} {dd:Option Nat} {ti:TI} {r:AV} {new cs cs':List AV} (hT:X.C.T t=some ti) (hx:eO e x=.la d o) (hy:eO e y=r) (hnew:cellsOf ti r=some new) (hok:new.all AV.gm=true) (hl:fJ h.dO d=some cs) (hsp:jF cs o new=some cs'):fC (.store t x y) X e h dd=some (.undef,{ h with dO:=nI h.dO d cs' }):=by
 simp only [fC,qQ,pH,hT,hx,hy,o6,hnew,hok,rm,CM,hl,hsp]
section
variable {C:fP} {F:iI} {Pr:iw} {fa:eC} {Q:Ex→Env→bY→Prop} {e:Env} {h:bY}
end
section
variable {C:fP} {F:iI} {Pr:iw} {fa:eC} {Q:Ex→Env→bY→Prop} {e:Env} {h:bY}
theorem kK {a b:Code} {live:List Nat} {x y:g8} (P:Env→bY→Prop) (K:∀ E Z,P E Z→Wp C F Pr fa b y Q E Z) (w:Wp C F Pr fa a x (oj (fun e h=>P (proj live e) { h with dO:=eV live h.dO }) Q) e h):Wp C F Pr fa (.seq a b) (.seq live x y) Q e h:=by
 refine yM (w.mono ?_)
 intro x1 e1 h1 hx
 cases x1 with
 | gf=>exact K _ _ hx
 | ext id=>exact hx
 | ret=>exact hx
end
theorem Fz {r:List AV} {l:List (List AV)} (h:r.all AV.rO=true) (hl:mz l=true):mz (r::l)=true:=by
 simp only [mz,List.all_cons,h,Bool.true_and]; exact hl
def ot (d:eS):Prop:=d.runs.l.length≤8∧∀ r∈d.runs.l,r.fK.l.length≤12∧0≤r.fy∧r.fy<(d.fy.l.length:Int)
theorem uP {α:Type} {P : α→Prop} {l:List α} {k:Nat} {x : α} {hk:k<l.length} (hq:l[k]=x) (hV:∀ (i:Nat) (h:i<l.length),i<k→P (l[i])) (hx:P x):∀ (i:Nat) (h:i<l.length),i<k+1→P (l[i]):=by
 intro i h h2
 rcases Nat.lt_succ_iff_lt_or_eq.mp h2 with h3 | h3
 ·exact hV i h h3
 ·subst h3
  rw [hq]; exact hx
theorem BV {d:eS} {k m:Nat} (h1:d.runs.l.length≤8) (hA:∀ (i:Nat) (h:i<d.runs.l.length),i<k→(d.runs.l[i]).fK.l.length≤12) (hB:∀ (i:Nat) (h:i<d.runs.l.length),i<m→0≤(d.runs.l[i]).fy∧(d.runs.l[i]).fy<(d.fy.l.length:Int)) (hk:d.runs.l.length≤k∧d.runs.l.length≤m):ot d:=by
 refine ⟨h1,fun r hr=>?_⟩
 obtain ⟨i,hi,rfl⟩:=List.mem_iff_getElem.mp hr
 exact ⟨hA i hi (by omega),hB i hi (by omega)⟩
theorem pU {α:Type} {P : α→Prop} {l:List α} {x : α} (hl:∀ y∈l,P y) (hx:P x):∀ y∈l++[x],P y:=by
 intro y hy
 rcases List.mem_append.mp hy with hy | hy
 ·exact hl y hy
 ·simp at hy; subst hy; exact hx
theorem Hs {α:Type} {P : α→Prop} {l m:List α} (hl:∀ y∈l,P y) (hm:∀ y∈m,P y):∀ y∈l++m,P y:=by
 intro y hy
 rcases List.mem_append.mp hy with hy | hy
 ·exact hl y hy
 ·exact hm y hy
theorem BB {l:List (Row fc)} {k:Nat} {r:Row fc} (hk:k<l.length) (hk1:k+1=l.length) (hr:l[k]=r) (h0:r.l.length=0):wt (l.take (l.length - 1))=wt l:=by
 rw [show l.length - 1=k from by omega]; exact Ig hk hk1 hr h0
theorem xg {κ β:Type} [DecidableEq κ] {k : κ} {x : β} {l:List (κ×β)} (h:l9 l) (hn:look k l=none):l9 (put k x l):=by
 unfold l9 at *
 rw [uk hn,List.map_append,List.map_cons,List.map_nil]
 have:=uH hn
 rw [List.nodup_append]
 refine ⟨h,by simp,?_⟩
 intro a ha b hb
 simp at hb; subst hb
 rintro rfl; exact this ha
def univ (n:eE):List ed:=⟨0,0⟩::n.next.map Prod.snd
theorem B5 {n:eE} {x y:ed} (h:look x n.next=some y):y∈univ n:=by
 have:=jt h
 exact List.mem_cons_of_mem _ (List.mem_map.mpr ⟨_,this,rfl⟩)
theorem uU {κ β:Type} [DecidableEq κ] {k : κ} {x : β} {l:List (κ×β)} {U:List κ} (h:∀ y∈l.map Prod.fst,y∈U) (hk:k∈U):∀ y∈(put k x l).map Prod.fst,y∈U:=by
 intro y hy
 obtain ⟨z,hz,rfl⟩:=List.mem_map.mp hy
 rcases yc hz with rfl | hz
 ·exact hk
 ·exact h _ (List.mem_map_of_mem hz)
theorem wG {n:eE} {x y:ed} {b:Bool} (h:(b=true→look x n.next=some y)∧(b=false→look x n.next=none)∧(b=false→y=⟨0,0⟩)):y∈univ n:=by
 cases b with
 | true=>exact B5 (h.1 rfl)
 | false=>rw [h.2.2 rfl]; exact List.mem_cons_self
theorem Dv {l:List fo} {j:fo} {m:List (ed×ed)} {k:Nat} (hk:k<l.length) (hj:l[k]=j) (hJ:rY l) (hD:∀ x,look x m=gJ (l.take k) x):∀ x,look x (put j.b j.a (put j.a j.b m))=gJ (l.take (k+1)) x:=by
 obtain ⟨h1,h2,h3⟩:=hJ k hk
 rw [hj] at h1 h2 h3
 refine sr hk hj hD (by rw [hD]; exact h1) (by rw [hD]; exact h2) ?_
 intro h; exact h3 (pk h)
theorem BG {κ β:Type} [DecidableEq κ] {a b : κ} {x y : β} {l:List (κ×β)} {k:Nat} (h:l.length≤2*k):(put a x (put b y l)).length≤2*(k+1):=by
 have h1:=tj (k:=a) (x:=x) (l:=put b y l)
 have h2:=tj (k:=b) (x:=y) (l:=l)
 omega
theorem pq (x:ed) (s:fe):∀ (l:List fe) (i:Nat),gw x i (l++[s])=match gw x i l with
  | some y=>some y
  | none=>if s.at_=x then some ((i+l.length:Nat):Int) else none
 | [],i=>by simp only [List.nil_append,gw,List.length_nil,Nat.add_zero]
 | a::l,i=>by
   simp only [List.cons_append,gw]
   split
   ·rfl
   ·rw [pq x s l (i+1)]
    simp only [List.length_cons,show i+1+l.length=i+(l.length+1) from by omega]
theorem o8 {x:ed}:∀ {l:List fe} {i:Nat},(∀ s∈l,s.at_≠x)→gw x i l=none
 | [],_,_=>rfl
 | a::l,i,h=>by
   simp only [gw]
   rw [if_neg (h a List.mem_cons_self)]
   exact o8 fun s hs=>h s (List.mem_cons_of_mem _ hs)
theorem zO {l:List fe} {s:fe} {m:List (ed×Int)} {k:Nat} (hk:k<l.length) (hj:l[k]=s) (hS:nR l) (hR:∀ x,look x m=ig (l.take k) x):∀ x,look x (put s.at_ (k:Int) m)=ig (l.take (k+1)) x:=by
 intro x
 have h1:=hS k hk
 rw [hj] at h1
 rw [qx,List.take_succ_eq_append_getElem hk,hj]
 unfold ig at *
 rw [pq,← hR]
 by_cases hx:x=s.at_
 ·subst hx
  rw [if_pos rfl,hR,o8 h1,if_pos rfl,Nat.zero_add,List.length_take,Nat.min_eq_left (by omega)]
 ·rw [if_neg hx]
  cases look x m with
  | some y=>rfl
  | none=>rw [if_neg (Ne.symm hx)]
structure rF (n:eE) (p:eb):Prop where
 elems:n.p.elems.l=p.elems.l
 signals:n.p.signals.l=p.signals.l
 EE:iY n.p
 next:∀ x,look x n.next=gJ p.eT.l x
 reads:∀ x,look x n.reads=ig p.signals.l x
 len:n.next.length≤240
 sigs:nR p.signals.l
 VD:∀ s∈p.signals.l,0≤s.at_.elem∧s.at_.elem<(p.elems.l.length:Int)∧0≤s.at_.en
theorem BJ {q p:eb} {next:List (ed×ed)} {reads:List (ed×Int)} {line:List (Int×Int×Int)} {lead:List (Int×Int)} {k m:Nat}
  (hq:q.elems.l=p.elems.l∧q.eT.l=p.eT.l∧q.signals.l=p.signals.l∧q.lines.l.length=p.lines.l.length∧∀ x∈q.lines.l,x.elems.l.length≤60) (h1:iY p)
  (hc:rY p.eT.l∧nR p.signals.l∧(∀ s∈p.signals.l,0≤s.at_.elem∧s.at_.elem<(p.elems.l.length:Int)∧0≤s.at_.en)∧p.elems.l.length≤40∧p.signals.l.length≤24∧p.eT.l.length≤80)
  (hD:∀ x,look x next=gJ (p.eT.l.take k) x) (hR:∀ x,look x reads=ig (p.signals.l.take m) x) (hN:next.length≤2*k) (hk:p.eT.l.length≤k∧k≤p.eT.l.length) (hm:p.signals.l.length≤m):rF ⟨q,next,reads,line,lead⟩ p:=by
 obtain ⟨e1,e2,e3,e4,e5⟩:=hq
 obtain ⟨f1,f2,f3,f4,f5⟩:=h1
 refine ⟨e1,e3,⟨by rw [e1]; exact f1,by rw [e2]; exact f2,by rw [e3]; exact f3,by rw [e4]; exact f4,e5⟩,?_,?_,by show next.length≤240; omega,hc.2.1,hc.2.2.1⟩
 ·intro x; show look x next = _; rw [hD,List.take_of_length_le hk.1]
 ·intro x; show look x reads = _; rw [hR,List.take_of_length_le hm]
theorem ot.Sv {d:eS} (h:ot d):∀ r∈d.runs.l,0≤r.fy∧r.fy<(d.fy.l.length:Int):=fun r hr=>(h.2 r hr).2
end Go.Sx
namespace Go.Sx
open Go
inductive Ty where
 | int | bool | str
 | slice (e:Ty)
 | struct (fs:List Ty)
mutual
def Ty.size:Ty→Nat
 | .struct fs=>Ty.oO fs
 | _=>1
def Ty.oO:List Ty→Nat
 | []=>0
 | t::ts=>t.size+Ty.oO ts
end
mutual
def m3 (P:Program):Ty→TypeId→Bool
 | .int,t=>match P.underlying t with
   | some (.int .i64)=>true
   | _=>false
 | .bool,t=>match P.underlying t with
   | some .bool=>true
   | _=>false
 | .str,t=>match P.underlying t with
   | some .string=>true
   | _=>false
 | .slice e,t=>match P.underlying t with
   | some (.slice te)=>m3 P e te&&Nat.beq (P.cellsOf te) e.size&&Nat.blt 0 e.size
   | _=>false
 | .struct fs,t=>match P.underlying t with
   | some (.struct fds)=>wm P fs fds.toList 0&&Nat.beq (P.cellsOf t) (Ty.oO fs)
   | _=>false
def wm (P:Program):List Ty→List Field→Nat→Bool
 | [],[],_=>true
 | t::ts,f::fs,o=>m3 P t f.type&&Nat.beq f.offset o&&Nat.beq (P.cellsOf f.type) t.size&&wm P ts fs (o+t.size)
 | _,_,_=>false
end
mutual
def Fit:Ty→List AV→Prop
 | .int,cs=>∃ n,cs=[.int .i64 n]
 | .bool,cs=>∃ b,cs=[.bool b]
 | .str,cs=>∃ s,cs=[.str s]∧s.length≤lO
 | .slice e,cs=>∃ xs c,cs=[.sl xs c]∧(∀ x∈xs,Fit e x)∧xs.length≤lO∧kH c=false∧(c=.nil→xs=[])
 | .struct fs,cs=>lI fs cs
def lI:List Ty→List AV→Prop
 | [],cs=>cs=[]
 | t::ts,cs=>∃ a b,cs=a++b∧Fit t a∧lI ts b
end
theorem rM {α β:Type} {f : α→Option β}:∀ {l:List α} {r:List β},l.mapM f=some r→r.length=l.length∧∀ i (h:i<l.length),∃ y,f l[i]=some y∧r[i]?=some y
 | [],r,h=>by
   simp at h; subst h; exact ⟨rfl,fun i h=>by simp at h⟩
 | a::l,r,h=>by
   rw [List.mapM_cons] at h
   cases ha:f a with
   | none=>rw [ha] at h; cases h
   | some y =>
     rw [ha] at h
     cases hl:l.mapM f with
     | none=>rw [hl] at h; cases h
     | some r' =>
       rw [hl] at h
       have:r=y::r':=(Option.some.inj h).symm
       subst this
       obtain ⟨h1,h2⟩:=rM hl
       refine ⟨by simp [h1],fun i hi=>?_⟩
       cases i with
       | zero=>exact ⟨y,ha,rfl⟩
       | succ i=>exact h2 i (by simpa using hi)
theorem su {α:Type} {p:Nat→α→Prop}:∀ (n:Nat),(∀ i,i<n→∃ x,p i x)→∃ l:List α,l.length=n∧∀ i x,l[i]?=some x→p i x
 | 0,_=>⟨[],rfl,fun i x h=>by simp at h⟩
 | n+1,h=>by
   obtain ⟨l,hl,hp⟩:=su n fun i hi=>h i (by omega)
   obtain ⟨x,hx⟩:=h n (by omega)
   refine ⟨l++[x],by simp [hl],fun i y hy=>?_⟩
   rcases Nat.lt_or_ge i l.length with hi | hi
   ·rw [List.getElem?_append_left hi] at hy; exact hp i y hy
   ·rw [List.getElem?_append_right hi] at hy
    have:i=n:=by
     have:=(List.getElem?_eq_some_iff.mp hy).1
     simp at this; omega
    subst this
    rw [hl,Nat.sub_self] at hy
    simp at hy; subst hy; exact hx
theorem CV {w:World} {a:Addr} {n:Nat} {cs:List Value} (h:w.cells? 0 a n=some cs):cs.length=n∧∀ j,j<n→∃ v,w.cell? (a.add j)=some v∧cs[j]?=some v:=by
 unfold World.cells? at h
 rw [if_pos (Nat.zero_le _)] at h
 obtain ⟨h1,h2⟩:=rM h
 refine ⟨by simpa using h1,fun j hj=>?_⟩
 obtain ⟨y,hy,hr⟩:=h2 j (by simpa using hj)
 simp at hy
 exact ⟨y,hy,hr⟩
theorem yF {w:World} {a:Addr} {v:Value} (h:w.cell? a=some v):a.spot=none∧∃ c e fr,w.heap[a.block]?=some (.cells c e fr)∧c[a.off]?=some v:=by
 unfold World.cell? at h
 split at h
 ·rename_i c e fr hb
  split at h
  ·cases h
  ·rename_i hs
   exact ⟨by simpa using hs,c,e,fr,hb,h⟩
 ·cases h
section
variable {H:Type} {enc:TypeId×Value→H} {P:Program} {w:World} {spare:Nat→Bool} {held:Bool}
abbrev TW (w:World):Bool→Nat→Prop:=fun _ B=>B<w.heap.size
def Reads (w:World) (ty:Ty) (cs:List Value):Prop:=∃ xs:List AV,xs.length=cs.length∧cs.length=ty.size∧Fit ty xs∧(∀ (i:Nat) (x:AV) (v:Value),xs[i]?=some x→cs[i]?=some v→PR w (TW w) false x v∧v.oneCell'=true)
theorem A2 (a:Addr) (i j:Nat) (h:a.spot=none):(a.add i).add j=⟨a.block,a.off+i+j,none⟩:=by
 obtain ⟨b,o,s⟩:=a
 simp only at h
 subst h
 unfold Addr.add
 by_cases hi:i=0<;>by_cases hj:j=0<;>simp [hi,hj]
theorem lP {ty:Ty} (hs:ty.size=1) {x:AV} {v:Value} (hf:Fit ty [x]) (hp:PR w (TW w) false x v) (h1:v.oneCell'=true):Reads w ty [v]:=by
 refine ⟨[x],rfl,by simp [hs],hf,?_⟩
 intro i y u hy hu
 cases i with
 | zero=>simp at hy hu; subst hy hu; exact ⟨hp,h1⟩
 | succ i=>simp at hy
theorem qN {fuel:Nat} (ih:∀ (ty:Ty) (t:TypeId) (cs:List Value) (r:DataW H×List MemPlace),m3 P ty t=true→DataW.trod enc P w 0 spare held fuel t cs=some r→Reads w ty cs) (cs:List Value) :
  ∀ (tys:List Ty) (fds:List Field) (o:Nat),wm P tys fds o=true→o+Ty.oO tys=cs.length→(∀ f∈fds,∃ r,DataW.trod enc P w 0 spare held fuel f.type ((cs.drop f.offset).take (P.cellsOf f.type))=some r) →
    ∃ xs:List AV,xs.length=Ty.oO tys∧lI tys xs∧(∀ (i:Nat) (x:AV) (v:Value),xs[i]?=some x→cs[o+i]?=some v→PR w (TW w) false x v∧v.oneCell'=true)
 | [],fds,o,hf,hl,hr=>⟨[],rfl,rfl,fun i x v h=>by simp at h⟩
 | t::ts,[],o,hf,hl,hr=>by simp [wm] at hf
 | t::ts,f::fds,o,hf,hl,hr=>by
   simp only [wm,Bool.and_eq_true] at hf
   obtain ⟨⟨⟨h1,h2⟩,h3⟩,h4⟩:=hf
   have h2:=Nat.eq_of_beq_eq_true h2
   have h3:=Nat.eq_of_beq_eq_true h3
   simp only [Ty.oO] at hl
   obtain ⟨r,hr1⟩:=hr f List.mem_cons_self
   obtain ⟨xs,e1,e2,e3,e4⟩:=ih t f.type _ r h1 hr1
   obtain ⟨ys,g1,g2,g3⟩:=qN ih cs ts fds (o+t.size) h4 (by omega) (fun f hf=>hr f (List.mem_cons_of_mem _ hf))
   have hx:xs.length=t.size:=by rw [e1,e2]
   refine ⟨xs++ys,by simp [Ty.oO,hx,g1],⟨xs,ys,rfl,e3,g2⟩,?_⟩
   intro i x v hi hv
   rcases Nat.lt_or_ge i xs.length with hlt | hge
   ·rw [List.getElem?_append_left hlt] at hi
    refine e4 i x v hi ?_
    rw [h2,h3,List.getElem?_take,if_pos (by omega),List.getElem?_drop]
    exact hv
   ·rw [List.getElem?_append_right hge] at hi
    refine g3 (i - xs.length) x v hi ?_
    rw [show o+t.size+(i - xs.length)=o+i from by omega]; exact hv
theorem qu:∀ (fuel:Nat) (ty:Ty) (t:TypeId) (cs:List Value) (r:DataW H×List MemPlace),m3 P ty t=true→DataW.trod enc P w 0 spare held fuel t cs=some r→Reads w ty cs:=by
 intro fuel
 induction fuel with
 | zero=>intro ty t cs r _ h; simp [DataW.trod] at h
 | succ fuel ih =>
   intro ty t cs r ht h
   cases ty with
   | int =>
     simp only [m3] at ht
     split at ht
     ·rename_i hU
      rcases cs with _ | ⟨v,_ | ⟨v2,rest⟩⟩
      ·simp [DataW.trod,hU] at h
      ·cases v<;>simp [DataW.trod,hU] at h
       rename_i k n
       obtain ⟨⟨rfl,_⟩,_⟩:=h
       exact lP rfl ⟨n,rfl⟩ (.int _ _ n) rfl
      ·simp [DataW.trod,hU] at h
     ·cases ht
   | bool =>
     simp only [m3] at ht
     split at ht
     ·rename_i hU
      rcases cs with _ | ⟨v,_ | ⟨v2,rest⟩⟩
      ·simp [DataW.trod,hU] at h
      ·cases v<;>simp [DataW.trod,hU] at h
       rename_i b
       exact lP rfl ⟨b,rfl⟩ (.bool _ b) rfl
      ·simp [DataW.trod,hU] at h
     ·cases ht
   | str =>
     simp only [m3] at ht
     split at ht
     ·rename_i hU
      rcases cs with _ | ⟨v,_ | ⟨v2,rest⟩⟩
      ·simp [DataW.trod,hU] at h
      ·cases v<;>simp [DataW.trod,hU] at h
       rename_i s
       refine lP rfl ⟨s.data.toList,rfl,?_⟩ (.str _ _ s rfl) rfl
       have:=h.1
       have hM:maxLen≤lO:=by decide
       simp only [ByteArray.size] at this
       rw [Array.length_toList]; omega
      ·simp [DataW.trod,hU] at h
     ·cases ht
   | slice e =>
     simp only [m3] at ht
     split at ht
     ·rename_i te hU
      simp only [Bool.and_eq_true] at ht
      obtain ⟨⟨ht,hsz⟩,hpos⟩:=ht
      have hsz:=Nat.eq_of_beq_eq_true hsz
      have hpos:0<e.size:=Nat.ble_eq.mp hpos
      rcases cs with _ | ⟨v,_ | ⟨v2,rest⟩⟩
      ·simp [DataW.trod,hU] at h
      ·cases v<;>try (simp [DataW.trod,hU] at h; done)
       rename_i a len cap
       cases a with
       | none =>
         cases len<;>cases cap<;>try (simp [DataW.trod,hU] at h; done)
         exact lP rfl ⟨[],.nil,rfl,by simp,by simp,rfl,fun _=>rfl⟩ (.slnil _) rfl
       | some a =>
         simp only [DataW.trod,hU] at h
         split at h
         ·rename_i hc
          obtain ⟨_,hlc,hcm⟩:=hc
          have hcb:cap≤lO:=by
           have hM:maxLen≤lO:=by decide
           omega
          cases hm:(List.range len).mapM (fun i=>(w.cells? 0 (a.add (i*P.cellsOf te)) (P.cellsOf te)).bind (DataW.trod enc P w 0 spare held fuel te)) with
          | none=>rw [hm] at h; cases h
          | some elems =>
            obtain ⟨_,hel⟩:=rM hm
            have hat:∀ i,i<len→∃ (xs:List AV) (vs:List Value),xs.length=e.size∧vs.length=e.size∧Fit e xs∧(∀ (j:Nat) (x:AV) (v:Value),xs[j]?=some x→vs[j]?=some v→PR w (TW w) false x v∧v.oneCell'=true) ∧
              ∀ j,j<e.size→∃ v,w.cell? ((a.add (i*e.size)).add j)=some v∧vs[j]?=some v:=by
             intro i hi
             obtain ⟨y,hy,_⟩:=hel i (by simpa using hi)
             simp only [List.getElem_range] at hy
             cases hcs:w.cells? 0 (a.add (i*P.cellsOf te)) (P.cellsOf te) with
             | none=>rw [hcs] at hy; cases hy
             | some vs =>
               rw [hcs] at hy
               obtain ⟨xs,e1,e2,e3,e4⟩:=ih e te vs y ht hy
               obtain ⟨c1,c2⟩:=CV hcs
               rw [hsz] at c1 c2
               exact ⟨xs,vs,by rw [e1,e2],e2,e3,e4,c2⟩
            cases len with
            | zero=>exact lP rfl ⟨[],.ee,rfl,by simp,by simp,rfl,fun h=>by cases h⟩ (.iO _ .ee a cap (fun h=>by cases h) (Nat.zero_le _)) rfl
            | succ len0 =>
              obtain ⟨xs0,vs0,_,_,_,_,hv0⟩:=hat 0 (by omega)
              obtain ⟨v00,hv00,_⟩:=hv0 0 hpos
              obtain ⟨hsp,c,et,fr,hB,_⟩:=yF hv00
              have hspot:a.spot=none:=by
               have:((a.add (0*e.size)).add 0)=a:=by simp [Addr.add]
               rw [this] at hsp; exact hsp
              have hB:w.heap[a.block]?=some (.cells c et fr):=by
               have:((a.add (0*e.size)).add 0)=a:=by simp [Addr.add]
               rw [this] at hB; exact hB
              obtain ⟨rows,hrl,hrp⟩:=su (p:=fun i xs=>xs.length=e.size∧Fit e xs∧∀ (j:Nat) (x:AV),xs[j]?=some x→∃ v,c[a.off+i*e.size+j]?=some v∧PR w (TW w) false x v∧v.oneCell'=true) (len0+1) (by
               intro i hi
               obtain ⟨xs,vs,q1,q2,q3,q4,q5⟩:=hat i hi
               refine ⟨xs,q1,q3,fun j x hx=>?_⟩
               have hj:j<e.size:=by rw [← q1]; exact (List.getElem?_eq_some_iff.mp hx).1
               obtain ⟨v,hv,hvj⟩:=q5 j hj
               obtain ⟨_,c',et',fr',hB',hcv⟩:=yF hv
               rw [A2 _ _ _ hspot] at hB' hcv
               simp only at hB' hcv
               rw [hB] at hB'
               cases hB'
               exact ⟨v,hcv,q4 j x v hx hvj⟩)
              have hpr:PR w (TW w) false (.sl rows .ee) (.slice (some ⟨a.block,a.off,none⟩) rows.length cap):=by
               refine .sl false rows .ee a.block a.off c et fr cap e.size (fun i j=>(c[a.off+i*e.size+j]?).getD .nilFunc) (fun h=>by cases h) hB ?_ (by rw [hrl]; exact hlc) (by rw [hrl]; exact hlc) ?_ ?_ ?_ ?_
               ·exact (Array.getElem?_eq_some_iff.mp hB).1
               ·intro i cs' hcs'; exact (hrp i cs' hcs').1
               ·intro i cs' j x hcs' hx
                obtain ⟨v,hv,_⟩:=(hrp i cs' hcs').2.2 j x hx
                rw [hv]; rfl
               ·intro i cs' j x hcs' hx
                obtain ⟨v,hv,_,h1⟩:=(hrp i cs' hcs').2.2 j x hx
                rw [hv]; exact h1
               ·intro i cs' j x hcs' hx
                obtain ⟨v,hv,hp,_⟩:=(hrp i cs' hcs').2.2 j x hx
                rw [hv]; exact hp
              rw [hrl] at hpr
              have ha:a=⟨a.block,a.off,none⟩:=by obtain ⟨b,o,s⟩:=a; simp only at hspot; subst hspot; rfl
              rw [← ha] at hpr
              refine lP rfl ⟨rows,.ee,rfl,?_,by rw [hrl]; omega,rfl,fun h=>by cases h⟩ hpr rfl
              intro x hx
              obtain ⟨i,hi⟩:=List.getElem?_of_mem hx
              exact (hrp i x hi).2.1
         ·cases h
      ·simp [DataW.trod,hU] at h
     ·cases ht
   | struct fs =>
     simp only [m3] at ht
     split at ht
     ·rename_i fds hU
      simp only [Bool.and_eq_true] at ht
      obtain ⟨hfs,hsz⟩:=ht
      have hsz:=Nat.eq_of_beq_eq_true hsz
      have hcs:cs.length=Ty.oO fs∧∀ f∈fds.toList,∃ r,DataW.trod enc P w 0 spare held fuel f.type ((cs.drop f.offset).take (P.cellsOf f.type))=some r:=by
       have key:(if cs.length=P.cellsOf t then (fds.toList.mapM fun f=>DataW.trod enc P w 0 spare held fuel f.type ((cs.drop f.offset).take (P.cellsOf f.type))).map fun xs=>(DataW.agg (xs.map (·.1)),xs.flatMap (·.2)) else none)=some r:=by
        rw [← h]
        conv=>rhs; unfold DataW.trod
        rw [hU]
       split at key
       ·rename_i hl
        refine ⟨by rw [hl,hsz],fun f hf=>?_⟩
        cases hm:fds.toList.mapM fun f=>DataW.trod enc P w 0 spare held fuel f.type ((cs.drop f.offset).take (P.cellsOf f.type)) with
        | none=>rw [hm] at key; cases key
        | some l =>
          obtain ⟨_,h2⟩:=rM hm
          obtain ⟨i,hi,rfl⟩:=List.mem_iff_getElem.mp hf
          obtain ⟨y,hy,_⟩:=h2 i hi
          exact ⟨y,hy⟩
       ·cases key
      obtain ⟨xs,x1,x2,x3⟩:=qN ih cs fs fds.toList 0 hfs (by rw [hcs.1]; omega) hcs.2
      refine ⟨xs,by rw [x1,hcs.1],hcs.1,x2,?_⟩
      intro i x v hx hv
      exact x3 i x v hx (by rw [Nat.zero_add]; exact hv)
     ·cases ht
end
end Go.Sx
namespace Go.Sx
open Go
def sh:Ty:=.struct [.int,.int]
def zw:Ty:=.struct [.str,.int,.int]
def zo:Ty:=.struct [sh,sh]
def BH:Ty:=.struct [.str,sh,.bool]
def zv:Ty:=.struct [.str,.slice .int]
def vH:Ty:=.struct [.slice zw,.slice zo,.slice BH,.slice zv,.int,.int,.int,.int,.bool]
def wA:Ty:=.struct [.str,.int,.int,.int,.int]
def Cw:Ty:=.struct [.bool,.int,.int,.int]
def BN:Ty:=.struct [.str,.int,.int,.int,.slice Cw]
def vE:Ty:=.struct [.int,.slice wA,.slice BN]
def vD:Ty:=.struct [.int,.slice sh,.int,.int,.int]
theorem kT {α:Type} {enc : α→List AV} {e:Ty} (he:∀ xs,Fit e xs→∃ x : α,xs=enc x) {cs:List AV} (h:Fit (.slice e) cs):∃ r:Row α,cs=[r.av enc]:=by
 simp only [Fit] at h
 obtain ⟨xs,c,rfl,h1,h2,h3,h4⟩:=h
 have:∀ xs:List (List AV),(∀ x∈xs,Fit e x)→∃ l:List α,xs=l.map enc:=by
  intro xs
  induction xs with
  | nil=>intro _; exact ⟨[],rfl⟩
  | cons a xs ih =>
    intro h
    obtain ⟨y,hy⟩:=he a (h a List.mem_cons_self)
    obtain ⟨l,hl⟩:=ih fun x hx=>h x (List.mem_cons_of_mem _ hx)
    exact ⟨y::l,by rw [hy,hl]; rfl⟩
 obtain ⟨l,rfl⟩:=this xs h1
 exact ⟨⟨l,c,by simpa using h2,h3,fun hc=>by simpa using h4 hc⟩,rfl⟩
theorem kj {cs:List AV} (h:Fit .int cs):∃ n:Int,cs=eu n:=by unfold Fit at h; exact h
theorem qt {cs:List AV} (h:Fit sh cs):∃ x:ed,cs=x.cells:=by
 simp only [sh,Fit,lI] at h
 obtain ⟨_,_,rfl,⟨a,rfl⟩,_,_,rfl,⟨b,rfl⟩,rfl⟩:=h
 exact ⟨⟨a,b⟩,rfl⟩
theorem Cd {cs:List AV} (h:Fit zw cs):∃ x:e8,cs=x.cells:=by
 simp only [zw,Fit,lI] at h
 obtain ⟨_,_,rfl,⟨s,rfl,hs⟩,_,_,rfl,⟨a,rfl⟩,_,_,rfl,⟨b,rfl⟩,rfl⟩:=h
 exact ⟨⟨⟨s,hs⟩,a,b⟩,rfl⟩
theorem BF {cs:List AV} (h:Fit zo cs):∃ x:fo,cs=x.cells:=by
 simp only [zo,Fit,lI] at h
 obtain ⟨_,_,rfl,h1,_,_,rfl,h2,rfl⟩:=h
 obtain ⟨x,rfl⟩:=qt h1
 obtain ⟨y,rfl⟩:=qt h2
 exact ⟨⟨x,y⟩,rfl⟩
theorem HS {cs:List AV} (h:Fit BH cs):∃ x:fe,cs=x.cells:=by
 simp only [BH,Fit,lI] at h
 obtain ⟨_,_,rfl,⟨s,rfl,hs⟩,_,_,rfl,h2,_,_,rfl,⟨b,rfl⟩,rfl⟩:=h
 obtain ⟨y,rfl⟩:=qt h2
 exact ⟨⟨⟨s,hs⟩,y,b⟩,rfl⟩
theorem BA {cs:List AV} (h:Fit zv cs):∃ x:eZ,cs=x.cells:=by
 simp only [zv,lI] at h
 unfold Fit at h
 simp only [lI] at h
 obtain ⟨_,_,rfl,h1,_,_,rfl,h2,rfl⟩:=h
 simp only [Fit] at h1
 obtain ⟨s,rfl,hs⟩:=h1
 obtain ⟨r,rfl⟩:=kT (fun _=>kj) h2
 exact ⟨⟨⟨s,hs⟩,r⟩,rfl⟩
theorem AJ {cs:List AV} (h:Fit wA cs):∃ x:fM,cs=x.cells:=by
 simp only [wA,Fit,lI] at h
 obtain ⟨_,_,rfl,⟨s,rfl,hs⟩,_,_,rfl,⟨a,rfl⟩,_,_,rfl,⟨b,rfl⟩,_,_,rfl,⟨c,rfl⟩,_,_,rfl,⟨d,rfl⟩,rfl⟩:=h
 exact ⟨⟨⟨s,hs⟩,a,b,c,d⟩,rfl⟩
theorem Ie {cs:List AV} (h:Fit Cw cs):∃ x:fY,cs=x.cells:=by
 simp only [Cw,Fit,lI] at h
 obtain ⟨_,_,rfl,⟨t,rfl⟩,_,_,rfl,⟨a,rfl⟩,_,_,rfl,⟨b,rfl⟩,_,_,rfl,⟨c,rfl⟩,rfl⟩:=h
 exact ⟨⟨t,a,b,c⟩,rfl⟩
theorem Il {cs:List AV} (h:Fit BN cs):∃ x:gj,cs=x.cells:=by
 unfold BN Fit at h
 simp only [lI] at h
 obtain ⟨_,_,rfl,h1,_,_,rfl,h2,_,_,rfl,h3,_,_,rfl,h4,_,_,rfl,h5,rfl⟩:=h
 simp only [Fit] at h1 h2 h3 h4
 obtain ⟨s,rfl,hs⟩:=h1
 obtain ⟨a,rfl⟩:=h2
 obtain ⟨b,rfl⟩:=h3
 obtain ⟨c,rfl⟩:=h4
 obtain ⟨r,rfl⟩:=kT (fun _=>Ie) h5
 exact ⟨⟨⟨s,hs⟩,a,b,c,r⟩,rfl⟩
theorem Dm {cs:List AV} (h:Fit vE cs):∃ x:eS,cs=x.cells:=by
 unfold vE Fit at h
 simp only [lI] at h
 obtain ⟨_,_,rfl,h1,_,_,rfl,h2,_,_,rfl,h3,rfl⟩:=h
 obtain ⟨a,rfl⟩:=kj h1
 obtain ⟨r,rfl⟩:=kT (fun _=>AJ) h2
 obtain ⟨s,rfl⟩:=kT (fun _=>Il) h3
 exact ⟨⟨a,r,s⟩,rfl⟩
theorem Dy {cs:List AV} (h:Fit vD cs):∃ x:fi,cs=x.cells:=by
 unfold vD Fit at h
 simp only [lI] at h
 obtain ⟨_,_,rfl,h1,_,_,rfl,h2,_,_,rfl,h3,_,_,rfl,h4,_,_,rfl,h5,rfl⟩:=h
 obtain ⟨a,rfl⟩:=kj h1
 obtain ⟨r,rfl⟩:=kT (fun _=>qt) h2
 obtain ⟨b,rfl⟩:=kj h3
 obtain ⟨c,rfl⟩:=kj h4
 obtain ⟨d,rfl⟩:=kj h5
 exact ⟨⟨a,r,b,c,d⟩,rfl⟩
theorem BD {cs:List AV} (h:Fit vH cs):∃ x:eb,cs=x.cells:=by
 unfold vH Fit at h
 simp only [lI] at h
 obtain ⟨_,_,rfl,h1,_,_,rfl,h2,_,_,rfl,h3,_,_,rfl,h4,_,_,rfl,h5,_,_,rfl,h6,_,_,rfl,h7,_,_,rfl,h8,_,_,rfl,h9,rfl⟩:=h
 obtain ⟨r1,rfl⟩:=kT (fun _=>Cd) h1
 obtain ⟨r2,rfl⟩:=kT (fun _=>BF) h2
 obtain ⟨r3,rfl⟩:=kT (fun _=>HS) h3
 obtain ⟨r4,rfl⟩:=kT (fun _=>BA) h4
 obtain ⟨a,rfl⟩:=kj h5
 obtain ⟨b,rfl⟩:=kj h6
 obtain ⟨c,rfl⟩:=kj h7
 obtain ⟨d,rfl⟩:=kj h8
 simp only [Fit] at h9
 obtain ⟨t,rfl⟩:=h9
 exact ⟨⟨r1,r2,r3,r4,a,b,c,d,t⟩,rfl⟩
section
variable {w:World}
theorem rk {ty:Ty} {v:Value} (h:Reads w ty v.cells.toList) (h2:2≤ty.size):∃ xs,Fit ty xs∧PR w (TW w) false (.agg xs) v:=by
 obtain ⟨xs,h1,hs,hf,hp⟩:=h
 have hsz:2≤v.cells.size:=by
  have:v.cells.toList.length=v.cells.size:=by simp
  omega
 cases v with
 | agg cs =>
   refine ⟨xs,hf,.agg false xs cs (by simpa [Value.cells] using h1) ?_ ?_⟩
   ·intro i y hy
    have hi:i<xs.length:=by
     rw [h1]; simpa [Value.cells] using (Array.getElem?_eq_some_iff.mp hy).1
    exact (hp i xs[i] y (by simp [hi]) (by simpa [Value.cells] using hy)).2
   ·intro i x y hx hy
    exact (hp i x y hx (by simpa [Value.cells] using hy)).1
 | _=>simp [Value.cells] at hsz
end
end Go.Sx
