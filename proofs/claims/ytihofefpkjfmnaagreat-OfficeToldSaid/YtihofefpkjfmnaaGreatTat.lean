/- Proves tables of the program and that they match it. -/
import Derived.Test.YtihofefpkjfmnaaGreatTao
set_option linter.all false
set_option maxHeartbeats 0
namespace Go.Sx
open Go Go.Proofs
def uR (n:Nat) (l:List Int) (k:Nat):Prop:=∀ (i:Nat) (h:i<l.length),i<k->0<=l[i]/\l[i]<(n:Int)/\∀ (j:Nat) (hj:j+1=i),l[j]'(by omega)<l[i]
def uR.zero (n:Nat) (l:List Int):uR n l 0:=λi h hk=>by omega
def uR.snoc {n:Nat} {l:List Int} {k:Nat} {x:Int} (h:uR n l k) {hk:k<l.length} (hq:l[k]=x) (h0:0<=x) (h1:x<(n:Int)) (h2:(k:Int)<=0\/∃ y,y<x/\∃ hx:((k:Int) - 1).toNat<l.length,l[((k:Int) - 1).toNat]=y):uR n l (k+1):=by
 intro i hi hik
 rcases Nat.lt_succ_iff_lt_or_eq.mp hik with h3 | h3
 ·exact h i hi h3
 ·subst h3
  refine ⟨by omega,by omega,λj hj=>?_⟩
  rcases h2 with h2 | ⟨y,hy,hx,hq2⟩
  ·omega
  ·have:((i:Int) - 1).toNat=j:=by omega
   simp only [this] at hq2
   rw [hq2,hq]; exact hy
theorem uR.at_ {n:Nat} {l:List Int} {k:Nat} {x:Int} (h:uR n l l.length) {hk:k<l.length} (hq:l[k]=x):0<=x/\x<(n:Int):=by
 have:=h k hk hk; omega
def uR.mono {n:Nat} {l:List Int} (h:uR n l l.length):∀ (j i:Nat) (hj:j<l.length) (hij:i<j),l[i]<l[j]:=by
 intro j
 induction j with
 | zero=>intro i _ h2; omega
 | succ j ih =>
   intro i hj hij
   have h1:=(h (j+1) hj hj).2.2 j rfl
   rcases Nat.lt_succ_iff_lt_or_eq.mp hij with h3 | h3
   ·have:=ih i (by omega) h3; omega
   ·subst h3; exact h1
def uR.ge {n:Nat} {l:List Int} (h:uR n l l.length):∀ (i:Nat) (hi:i<l.length),(i:Int)<=l[i]:=by
 intro i
 induction i with
 | zero=>intro hi; have:=(h 0 hi hi).1; omega
 | succ i ih=>intro hi; have:=(h (i+1) hi hi).2.2 i rfl; have:=ih (by omega); omega
theorem uR.len {n:Nat} {l:List Int} (h:uR n l l.length):l.length<=n:=by
 rcases Nat.eq_zero_or_pos l.length with h0 | h0
 ·omega
 ·have h1:=h.ge (l.length - 1) (by omega)
  have h2:=(h (l.length - 1) (by omega) (by omega)).2.1
  omega
theorem tS {p:iF} {d:jV} {m:Nat} (hm:m<d.runs.l.length):mr p d m=⟨d.runs.l[m].name,d.runs.l[m].j3,(q8 p.signals.l d.runs.l[m].from_).getD ⟨0,0⟩,if qh p ((q8 p.signals.l d.runs.l[m].from_).getD ⟨0,0⟩).elem=4 then 0 else d.runs.l[m].left⟩:=by
 unfold mr
 rw [List.getElem?_eq_getElem hm]
def EK {n:iS} {k:Int} {t:jY} {b:kr} (h:rs 130 [.ip (iS.ag n) 0 false,iv k,.agg t.ag]=.kq [.agg b.ag,iv 0]):∃ b:kr,b.lJ.l=[t.at_]/\rs 130 [.ip (iS.ag n) 0 false,iv k,.agg t.ag]=.kq [.agg b.ag,iv 0]:=by
 obtain ⟨v,_,r0,r1,⟨h1,h2⟩,_⟩:=t130 n k t aT.empty
 have h3:=h2.symm.trans h
 have h4:r1=0:=by injection h3 with h3; injection h3 with _ h3; injection h3 with h3 _; injection h3
 subst h4
 exact ⟨r0,(h1 rfl).1,h2⟩
def JE {n:iS} {d:jV} {pl:iF} {l:List Int} {t:jS jY} (hk:ot n pl) (hA:uR d.runs.l.length l l.length) (ht:t.l=l.map (λr=>mr n.p d r.toNat))
  (hD:rs 60 [.agg (iF.ag pl),Row.av j4.ag d.j3]=iv 0/\(∀ r∈d.runs.l,(rs 127 [.str r.name.l]=.bool true/\0<=r.j3/\r.j3<(d.j3.l.length:Int)/\0<=r.from_/\r.from_<(pl.signals.l.length:Int)))/\(∀ (i j:Nat) (h:j<d.runs.l.length) (hij:i<j),j<d.runs.l.length->(d.runs.l[i]).name.l≠(d.runs.l[j]).name.l)/\d.runs.l.length<=8)
  (hS:∀ i,i<d.runs.l.length->∃ b:kr,rs 130 [.ip (iS.ag n) 0 false,.int .i64 (ua d i),.agg (mr n.p d i).ag]=.kq [.agg b.ag,.int .i64 0])
  (hL:∀ i j,i<j->j<d.runs.l.length->∀ x∈oM n.p [(mr n.p d i).at_],x∉oM n.p [(mr n.p d j).at_]) :
  (∀ (i:Nat) (x:jY) (y:j4),t.l[i]?=some x->d.j3.l[x.j3.toNat]?=some y->∃ b:kr,b.lJ.l=[x.at_]/\rs 130 [.ip (iS.ag n) 0 false,iv y.len,.agg (jY.ag x)]=.kq [.agg (kr.ag b),iv 0]) /\
  (∀ i j:Nat,i<j->j<t.l.length->∀ x∈LT t.l n.p i,x∉LT t.l n.p j) /\
  (∀ i:Nat,∀ x∈LT t.l n.p i,0<=x/\x<(n.p.elems.l.length:Int)) /\
  (∀ x∈t.l,rs 127 [.str x.name.l]=.bool true/\0<=x.j3/\x.j3<(d.j3.l.length:Int)) /\
  (∀ (i j:Nat) (h:j<t.l.length) (hij:i<j),(t.l[i]).name.l≠(t.l[j]).name.l)/\t.l.length<=8:=by
 obtain ⟨_,hR,hN,h8⟩:=hD
 have hr:∀ (i:Nat) (h:i<l.length),(l[i]).toNat<d.runs.l.length:=λi h=>by
  have:=hA i h h; omega
 have hg:∀ (i:Nat) (x:jY),t.l[i]?=some x->∃ h:i<l.length,x=mr n.p d (l[i]).toNat:=by
  intro i x hx
  rw [ht,List.getElem?_map] at hx
  obtain ⟨y,hy,rfl⟩:=Option.map_eq_some_iff.mp hx
  obtain ⟨h,rfl⟩:=List.getElem?_eq_some_iff.mp hy
  exact ⟨h,rfl⟩
 have htl:t.l.length=l.length:=by rw [ht,List.length_map]
 have hLT:∀ (i:Nat) (h:i<l.length),LT t.l n.p i=oM n.p [(mr n.p d (l[i]).toNat).at_]:=by
  intro i h
  unfold LT
  have:t.l[i]?=some (mr n.p d (l[i]).toNat):=by rw [ht,List.getElem?_map,List.getElem?_eq_getElem h]; rfl
  rw [this]
 have hLT0:∀ (i:Nat) (h:l.length<=i),LT t.l n.p i=[]:=by
  intro i h
  unfold LT
  rw [List.getElem?_eq_none (by omega)]
 have hm:∀ (m:Nat) (h:m<d.runs.l.length),_:=λm h=>hR _ (List.getElem_mem h)
 refine ⟨?_,?_,?_,?_,?_,by have:=hA.len; omega⟩
 ·intro i x y hx hy
  obtain ⟨hi,rfl⟩:=hg i x hx
  have hm:=hr i hi
  obtain ⟨b,hb⟩:=hS _ hm
  have e:ua d (l[i]).toNat=y.len:=by
   rw [tS hm] at hy
   obtain ⟨hy1,hy2⟩:=List.getElem?_eq_some_iff.mp hy
   exact (FF hm rfl hy1 hy2).symm
  rw [e] at hb
  exact EK hb
 ·intro i j hij hj x hx
  rw [htl] at hj
  rw [hLT i (by omega)] at hx
  rw [hLT j hj]
  refine hL _ _ ?_ (hr j hj) x hx
  have h1:=hA.mono j i hj hij
  have h2:=hA i (by omega) (by omega)
  omega
 ·intro i x hx
  rcases Nat.lt_or_ge i l.length with h | h
  ·rw [hLT i h] at hx
   have hmi:=hr i h
   obtain ⟨_,_,_,h3,h4⟩:=hm _ hmi
   rw [tS hmi] at hx
   unfold oM at hx
   obtain ⟨y,hy,rfl⟩:=List.mem_map.mp hx
   have hy2:=(List.mem_filter.mp hy).1
   simp only [List.mem_singleton] at hy2
   subst hy2
   have h5:(d.runs.l[(l[i]).toNat].from_).toNat<n.p.signals.l.length:=by rw [hk.signals]; omega
   rw [BL h3 h5 rfl]
   have h6:=hk.aaX _ (by rw [<- hk.signals]; exact List.getElem_mem h5)
   rw [hk.elems]
   exact ⟨h6.1,h6.2.1⟩
  ·rw [hLT0 i h] at hx; cases hx
 ·intro x hx
  obtain ⟨i,hi⟩:=List.getElem?_of_mem hx
  obtain ⟨h,rfl⟩:=hg i x hi
  have hmi:=hr i h
  obtain ⟨h1,h2,h3,_,_⟩:=hm _ hmi
  rw [tS hmi]
  exact ⟨h1,h2,h3⟩
 ·intro i j hj hij
  have hj':j<l.length:=by omega
  have ei:t.l[i]=mr n.p d (l[i]'(by omega)).toNat:=by simp only [ht,List.getElem_map]
  have ej:t.l[j]=mr n.p d (l[j]).toNat:=by simp only [ht,List.getElem_map]
  rw [ei,ej,tS (hr i (by omega)),tS (hr j hj')]
  refine hN _ _ (hr j hj') ?_ (hr j hj')
  have h1:=hA.mono j i hj' hij
  have h2:=hA i (by omega) (by omega)
  omega
def wA (n:Nat):List Int:=(List.range n).map λi:Nat=>(i:Int)
def Pt (n:Nat):uR n (wA n) (wA n).length:=by
 intro i h _
 have hi:i<n:=by simpa [wA] using h
 refine ⟨by simp [wA],by simp [wA]; omega,λj hj=>by simp [wA]; omega⟩
def all_map {p q:iF} {d:jV} {n:Nat} {t:List jY} (e:p=q) (h:t=(List.range n).map (λi=>mr p d i)):t=(wA n).map (λr=>mr q d r.toNat):=by
 subst e h
 unfold wA
 rw [List.map_map]
 rfl
def Fw {p:iF} {d:jV} {k:Nat} {l:List jY} {x:jY} (h:l=(List.range k).map (λi=>mr p d i)) (hx:x=mr p d (k:Int).toNat):l++[x]=(List.range (k+1)).map (λi=>mr p d i):=by
 subst h hx
 rw [List.range_succ,List.map_append]
 rfl
end Go.Sx
