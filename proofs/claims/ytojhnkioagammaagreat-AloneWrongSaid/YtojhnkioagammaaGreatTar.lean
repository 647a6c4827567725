/- Proves rules for the walks and their soundness. -/
import Derived.Test.YtojhnkioagammaaGreatTaf
import Derived.Test.YtojhnkioagammaaGreatTal
import Derived.Test.YtojhnkioagammaaGreatTao
set_option linter.all false
set_option maxHeartbeats 0
namespace Go.Sx
open Go
def jB (n:Nat) (l:List Int) (k:Nat):Prop:=∀ (i:Nat) (h:i<l.length),i<k→0≤l[i]∧l[i]<(n:Int)∧∀ (j:Nat) (hj:j+1=i),l[j]'(by omega)<l[i]
theorem jB.zero (n:Nat) (l:List Int):jB n l 0:=fun i h hk=>by omega
theorem jB.snoc {n:Nat} {l:List Int} {k:Nat} {x:Int} (h:jB n l k) {hk:k<l.length} (hq:l[k]=x) (h0:0≤x) (h1:x<(n:Int)) (h2:(k:Int)≤0∨∃ y,y<x∧∃ hx:((k:Int) - 1).toNat<l.length,l[((k:Int) - 1).toNat]=y):jB n l (k+1):=by
 intro i hi hik
 rcases Nat.lt_succ_iff_lt_or_eq.mp hik with h3 | h3
 ·exact h i hi h3
 ·subst h3
  refine ⟨by omega,by omega,fun j hj=>?_⟩
  rcases h2 with h2 | ⟨y,hy,hx,hq2⟩
  ·omega
  ·have:((i:Int) - 1).toNat=j:=by omega
   simp only [this] at hq2
   rw [hq2,hq]; exact hy
theorem jB.RJ {n:Nat} {l:List Int} {k:Nat} {x:Int} {hk:k<l.length} (hq:l[k]=x) (h:x<0∨(n:Int)≤x):¬ jB n l l.length:=by
 intro hA
 obtain ⟨h1,h2,_⟩:=hA k hk hk
 omega
theorem jB.Oq {n:Nat} {l:List Int} {k:Nat} {x y:Int} {hk:k<l.length} (hq:l[k]=x) (h0:(k:Int) > 0) {hk2:((k:Int) - 1).toNat<l.length} (hq2:l[((k:Int) - 1).toNat]=y) (h:x≤y):¬ jB n l l.length:=by
 intro hA
 obtain ⟨h1,h2,h3⟩:=hA k hk hk
 have h4:=h3 ((k:Int) - 1).toNat (by omega)
 omega
theorem jB.full {n:Nat} {l:List Int} {k:Nat} (h:jB n l k) (hk:l.length≤k):jB n l l.length:=fun i h1 h2=>h i h1 (by omega)
theorem jB.at_ {n:Nat} {l:List Int} {k:Nat} {x:Int} (h:jB n l l.length) {hk:k<l.length} (hq:l[k]=x):0≤x∧x<(n:Int):=by
 have:=h k hk hk; omega
theorem jB.mono {n:Nat} {l:List Int} (h:jB n l l.length):∀ (j i:Nat) (hj:j<l.length) (hij:i<j),l[i]<l[j]:=by
 intro j
 induction j with
 | zero=>intro i _ h2; omega
 | succ j ih =>
   intro i hj hij
   have h1:=(h (j+1) hj hj).2.2 j rfl
   rcases Nat.lt_succ_iff_lt_or_eq.mp hij with h3 | h3
   ·have:=ih i (by omega) h3; omega
   ·subst h3; exact h1
theorem jB.ge {n:Nat} {l:List Int} (h:jB n l l.length):∀ (i:Nat) (hi:i<l.length),(i:Int)≤l[i]:=by
 intro i
 induction i with
 | zero=>intro hi; have:=(h 0 hi hi).1; omega
 | succ i ih=>intro hi; have:=(h (i+1) hi hi).2.2 i rfl; have:=ih (by omega); omega
theorem jB.len {n:Nat} {l:List Int} (h:jB n l l.length):l.length≤n:=by
 rcases Nat.eq_zero_or_pos l.length with h0 | h0
 ·omega
 ·have h1:=h.ge (l.length - 1) (by omega)
  have h2:=(h (l.length - 1) (by omega) (by omega)).2.1
  omega
theorem pk {p:fh} {d:gp} {m:Nat} (hm:m<d.runs.l.length):iM p d m=⟨d.runs.l[m].name,d.runs.l[m].fV,(oT p.signals.l d.runs.l[m].from_).getD ⟨0,0⟩,if mV p ((oT p.signals.l d.runs.l[m].from_).getD ⟨0,0⟩).elem=4 then 0 else d.runs.l[m].left⟩:=by
 unfold iM
 rw [List.getElem?_eq_getElem hm]
theorem A7 {n:fk} {k:Int} {t:fX} {b:fJ} (h:rs 59 [.ip (fk.cells n) 0 false,iv k,.agg t.cells]=.fz [.agg b.cells,iv 0]):∃ b:fJ,b.gT.l=[t.at_]∧rs 59 [.ip (fk.cells n) 0 false,iv k,.agg t.cells]=.fz [.agg b.cells,iv 0]:=by
 obtain ⟨v,_,r0,r1,⟨h1,h2⟩,_⟩:=t59 n k t ah.empty
 have h3:=h2.symm.trans h
 have h4:r1=0:=by injection h3 with h3; injection h3 with _ h3; injection h3 with h3 _; injection h3
 subst h4
 exact ⟨r0,h1 rfl,h2⟩
theorem Fx {n:fk} {d:gp} {pl:fh} {l:List Int} {t:fE fX} (hk:mW n pl) (hA:jB d.runs.l.length l l.length) (ht:t.l=l.map (fun r=>iM n.p d r.toNat))
  (hD:rs 52 [.agg (fh.cells pl),Row.av fK.cells d.fV]=iv 0∧(∀ r∈d.runs.l,(rs 121 [.str r.name.l]=.bool true∧0≤r.fV∧r.fV<(d.fV.l.length:Int)∧0≤r.from_∧r.from_<(pl.signals.l.length:Int)))∧(∀ (i j:Nat) (h:j<d.runs.l.length) (hij:i<j),j<d.runs.l.length→(d.runs.l[i]).name.l≠(d.runs.l[j]).name.l)∧d.runs.l.length≤8)
  (hS:∀ i,i<d.runs.l.length→∃ b:fJ,rs 59 [.ip (fk.cells n) 0 false,.int .i64 (rZ d i),.agg (iM n.p d i).cells]=.fz [.agg b.cells,.int .i64 0])
  (hL:∀ i j,i<j→j<d.runs.l.length→∀ x∈kR n.p [(iM n.p d i).at_],x∉kR n.p [(iM n.p d j).at_]) :
  (∀ (i:Nat) (x:fX) (y:fK),t.l[i]?=some x→d.fV.l[x.fV.toNat]?=some y→∃ b:fJ,b.gT.l=[x.at_]∧rs 59 [.ip (fk.cells n) 0 false,iv y.len,.agg (fX.cells x)]=.fz [.agg (fJ.cells b),iv 0]) ∧
  (∀ i j:Nat,i<j→j<t.l.length→∀ x∈LT t.l n.p i,x∉LT t.l n.p j) ∧
  (∀ i:Nat,∀ x∈LT t.l n.p i,0≤x∧x<(n.p.elems.l.length:Int)) ∧
  (∀ x∈t.l,rs 121 [.str x.name.l]=.bool true∧0≤x.fV∧x.fV<(d.fV.l.length:Int)) ∧
  (∀ (i j:Nat) (h:j<t.l.length) (hij:i<j),(t.l[i]).name.l≠(t.l[j]).name.l)∧t.l.length≤8:=by
 obtain ⟨_,hR,hN,h8⟩:=hD
 have hr:∀ (i:Nat) (h:i<l.length),(l[i]).toNat<d.runs.l.length:=fun i h=>by
  have:=hA i h h; omega
 have hg:∀ (i:Nat) (x:fX),t.l[i]?=some x→∃ h:i<l.length,x=iM n.p d (l[i]).toNat:=by
  intro i x hx
  rw [ht,List.getElem?_map] at hx
  obtain ⟨y,hy,rfl⟩:=Option.map_eq_some_iff.mp hx
  obtain ⟨h,rfl⟩:=List.getElem?_eq_some_iff.mp hy
  exact ⟨h,rfl⟩
 have htl:t.l.length=l.length:=by rw [ht,List.length_map]
 have hLT:∀ (i:Nat) (h:i<l.length),LT t.l n.p i=kR n.p [(iM n.p d (l[i]).toNat).at_]:=by
  intro i h
  unfold LT
  have:t.l[i]?=some (iM n.p d (l[i]).toNat):=by rw [ht,List.getElem?_map,List.getElem?_eq_getElem h]; rfl
  rw [this]
 have hLT0:∀ (i:Nat) (h:l.length≤i),LT t.l n.p i=[]:=by
  intro i h
  unfold LT
  rw [List.getElem?_eq_none (by omega)]
 have hm:∀ (m:Nat) (h:m<d.runs.l.length),_:=fun m h=>hR _ (List.getElem_mem h)
 refine ⟨?_,?_,?_,?_,?_,by have:=hA.len; omega⟩
 ·intro i x y hx hy
  obtain ⟨hi,rfl⟩:=hg i x hx
  have hm:=hr i hi
  obtain ⟨b,hb⟩:=hS _ hm
  have e:rZ d (l[i]).toNat=y.len:=by
   rw [pk hm] at hy
   obtain ⟨hy1,hy2⟩:=List.getElem?_eq_some_iff.mp hy
   exact (Bu hm rfl hy1 hy2).symm
  rw [e] at hb
  exact A7 hb
 ·intro i j hij hj x hx
  rw [htl] at hj
  rw [hLT i (by omega)] at hx
  rw [hLT j hj]
  refine hL _ _ ?_ (hr j hj) x hx
  have h1:=hA.mono j i hj hij
  have h2:=hA i (by omega) (by omega)
  omega
 ·intro i x hx
  rcases Nat.lt_or_ge i l.length with h | h
  ·rw [hLT i h] at hx
   have hmi:=hr i h
   obtain ⟨_,_,_,h3,h4⟩:=hm _ hmi
   rw [pk hmi] at hx
   unfold kR at hx
   obtain ⟨y,hy,rfl⟩:=List.mem_map.mp hx
   have hy2:=(List.mem_filter.mp hy).1
   simp only [List.mem_singleton] at hy2
   subst hy2
   have h5:(d.runs.l[(l[i]).toNat].from_).toNat<n.p.signals.l.length:=by rw [hk.signals]; omega
   rw [BQ h3 h5 rfl]
   have h6:=hk.abt _ (by rw [← hk.signals]; exact List.getElem_mem h5)
   rw [hk.elems]
   exact ⟨h6.1,h6.2.1⟩
  ·rw [hLT0 i h] at hx; cases hx
 ·intro x hx
  obtain ⟨i,hi⟩:=List.getElem?_of_mem hx
  obtain ⟨h,rfl⟩:=hg i x hi
  have hmi:=hr i h
  obtain ⟨h1,h2,h3,_,_⟩:=hm _ hmi
  rw [pk hmi]
  exact ⟨h1,h2,h3⟩
 ·intro i j hj hij
  have hj':j<l.length:=by omega
  have ei:t.l[i]=iM n.p d (l[i]'(by omega)).toNat:=by simp only [ht,List.getElem_map]
  have ej:t.l[j]=iM n.p d (l[j]).toNat:=by simp only [ht,List.getElem_map]
  rw [ei,ej,pk (hr i (by omega)),pk (hr j hj')]
  refine hN _ _ (hr j hj') ?_ (hr j hj')
  have h1:=hA.mono j i hj' hij
  have h2:=hA i (by omega) (by omega)
  omega
theorem gQ.snoc {H:ah} {A B C:gH} {F:List gH} {ps:List ic} {b:Nat} {run dn:Int} {lg:Row iZ} (h:Sep H (.obj (.ptr b 0 0 0) [.int .i64 run,.int .i64 0,.int .i64 (-1),lg.av iZ.cells,.sl [] .nil,.sl [] .nil,.sl [] .nil,.sl [] .nil,.int .i64 dn]::A::B::C::(gQ ps++F))) :
  Sep H (A::B::C::(gQ (ps++[⟨b,run,lg,dn,.sl [] .nil,[],.sl [] .nil,[],.sl [] .nil,[],.sl [] .nil,[]⟩])++F)):=by
 have h2:=Sep.iF (Sep.iF (Sep.iF (Sep.iF h 1) 1) 1) 5
 refine h2.perm ?_
 have e:gQ (ps++[⟨b,run,lg,dn,.sl [] .nil,[],.sl [] .nil,[],.sl [] .nil,[],.sl [] .nil,[]⟩])=gQ ps++ic.oR ⟨b,run,lg,dn,.sl [] .nil,[],.sl [] .nil,[],.sl [] .nil,[],.sl [] .nil,[]⟩:=by unfold gQ; simp
 rw [e]
 unfold ic.oR
 simp only [List.map_nil]
 generalize gH.obj _ _=P
 generalize gH.sl true true (.sl [] .nil) 5 []=S5
 generalize gH.sl true true (.sl [] .nil) 1 []=S1
 have h1:(S5::S1::S1::S1::P::A::B::C::(gQ ps++F)).Perm ([P,S5,S1,S1,S1]++([A,B,C]++gQ ps)++F):=by
  have:(S5::S1::S1::S1::P::A::B::C::(gQ ps++F))=([S5,S1,S1,S1]++[P])++(A::B::C::(gQ ps++F)):=rfl
  rw [this]
  have : [P,S5,S1,S1,S1]++([A,B,C]++gQ ps)++F=([P]++[S5,S1,S1,S1])++(A::B::C::(gQ ps++F)):=by simp
  rw [this]
  exact List.Perm.append_right _ List.perm_append_comm
 refine h1.trans ?_
 have:A::B::C::(gQ ps++[P,S5,S1,S1,S1]++F)=(([A,B,C]++gQ ps)++[P,S5,S1,S1,S1])++F:=by simp
 rw [this]
 exact List.Perm.append_right _ List.perm_append_comm
section
variable {C:gP} {fa:fA} {e:Env} {H:ah} {L:List gH} {ls:iT} {i n:Nat} {v:AV} {w tt:Bool} {xs:List (List AV)}
theorem BG {t d:Nat} {ps:Array (Nat×Operand)} {te:TI} {c:AV} (hS:Sep H L) (hT:nH C t=some te) (hle:Nat.ble (1*te.size) 16777216=true) (hf:ng te (kQ e ps) (List.replicate 1 te.zero)=some [[c]]) (hp:np [[c]]=false) (hn:te.size=1) :
  ∃ v H',(∀ call,gD (.buildSlice t 1 ps) ⟨C,fa,call⟩ e { H with aq:=ls } (some d)=some (v,{ H' with aq:=ls }))∧∃ b,v=.hs b 0 0 1∧Sep H' (.sl true true (.hs b 0 0 1) 1 [[c]]::L):=by
 have hlo:=hS.lo
 refine ⟨.hs H.size 0 0 1,H.push (.fW 0 1 [[c]]),fun call=>?_,H.size,rfl,?_⟩
 ·simp only [gD,mJ,lU,hT,hle,hf,o0,hp,Bool.not_false,Bool.or_true,hn,ah.oc]
  rfl
 ·refine hS.new (by simp; omega) (by simp) ⟨by simp,.inr (.inr ⟨H.size,0,[],by simp,by simp,?_,fun _=>rfl⟩)⟩ ?_ ?_
  ·rw [ah.ky _ _ _ hlo]; simp
  ·intro b hb; rw [ah.ky _ _ _ hlo,if_neg (by omega)]
  ·intro b hb; simp [iW,gH.v] at hb; omega
theorem xN (hS:Sep H L) (hi:L[i]?=some (.sl w tt v n xs)):lx { H with aq:=ls } v=some xs:=by
 obtain ⟨hxl,⟨h0,rfl⟩ | ⟨_,rfl⟩ | ⟨b,g,j,hb,rfl,hg,htj⟩⟩:=hS.at hi
 ·subst h0; rfl
 ·rfl
 ·have h2:Nat.ble (0+xs.length) (xs++j).length=true:=Nat.ble_eq.mpr (by simp)
  have h3:((xs++j).drop 0).take xs.length=xs:=by rw [List.drop_zero]; simp
  simp only [lx,AV.str?,elems,ah.iY,hg,Nat.beq_refl,h2,Bool.and_self,h3]
theorem Sep.tl {A:gH} (h:Sep H (A::L)):Sep H L:=⟨h.lo,fun r hr=>h.ok r (List.mem_cons_of_mem _ hr),(List.pairwise_cons.mp h.uA).2⟩
end
theorem AL {ps:List ic} {yl:List jD} {p:ic} {x:jD} (h:ps.map ic.ptr=yl) (hx:p.ptr=x):(ps++[p]).map ic.ptr=yl++[x]:=by
 subst h hx; simp
theorem BR {ps:List ic} {p:ic} {m:Nat} (h:∀ p∈ps,p.le m) (hp:p.le m):∀ q∈ps++[p],q.le m:=by
 intro q hq
 rcases List.mem_append.mp hq with h1 | h1
 ·exact h q h1
 ·simp at h1; subst h1; exact hp
theorem zt {α β:Type} {f : α→β} {l:List α} {k:Nat} {x : α} {r:List β} {y : β} (h:r=(l.take k).map f) {hk:k<l.length} (hq:l[k]=x) (hy:y=f x):r++[y]=(l.take (k+1)).map f:=by
 rw [oh hk hq,List.map_append,← h,hy]; rfl
end Go.Sx
namespace Go.Sx
open Go
structure jL where
 cs:List AV
 len:cs.length=5
 ok:cs.all AV.hZ=true
def jL.cells (x:jL):List AV:=x.cs
structure kF where
 N6:Row fJ
 roads:Row Int
 steps:Row (Row Int)
 WI:Row (Row Int)
 done:Int
def kF.cells (x:kF):List AV:=[x.N6.av fJ.cells,x.roads.av fu,x.steps.av (g6 fu),x.WI.av (g6 fu),.int .i64 x.done]
def ic.uV (p:ic):List AV:=[p.tb,p.tr,p.ts,p.tz,.int .i64 p.dn]
section
variable {C:gP} {fa:fA} {e:Env} {H:ah} {L:List gH} {ls:iT} {i n:Nat} {v:AV} {w tt:Bool} {xs:List (List AV)}
theorem Mc {t d:Nat} {ps:Array (Nat×Operand)} {te:TI} {cs:List AV} (hS:Sep H L) (hT:nH C t=some te) (hle:Nat.ble (1*te.size) 16777216=true) (hf:ng te (kQ e ps) (List.replicate 1 te.zero)=some [cs]) (hn:te.size=n) (hl:cs.length=n) :
  ∃ v H',(∀ call,gD (.buildSlice t 1 ps) ⟨C,fa,call⟩ e { H with aq:=ls } (some d)=some (v,{ H' with aq:=ls }))∧Sep H' (.sl false true v n [cs]::L):=by
 have hlo:=hS.lo
 subst hn
 by_cases hp:(fa.EV.elem d||!(np [cs]))=true
 ·refine ⟨.hs H.size 0 0 1,H.push (.fW 0 te.size [cs]),fun call=>?_,?_⟩
  ·simp only [gD,mJ,lU,hT,hle,hf,o0,hp,ah.oc]
   rfl
  ·refine hS.new (by simp; omega) (by simp) ⟨by simpa using hl,.inr (.inr ⟨H.size,0,[],by simp,by simp,?_,fun _=>rfl⟩)⟩ ?_ ?_
   ·rw [ah.ky _ _ _ hlo]; simp
   ·intro b hb; rw [ah.ky _ _ _ hlo,if_neg (by omega)]
   ·intro b hb; simp [iW,gH.v] at hb; omega
 ·simp only [Bool.not_eq_true] at hp
  refine ⟨.sl [cs] (.exact 1),H,fun call=>?_,?_⟩
  ·simp only [gD,mJ,lU,hT,hle,hf,o0,hp]
   rfl
  ·exact hS.Kg te.size [cs] (by simpa using hl) rfl
end
theorem Yn {te:TI} {e:Env} {ps:Array (Nat×Operand)} {cs:List AV} {x:AV} {z:List AV} (hp:kQ e ps=[(0,x)]) (hc:cellsOf te x=some cs) (hok:cs.all AV.hZ=true):ng te (kQ e ps) (List.replicate 1 z)=some [cs]:=by
 rw [hp]
 simp only [ng,hc,hok]
 rfl
theorem gQ.MK {H:ah} {A B:gH} {F:List gH} {ps:List ic} {k:Nat} {x:ic} (h:Sep H (x.oR++(A::B::(gQ (ps.take k)++gQ (ps.drop (k+1))++F)))) (hk:k<ps.length) (hq:ps[k]=x):Sep H (A::B::(gQ ps++F)):=by
 rw [gQ.split hk hq]
 exact h.perm sY.symm
theorem HY {l:List jL} {ps:List ic} {k:Nat} {x:ic} {y:jL} (h:l.map jL.cells=(ps.take k).map ic.uV) {hk:k<ps.length} (hq:ps[k]=x) (hy:y.cells=x.uV):(l++[y]).map jL.cells=(ps.take (k+1)).map ic.uV:=by
 rw [oh hk hq,List.map_append,List.map_append,h]
 simp [hy]
theorem Qg {H:ah} {L:List gH} (hS:Sep H L) {p:ic} (hm:∀ r∈p.oR,r∈L) (hle:p.le 1):∃ t:kF,∀ ls k,gr (freeze false { H with aq:=ls } (k+3)) p.uV=some t.cells:=by
 obtain ⟨h1,h2,h3,h4⟩:=hle
 obtain ⟨i1,hi1⟩:=List.getElem?_of_mem (hm (.sl true true p.tb 5 (p.lb.map fJ.cells)) (by simp [ic.oR]))
 obtain ⟨i2,hi2⟩:=List.getElem?_of_mem (hm (.sl true true p.tr 1 (p.lr.map fu)) (by simp [ic.oR]))
 obtain ⟨i3,hi3⟩:=List.getElem?_of_mem (hm (.sl true true p.ts 1 (p.ls.map (g6 fu))) (by simp [ic.oR]))
 obtain ⟨i4,hi4⟩:=List.getElem?_of_mem (hm (.sl true true p.tz 1 (p.lz.map (g6 fu))) (by simp [ic.oR]))
 obtain ⟨r1,_,f1⟩:=gZ hS hi1 (by simp only [ns]; omega)
 obtain ⟨r2,_,f2⟩:=gZ hS hi2 (by simp only [ns]; omega)
 obtain ⟨r3,_,f3⟩:=gZ hS hi3 (by simp only [ns]; omega)
 obtain ⟨r4,_,f4⟩:=gZ hS hi4 (by simp only [ns]; omega)
 refine ⟨⟨r1,r2,r3,r4,p.dn⟩,fun ls k=>?_⟩
 have g1:=f1 ls (k+2) (fun _=>by simp only [fJ.cells,gr,ju,jK])
 have g2:=f2 ls (k+2) (fun _=>rfl)
 have g3:=f3 ls (k+2) (fun _=>by simp only [g6,gr,ju])
 have g4:=f4 ls (k+2) (fun _=>by simp only [g6,gr,ju])
 simp only [ic.uV,gr,g1,g2,g3,g4,jK,kF.cells]
theorem B5 {H:ah} {L:List gH} (hS:Sep H L):∀ {ps:List ic},(∀ r∈gQ ps,r∈L)→(∀ p∈ps,p.le 1)→∃ ts:List kF,ts.length=ps.length∧∀ ls k,jZ (freeze false { H with aq:=ls } (k+3)) (ps.map ic.uV)=some (ts.map kF.cells)
 | [],_,_=>⟨[],rfl,fun _ _=>rfl⟩
 | p::ps,hm,hle=>by
   obtain ⟨ts,h1,h2⟩:=B5 hS (ps:=ps) (fun r hr=>hm r (by simp only [gQ,List.flatMap_cons] at hr ⊢; exact List.mem_append_right _ hr)) (fun q hq=>hle q (List.mem_cons_of_mem _ hq))
   obtain ⟨t,h3⟩:=Qg hS (p:=p) (fun r hr=>hm r (by simp only [gQ,List.flatMap_cons]; exact List.mem_append_left _ hr)) (hle p (by simp))
   refine ⟨t::ts,by simp [h1],fun ls k=>?_⟩
   simp only [List.map_cons,jZ,h3,h2]
theorem Nh {H:ah} {B:gH} {F:List gH} {ps:List ic} {v:AV} {l:List jL} (hS:Sep H (.sl true true v 5 (l.map jL.cells)::B::(gQ ps++F))) (hl:l.map jL.cells=ps.map ic.uV) (hle:∀ p∈ps,p.le 1) (hb:ps.length≤64) :
  ∃ r:Row kF,r.l.length=ps.length∧∀ ls k,freeze false { H with aq:=ls } (k+4) v=some (r.av kF.cells):=by
 obtain ⟨ts,h1,h2⟩:=B5 hS (ps:=ps) (fun r hr=>by simp [hr]) hle
 obtain ⟨hxl,⟨h0,rfl⟩ | ⟨h0,rfl⟩ | ⟨b,g,j,hb2,rfl,hg,htj⟩⟩:=hS.at (i:=0) rfl
 ·have h3:ps=[]:=by
   rw [hl] at h0; exact List.map_eq_nil_iff.mp h0
  subst h3
  exact ⟨⟨[],.nil,Nat.zero_le _,rfl,fun _=>rfl⟩,rfl,fun _ _=>rfl⟩
 ·have h0:l.map jL.cells=[]:=by
   rcases h0 with h0 | h0
   ·cases h0
   ·exact h0
  have h3:ps=[]:=by
   rw [hl] at h0; exact List.map_eq_nil_iff.mp h0
  subst h3
  rw [h0]
  exact ⟨⟨[],.exact 0,Nat.zero_le _,rfl,fun h=>by cases h⟩,rfl,fun _ _=>rfl⟩
 ·refine ⟨⟨ts,.iy,by simp only [ns]; omega,rfl,fun h=>by cases h⟩,h1,fun ls k=>?_⟩
  have h4:Nat.ble (0+(l.map jL.cells).length) (l.map jL.cells++j).length=true:=Nat.ble_eq.mpr (by simp)
  have h5:((l.map jL.cells++j).drop 0).take (l.map jL.cells).length=ps.map ic.uV:=by rw [List.drop_zero,← hl]; simp
  have key:∀ m,jZ (freeze false { H with aq:=ls } m) (ps.map ic.uV)=some (ts.map kF.cells)→freeze false { H with aq:=ls } (m+1) (.hs b g 0 (l.map jL.cells).length)=some (.sl (ts.map kF.cells) .iy):=by
   intro m hm
   simp only [freeze,ah.iY,hg,Nat.beq_refl,h4,Bool.and_self,h5,hm]
   rfl
  exact key (k+3) (h2 ls k)
end Go.Sx
namespace Go.Sx
open Go
def nc (W:AV) (n:Nat) (l:List Int) (k:Nat) (x:Int):Prop:=∀ w:Int,W=.int .i64 w→(w≠0→x=w)∧(w=0→(x=0∧jB n l k)∨(x=1∧¬ jB n l l.length))
theorem nc.zero {W:AV} {n:Nat} {l:List Int} {x:Int} (h:W=.int .i64 x):nc W n l 0 x:=by
 intro w hw
 have:x=w:=by rw [h] at hw; injection hw
 subst this
 exact ⟨fun _=>rfl,fun h0=>.inl ⟨h0,jB.zero _ _⟩⟩
theorem nc.fi {W:AV} {n:Nat} {l:List Int} {k:Nat} {x:Int} (h:nc W n l k x) (hx:x≠0):nc W n l (k+1) x:=by
 intro w hw
 obtain ⟨h1,h2⟩:=h w hw
 refine ⟨h1,fun h0=>?_⟩
 rcases h2 h0 with ⟨h3,_⟩ | h3
 ·exact absurd h3 hx
 ·exact .inr h3
theorem nc.aba {W:AV} {n:Nat} {l:List Int} {k:Nat} {x:Int} (h:nc W n l k x) (hs:jB n l k→jB n l (k+1)):nc W n l (k+1) x:=by
 intro w hw
 obtain ⟨h1,h2⟩:=h w hw
 refine ⟨h1,fun h0=>?_⟩
 rcases h2 h0 with ⟨h3,h4⟩ | h3
 ·exact .inl ⟨h3,hs h4⟩
 ·exact .inr h3
theorem nc.bad {W:AV} {n:Nat} {l:List Int} {k:Nat} {x:Int} (h:nc W n l k x) (hx:x=0) (hb:¬ jB n l l.length):nc W n l (k+1) 1:=by
 intro w hw
 obtain ⟨h1,h2⟩:=h w hw
 exact ⟨fun h0=>absurd hx (by rw [h1 h0]; exact h0),fun _=>.inr ⟨rfl,hb⟩⟩
theorem MI {W:AV} {n m k:Nat} {l:List Int} {e x:Int} (hr:(e≠0∧m=0∧(W=.int .i64 e∨(W=.int .i64 0∧e=1∧¬ jB n l l.length)))∨(e=0∧m=l.length∧W=.int .i64 0∧jB n l l.length)) (h:nc W n l k x) (hk:l.length≤k):e=x∧(e=0→m=l.length)∧(e≠0→m=0):=by
 rcases hr with ⟨h1,h2,h3 | ⟨h3,h4,h5⟩⟩ | ⟨h1,h2,h3,h4⟩
 ·obtain ⟨g1,_⟩:=h e h3
  exact ⟨(g1 h1).symm,fun h=>absurd h h1,fun _=>h2⟩
 ·obtain ⟨_,g2⟩:=h 0 h3
  rcases g2 rfl with ⟨_,g3⟩ | ⟨g3,_⟩
  ·exact absurd (g3.full hk) h5
  ·exact ⟨by omega,fun h=>absurd h h1,fun _=>h2⟩
 ·obtain ⟨_,g2⟩:=h 0 h3
  rcases g2 rfl with ⟨g3,_⟩ | ⟨_,g3⟩
  ·exact ⟨by omega,fun _=>h2,fun h=>absurd h1 h⟩
  ·exact absurd h4 g3
end Go.Sx
