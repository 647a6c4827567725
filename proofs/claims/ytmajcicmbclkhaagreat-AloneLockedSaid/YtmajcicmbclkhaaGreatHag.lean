/- Proves rules for the walks and their soundness. -/
import Derived.Lib.SlicesCompact
import Derived.Test.YtmajcicmbclkhaaGreatHaf
set_option linter.all false
namespace Go.Sx
open Go Go.Proofs
theorem BA:∀ {l:List Int},(∀ x∈l,ky x)->pQ (l.map cI)=some l
 | [],_=>rfl
 | x::l,h=>by
   have h1:Ca (cI x)=some x:=by
    have:=h x (by simp)
    simp only [Ca,cI,zp]
    exact if_pos (by unfold ky at this; omega)
   simp only [List.map_cons,pQ,h1,BA (λy hy=>h y (List.mem_cons_of_mem _ hy))]
def Gr {C:gv} {F0:gX} {Pr:gQ} {f:Nat} (hp:Pr f=some nZ) {H:au} {t:Bool} {v:AV} {l:List Int} {F:List gh} (hS:Sep H (.sl true t v 1 (l.map cI)::F)) (q1:l.length<=1000000) (q2:∀ x∈l,ky x) :
  ∃ u H',fh C F0 Pr true f [v] { H with aT:=[] } u H'/\u=.fG []/\Sep H' (.sl true t v 1 ((iY l).map cI)::F):=by
 have vc:(iY l).length=l.length:=(kF l).length_eq
 have hcall:∀ (H':au),nZ true [v] { H with aT:=[] }=some (.fG [],H')->fh C F0 Pr true f [v] { H with aT:=[] } (.fG []) H':=by
  intro H' h
  refine ⟨1,λk hk=>?_⟩
  cases k<;>grind [gP]
 obtain ⟨hxl,hc⟩:=hS.at (i:=0) rfl
 have nil:l=[]->nZ true [v] { H with aT:=[] }=some (.fG [],{ H with aT:=[] })->∃ u H',fh C F0 Pr true f [v] { H with aT:=[] } u H'/\u=.fG []/\Sep H' (.sl true t v 1 ((iY l).map cI)::F):=by
  rintro rfl h
  exact ⟨_,_,hcall _ h,rfl,hS.aT _⟩
 rcases hc with ⟨h0,rfl⟩ | ⟨h0 | h0,rfl⟩ | ⟨b,g,j,hb,rfl,hg,htj⟩
 ·exact nil (List.map_eq_nil_iff.mp h0) rfl
 ·cases h0
 ·have:=List.map_eq_nil_iff.mp h0
  subst this
  exact nil rfl rfl
 ·cases hl:l with
  | nil=>subst hl; exact nil rfl rfl
  | cons x t' =>
    have hlen:(l.map cI).length=t'.length+1:=by grind
    have hlob:H.lo<=b:=au.kV hg
    have hr:nZ true [.hs b g 0 (l.map cI).length] { H with aT:=[] }=some (.fG [],{ H.set b (.fc g 1 ((iY l).map cI++j)) with aT:=[] }):=by
     rw [hlen]
     have hk:pQ (((l.map cI++j).drop 0).take (t'.length+1))=some l:=by
      grind [BA]
     have hb2:(Nat.ble (0+(t'.length+1)) (l.map cI++j).length&&Nat.ble (t'.length+1) 1000000)=true:=by
      simp_all
     have hput:putAt (l.map cI++j) 0 (t'.length+1) (mf (iY l))=(iY l).map cI++j:=by
      unfold putAt
      rw [Nat.zero_add,<- hlen,List.drop_left]
      rfl
     simp only [nZ,au.iG,hg,Nat.beq_refl,Bool.true_and,hb2,hk,hput,au.mE]
    rw [<- hl]
    refine ⟨_,_,hcall _ hr,rfl,Sep.aT ?_ _⟩
    refine (hS.mq (i:=0) rfl (r':=.sl true t (.hs b g 0 (l.map cI).length) 1 ((iY l).map cI)) (by simpa using hS.lo) (by simp) ⟨?_,.inr (.inr ⟨b,g,j,by simp_all,by simp [vc],?_,htj⟩)⟩ ?_ ?_)
    ·intro z hz
     obtain ⟨y,_,rfl⟩:=List.mem_map.mp hz; rfl
    ·grind [au.ja]
    ·intro b' hb' hne; rw [au.ja,if_neg (by rintro ⟨rfl,_⟩; exact hne rfl)]
    ·intro b' hb'; exact .inl hb'
def NQ {C:gv} {F0:gX} {Pr:gQ} {f:Nat} (hp:Pr f=some pg) {H:au} {t:Bool} {v:AV} {l:List Int} {F:List gh} (hS:Sep H (.sl true t v 1 (l.map cI)::F)) (q1:l.length<=1000000) (q2:∀ x∈l,ky x) :
  ∃ u H',fh C F0 Pr true f [v] { H with aT:=[] } u H'/\Sep H' (.sl true false u 1 ((Lib.compact l).map cI)::F):=by
 have hcl:=Lib.compact_length_le l
 have hcall:∀ (u:AV) (H':au),pg true [v] { H with aT:=[] }=some (u,H')->fh C F0 Pr true f [v] { H with aT:=[] } u H':=by
  intro u H' h
  refine ⟨1,λk hk=>?_⟩
  cases k<;>grind [gP]
 have hS0:Sep H (.sl true false v 1 (l.map cI)::F):=hS.nB (i:=0) rfl
 obtain ⟨hxl,hc⟩:=hS.at (i:=0) rfl
 have nil:l=[]->pg true [v] { H with aT:=[] }=some (v,{ H with aT:=[] })->∃ u H',fh C F0 Pr true f [v] { H with aT:=[] } u H'/\Sep H' (.sl true false u 1 ((Lib.compact l).map cI)::F):=by
  rintro rfl h
  exact ⟨_,_,hcall _ _ h,hS0.aT _⟩
 rcases hc with ⟨h0,rfl⟩ | ⟨h0 | h0,rfl⟩ | ⟨b,g,j,hb,rfl,hg,htj⟩
 ·exact nil (List.map_eq_nil_iff.mp h0) rfl
 ·cases h0
 ·have:=List.map_eq_nil_iff.mp h0
  subst this
  exact nil rfl rfl
 ·cases hl:l with
  | nil=>subst hl; exact nil rfl rfl
  | cons x t' =>
    have hlen:(l.map cI).length=t'.length+1:=by grind
    have hlob:H.lo<=b:=au.kV hg
    have hr:pg true [.hs b g 0 (l.map cI).length] { H with aT:=[] }=some (.hs b g 0 (Lib.compact l).length,{ H.set b (.fc g 1 ((tK l).map cI++j)) with aT:=[] }):=by
     rw [hlen]
     have hk:pQ (((l.map cI++j).drop 0).take (t'.length+1))=some l:=by
      grind [BA]
     have hb2:(Nat.ble (0+(t'.length+1)) (l.map cI++j).length&&Nat.ble (t'.length+1) 1000000)=true:=by
      simp_all
     have hput:putAt (l.map cI++j) 0 (t'.length+1) (mf (tK l))=(tK l).map cI++j:=by
      unfold putAt
      rw [Nat.zero_add,<- hlen,List.drop_left]
      rfl
     simp only [pg,au.iG,hg,Nat.beq_refl,Bool.true_and,hb2,hk,hput,au.mE]
    rw [<- hl]
    refine ⟨_,_,hcall _ _ hr,Sep.aT ?_ _⟩
    refine (hS.mq (i:=0) rfl (r':=.sl true false (.hs b g 0 (Lib.compact l).length) 1 ((Lib.compact l).map cI)) (by simpa using hS.lo) (by simp) ⟨?_,.inr (.inr ⟨b,g,(List.replicate (l.length - (Lib.compact l).length) 0).map cI++j,by simp_all,by simp,?_,λh=>by cases h⟩)⟩ ?_ ?_)
    ·intro z hz
     obtain ⟨y,_,rfl⟩:=List.mem_map.mp hz; rfl
    ·grind [au.ja,tK]
    ·intro b' hb' hne; rw [au.ja,if_neg (by rintro ⟨rfl,_⟩; exact hne rfl)]
    ·intro b' hb'; exact .inl hb'
end Go.Sx
set_option maxHeartbeats 0
namespace Go.Sx
open Go
def Lb {l m:List Int} {k:Nat} {x y:Int} (h:l=m) {hk:k<l.length} (hq:l[k]=x) {hk2:k<m.length} (hq2:m[k]=y) (hn:x≠y):False:=by
 grind
theorem sM {α:Type} {f : α->α->Bool}:∀ {l:List α},(∀ x∈l,f x x=true)->lK f l l=true
 | [],_=>rfl
 | x::l,h=>by rw [lK,h x List.mem_cons_self,sM λy hy=>h y (List.mem_cons_of_mem _ hy)]; rfl
section
variable {C:gv} {F:gX} {Pr:gQ} {fa:eY} {e:Env} {h:au} {all rest:List Oper} {o:Oper} {q:Env->au->Prop} {H:au} {ls:iN}
def lB {j:Nat} {chk:List Nat} {sch:List (Nat×List Nat)} {f:Nat} {g:Operand} {c:Call} {args p r:List AV} {R:AV->au->Prop} (hj:all[j]?=some o) (ho:o.op=.call c) (hw:fE all e o=some true) (hf:c.callee=.value g) (hg:fg e g=.gx f p r) (ha:c.args.toList.map (fg e)=args) (hok:(p++args++r).all AV.kK=true) (hs:fa.fY.elem f=true)
  (w:∃ v H',fh C F Pr true f (p++args++r) { H with aT:=[] } v H'/\R v H') (next:∀ v H',R v H'->(∀ call,∀ j∈chk,again ⟨C,fa,call⟩ all (fp e o v) { H' with aT:=ls } j=true)/\gZ C F Pr fa all sch q (fp e o v) { H' with aT:=ls }):gZ C F Pr fa all ((j,chk)::sch) q e { H with aT:=ls }:=by
 obtain ⟨v,H',hc,hR⟩:=w
 refine BR hj hw ?_ (next v H' hR).1 (next v H' hR).2
 rw [ho]
 exact BG hf hg ha hok hs hc
end
def Cm (t:Nat):List (Nat×Nat)->Option Nat
 | []=>none
 | p::l=>match Nat.beq p.1 t with
   | true=>some p.2
   | false=>Cm t l
def DI (L:List gh) (i:Nat):AV:=match L[i]? with
 | some r=>r.v
 | none=>.undef
def zx (k:Bool) (L:List gh) (ix:List (Nat×Nat)):Env->Env
 | []=>[]
 | p::E=>(p.1,match Cm p.1 ix with
   | some i=>(match k with
     | true=>keep p.1 (DI L i)
     | false=>DI L i)
   | none=>p.2)::zx k L ix E
theorem HV {H:au} {L:List gh} (hS:Sep H L) (ix:List (Nat×Nat)):∀ E,zx true L ix E=zx false L ix E
 | []=>rfl
 | p::E=>by
   simp only [zx]
   rw [HV hS ix E]
   cases Cm p.1 ix with
   | none=>rfl
   | some i =>
     simp only [DI]
     cases hi:L[i]? with
     | none=>simp only [keep]; split<;>rfl
     | some r=>rw [hS.yC hi p.1]
def Oa {H:au} {L:List gh} {e E:Env} (hS:Sep H L) (ix:List (Nat×Nat)) (h1:e=zx true L ix E:=by rfl) (h2:zx false L ix E=E:=by rfl):e=E :=
 h1.trans ((HV hS ix E).trans h2)
def xX:List Nat->List AV->Env
 | t::ts,v::vs=>(t,v)::xX ts vs
 | _,_=>[]
def At (live:List Nat) (vs:List AV) (H:au) (L:iN) (e:Env) (h:au):Prop:=proj live e=xX live vs/\{ h with aT:=iu live h.aT } = { H with aT:=L }
def atR {live:List Nat} {vs:List AV} {H:au} {L:iN} {e:Env} {h:au} (h1:proj live e=xX live vs:=by rfl) (h2:{ h with aT:=iu live h.aT } = { H with aT:=L }:=by rfl):At live vs H L e h:=⟨h1,h2⟩
def fV {live:List Nat} {vs:List AV} {H:au} {L:iN} {e:Env} {h:au} {H0:au} {R:List gh} (hS:Sep H0 R) (ix:List (Nat×Nat)) (h1:proj live e=zx true R ix (xX live vs):=by rfl) (h3:zx false R ix (xX live vs)=xX live vs:=by rfl) (h2:{ h with aT:=iu live h.aT } = { H with aT:=L }:=by rfl):At live vs H L e h:=⟨Oa hS ix h1 h3,h2⟩
section
variable {C:gv} {F:gX} {Pr:gQ} {fa:eY} {c:Code} {an:ga} {Q:Ex->Env->au->Prop} {live:List Nat} {e:Env} {h:au}
def yQ {vs:List AV} {H:au} {L:iN} (hA:At live vs H L e h) (w:Wp C F Pr fa c an Q (xX live vs) { H with aT:=L }):Wp C F Pr fa c an Q (proj live e) { h with aT:=iu live h.aT }:=Qd hA.1 hA.2 w
def wz (vs:List AV) (H:au) (L:iN) (w:Wp C F Pr fa c an Q (xX live vs) { H with aT:=L }) (hA:At live vs H L e h:=by exact atR):Wp C F Pr fa c an Q (proj live e) { h with aT:=iu live h.aT }:=yQ hA w
def wy (vs:List AV) (L:iN) (w:Wp C F Pr fa c an Q (xX live vs) { au.empty with aT:=L }) (hA:At live vs au.empty L e h:=by exact atR):Wp C F Pr fa c an Q (proj live e) { h with aT:=iu live h.aT }:=yQ hA w
end
section
variable {Q:Prop} {H:au} {L:List gh} {α:Type} {enc : α->List AV} {w tt:Bool} {v:AV} {n:Nat} {l:List α}
def lJ (hS:Sep H L) (i:Nat) (K:∀ r:ff α,r.l=l->r.l.length=l.length->(∀ m,freeze true { H with aT:=[] } (m+2) v=some (r.av enc))->Q) (hi:L[i]?=some (.sl w tt v n (l.map enc)):=by rfl) (he:∀ m x,fU (freeze true { H with aT:=[] } (m+1)) (enc x)=some (enc x):=by first | exact λ_ _=>rfl | (intro _ _; simp only [bY.ai,jl.ai,eU.ai,ig.ai,iD.ai,gp.ai,mu.ai,ny.ai,pk.ai,ib.ai,fi.ai,bm.ai,fe.ai,pT.ai,gI.ai,ow.ai,fC.ai,tU.ai,lM.ai,kq,fU,sm,iE,qM,rY,um])) (hl:l.length<=rI:=by simp only [rI]; first | omega | (simp<;>omega)):Q:=by
 obtain ⟨r,h1,h2⟩:=QI hS hi hl
 grind
end
def Pw (k:Bool) (R:List gh) (ix:List (Nat×Nat)) (live:List Nat) (e:Env):Env:=live.map λt=>(t,match Cm t ix with
 | some i=>(match k with
   | true=>keep t (DI R i)
   | false=>DI R i)
 | none=>keep t (j5 e t))
theorem Rz {H:au} {L:List gh} (hS:Sep H L) (ix:List (Nat×Nat)) (live:List Nat) (e:Env):Pw true L ix live e=Pw false L ix live e:=by
 refine List.map_congr_left λt _=>?_
 cases Cm t ix with
 | none=>rfl
 | some i =>
   simp only [DI]
   cases hi:L[i]? with
   | none=>rfl
   | some r=>rw [hS.yC hi t]
def wk {C:gv} {F:gX} {Pr:gQ} {fa:eY} {c:Code} {an:ga} {Q:Ex->Env->au->Prop} {live:List Nat} {e:Env} {h H0:au} {R:List gh} (hS:Sep H0 R) (ix:List (Nat×Nat)) (w:Wp C F Pr fa c an Q (Pw false R ix live e) { h with aT:=iu live h.aT }) (he:proj live e=Pw true R ix live e:=by rfl):Wp C F Pr fa c an Q (proj live e) { h with aT:=iu live h.aT }:=by
 grind [Rz]
end Go.Sx
namespace Go.Sx
open Go Go.Lib
section
variable {C:gv} {F:gX} {Pr:gQ} {fa:eY} {e:Env} {H:au} {ls:List (Nat×List AV)} {L:List gh} {i:Nat} {w tt:Bool} {v:AV} {n:Nat}
end
section
variable {α:Type} [Inhabited α] [DecidableEq α]
theorem QD {l:List α} {k:Nat} {x : α} {hk:k<l.length} (hq:l[k]=x):l.toArray[k]! = x:=by
 grind
def LK (l:List α) (k:Int):Prop:=1<=k/\k<=(l.length:Int)/\∀ j:Nat,(j:Int)<k->keeps l.toArray j=true
def LK.step {l:List α} {k:Int} {a b:Nat} {x y : α} (h:LK l k) {ha:a<l.length} (hx:l[a]=x) (ea:(a:Int)=k) {hb:b<l.length} (hy:l[b]=y) (eb:(b:Int)=k - 1) (hne:¬ x=y):LK l (k+1):=by
 refine ⟨by omega,by omega,λj hj=>?_⟩
 by_cases e:(j:Int)<k
 ·exact h.2.2 j e
 grind [keeps_pos]
def LK.all {l:List α} {k:Int} (h:LK l k) (hk:¬ k<(l.length:Int)):l=compact l:=(compact_all l λj hj=>h.2.2 j (by omega)).symm
def yO (l:List α) (m k:Int) (l':List α):Prop:=0<=m/\0<=k/\m<=(l.length:Int)/\CompInv l.toArray m.toNat k.toNat l'.toArray
theorem yO.len {l l':List α} {m k:Int} (h:yO l m k l'):l'.length=l.length/\k<m:=by
 have h1:=h.2.2.2.size
 have h2:=h.2.2.2.lt
 grind
theorem yO.at {l l':List α} {m k:Int} (h:yO l m k l') {a:Nat} {x : α} {ha:a<l'.length} (hx:l'[a]=x) (hm:k<=(a:Int)):l.toArray[a]! = x:=by
 rw [<- h.2.2.2.high a (by omega),QD hx]
theorem yO.keep {l l':List α} {m k:Int} {a b:Nat} {x y : α} (h:yO l m k l') {ha:a<l'.length} (hx:l'[a]=x) (ea:(a:Int)=m) {hb:b<l'.length} (hy:l'[b]=y) (eb:(b:Int)=m - 1) (hne:¬ x=y) {q:Nat} (eq:(q:Int)=k):yO l (m+1) (k+1) (l'.set q x):=by
 obtain ⟨h1,h2⟩:=h.len
 have h3:=h.1
 have h4:=h.2.1
 have hx2:=h.at hx (by omega)
 have hy2:=h.at hy (by omega)
 have hk:keeps l.toArray m.toNat=true:=by
  grind [keeps_pos]
 have hc:=h.2.2.2.keep (by grind) hk
 refine ⟨by omega,by omega,by omega,?_⟩
 grind
def yO.skip {l l':List α} {m k:Int} {a b:Nat} {x y : α} (h:yO l m k l') {ha:a<l'.length} (hx:l'[a]=x) (ea:(a:Int)=m) {hb:b<l'.length} (hy:l'[b]=y) (eb:(b:Int)=m - 1) (he:x=y):yO l (m+1) k l':=by
 obtain ⟨h1,h2⟩:=h.len
 have h3:=h.1
 have hx2:=h.at hx (by omega)
 have hy2:=h.at hy (by omega)
 refine ⟨by omega,h.2.1,by omega,?_⟩
 obtain rfl:a=m.toNat:=by omega
 obtain rfl:b=m.toNat - 1:=by omega
 rw [show (m+1).toNat=m.toNat+1 by omega]
 exact h.2.2.2.skip (keeps_neg (by omega) (by grind))
def yO.done {l l':List α} {m k:Int} (h:yO l m k l') (hm:(l.length:Int)<=m) {q:Nat} (eq:(q:Int)=k) {z:List α}:(l'.take q++z).take q=compact l:=by
 obtain ⟨h1,h2⟩:=h.len
 have hm2:m.toNat=l.length:=by have:=h.2.2.1; omega
 have hi:=h.2.2.2
 obtain rfl:q=k.toNat:=by omega
 rw [hm2] at hi
 have hlen:(compact l).length=k.toNat:=hi.len
 have hq:k.toNat<=l'.length:=by omega
 rw [List.take_append_of_le_length (by grind),List.take_take,Nat.min_self]
 apply List.ext_getElem?
 intro j
 by_cases hj:j<k.toNat
 ·rw [List.getElem?_take_of_lt hj]
  have:=hi.low j hj
  grind [compact,compactUpTo]
 grind
def aaW {lt : α->α->Prop} (tr:∀ a b c,lt a b->lt b c->lt a c) {l:List α} (h:l.Pairwise λa b=>a=b\/lt a b):(compact l).Pairwise lt/\∀ x,x∈compact l↔x∈l:=by
 have hp:=List.pairwise_iff_getElem.mp h
 have key:∀ i j:Nat,i<=j->j<l.length->l.toArray[i]! = l.toArray[j]!\/lt (l.toArray[i]!) (l.toArray[j]!):=by
  grind
 have main:∀ m:Nat,m<=l.length->(compactUpTo l.toArray m).Pairwise lt/\∀ x,x∈compactUpTo l.toArray m↔∃ i,i<m/\l.toArray[i]! = x:=by
  intro m
  induction m with
  | zero=>simp_all [compactUpTo]
  | succ m ih =>
    intro hm
    obtain ⟨h1,h2⟩:=ih (by omega)
    rw [compactUpTo_succ]
    by_cases hk:keeps l.toArray m=true
    ·rw [if_pos hk]
     refine ⟨?_,λx=>?_⟩
     ·refine List.pairwise_append.mpr ⟨h1,by simp,λa ha b hb=>?_⟩
      simp only [List.mem_singleton] at hb
      subst hb
      obtain ⟨i,hi,rfl⟩:=(h2 a).mp ha
      have h5:l.toArray[m]!≠l.toArray[m - 1]!:=by
       have:=of_decide_eq_true hk
       grind
      have h4:lt (l.toArray[m - 1]!) (l.toArray[m]!):=(key (m - 1) m (by omega) (by omega)).resolve_left λe=>h5 e.symm
      rcases key i (m - 1) (by omega) (by omega) with e | h3<;>grind
     grind
    ·rw [if_neg hk,List.append_nil]
     refine ⟨h1,λx=>(h2 x).trans ⟨λ⟨i,hi,e⟩=>⟨i,by omega,e⟩,?_⟩⟩
     rintro ⟨i,hi,rfl⟩
     rcases Nat.lt_or_ge i m with h | h
     ·grind
     ·obtain rfl:i=m:=by omega
      have h6:¬ (i=0\/l.toArray[i]!≠l.toArray[i - 1]!):=λhh=>hk (decide_eq_true hh)
      grind
 obtain ⟨h1,h2⟩:=main l.length (Nat.le_refl _)
 refine ⟨h1,λx=>(h2 x).trans ?_⟩
 constructor
 ·grind
 ·intro hx
  obtain ⟨i,hi,rfl⟩:=List.mem_iff_getElem.mp hx
  grind
end
def Iz {α:Type} {lt : α->α->Prop} (ir:∀ a,¬ lt a a) (tr:∀ a b c,lt a b->lt b c->lt a c):∀ {l m:List α},l.Pairwise lt->m.Pairwise lt->(∀ x,x∈l↔x∈m)->l=m
 | [],[],_,_,_=>rfl
 | [],b::m,_,_,h=>absurd ((h b).mpr (by simp)) (by simp)
 | a::l,[],_,_,h=>absurd ((h a).mp (by simp)) (by simp)
 | a::l,b::m,hl,hm,h=>by
   obtain ⟨l1,l2⟩:=List.pairwise_cons.mp hl
   obtain ⟨m1,m2⟩:=List.pairwise_cons.mp hm
   have hab:a=b:=by
    rcases List.mem_cons.mp ((h a).mp (by simp)) with e | ha
    ·exact e
    ·rcases List.mem_cons.mp ((h b).mpr (by simp)) with e | hb
     ·exact e.symm
     ·exact absurd (tr _ _ _ (l1 b hb) (m1 a ha)) (ir a)
   subst hab
   congr 1
   refine Iz ir tr l2 m2 λx=>?_
   constructor
   ·intro hx
    rcases List.mem_cons.mp ((h x).mp (List.mem_cons_of_mem _ hx)) with e | hm2
    ·subst e; exact absurd (l1 x hx) (ir x)
    ·exact hm2
   ·intro hx
    rcases List.mem_cons.mp ((h x).mpr (List.mem_cons_of_mem _ hx)) with e | hl2
    ·subst e; exact absurd (m1 x hx) (ir x)
    ·exact hl2
end Go.Sx
namespace Go.Sx
open Go Go.Proofs Go.Sort
def vQ (x:bm):Int×Int:=(x.elem,x.pos)
def Gh (p:Int×Int):bm:=⟨p.1,p.2⟩
theorem HZ {n:Int} (h:ky n):zp (.int .i64 n)=some n:=by
 simp only [zp]
 exact if_pos (by unfold ky at h; omega)
theorem Fu:∀ {l:List bm},(∀ x∈l,ky x.elem/\ky x.pos)->sH (l.map bm.ai)=some (l.map vQ)
 | [],_=>rfl
 | x::l,h=>by
   have hx:=h x (by simp)
   have e:zU (bm.ai x)=some (vQ x):=by
    simp only [zU,bm.ai,HZ hx.1,HZ hx.2]
    rfl
   simp only [List.map_cons,sH,e,Fu λy hy=>h y (List.mem_cons_of_mem _ hy)]
def KN {α:Type} [Inhabited α] {tp : α->Int×Int} {dec:Int×Int->Option α} {g:Nat} {cf : α->α->Int} {C:gv} {F0:gX} {Pr:gQ} {f:Nat} {Q:Bool->List AV->au->R2} (hp:Pr f=some Q) (hQ:∀ v h,Q true [v,.gx g [] []] h=mg tp dec g cf true [v,.gx g [] []] h) {H:au} {t:Bool} {v:AV} {l:List bm} {F:List gh} (hS:Sep H (.sl true t v 2 (l.map bm.ai)::F)) (q1:l.length<=1000000) (q2:∀ x∈l,ky x.elem/\ky x.pos) {ds:List α} (hd:Ar dec (l.map vQ)=some ds) (hl:(nh cf ds).length=l.length) :
  ∃ u H',fh C F0 Pr true f [v,.gx g [] []] { H with aT:=[] } u H'/\u=.fG []/\Sep H' (.sl true t v 2 (((nh cf ds).map λa=>Gh (tp a)).map bm.ai)::F):=by
 have hcall:∀ (H':au),mg tp dec g cf true [v,.gx g [] []] { H with aT:=[] }=some (.fG [],H')->fh C F0 Pr true f [v,.gx g [] []] { H with aT:=[] } (.fG []) H':=by
  intro H' h
  refine ⟨1,λk hk=>?_⟩
  cases k with
  | zero=>omega
  | succ k=>simp only [gP,hp]; rw [hQ,h]
 have hen:(((nh cf ds).map λa=>Gh (tp a)).map bm.ai)=((nh cf ds).map tp).map ko:=by
  simp only [List.map_map]; rfl
 have vc:(((nh cf ds).map λa=>Gh (tp a)).map bm.ai).length=(l.map bm.ai).length:=by simp [hl]
 obtain ⟨hxl,hc⟩:=hS.at (i:=0) rfl
 have nil:l=[]->mg tp dec g cf true [v,.gx g [] []] { H with aT:=[] }=some (.fG [],{ H with aT:=[] })->∃ u H',fh C F0 Pr true f [v,.gx g [] []] { H with aT:=[] } u H'/\u=.fG []/\Sep H' (.sl true t v 2 (((nh cf ds).map λa=>Gh (tp a)).map bm.ai)::F):=by
  rintro rfl h
  have:nh cf ds=[]:=List.eq_nil_of_length_eq_zero hl
  rw [this]
  exact ⟨_,_,hcall _ h,rfl,hS.aT _⟩
 rcases hc with ⟨h0,rfl⟩ | ⟨h0 | h0,rfl⟩ | ⟨b,gg,j,hb,rfl,hg,htj⟩
 ·have hln:=List.map_eq_nil_iff.mp h0
  subst hln
  exact nil rfl (by simp only [mg,Nat.beq_refl,List.map_nil])
 ·cases h0
 ·have:=List.map_eq_nil_iff.mp h0
  subst this
  exact nil rfl (by simp only [mg,Nat.beq_refl,List.map_nil])
 ·cases hl2:l with
  | nil=>subst hl2; exact nil rfl (by simp only [mg,Nat.beq_refl,List.map_nil,List.length_nil])
  | cons x t' =>
    have hlen:(l.map bm.ai).length=t'.length+1:=by rw [hl2]; simp
    have hlob:H.lo<=b:=au.kV hg
    have hr:mg tp dec g cf true [.hs b gg 0 (l.map bm.ai).length,.gx g [] []] { H with aT:=[] }=some (.fG [],{ H.set b (.fc gg 2 (((nh cf ds).map tp).map ko++j)) with aT:=[] }):=by
     rw [hlen]
     have hk:sH (((l.map bm.ai++j).drop 0).take (t'.length+1))=some (l.map vQ):=by
      rw [List.drop_zero,<- hlen,List.take_left]
      exact Fu q2
     have hb2:(Nat.ble (0+(t'.length+1)) (l.map bm.ai++j).length&&Nat.ble (t'.length+1) 1000000)=true:=by
      rw [Bool.and_eq_true,Nat.ble_eq,Nat.ble_eq,List.length_append,<- hlen]
      rw [List.length_map] at hlen ⊢
      omega
     have hput:putAt (l.map bm.ai++j) 0 (t'.length+1) (((nh cf ds).map tp).map ko)=((nh cf ds).map tp).map ko++j:=by
      unfold putAt
      rw [Nat.zero_add,<- hlen,List.drop_left]
      rfl
     simp only [mg,Nat.beq_refl,au.iG,hg,Bool.true_and,hb2,hk,hd,hput,au.mE]
    rw [<- hl2]
    rw [<- hen] at hr
    refine ⟨_,_,hcall _ hr,rfl,Sep.aT ?_ _⟩
    refine (hS.mq (i:=0) rfl (r':=.sl true t (.hs b gg 0 (l.map bm.ai).length) 2 (((nh cf ds).map λa=>Gh (tp a)).map bm.ai)) (by simpa using hS.lo) (by simp) ⟨?_,.inr (.inr ⟨b,gg,j,by simp_all,by rw [vc],?_,htj⟩)⟩ ?_ ?_)
    ·intro z hz
     simp only [List.mem_map] at hz
     obtain ⟨y,_,rfl⟩:=hz
     rfl
    ·grind [au.ja]
    ·intro b' hb' hne; rw [au.ja,if_neg (by rintro ⟨rfl,_⟩; exact hne rfl)]
    ·intro b' hb'; exact .inl hb'
end Go.Sx
namespace Go.Sx
open Go Go.Proofs Go.Sort Go.RowKit
def B7 (a b:bm):Prop:=a.elem<b.elem\/(a.elem=b.elem/\a.pos<b.pos)
def T4 (a:bm):¬ B7 a a:=by grind [B7]
def LO (a b c:bm) (h1:B7 a b) (h2:B7 b c):B7 a c:=by grind [B7]
def Ue (l lo:List bm):Prop:=lo.length=l.length/\lo.Pairwise (λa b=>a=b\/B7 a b)/\∀ x,x∈lo↔x∈l
abbrev Em:Type:={ p:Int×Int // 0<=p.1/\p.1<1000 }
instance:Inhabited Em:=⟨⟨(0,0),by decide⟩⟩
def tD (a:Em):Int×Int:=a.1
def Cp (p:Int×Int):Option Em:=if h:0<=p.1/\p.1<1000 then some ⟨p,h⟩ else none
def Mm (p:Int×Int) (a:Em) (h:Cp p=some a):tD a=p:=by
 unfold Cp at h
 split at h
 ·cases h; rfl
 ·cases h
def tl (a b:Em):Int:=a.1.1 - b.1.1
def Dx:SWO (ltOf tl):=by
 constructor<;>grind [ltOf,tl]
def HI:∀ (l:List bm),(∀ x∈l,0<=x.elem/\x.elem<1000)->∃ ds:List Em,Ar Cp (l.map vQ)=some ds/\ds.map tD=l.map vQ
 | [],_=>⟨[],rfl,rfl⟩
 | x::l,h=>by
   obtain ⟨ds,h1,h2⟩:=HI l λy hy=>h y (List.mem_cons_of_mem _ hy)
   have hx:Cp (vQ x)=some ⟨vQ x,h x (by simp)⟩:=by
    exact dif_pos (c:=0<=(vQ x).1/\(vQ x).1<1000) (h x (by simp))
   refine ⟨⟨vQ x,h x (by simp)⟩::ds,?_,?_⟩
   ·grind [Ar]
   ·simp only [List.map_cons,h2]; rfl
def Is {l:List bm} {ds:List Em} (h:ds.map tD=l.map vQ):((nh tl ds).map λa=>Gh (tD a)).length=l.length/\∀ x,x∈((nh tl ds).map λa=>Gh (tD a))↔x∈l:=by
 obtain ⟨hp,_⟩:=Ei Dx ds
 have hl:ds.length=l.length:=by simpa using congrArg List.length h
 refine ⟨by rw [List.length_map,hp.length_eq,hl],λx=>?_⟩
 rw [List.mem_map]
 constructor
 ·rintro ⟨p,hp2,rfl⟩
  have:tD p∈l.map vQ:=by grind
  obtain ⟨y,hy,e⟩:=List.mem_map.mp this
  rw [<- e]; exact hy
 ·intro hx
  have:vQ x∈ds.map tD:=by grind
  obtain ⟨p,hp2,e⟩:=List.mem_map.mp this
  exact ⟨p,hp.mem_iff.mpr hp2,by rw [e]; rfl⟩
def L6 [Inhabited bm] [DecidableEq bm] {l lo:List bm} (h:Ue l lo):(Lib.compact lo).Pairwise B7/\∀ x,x∈Lib.compact lo↔x∈l:=by
 obtain ⟨h1,h2⟩:=aaW LO h.2.1
 exact ⟨h1,λx=>(h2 x).trans (h.2.2 x)⟩
def Ba (S:bm->Prop) (e q:Int) (o:List bm):Prop:=o.Pairwise B7/\∀ x,x∈o↔(S x/\0<=x.elem/\1<=x.pos/\x.pos<=2/\(x.elem<e\/(x.elem=e/\x.pos<q)))
def Ba.zero {S:bm->Prop}:Ba S 0 1 []:=⟨.nil,λx=>by grind⟩
def Ba.no {S:bm->Prop} {e q:Int} {o:List bm} (h:Ba S e q o) (hs:¬ S ⟨e,q⟩):Ba S e (q+1) o:=by
 refine ⟨h.1,λx=>?_⟩
 rw [h.2 x]
 obtain ⟨x1,x2⟩:=x
 grind
theorem Ba.next {S:bm->Prop} {e q:Int} {o:List bm} (h:Ba S e q o) (hq:q=3):Ba S (e+1) 1 o:=by
 refine ⟨h.1,λx=>?_⟩
 rw [h.2 x]
 grind
def Ba.eq [Inhabited bm] [DecidableEq bm] {S:bm->Prop} {e:Int} {o l lo r:List bm} (h:Ba S e 1 o) (hr:r=Lib.compact lo) (hl:Ue l lo) (hS:∀ x,x∈l↔S x) (hb:∀ x,S x->0<=x.elem/\x.elem<e/\1<=x.pos/\x.pos<=2):r=o:=by
 obtain ⟨h1,h2⟩:=L6 hl
 subst hr
 refine Iz T4 LO h1 h.1 λx=>?_
 rw [h2 x,hS x,h.2 x]
 grind
end Go.Sx
namespace Go.Sx
open Go Go.Proofs Go.RowKit Go.Maps Go.Sort
end Go.Sx
namespace Go.Sx
open Go
section
variable {X:Ctx} {e:Env} {h:au} {d:Option Nat} {ti te:TI} {t el n k dd:Nat} {x y:Operand} {l:List Bool} {b:Bool}
def C6 (hT:X.C.T t=some ti) (hk:ti.kind=.array n el) (hE:X.C.T el=some te) (hz:te.size=1) (hx:fg e x=.la dd 0) (hy:fg e y=.int .i64 (k:Int)) (hn:k<n):gd (.indexAddr t x y) X e h d=some (.la dd k,h):=by
 have hai:pV (.int .i64 (k:Int))=some k:=rfl
 have hlt:Nat.blt k n=true:=by simp_all
 simp only [gd,oK,nE,hT,hk,hE,hx,hy,hai,hlt,BO,L7,mA,iJ,hz,Nat.mul_one,Nat.zero_add]
end
def ym (p:bY) (e:Int):Int:=if e<0 then 0 else match p.elems.l[e.toNat]? with
 | some x=>x.len
 | none=>0
def Fp {p:bY} {e:Int} (h:e<0\/e>=p.elems.l.length):ym p e=0:=by
 grind [ym]
def Iy {p:bY} {e:Int} {x:jl} (h0:0<=e) (hx:e.toNat<p.elems.l.length) (hq:p.elems.l[e.toNat]=x):ym p e=x.len:=by
 grind [ym]
def LH {α:Type} {l:List α} {k:Nat} {x y : α} {hk:k<l.length} (h:l[k]=x) (e:x=y):y∈l:=by
 grind
def O9 {α:Type} {l:List α} {k:Nat} {y : α} (h:∀ (i:Nat) (hi:i<l.length),i<k->¬ l[i]=y) (hk:l.length<=k):y∉l:=by
 intro hy
 obtain ⟨i,hi,e⟩:=List.mem_iff_getElem.mp hy
 grind
def Xn (p:bY) (s:mu) (e:Int):Bool:=if kp p e=1 then decide (IntKind.i64.wrap (s.len+p.gu)<=ym p e) else decide (kp p e=4)
def aaP (l:List iD) (i:Int):Int:=match tq l i with
 | some x=>x.elem
 | none=>-1
def stL (B:Int->Int) (r:pk) (leg:Int):Int:=if leg=0 then B r.from_ else match r.nc.l[(leg - 1).toNat]? with
 | none=>-1
 | some l=>if l.end_=1 then B l.to else if l.end_=3 then l.to else -1
def stG (B:Int->Int) (d:ib) (run leg:Int):Int:=if run<0 then -1 else match d.runs.l[run.toNat]? with
 | none=>-1
 | some r=>if leg<0\/leg > r.nc.l.length then -1 else stL B r leg
section
variable {B:Int->Int} {d:ib} {run leg:Int} {x:pk} {y:ny}
end
def NY (r:fe):Int:=match r.steps.l[((r.steps.l.length:Int) - 1).toNat]? with
 | some s=>s.elem
 | none=>0
def Vh (r:fe) (l:ny):Bool:=decide (r.end_=l.end_/\0<r.steps.l.length/\if l.end_=1 then r.to=l.to else NY r=l.to)
def TS {α:Type} (P : α->Bool):Nat->List α->List Int
 | _,[]=>[]
 | i,a::l=>if P a=true then (i:Int)::TS P (i+1) l else TS P (i+1) l
section
variable {α:Type} {P : α->Bool} {l:List α} {k:Nat} {x : α} {o:List Int}
end
def JT (p:bY) (d:ib) (run leg:Int):Int:=tM true (tq p.signals.l) (j8 p.fj.l) (kp p) (λx=>(nC p.signals.l x).getD (-1)) d run leg
def Gp (p:bY) (d:ib) (run leg:Int):Int:=stG (aaP p.signals.l) d run leg
def aaQ (p:bY) (d:ib) (run leg:Int) (r:fe):Bool:=match d.runs.l[run.toNat]? with
 | none=>false
 | some x=>match x.nc.l[leg.toNat]?,d.kJ.l[x.kJ.toNat]? with
   | some l,some k=>decide (0<=x.kJ/\r.from_=JT p d run leg/\Vh r l=true/\r.bare=false/\¬ Gp p d run leg∈r.gB.l/\Xn p k (NY r)=true)
   | _,_=>false
def Fc (p:bY) (L:List fe) (d:ib) (run leg:Int):List Int:=if JT p d run leg<0 then [] else TS (aaQ p d run leg) 0 L
section
variable {p:bY} {d:ib} {run leg:Int} {r:fe} {x:pk} {l:ny} {k:mu} {L:List fe} {f:Int}
end
structure N0 (n:fw):Prop where
 next:∀ x,look x n.next=j8 n.p.fj.l x
 reads:∀ x,look x n.reads=nC n.p.signals.l x
 en:∀ i x,tq n.p.signals.l i=some x->0<=x.en
 YT:Eu n.line n.p
def N0.from_ {n:fw} (h:N0 n) {d:ib} {run leg:Int}:tM false (tq n.p.signals.l) (λx=>look x n.next) (kp n.p) (λx=>(look x n.reads).getD (-1)) d run leg=JT n.p d run leg:=by
 have h1:(λx=>look x n.next)=j8 n.p.fj.l:=funext h.next
 have h2:(λx=>(look x n.reads).getD (-1))=(λx=>(nC n.p.signals.l x).getD (-1)):=by funext x; rw [h.reads]
 rw [h1,h2,Ni h.en]; rfl
def Sf (p:bY) (len:Int) (t:ow):Int :=
 if len<1\/4000<len\/(¬ kp p t.at_.elem=4/\¬ kp p t.at_.elem=1)\/t.at_.en<0\/(if kp p t.at_.elem=1 then 2 else 1)<=t.at_.en then 1
 else if (nC p.signals.l t.at_).getD (-1)<0 then 7
 else if kp p t.at_.elem=4 then (if t.left=0 then 0 else 1)
 else if t.left<0\/ym p t.at_.elem<t.left then 1
 else if ym p t.at_.elem<IntKind.i64.wrap (t.left+len) then 9 else 0
def JU (p:bY) (d:ib) (i:Nat):Int:=Sf p (aaA d i) (LP p d i)
def DC (p:bY) (d:ib) (i:Nat):List Int:=Rl p [(LP p d i).at_]
def AG (L:Nat->List Int) (k:Nat):Prop:=∃ i j,i<j/\j<k/\∃ x∈L i,x∈L j
def AG.mono {L:Nat->List Int} {k m:Nat} (h:AG L k) (hk:k<=m):AG L m:=by
 obtain ⟨i,j,h1,h2,h3⟩:=h
 exact ⟨i,j,h1,by omega,h3⟩
def xf (p:bY) (d:ib) (r:Int):Prop :=
 (∃ i,i<d.runs.l.length/\r=JU p d i/\r≠0/\∀ j,j<i->JU p d j=0) \/
 ((∀ i,i<d.runs.l.length->JU p d i=0)/\((r=0/\¬ AG (DC p d) d.runs.l.length)\/(r=18/\AG (DC p d) d.runs.l.length)))
theorem xf.w4 {p:bY} {d:ib} {r s:Int} (h1:xf p d r) (h2:xf p d s):r=s:=by
 rcases h1 with ⟨i,hi,h1,h3,h4⟩ | ⟨h1,h3⟩<;>rcases h2 with ⟨j,hj,h5,h6,h7⟩ | ⟨h5,h6⟩<;>grind
structure An (L:Nat->List Int) (k:Nat) (r:List Int) (m:List (Int×Bool)) (e:Int):Prop where
 src:∀ x,look x m=some true->(∃ i,i<k/\x∈L i)\/x∈r
 err:e=0\/e=18/\AG L (k+1)
def An.zero (L:Nat->List Int):An L 0 [] [] 0:=⟨λx h=>by simp [look] at h,.inl rfl⟩
theorem An.put {L:Nat->List Int} {k j:Nat} {r:List Int} {m:List (Int×Bool)} {e:Int} {x:Int} (h:An L k (r.take j) m e) (hj:j<r.length) (hq:r[j]=x):An L k (r.take (j+1)) (put x true m) e:=by
 refine ⟨λy hy=>?_,h.err⟩
 rw [qI hj hq]
 by_cases hxy:y=x
 ·grind
 ·have:look y m=some true:=by grind [j6]
  rcases h.src y this with h1 | h1<;>grind
def An.Qb {L:Nat->List Int} {k j:Nat} {r:List Int} {m:List (Int×Bool)} {e e':Int} {x:Int} (h:An L k (r.take j) m e) (hj:j<r.length) (hq:r[j]=x) (hr:r=L k) (h1:r.length<=1) (hl:look x m=some true) (he:e'=18):An L k (r.take (j+1)) (Go.Sx.put x true m) e':=by
 have h2:=h.put hj hq
 refine ⟨h2.src,.inr ⟨he,?_⟩⟩
 have hj0:j=0:=by omega
 subst hj0
 rcases h.src x hl with ⟨i,hi,hx⟩ | hx
 ·exact ⟨i,k,hi,by omega,x,hx,by grind⟩
 grind
def An.done {L:Nat->List Int} {k j:Nat} {r:List Int} {m:List (Int×Bool)} {e:Int} (h:An L k (r.take j) m e) (hj:r.length<=j) (hr:r=L k):An L (k+1) [] m e:=by
 rw [List.take_of_length_le hj,hr] at h
 refine ⟨λx hx=>?_,?_⟩
 ·rcases h.src x hx with ⟨i,hi,h1⟩ | h1<;>grind
 ·rcases h.err with h1 | ⟨h1,h2⟩
  ·omega
  ·exact .inr ⟨h1,h2.mono (by omega)⟩
def Br (n:Int):Prop:=(97<=n/\n<=122)\/(65<=n/\n<=90)
def Dm (i:Nat) (n:Int):Prop:=Br n\/(0<i/\48<=n/\n<=57)
def yb (s:List UInt8):Prop:=1<=s.length/\s.length<=8/\∀ (i:Nat) (h:i<s.length),Dm i ((s[i]).toNat:Int)
def Qw {s:List UInt8} {k:Nat} {c:UInt8} {hk:k<s.length} (hq:s[k]=c) (h:∀ (i:Nat) (h:i<s.length),i<k->Dm i ((s[i]).toNat:Int)) (hc:Dm k (c.toNat:Int)):∀ (i:Nat) (h:i<s.length),i<k+1->Dm i ((s[i]).toNat:Int):=by
 grind
theorem HR {s:List UInt8} {k:Nat} {c:UInt8} {hk:k<s.length} (hq:s[k]=c) (h:yb s) (hl:¬ Br (c.toNat:Int)) (hd:k=0\/(c.toNat:Int)<48\/(c.toNat:Int) > 57):False:=by
 have:=h.2.2 k hk
 rw [hq] at this
 rcases this with h1 | h1<;>grind
def Ft {s:List UInt8} {k:Nat} {c d:UInt8} {hk:k<s.length} (hq:s[k]=c) (h:yb s) (hl:¬ Br (c.toNat:Int)) (hd:(d.toNat:Int)<48\/(d.toNat:Int) > 57) (hq2:s[k]=d):False:=by
 grind [HR]
def Rh (s:mu):Prop:=yb s.name.l/\1<=s.len/\s.len<=4000/\1<=s.top/\s.top<=60/\1<=s.acc/\s.acc<=10/\1<=s.gD/\s.gD<=10
def WC (l:List mu):Prop:=l.length<=4/\(∀ s∈l,Rh s)/\∀ (i j:Nat) (h:j<l.length) (hij:i<j),¬ (l[i]).name.l=(l[j]).name.l
def Nj (p:bY) (l:List mu):Prop:=WC l/\∀ s∈l,s.top<=p.top/\p.gD<=s.gD
def Xp (p:bY) (x:ny):Prop:=(x.end_=1/\0<=x.to/\x.to<(p.signals.l.length:Int))\/(x.end_=2/\kp p x.to=4)\/(x.end_=3/\kp p x.to=1)
def atB (l:List ny):Nat->Int
 | 0=>0
 | k+1=>match l[k]? with
   | some x=>x.at_
   | none=>0
def Vl (p:bY) (l:List ny) (i:Nat) (x:ny):Prop:=0<=x.at_/\atB l i<=x.at_/\x.at_<=2000/\Xp p x
def TE (p:bY) (l:List ny):Prop:=∀ (i:Nat) (h:i<l.length),Vl p l i l[i]
def Vq (p:bY) (d:ib) (r:pk):Prop:=yb r.name.l/\(0<=r.kJ/\r.kJ<(d.kJ.l.length:Int))/\(0<=r.from_/\r.from_<(p.signals.l.length:Int))/\(0<=r.left/\r.left<=4000)/\TE p r.nc.l
structure RQ (p:bY) (d:ib):Prop where
 runs:d.runs.l.length<=8
 nc:∀ r∈d.runs.l,r.nc.l.length<=12
 stk:Nj p d.kJ.l
 beg:0<=d.CA/\d.CA<=86399
 ok:∀ r∈d.runs.l,Vq p d r
 name:∀ (i j:Nat) (h:j<d.runs.l.length) (hij:i<j),¬ (d.runs.l[i]).name.l=(d.runs.l[j]).name.l
theorem RQ.qE {p:bY} {d:ib} (h:RQ p d):IS d:=⟨h.runs,λr hr=>⟨h.nc r hr,(h.ok r hr).2.1⟩⟩
def Li (p:bY) (L:List fe) (d:ib) (i:Nat):Prop:=∃ x,d.runs.l[i]?=some x/\(x.nc.l.length=0\/(∃ y,x.nc.l[((x.nc.l.length:Int) - 1).toNat]?=some y/\y.end_≠2)\/∃ j:Nat,j<x.nc.l.length/\Fc p L d i j=[])
def Gw (p:bY) (L:List fe) (d:ib) (r:Int):Prop :=
 ((∃ s∈p.signals.l,s.auto=true)/\r=7)\/((∀ s∈p.signals.l,s.auto=false)/\∃ e,xf p d e/\((e≠0/\r=e)\/(e=0/\((r=10/\∃ i,i<d.runs.l.length/\Li p L d i)\/(r=0/\∀ i,i<d.runs.l.length->¬ Li p L d i)))))
theorem Gw.w4 {p:bY} {L:List fe} {d:ib} {r s:Int} (h1:Gw p L d r) (h2:Gw p L d s):r=s:=by
 rcases h1 with ⟨⟨x,hx,ha⟩,h3⟩ | ⟨h3,e,he,h4⟩<;>rcases h2 with ⟨⟨y,hy,hb⟩,h5⟩ | ⟨h5,f,hf,h6⟩
 ·omega
 ·grind
 ·grind
 ·have:=he.w4 hf
  grind
section
variable {p:bY} {L:List fe} {d:ib} {k j:Nat} {x:pk} {y:ny} {e:Int}
def AtK (p:bY) (d:ib) (k:Nat) (l:List Int):Prop:=∀ x,x∈l↔∃ i,i<k/\x∈DC p d i
def AtK.zero:AtK p d 0 []:=λx=>by simp
def AtK.snoc {l:List Int} {z:Int} (h:AtK p d k l) (hz:DC p d k=[z]):AtK p d (k+1) (l++[z]):=by
 intro x
 rw [List.mem_append,h x]
 grind
def AtK.same {l:List Int} (h:AtK p d k l) (hz:DC p d k=[]):AtK p d (k+1) l:=by
 intro x
 rw [h x]
 grind
def AtK.Qb {l:List Int} {z:Int} {s:List Int} (h:AtK p d k l) (hs:s=l) (hz:DC p d k=[z]) (hi:z∈s) (hE:∀ i,i<j->JU p d i=0) (h1:d.runs.l.length<=j) (hk:k<d.runs.l.length):xf p d 18:=by
 subst hs
 obtain ⟨i,hik,h2⟩:=(h z).mp hi
 exact .inr ⟨λi hi=>hE i (by omega),.inr ⟨rfl,i,k,hik,hk,z,h2,by grind⟩⟩
end
def XL {p:bY} (h:∀ e∈p.elems.l,(1<=e.kind/\e.kind<=4)/\(e.kind=4->e.len=0)):MF p:=h
def Vi {p:bY} {k:Nat} (h:∀ (i:Nat) (h:i<p.fj.l.length),i<k->uT p (p.fj.l[i]).a/\uT p (p.fj.l[i]).b) (hk:p.fj.l.length<=k):JV p:=Bk (P:=λj:ig=>uT p j.a/\uT p j.b) h hk
def Yd {p:bY} {e:Int} {el:jl} (h0:0<=e) {hx:e.toNat<p.elems.l.length} (hq:p.elems.l[e.toNat]=el) (h1:el.kind=1):VL p e:=⟨⟨h0,by omega⟩,by grind [uu]⟩
def Qo {m:List (Int×Int×Int)} {ld:List (Int×Int)} (h:xM m ld) {e v:Int} {c:Int×Int}:xM (put e c m) (put e v ld):=by
 intro d y hd
 by_cases hde:d=e
 ·simp_all [j6]
 ·obtain ⟨w,hw⟩:=h d y (by grind [j6])
  grind [j6]
structure wS (p:bY) (k j:Nat) (m:List (Int×Bool)):Prop where
 val:∀ (i:Nat) (h:i<p.lines.l.length),i<k->∀ e∈(p.lines.l[i]).elems.l,VL p e/\look e m=some true
 Kv:∀ (i j:Nat) (h:j<p.lines.l.length) (hij:i<j),j<k->∀ e∈(p.lines.l[i]).elems.l,e∉(p.lines.l[j]).elems.l
 cur:∀ x,p.lines.l[k]?=some x->∀ e∈x.elems.l.take j,VL p e/\look e m=some true/\∀ (i:Nat) (h:i<p.lines.l.length),i<k->e∉(p.lines.l[i]).elems.l
section
variable {p:bY} {k j:Nat} {m:List (Int×Bool)} {x:gp} {e:Int}
def wS.zero:wS p 0 0 []:=⟨λ_ _ h=>by omega,λ_ _ _ _ h=>by omega,λ_ _ e h=>by simp at h⟩
theorem wS.put (h:wS p k j m) {hk:k<p.lines.l.length} (hq:p.lines.l[k]=x) {hj:j<x.elems.l.length} (he:x.elems.l[j]=e) (hv:VL p e) (hl:¬ look e m=some true):wS p k (j+1) (put e true m):=by
 have lp:∀ y,look y m=some true->look y (Go.Sx.put e true m)=some true:=λy hy=>zf hy
 refine ⟨λi hi hik y hy=>⟨(h.val i hi hik y hy).1,lp y (h.val i hi hik y hy).2⟩,h.Kv,λz hz y hy=>?_⟩
 rw [List.getElem?_eq_getElem hk,hq] at hz
 cases hz
 rw [qI hj he] at hy
 rcases List.mem_append.mp hy with hy | hy
 ·have:=h.cur x (by grind) y hy
  grind
 ·simp at hy; subst hy
  exact ⟨hv,by grind [j6],λi hi hik hm=>hl (h.val i hi hik _ hm).2⟩
theorem wS.next (h:wS p k j m) {hk:k<p.lines.l.length} (hq:p.lines.l[k]=x) (hj:x.elems.l.length<=j):wS p (k+1) 0 m:=by
 have hc:=h.cur x (by grind)
 rw [List.take_of_length_le hj] at hc
 refine ⟨λi hi hik e he=>?_,λi j2 hj2 hij hjk e he=>?_,λ_ _ e h=>by simp at h⟩
 ·rcases Nat.lt_succ_iff_lt_or_eq.mp hik with h1 | h1
  ·exact h.val i hi h1 e he
  grind
 ·rcases Nat.lt_succ_iff_lt_or_eq.mp hjk with h1 | h1
  ·exact h.Kv i j2 hj2 hij h1 e he
  grind
theorem wS.ok (h:wS p k 0 m) (hk:p.lines.l.length<=k):Jr p:=by
 refine ⟨λx hx e he=>?_,λi j hj hij=>h.Kv i j hj hij (by omega)⟩
 obtain ⟨i,hi,rfl⟩:=List.mem_iff_getElem.mp hx
 exact (h.val i hi (by omega) e he).1
end
def XM {p:bY} (h:JV p) (h40:p.elems.l.length<=40):∀ j∈p.fj.l,pc p j.a/\pc p j.b:=λj hj=>⟨⟨⟨(h j hj).1.1.1,by have:=(h j hj).1.1.2; omega⟩,(h j hj).1⟩,⟨(h j hj).2.1.1,by have:=(h j hj).2.1.2; omega⟩,(h j hj).2⟩
structure qx (p:bY) (k j:Nat) (m:List (Int×Int×Int)):Prop where
 snd:∀ e y,look e m=some y->(∃ (i:Nat) (h:i<p.lines.l.length),i<k/\y.1=(i:Int)/\e∈(p.lines.l[i]).elems.l)\/(y.1=(k:Int)/\∃ x,p.lines.l[k]?=some x/\e∈x.elems.l.take j)
 cmp:∀ (i:Nat) (h:i<p.lines.l.length),i<k->∀ e∈(p.lines.l[i]).elems.l,∃ q,look e m=some ((i:Int),q)
 cur:∀ x,p.lines.l[k]?=some x->∀ e∈x.elems.l.take j,∃ q,look e m=some ((k:Int),q)
section
variable {p:bY} {k j:Nat} {m:List (Int×Int×Int)} {x:gp} {e c:Int}
def qx.zero:qx p 0 0 []:=⟨λe y h=>by simp [look] at h,λ_ _ h=>by omega,λ_ _ e h=>by simp at h⟩
theorem qx.put (hp:Jr p) (h:qx p k j m) {hk:k<p.lines.l.length} (hq:p.lines.l[k]=x) {hj:j<x.elems.l.length} (he:x.elems.l[j]=e):qx p k (j+1) (put e ((k:Int),c) m):=by
 have hg:p.lines.l[k]?=some x:=by grind
 have hex:e∈x.elems.l:=by grind
 refine ⟨λd y hd=>?_,λi hi hik d hd=>?_,λz hz d hd=>?_⟩
 ·by_cases hde:d=e
  ·subst hde
   have:y=((k:Int),c):=by grind [j6]
   simp_all [qI]
  ·have hd2:look d m=some y:=by grind [j6]
   rcases h.snd d y hd2 with h1 | ⟨h1,z,hz,h2⟩<;>grind
 ·have hne:d≠e:=by
   rintro rfl
   exact hp.2 i k hk hik d hd (by grind)
  obtain ⟨q,hq2⟩:=h.cmp i hi hik d hd
  grind [j6]
 ·rw [hg] at hz; cases hz
  by_cases hde:d=e
  ·simp_all [j6]
  ·rw [qI hj he] at hd
   rcases List.mem_append.mp hd with hd | hd
   ·obtain ⟨q,hq2⟩:=h.cur x hg d hd
    grind [j6]
   grind
theorem qx.next (h:qx p k j m) {hk:k<p.lines.l.length} (hq:p.lines.l[k]=x) (hj:x.elems.l.length<=j):qx p (k+1) 0 m:=by
 have hg:p.lines.l[k]?=some x:=by grind
 refine ⟨λd y hd=>?_,λi hi hik d hd=>?_,λ_ _ e h=>by simp at h⟩
 ·rcases h.snd d y hd with ⟨i,hi,h1,h2⟩ | ⟨h1,z,hz,h2⟩<;>grind
 ·rcases Nat.lt_succ_iff_lt_or_eq.mp hik with h1 | h1
  ·exact h.cmp i hi h1 d hd
  ·subst h1
   rw [hq] at hd
   exact h.cur x hg d (by rwa [List.take_of_length_le hj])
theorem qx.ok (h:qx p k 0 m) (hk:p.lines.l.length<=k):Eu m p:=by
 refine ⟨λd y hd=>?_,λi hi d hd=>h.cmp i hi (by omega) d hd⟩
 rcases h.snd d y hd with ⟨i,hi,h1,h2,h3⟩ | ⟨h1,z,hz,h2⟩<;>grind
end
def zG (P:Int->Bool) (l l2:List Int) (i j:Int):Prop:=l2.take i.toNat=(l.take j.toNat).filter P/\l2.drop j.toNat=l.drop j.toNat
section
variable {P:Int->Bool} {l l2:List Int} {i j x y:Int}
def GO {l l2:List Int} {n:Nat} (h:l2.drop n=l.drop n) {h1:n<l2.length} (hq:l2[n]=x):∃ h2:n<l.length,l[n]=x:=by
 have h3:(l2.drop n)[0]?=some x:=by grind
 grind
def O2 {l l2:List Int} {n:Nat} (h:l2.drop n=l.drop n):l2.drop (n+1)=l.drop (n+1):=by
 have:∀ m:List Int,m.drop (n+1)=(m.drop n).drop 1:=λm=>by simp
 grind
theorem zG.keep (h:zG P l l2 i j) (h0:0<=i) (hij:i<j) {hj:j.toNat<l2.length} (hq:l2[j.toNat]=x) (hP:P x=true):zG P l (l2.set i.toNat x) (i+1) (j+1):=by
 have e1:(i+1).toNat=i.toNat+1:=by omega
 have e2:(j+1).toNat=j.toNat+1:=by omega
 obtain ⟨hl,hlq⟩:=GO h.2 hq
 refine ⟨?_,?_⟩
 ·rw [e1,e2,List.take_add_one,List.getElem?_set_self (by omega),List.take_add_one,List.getElem?_eq_getElem hl,hlq,Option.toList_some,List.filter_append,<- h.1,List.take_set_of_le (Nat.le_refl _)]
  simp [hP]
 ·rw [e2,List.drop_set_of_lt (by omega)]
  exact O2 h.2
def zG.skip (h:zG P l l2 i j) (h0:0<=i) (hij:i<j) {hj:j.toNat<l2.length} (hq:l2[j.toNat]=x) (hP:P x=false):zG P l l2 i (j+1):=by
 have e2:(j+1).toNat=j.toNat+1:=by omega
 obtain ⟨hl,hlq⟩:=GO h.2 hq
 refine ⟨?_,by rw [e2]; exact O2 h.2⟩
 rw [e2,List.take_add_one,List.getElem?_eq_getElem hl,hlq,Option.toList_some,List.filter_append,<- h.1]
 simp [hP]
def zG.done (h:zG P l l2 i j) (hj:(l.length:Int)<=j) (hi:i.toNat<=l2.length) {n:Nat}:(l2.take i.toNat++List.replicate n y).take i.toNat=l.filter P:=by
 rw [List.take_append_of_le_length (by grind),List.take_take,Nat.min_self,h.1,List.take_of_length_le (by omega)]
end
def Rs (ln:List (Int×Int×Int)) (ll:List gp) (x y:Int):Prop:=y=x\/∃ (l:Nat) (h:l<ll.length) (q:Int),look x ln=some ((l:Int),q)/\y∈(ll[l]).elems.l
section
variable {ln:List (Int×Int×Int)} {ll:List gp} {m mo:List (Int×Bool)} {x y r e:Int} {k:Nat} {L:gp} {E:Row Int}
end
def xY (l:List Int):Prop:=l.Pairwise (· < ·)
def xY.ext {l m:List Int} (h1:xY l) (h2:xY m) (h:∀ x,x∈l↔x∈m):l=m:=by
 induction l generalizing m with
 | nil=>cases m with
   | nil=>rfl
   | cons b m=>have:=(h b).mpr (by simp); grind
 | cons a l ih =>
   cases m with
   | nil=>have:=(h a).mp (by simp); grind
   | cons b m =>
     obtain ⟨ha,hl⟩:=List.pairwise_cons.mp h1
     obtain ⟨hb,hm⟩:=List.pairwise_cons.mp h2
     have hab:a=b:=by
      have h3:=(h a).mp (by simp)
      have h4:=(h b).mpr (by simp)
      grind
     subst hab
     congr 1
     refine ih hl hm λx=>?_
     grind
def LR {l:List Int} (h:l.Nodup):xY (iY l):=by
 have h1:=oZ l
 have h2:(iY l).Nodup:=(kF l).nodup_iff.mpr h
 exact (h1.and h2).imp λ⟨a,b⟩=>by omega
def RdS (ln:List (Int×Int×Int)) (ll:List gp) (rd:fe) (y:Int):Prop:=(∃ s∈rd.steps.l,Rs ln ll s.elem y)\/∃ z∈rd.gB.l,Rs ln ll z y
def Zk (ln:List (Int×Int×Int)) (ll:List gp) (L:List fe) (R:List Int) (k:Nat) (y:Int):Prop:=∃ i∈R.take k,∃ rd,L[i.toNat]?=some rd/\RdS ln ll rd y
section
variable {ln:List (Int×Int×Int)} {ll:List gp} {L:List fe} {R:List Int} {k j:Nat} {m mo:List (Int×Bool)} {i:Int} {rd:fe} {s:fi} {z:Int}
end
section
variable {l:List Bool} {x y:Int} {b:Bool}
end
def ClK (p:bY) (B:Int->Prop) (k:Nat) (y:Int):Prop:=B y\/∃ (i:Nat) (h:i<p.lines.l.length),i<k/\y∈(p.lines.l[i]).elems.l/\∃ x∈(p.lines.l[i]).elems.l,B x
section
variable {p:bY} {B:Int->Prop} {k j:Nat} {l l2:List Bool} {x:gp} {e:Int} {b c:Bool}
end
section
variable {l:List Bool} {Q:Int->Prop} {k:Nat} {o:List Int} {b:Bool}
end
def aa9 (p:bY) (d:ib) (run leg:Int):Int:=if kp p (Gp p d run (leg+1))=4 then -1 else Gp p d run (leg+1)
def Vx (p:bY) (L:List fe) (d:ib) (run leg:Int) (y:Int):Prop:=Zk [] [] L (Fc p L d run leg) (Fc p L d run leg).length y
def CB (p:bY) (L:List fe) (d:ib) (run leg:Int) (w:List Int×Int):Prop:=xY w.1/\(∀ y,y∈w.1↔ClK p (Vx p L d run leg) p.lines.l.length y/\y≠Gp p d run leg/\kp p y≠4)/\w.2=aa9 p d run leg
theorem CB.w4 {p:bY} {L:List fe} {d:ib} {run leg:Int} {w v:List Int×Int} (h1:CB p L d run leg w) (h2:CB p L d run leg v):w=v:=Prod.ext (h1.1.ext h2.1 λx=>by rw [h1.2.1 x,h2.2.1 x]) (h1.2.2.trans h2.2.2.symm)
def atP (p:bY) (d:ib) (run:Int):List Int:=if kp p (Gp p d run 0)=0\/kp p (Gp p d run 0)=4 then [] else [Gp p d run 0]
def WL (p:bY) (L:List fe) (d:ib) (run:Int) (l:List tU) (k:Nat):Prop:=l.length=k/\∀ (i:Nat) (h:i<l.length),CB p L d run (i:Int) ((l[i]).free.l,(l[i]).end_)
def LF (p:bY) (L:List fe) (d:ib) (run:Int) (c:lM):Prop:=c.at_.l=atP p d run/\∃ x,d.runs.l[run.toNat]?=some x/\WL p L d run c.nc.l x.nc.l.length
section
variable {p:bY} {L:List fe} {d:ib} {run:Int} {l:List tU} {k:Nat} {w:tU} {n:Int} {c c2:lM} {x:pk}
def WL.zero:WL p L d run [] 0:=⟨rfl,λi h=>by simp at h⟩
def WL.snoc (h:WL p L d run l k) (hw:CB p L d run (k:Int) (w.free.l,w.end_)):WL p L d run (l++[w]) (k+1):=by
 refine ⟨by simp [h.1],λi hi=>?_⟩
 by_cases hik:i<l.length
 ·rw [List.getElem_append_left hik]; exact h.2 i hik
 ·have:i=l.length:=by grind
  subst this
  rw [List.getElem_append_right (Nat.le_refl _)]
  simp only [Nat.sub_self,List.getElem_cons_zero]
  rw [h.1]; exact hw
end
def qR (p:bY) (L:List fe) (d:ib) (l:List lM) (k:Nat):Prop:=l.length=k/\∀ (i:Nat) (h:i<l.length),LF p L d (i:Int) l[i]
def qR.zero {p:bY} {L:List fe} {d:ib}:qR p L d [] 0:=⟨rfl,λi h=>by simp at h⟩
def qR.snoc {p:bY} {L:List fe} {d:ib} {l:List lM} {k:Nat} {c:lM} (h:qR p L d l k) (hc:LF p L d (k:Int) c):qR p L d (l++[c]) (k+1):=by
 refine ⟨by simp [h.1],λi hi=>?_⟩
 by_cases hik:i<l.length
 ·rw [List.getElem_append_left hik]; exact h.2 i hik
 ·have:i=l.length:=by grind
  subst this
  rw [List.getElem_append_right (Nat.le_refl _)]
  simp only [Nat.sub_self,List.getElem_cons_zero]
  rw [h.1]; exact hc
def qR.end_ {p:bY} {L:List fe} {d:ib} {l r:List lM} {k n:Nat} (h:qR p L d l k) (hr:r=l) (h1:n<=k) (h2:k<=n):qR p L d r n:=by
 grind
def MY (s:Int) (S:Int->Prop):Prop:=∃ b:BitVec 64,s=(b.toNat:Int)/\∀ i:Nat,i<64->(b.getLsbD i=true↔S (i:Int))
def MY.congr {s:Int} {S T:Int->Prop} (h:MY s S) (e:∀ i:Int,0<=i->(S i↔T i)):MY s T:=by
 obtain ⟨b,h1,h2⟩:=h
 exact ⟨b,h1,λi hi=>(h2 i hi).trans (e i (by omega))⟩
abbrev CX:=List Int×List (List Int)
def uM (c:lM):CX:=(c.at_.l,c.nc.l.map λw=>w.free.l)
def FE (c:List CX) (k:Nat):Prop:=∀ (i:Nat) (h:i<c.length),i≠k->∀ e∈(c[i]).1,∀ x,c[k]?=some x->∀ w∈x.2,e∉w
def zk (c:List CX) (home:List Bool) (k:Nat):Prop:=home[k]?=some false/\FE c k/\∀ j,j<k->¬ (home[j]?=some false/\FE c j)
theorem zk.w4 {c:List CX} {home:List Bool} {k j:Nat} (h1:zk c home k) (h2:zk c home j):k=j:=by
 rcases Nat.lt_trichotomy k j with h | h | h
 ·exact absurd ⟨h1.1,h1.2.1⟩ (h2.2.2 k h)
 ·exact h
 ·exact absurd ⟨h2.1,h2.2.1⟩ (h1.2.2 j h)
inductive qW (c0:List CX):Nat->List CX->List Bool->Prop
 | zero:qW c0 0 c0 (List.replicate c0.length false)
 | succ {m k:Nat} {c:List CX} {home:List Bool} (h:qW c0 m c home) (n:zk c home k):qW c0 (m+1) (c.set k ([],[])) (home.set k true)
theorem qW.w4 {c0:List CX} {m:Nat} {c:List CX} {home:List Bool} (h:qW c0 m c home):∀ {c':List CX} {home':List Bool},qW c0 m c' home'->c=c'/\home=home':=by
 induction h with
 | zero=>intro c' home' h; cases h<;>grind
 | succ h n ih =>
   intro c' home' h'
   cases h' with
   | succ h2 n2 =>
     obtain ⟨rfl,rfl⟩:=ih h2
     obtain rfl:=n.w4 n2
     simp
def qW.back {c0:List CX} {m:Nat} {c:List CX} {home:List Bool} (h:qW c0 m c home):∀ j,j<m->∃ c' home' k,qW c0 j c' home'/\zk c' home' k:=by
 induction h with
 | zero=>omega
 | succ h n ih =>
   intro j hj
   rcases Nat.lt_succ_iff_lt_or_eq.mp hj with h1 | h1<;>grind
def CK (c0:List CX) (b:Bool):Prop:=∃ m c home,qW c0 m c home/\((b=true/\∀ x∈home,x=true)\/(b=false/\false∈home/\∀ k,¬ zk c home k))
theorem CK.w4 {c0:List CX} {a b:Bool} (h1:CK c0 a) (h2:CK c0 b):a=b:=by
 obtain ⟨m,c,home,hr,h1⟩:=h1
 obtain ⟨m',c',home',hr',h2⟩:=h2
 have no:∀ {c:List CX} {home:List Bool} {k:Nat},(∀ x∈home,x=true)->¬ zk c home k:=by
  intro c home k h n
  have:=h false (List.mem_of_getElem? n.1)
  cases this
 rcases Nat.lt_trichotomy m m' with h | h | h
 ·obtain ⟨c2,home2,k,h3,h4⟩:=hr'.back m h
  obtain ⟨rfl,rfl⟩:=hr.w4 h3
  grind
 ·subst h
  obtain ⟨rfl,rfl⟩:=hr.w4 hr'
  grind
 ·obtain ⟨c2,home2,k,h3,h4⟩:=hr.back m' h
  obtain ⟨rfl,rfl⟩:=hr'.w4 h3
  grind
theorem qW.len {c0:List CX} {m:Nat} {c:List CX} {home:List Bool} (h:qW c0 m c home):c.length=c0.length/\home.length=c0.length:=by
 induction h<;>grind
def L5 (l:List lM):Prop:=∀ c∈l,∀ x∈c.at_.l,0<=x/\x<40
def Rq (c:List CX) (home:List Bool) (n:Int):Prop:=∀ j:Nat,(j:Int)<n->¬ (home[j]?=some false/\FE c j)
section
variable {c:List CX} {home:List Bool} {n z a b:Int} {x:Bool} {l:List lM} {y:lM} {c0:List CX} {k m:Nat}
theorem qW.go (h:qW c0 k (l.map uM) home) (hno:Rq (l.map uM) home n) (h0:0<=n) {hk:n.toNat<home.length} (hq:home[n.toNat]=x) (hx:x=false) (hc:FE (l.map uM) n.toNat) (hy:uM y=([],[]):=by rfl):qW c0 (k+1) ((l.set n.toNat y).map uM) (home.set n.toNat true):=by
 rw [List.map_set,hy]
 refine h.succ ⟨by grind,hc,λj hj=>hno j (by omega)⟩
theorem L5.set (h:L5 l) (hy:y.at_.l=[]:=by rfl):L5 (l.set k y):=by
 intro d hd x hx
 rcases List.mem_or_eq_of_mem_set hd with h1 | h1
 ·exact h d h1 x hx
 grind
def D5:∀ {home:List Bool},home.count true<home.length->false∈home
 | [],h=>by simp at h
 | true::l,h=>by simp at h; exact List.mem_cons_of_mem _ (D5 h)
 | false::l,_=>by simp
def Ud (h:qW c0 k c home) (hc:home.count true=k) (hk:k<home.length) (hno:Rq c home n) (hn:(home.length:Int)<=n):CK c0 false:=by
 refine ⟨k,c,home,h,.inr ⟨rfl,D5 (by omega),λj hj=>?_⟩⟩
 obtain ⟨h2,_⟩:=List.getElem?_eq_some_iff.mp hj.1
 exact hno j (by omega) ⟨hj.1,hj.2.1⟩
end
def F6 (n:Nat) (o:List Int):List Bool:=(List.range n).map λj:Nat=>decide ((j:Int)∈o)
theorem QQ {n j:Nat} {o:List Int} (h:j<n):(F6 n o)[j]?=some (decide ((j:Int)∈o)):=by
 simp [F6,h]
def qW.count {c0:List CX} {m:Nat} {c:List CX} {home:List Bool} (h:qW c0 m c home):home.count true=m:=by
 induction h with
 | zero=>grind
 | succ h n ih =>
   obtain ⟨h1,h2⟩:=List.getElem?_eq_some_iff.mp n.1
   grind
def tg (l0:List lM) (o0:List Int) (n:Nat) (b:Bool) (l:List lM) (o:List Int) (k:Nat):Prop :=
 (b=false->l=l0/\o=o0/\Rq (l0.map uM) (F6 n o0) k)/\(b=true->∃ j:Nat,zk (l0.map uM) (F6 n o0) j/\l.map uM=(l0.map uM).set j ([],[])/\o=o0++[(j:Int)])
section
variable {l0 l:List lM} {o0 o:List Int} {n k m:Nat} {b:Bool} {c0:List CX}
def tg.zero:tg l0 o0 n false l0 o0 0:=⟨λ_=>⟨rfl,rfl,λj hj=>absurd hj (by omega)⟩,λh=>by cases h⟩
def tg.kH {s:List Int} (h:tg l0 o0 n b l o k) (hb:b=false) (hs:s=o) (hi:(k:Int)∈s) (hk:k<n):tg l0 o0 n b l o (k+1):=by
 subst hb; replace hb:false=false:=rfl
 obtain ⟨h1,h2,h3⟩:=h.1 hb
 refine ⟨λ_=>⟨h1,h2,λj hj=>?_⟩,λh=>by cases h⟩
 by_cases hjk:j<k
 ·exact h3 j (by omega)
 grind [QQ]
def tg.no {s:ff lM} (h:tg l0 o0 n b l o k) (hb:b=false) (hs:s.l=l) (hc:¬ FE (s.l.map uM) k):tg l0 o0 n b l o (k+1):=by
 subst hb; replace hb:false=false:=rfl
 obtain ⟨h1,h2,h3⟩:=h.1 hb
 refine ⟨λ_=>⟨h1,h2,λj hj=>?_⟩,λh=>by cases h⟩
 by_cases hjk:j<k
 ·exact h3 j (by omega)
 grind
theorem tg.len (h:tg l0 o0 n b l o k) (hb:b=true):o.length=o0.length+1:=by
 obtain ⟨j,_,_,h3⟩:=h.2 hb
 grind
def tg.stuck (h:tg l0 o0 n b l o k) (hb:b=false) (hr:qW c0 o0.length (l0.map uM) (F6 n o0)) (hn:n<=k) (hm:o0.length<n):CK c0 false:=by
 obtain ⟨h1,h2,h3⟩:=h.1 hb
 have hl:(F6 n o0).length=n:=by simp [F6]
 exact Ud hr hr.count (by omega) h3 (by omega)
end
section
variable {d e:ib} {L M:List fe} {p:bY} {run leg:Int}
end
section
variable {p:bY} {L M:List fe} {d f:ib} {e w:Int} {l m:List lM} {k:Nat} {b:Bool}
end
def ph (n:fw) (e:Int):Int:=match look e n.line with
 | some y=>y.1
 | none=>-1
def vT (n:fw) (e i:Int):Int:=match look e n.lead with
 | some v=>if i<0\/i > 1 then 0 else if v=i then 1 else 2
 | none=>0
def FG {n:fw} {e r:Int} (h:(∃ q,look e n.line=some (r,q))\/(look e n.line=none/\r = -1)):r=ph n e:=by
 grind [ph]
def DZ (n:fw) (o:List bm) (s:fi):List bm:=if ph n s.elem<0\/(o.any λt=>decide (t.elem=ph n s.elem))=true then o else o++[⟨ph n s.elem,vT n s.elem s.kH⟩]
def uR (n:fw) (l:List fi):List bm:=l.foldl (DZ n) []
section
variable {n:fw} {l:List fi} {o:List bm} {k:Nat} {s:fi} {r q:Int}
theorem Dr {hk:k<l.length} (hq:l[k]=s) (h:o=uR n (l.take k)):DZ n o s=uR n (l.take (k+1)):=by
 unfold uR at *
 rw [List.take_add_one,List.getElem?_eq_getElem hk,hq,List.foldl_append,<- h]
 rfl
def Tm {hk:k<l.length} (hq:l[k]=s) (h:o=uR n (l.take k)) (hr:r=ph n s.elem) (h0:r<0):o=uR n (l.take (k+1)):=by
 rw [<- Dr hq h,DZ,if_pos (.inl (hr▸h0))]
def UJ {hk:k<l.length} (hq:l[k]=s) (h:o=uR n (l.take k)) (hr:r=ph n s.elem) (h0:∃ x∈o,x.elem=r):o=uR n (l.take (k+1)):=by
 rw [<- Dr hq h,DZ,if_pos]
 grind
def TO {hk:k<l.length} (hq:l[k]=s) (h:o=uR n (l.take k)) (hr:r=ph n s.elem) (h0:¬ r<0) (h1:∀ x∈o,¬ x.elem=r) (hl:q=vT n s.elem s.kH):o++[⟨r,q⟩]=uR n (l.take (k+1)):=by
 rw [<- Dr hq h,DZ,if_neg,<- hr,<- hl]
 grind
theorem SJ (h:o=uR n (l.take k)) (hk:l.length<=k):o=uR n l:=by rwa [List.take_of_length_le hk] at h
def K0 {Q:bm->Prop}:∀ (l:List fi) (o:List bm),(∀ x∈o,Q x)->(∀ s∈l,¬ ph n s.elem<0->Q ⟨ph n s.elem,vT n s.elem s.kH⟩)->∀ x∈l.foldl (DZ n) o,Q x
 | [],o,h,_=>h
 | s::l,o,h,hs=>by
   refine K0 l (DZ n o s) ?_ (λt ht=>hs t (List.mem_cons_of_mem _ ht))
   grind [DZ]
end
def CF (n:fw):Prop:=∀ e y,look e n.line=some y->0<=y.1/\y.1<20
def KD {n:fw} (h:CF n) {e:Int} (h0:¬ ph n e<0):0<=ph n e/\ph n e<20:=by
 unfold ph at *
 split at h0
 ·rename_i y hy
  exact h _ _ hy
 ·omega
def KS {n:fw} {e i:Int}:0<=vT n e i/\vT n e i<=2:=by
 grind [vT]
def SL {n:fw} (h:CF n) (l:List fi):∀ x∈uR n l,(0<=x.elem/\x.elem<20)/\0<=x.pos/\x.pos<=2 :=
 K0 l [] (by simp) λs _ h0=>⟨KD h h0,KS⟩
def XH {x:bm} (h:(0<=x.elem/\x.elem<20)/\0<=x.pos/\x.pos<=2):ky x.elem:=by grind [ky]
def Xa {x:bm} (h:(0<=x.elem/\x.elem<20)/\0<=x.pos/\x.pos<=2):ky x.pos:=by grind [ky]
def V5 {x:bm} (h:(0<=x.elem/\x.elem<20)/\0<=x.pos/\x.pos<=2):0<=x.elem/\x.elem<1000:=by omega
def QR {n:fw} {l:List fi} {o:List bm} (h:CF n) (ho:o=uR n l):∀ x∈o,(0<=x.elem/\x.elem<20)/\0<=x.pos/\x.pos<=2:=ho▸SL h l
section
variable {p:bY} {L:List fe} {d:ib} {run:Int} {m j:Nat} {o R:List Int} {S:List fe} {i:Int} {x:fe}
end
section
variable {Has:fe->bm->Prop} {p:bY} {L:List fe} {d:ib} {run:Int} {m j k:Nat} {R:List Int} {y:bm} {f:Bool} {l:List bm} {r:fe} {i e q:Int} {x:bm} {A:Prop}
end
theorem Lk {p:bY}:p.canon.lines.l.length=p.lines.l.length:=by simp [bY.canon,Row.canon,Row.yx]
def Ss {n:fw} {p:bY} (h:sA n p):CF n:=by
 intro e y hy
 obtain ⟨i,hi,h1,_⟩:=h.YT.1 e y hy
 have h2:=h.Cz.lines
 rw [h.cB,Lk] at h2
 omega
open Go Go.Proofs
def Uc {d:Array Int} (h:∀ i j:Nat,i<=j->j<d.size->d[i]!<=d[j]!):∀ m:Nat,m<=d.size->xY (Lib.compactUpTo d m)/\(∀ x,x∈Lib.compactUpTo d m↔∃ i,i<m/\(d[i]!)=x)
 | 0,_=>⟨.nil,λx=>by simp [Lib.compactUpTo]⟩
 | m+1,hm=>by
   obtain ⟨h1,h2⟩:=Uc h m (by omega)
   rw [Lib.compactUpTo_succ]
   by_cases hk:Lib.keeps d m=true
   ·rw [if_pos hk]
    refine ⟨?_,λx=>?_⟩
    ·refine List.pairwise_append.mpr ⟨h1,by simp,λa ha b hb=>?_⟩
     simp only [List.mem_singleton] at hb
     subst hb
     obtain ⟨i,hi,rfl⟩:=(h2 a).mp ha
     have h3:=h i (m - 1) (by omega) (by omega)
     have h4:=h (m - 1) m (by omega) (by omega)
     have h5:d[m]!≠d[m - 1]!:=by
      have:=of_decide_eq_true hk
      rcases this with rfl | h
      ·omega
      ·exact h
     omega
    ·simp only [List.mem_append,h2,List.mem_singleton]
     constructor
     ·rintro (⟨i,hi,rfl⟩ | rfl)
      ·exact ⟨i,by omega,rfl⟩
      ·exact ⟨m,by omega,rfl⟩
     ·rintro ⟨i,hi,rfl⟩
      rcases Nat.lt_or_ge i m with h | h
      ·exact .inl ⟨i,h,rfl⟩
      ·exact .inr (by rw [show i=m from by omega])
   ·rw [if_neg hk,List.append_nil]
    refine ⟨h1,λx=>(h2 x).trans ⟨λ⟨i,hi,e⟩=>⟨i,by omega,e⟩,?_⟩⟩
    rintro ⟨i,hi,rfl⟩
    rcases Nat.lt_or_ge i m with h | h
    ·exact ⟨i,h,rfl⟩
    ·obtain rfl:i=m:=by omega
     have h6:¬ (i=0\/d[i]!≠d[i - 1]!):=λhh=>hk (decide_eq_true hh)
     exact ⟨i - 1,by omega,by have:=λhne=>h6 (.inr hne); exact (Classical.byContradiction λhne=>this (λe=>hne e.symm))⟩
def AZ {l:List Int} (h:l.Pairwise (·<=·)):xY (Lib.compact l)/\∀ x,x∈Lib.compact l↔x∈l:=by
 have hp:=List.pairwise_iff_getElem.mp h
 obtain ⟨h1,h2⟩:=Uc (d:=l.toArray) (by
  intro i j hij hj
  have hj:j<l.length:=by simpa using hj
  rw [getElem!_pos _ i (by simp; omega),getElem!_pos _ j (by simpa using hj)]
  rcases Nat.lt_or_ge i j with h | h
  ·simpa using hp i j (by omega) hj h
  ·obtain rfl:i=j:=by omega
   exact Int.le_refl _) l.length (by simp)
 refine ⟨h1,λx=>(h2 x).trans ?_⟩
 constructor
 ·rintro ⟨i,hi,rfl⟩
  rw [getElem!_pos _ i (by simpa using hi)]
  simp
 ·intro hx
  obtain ⟨i,hi,rfl⟩:=List.mem_iff_getElem.mp hx
  exact ⟨i,hi,by rw [getElem!_pos _ i (by simpa using hi)]; simp⟩
structure w5 where
 sZ:Row pT
 roads:Row Int
 steps:Row (Row Int)
 E2:Row (Row Int)
 done:Int
def w5.ai (x:w5):List AV:=[x.sZ.av pT.ai,x.roads.av cI,x.steps.av (kq cI),x.E2.av (kq cI),.int .i64 x.done]
def Yy (p:bY) (e:Int):Prop:=0<=e/\e<(p.elems.l.length:Int)
def aaO (p:bY) (b:pT):Prop:=(∀ h∈b.xp.l,Yy p h.elem)/\(¬ b.mode=2->¬ b.mode=4->∀ h∈b.xp.l,kp p h.elem=4)
structure abk (t:w5):Prop where
 bod:t.sZ.l.length<=40
 ste:t.steps.l.length<=60
 zon:t.E2.l.length<=60
 tra:∀ b∈t.sZ.l,b.xp.l.length<=60
 row:∀ s∈t.steps.l,s.l.length<=60
 roz:∀ s∈t.E2.l,s.l.length<=60
structure abm (p:bY) (t:w5):Prop where
 pos:0<t.sZ.l.length
 ste:t.steps.l.length=t.sZ.l.length
 zon:t.E2.l.length=t.sZ.l.length
 roa:t.roads.l.length=t.sZ.l.length
 bod:∀ b∈t.sZ.l,aaO p b
 row:∀ s∈t.steps.l,∀ e∈s.l,Yy p e
section
variable {p:bY} {b:pT} {t:List eU} {k:Nat} {x:eU} {n:Int} {l:List Bool} {y:Int}
def xH {r s:List Int} (h:s=iY r) (q:∀ x∈r,ky x):∀ x∈s,ky x:=by
 grind [kF]
def yv {r s:List Int} (h:s=iY r):s.length=r.length:=by rw [h]; exact (kF r).length_eq
end
section
variable {p:bY} {t:w5} {R:List Int} {k j m m':Nat} {x a b c n:Int} {l:List Bool} {bd:pT} {r o:List Int} {y:Int}
end
def Gl {r s:List Int} (h:s=Lib.compact r):s.length<=r.length:=by grind [Lib.compact_length_le]
section
variable {p:bY} {t:w5} {k lo hi n pl x:Int} {j:Nat} {m:List (Int×Bool)} {bd:pT} {r:List Int} {L:Int->Prop}
end
end Go.Sx
namespace Go.Sx
open Go Go.Proofs
end Go.Sx
namespace Go.Sx
open Go
def atD (l:List eU) (i:Nat):eU:=(l[i]?).getD ⟨0,0⟩
section
variable {p:bY} {l:List eU} {i:Nat} {x y a b:eU}
end
def BI (b:Bool) (X:Prop):Prop:=b=true↔X
def BI.no {X:Prop} (h:BI false X):¬ X:=λx=>by have:=h.mpr x; cases this
section
variable {p:bY} {l:List eU} {x y:eU}
end
section
variable {p:bY} {l:List eU} {x y:eU} {bd:pT} {len:Int} {b:Bool}
end
section
variable {α:Type} {l:List α} {P : α->Prop} {k:Nat} {x : α} {b:Bool}
end
section
variable {p:bY} {bd:pT} {len:Int} {z y:eU} (hz:atD bd.xp.l (bd.xp.l.length - 1)=z)
include hz
end
open Go Go.Proofs
theorem lf {α:Type} {enc : α->List AV} {n:Nat} {r:Row α} (h:∀ x,∀ y∈enc x,iR n y y=true):iR (n+1) (r.av enc) (r.av enc)=true:=by
 have hc:Aw r.c r.c=true:=by cases r.c<;>simp [Aw]
 show (lK (lK (iR n)) (r.l.map enc) (r.l.map enc)&&Aw r.c r.c)=true
 rw [hc,sM]; rfl
 intro x hx
 obtain ⟨z,_,rfl⟩:=List.mem_map.mp hx
 exact sM λy hy=>h z y hy
theorem CE {n:Nat} (x:Int):∀ y∈cI x,iR (n+1) y y=true:=by
 intro y hy
 simp only [cI,List.mem_singleton] at hy
 subst hy; exact jm _ _ _
theorem w7 {n:Nat} (x:bm):∀ y∈bm.ai x,iR (n+1) y y=true:=by
 intro y hy
 simp only [bm.ai,List.mem_cons,List.not_mem_nil,or_false] at hy
 rcases hy with rfl | rfl<;>exact jm _ _ _
def Ua {n:Nat} (x:fi):∀ y∈fi.ai x,iR (n+1) y y=true:=by
 intro y hy
 simp only [fi.ai,List.mem_cons,List.not_mem_nil,or_false] at hy
 rcases hy with rfl | rfl | rfl<;>exact jm _ _ _
def Fh {n:Nat} (x:fe):∀ y∈fe.ai x,iR (n+2) y y=true:=by
 intro y hy
 simp only [fe.ai,List.mem_cons,List.not_mem_nil,or_false] at hy
 rcases hy with rfl | rfl | rfl | rfl | rfl | rfl | rfl | rfl | rfl
 ·exact jm _ _ _
 ·exact jm _ _ _
 ·exact jm _ _ _
 ·exact lf Ua
 ·exact lf w7
 ·exact lf w7
 ·exact lf CE
 ·exact lf CE
 ·exact Bq _ _
end Go.Sx
namespace Go.Sx
open Go
structure rK where
 Gy:ff Bool
 pos:ff Int
 loop:ff Bool
 held:ff Bool
def rK.ai (x:rK):List AV:=[x.Gy.av fM,x.pos.av cI,x.loop.av fM,x.held.av fM]
structure fq where
 elems:Int
 steps:List (Int×ff Int)
 gB:List (Int×Row Int)
 fX:List (Int×Row bm)
 guards:List (Int×Row bm)
def fq.ai (x:fq):List AV:=[.int .i64 x.elems,.fm (cA iK (ff.av cI) x.steps) true,.fm (cA iK (Row.av cI) x.gB) true,.fm (cA iK (Row.av bm.ai) x.fX) true,.fm (cA iK (Row.av bm.ai) x.guards) true]
structure iy where
 n:fw
 runs:List (bm×Bool)
def nK (p:bm):AV:=.agg (bm.ai p)
def Dj (a b:bm):jc (nK a) (nK b)=some (decide (a=b)):=by
 have h:(a=b)↔(a.elem=b.elem/\a.pos=b.pos):=by cases a; cases b; simp
 grind [jc,nK,bm.ai,AV.agg?,zD,Gk]
def iy.ai (x:iy):List AV:=[.ip (fw.ai x.n) 0 false,.fm (cA nK bK x.runs) true]
structure iQ where
 c:fz
 kn:ff fC
 book:fq
 token:iy
 Dl:ff Int
def iQ.ai (x:iQ):List AV:=fz.ai x.c++[x.kn.av fC.ai,.ip (fq.ai x.book) 0 true,.ip (iy.ai x.token) 0 true,x.Dl.av cI]
structure lZ where
 s:List (Int×List Int)
 z:List (Int×List Int)
 d:List (Int×List bm)
 g:List (Int×List bm)
def F2:List AV->Int
 | [.int _ n]=>n
 | _=>0
def I7:List AV->bm
 | [.int _ a,.int _ b]=>⟨a,b⟩
 | _=>⟨0,0⟩
def I4 {α:Type} (f:List AV->α):AV->List α
 | .sl xs _=>xs.map f
 | _=>[]
def Jn:AV->Int
 | .int _ n=>n
 | _=>0
def wu {α:Type} (f:List AV->α):AV->List (Int×List α)
 | .fm es _=>es.map λp=>(Jn p.1,I4 f p.2)
 | _=>[]
def tb:List AV->lZ
 | [_,a,b,c,d]=>⟨wu F2 a,wu F2 b,wu I7 c,wu I7 d⟩
 | _=>⟨[],[],[],[]⟩
def fq.pl (x:fq):lZ:=⟨x.steps.map λp=>(p.1,p.2.l),x.gB.map λp=>(p.1,p.2.l),x.fX.map λp=>(p.1,p.2.l),x.guards.map λp=>(p.1,p.2.l)⟩
theorem PT (l:List Int):(l.map cI).map F2=l:=by
 rw [List.map_map]; exact List.map_id'' (λ_=>rfl) l
theorem Yp (l:List bm):(l.map bm.ai).map I7=l:=by
 rw [List.map_map]; exact List.map_id'' (λ_=>rfl) l
theorem ua (x:fq):tb (fq.ai x)=x.pl:=by
 have h1:∀ (l:List (Int×ff Int)) s,wu F2 (.fm (cA iK (ff.av cI) l) s)=l.map λp=>(p.1,p.2.l):=by
  intro l s
  simp only [wu,cA,List.map_map]
  exact List.map_congr_left λp _=>by simp only [Function.comp_apply,Jn,iK,ff.av,I4,PT]
 have h2:∀ (l:List (Int×Row Int)) s,wu F2 (.fm (cA iK (Row.av cI) l) s)=l.map λp=>(p.1,p.2.l):=by
  intro l s
  simp only [wu,cA,List.map_map]
  exact List.map_congr_left λp _=>by simp only [Function.comp_apply,Jn,iK,Row.av,I4,PT]
 have h3:∀ (l:List (Int×Row bm)) s,wu I7 (.fm (cA iK (Row.av bm.ai) l) s)=l.map λp=>(p.1,p.2.l):=by
  intro l s
  simp only [wu,cA,List.map_map]
  exact List.map_congr_left λp _=>by simp only [Function.comp_apply,Jn,iK,Row.av,I4,Yp]
 simp only [fq.ai,tb,h1,h2,h3,fq.pl]
def xr {α:Type} (k:Int) (l:List (Int×List α)):List α:=(look k l).getD []
def lZ.qN (B:lZ):List bm:=B.d.flatMap λp=>xr p.1 B.d++xr p.1 B.g
def Bb {α:Type} (l:List (Int×List α)):Prop:=(l.map Prod.fst).Nodup/\∀ p∈l,0<=p.1/\p.1<64/\p.2.length<=1000
theorem Bb.len {α:Type} {l:List (Int×List α)} (h:Bb l):l.length<=64:=by
 have h1:=Ag (a:=l.map Prod.fst) (b:=(List.range 64).map λn:Nat=>(n:Int)) h.1 λx hx=>by
  obtain ⟨p,hp,rfl⟩:=List.mem_map.1 hx
  obtain ⟨h1,h2,_⟩:=h.2 p hp
  exact List.mem_map.2 ⟨p.1.toNat,List.mem_range.2 (by omega),by omega⟩
 simpa using h1
structure mn (B:lZ):Prop where
 s:Bb B.s
 z:Bb B.z
 d:Bb B.d
 g:Bb B.g
 one:∀ p∈B.s,∀ q∈B.s,∀ x,x∈p.2->x∈q.2->p.1=q.1
 pos:∃ f:Int->Int,∀ x∈B.qN,x.pos=f x.elem/\(x.pos=1\/x.pos=2)
def RO (args:List AV) (v:AV):Prop:=∃ r:Int,v=iv r/\match args with
 | [.ip cs _ _,.int _ x]=>(r = -1/\∀ p∈(tb cs).s,x∉p.2)\/∃ p∈(tb cs).s,x∈p.2/\r=p.1
 | _=>True
def RZ (_:List AV) (v:AV):Prop:=∃ r:Row Int,v=r.av cI
def RH (args:List AV) (v:AV):Prop:=∃ p c:Int,v=.fG [iv p,iv c]/\match args with
 | [.ip cs _ _,.int _ x]=>(p=0/\∀ y∈(tb cs).qN,y.elem≠x)\/(p≠0/\∃ y∈(tb cs).qN,y.elem=x/\y.pos=p)
 | _=>True
def pR {l:List (Int×Row bm)} {s:Bool}:iR 8 (.fm (cA iK (Row.av bm.ai) l) s) (.fm (cA iK (Row.av bm.ai) l) s)=true:=by
 have h:lK (λp q=>iR 7 p.1 q.1&&iR 7 p.2 q.2) (cA iK (Row.av bm.ai) l) (cA iK (Row.av bm.ai) l)=true:=by
  refine sM λx hx=>?_
  obtain ⟨y,_,rfl⟩:=List.mem_map.1 hx
  simp only [lf (n:=6) w7,Bool.and_true]
  exact jm _ _ _
 show (lK _ _ _&&C3 s s)=true
 rw [h]
 cases s<;>rfl
def Qn {l:List (Int×Row Int)} {s:Bool}:iR 8 (.fm (cA iK (Row.av cI) l) s) (.fm (cA iK (Row.av cI) l) s)=true:=by
 have h:lK (λp q=>iR 7 p.1 q.1&&iR 7 p.2 q.2) (cA iK (Row.av cI) l) (cA iK (Row.av cI) l)=true:=by
  refine sM λx hx=>?_
  obtain ⟨y,_,rfl⟩:=List.mem_map.1 hx
  simp only [lf (n:=6) CE,Bool.and_true]
  exact jm _ _ _
 show (lK _ _ _&&C3 s s)=true
 rw [h]
 cases s<;>rfl
section
variable {C:gv} {F:gX} {Pr:gQ} {fa:eY} {e:Env} {h:au} {all rest:List Oper} {o:Oper} {q:Env->au->Prop}
variable {κ β:Type} [DecidableEq κ] {ek : κ->AV} {ev : β->AV}
theorem pG {X:Ctx} {d:Option Nat} {t kt el:Nat} {m k:Operand} {tm te:TI} {key : κ} {l:List (κ×β)} {z:AV} {s:Bool} (hT:X.C.T t=some tm) (hk:tm.kind=.map kt el) (hE:X.C.T el=some te) (hm:fg e m=.fm (cA ek ev l) s) (hkk:fg e k=ek key) (hK:oP X.C kt (ek key)=true) (hz:asAgg te te.zero=some z) (hke:∀ a b,jc (ek a) (ek b)=some (decide (a=b))) :
  gd (.lookup t m k false) X e h d=some (match look key l with
   | some v=>ev v
   | none=>z,h):=by
 simp only [gd,si,pN,hT,hk,hE,hkk,hK,hm,py,y9 hke]
 grind [look,yf,iJ]
def LX {t kt el:Nat} {m k:Operand} {tm te:TI} {key : κ} {l:List (κ×β)} {z:AV} {s:Bool} (hw:fE all e o=some true) (ho:o.op=.lookup t m k false) (hT:C.T t=some tm) (hk:tm.kind=.map kt el) (hE:C.T el=some te) (hm:fg e m=.fm (cA ek ev l) s) (hkk:fg e k=ek key) (hK:oP C kt (ek key)=true) (hz:asAgg te te.zero=some z) (hke:∀ a b,jc (ek a) (ek b)=some (decide (a=b)))
  (w1:∀ v,look key l=some v->ic C F Pr fa all rest q (fp e o (ev v)) h) (w2:look key l=none->ic C F Pr fa all rest q (fp e o (z)) h):ic C F Pr fa all (o::rest) q e h:=by
 cases hl:look key l with
 | none=>exact be hw (λcall=>by rw [ho,pG hT hk hE hm hkk hK hz hke,hl]) (w2 hl)
 | some v=>exact be hw (λcall=>by rw [ho,pG hT hk hE hm hkk hK hz hke,hl]) (w1 v hl)
def mU {i:Nat} {sch:List (Nat×List Nat)} {t kt el:Nat} {m k:Operand} {tm te:TI} {key : κ} {l:List (κ×β)} {z:AV} {s:Bool} (hi:all[i]?=some o) (hw:fE all e o=some true) (ho:o.op=.lookup t m k false) (hT:C.T t=some tm) (hk:tm.kind=.map kt el) (hE:C.T el=some te) (hm:fg e m=.fm (cA ek ev l) s) (hkk:fg e k=ek key) (hK:oP C kt (ek key)=true) (hz:asAgg te te.zero=some z) (hke:∀ a b,jc (ek a) (ek b)=some (decide (a=b)))
  (w1:∀ v,look key l=some v->gZ C F Pr fa all sch q (fp e o (ev v)) h) (w2:look key l=none->gZ C F Pr fa all sch q (fp e o (z)) h):gZ C F Pr fa all ((i,[])::sch) q e h:=by
 cases hl:look key l with
 | none=>exact fD hi hw (λcall=>by rw [ho,pG hT hk hE hm hkk hK hz hke,hl]) (w2 hl)
 | some v=>exact fD hi hw (λcall=>by rw [ho,pG hT hk hE hm hkk hK hz hke,hl]) (w1 v hl)
end
variable [DD]
structure Jt where
 d:Nat
 es:List (AV×AV)
 last:Option Nat
 js:List Nat
def mapOf:AV->Option (List (AV×AV))
 | .iw=>some []
 | .fm es _=>some es
 | _=>none
def B5 (C:gv) (t:Nat) (x:AV):Option (List (AV×AV)):=match C.T t with
 | some ti=>match ti.kind with
   | .map _ _=>mapOf x
   | _=>none
 | none=>none
def qw (it:Option Jt) (o:Oper):Bool:=match it,o.dst with
 | some i,some d=>!(Nat.beq i.d d)
 | _,_=>true
abbrev PJ:=Option Jt->Env->au->Prop
def Gc (X:Ctx) (all:List Oper) (o:Oper) (k:PJ) (it:Option Jt) (e:Env) (h:au):Prop:=match sO o.op with
 | .range t x=>∃ es d,B5 X.C t (fg e x)=some es/\o.dst=some d/\oj o=true/\k (some ⟨d,es,none,List.range es.length⟩) (y6 e d .undef) h
 | .next t=>∃ i,it=some i/\i.d=t/\qw it o=true/\oj o=true/\(i.js=[]->k it (fp e o (qv none)) h) /\
    ∀ j∈i.js,∀ x,i.es[j]?=some x->k (some { i with last:=some j,js:=i.js.filter λy=>!(Nat.beq y j) }) (fp e o (qv (some x))) h
 | .entry t=>∃ i j x,it=some i/\i.d=t/\qw it o=true/\oj o=true/\i.last=some j/\i.es[j]?=some x/\k it (fp e o (.fG [x.1,x.2])) h
 | .plain=>qw it o=true/\((fE all e o=some false/\k it (fp e o (.fG [])) h)\/(fE all e o=some true/\∃ v h',gd o.op X e h o.dst=some (v,h')/\k it (fp e o v) h'))
 | .bad=>False
def mD (X:Ctx) (all:List Oper) (k:PJ):List Oper->PJ
 | []=>k
 | o::rest=>Gc X all o (mD X all k rest)
abbrev QJ:=Ex->PJ
def wh (k:PJ) (Q:QJ):QJ
 | .gH=>k
 | x=>Q x
def BH (id:Nat) (Q:QJ):QJ
 | .ext id'=>λit e h=>match Nat.beq id' id with
   | true=>Q .gH it e h
   | false=>Q (.ext id') it e h
 | x=>Q x
structure EU (live:List Nat) (k:PJ) (it:Option Jt) (e:Env) (h:au):Prop where
 w:k it (proj live e) { h with aT:=iu live h.aT }
def jK (X:Ctx):Code->ga->QJ->PJ
 | .skip,_,Q,it,e,h=>Q .gH it e h
 | .region _ ops false,_,Q,it,e,h=>mD X ops.toList (Q .gH) ops.toList it e h
 | .region _ ops true,an,Q,it,e,h=>ops.toList.all (qw it)=true/\∃ e' h',s6 X ops an e h=some (.gH,e',h')/\Q .gH it e' h'
 | .seq a b,an,Q,it,e,h=>(∃ live x y,an=.seq live x y/\jK X a x (wh (EU live (jK X b y Q)) Q) it e h)\/∃ x y,an=.sq x y/\jK X a x (wh (jK X b y Q) Q) it e h
 | .cond c a b,an,Q,it,e,h=>∃ x y,an=.two x y/\(((fg e c).bool?=some true/\jK X a x Q it e h)\/((fg e c).bool?=some false/\jK X b y Q it e h))
 | .block id a,an,Q,it,e,h=>jK X a an (BH id Q) it e h
 | .loop a,an,Q,it,e,h=>∃ live x,an=.loop live x/\∃ I:Nat->PJ,(∃ m,I m it e h)/\∀ m it e h,I m it e h->EU live (jK X a x (wh (λit e h=>∃ m',m'<m/\I m' it e h) Q)) it e h
 | .exit id,_,Q,it,e,h=>Q (.ext id) it e h
 | .scope a,an,Q,it,e,h=>jK X a an Q it e h
 | .label _,_,Q,it,e,h=>Q .gH it e h
 | .ret,_,Q,it,e,h=>Q .ret it e h
 | _,_,_,_,_,_=>False
def Fz (G:Ga) (r:Nat) (i:Jt):Prop :=
 (i.es=[]/\i.js=[]/\i.last=none/\G.w.heap[r]?=some (.mapIter none 0 #[] 0)) \/
 ∃ m ents clk s seen,G.T s m/\G.w.heap[m]?=some (.map ents clk)/\Mv ents clk/\i.es.length=ents.size /\
   (∀ (j:Nat) (p:AV×AV) (e:MapEntry),i.es[j]?=some p->ents[j]?=some e->PR G.w G.T true p.1 e.key/\PR G.w G.T true p.2 e.val) /\
   G.w.heap[r]?=some (.mapIter (some m) clk seen clk)/\(∀ j∈i.js,j<ents.size)/\(∀ (j:Nat) (e:MapEntry),ents[j]?=some e->(j∈i.js↔e.born∉seen.toList)) /\
   (∀ j,i.last=some j->∃ (e:MapEntry) (seen0:Array Nat),ents[j]?=some e/\seen=seen0.push e.born)
structure wH (G0 G:Ga) (a:Act) (i:Jt) (r:Nat):Prop where
 at_:a.eval (.tmp i.d)=.pointer (some ⟨r,0,none⟩)
 new:G0.w.heap.size<=r
 lt:r<G.w.heap.size
 T:∀ s,¬ G.T s r
 pi:∀ b l,G.pi b=some l->l.B≠r
 L:∀ d B,G.L d=some B->B≠r
 obj:Fz G r i
def CD (G0 G:Ga) (a:Act):Option Jt->Prop
 | none=>True
 | some i=>∃ r,wH G0 G a i r
section
variable {P:Program} {X:Ctx} {N:Nat} {G0 G G':Ga} {a a':Act} {Q:Exit->Act->World->Prop}
def Fz.ext {r:Nat} {i:Jt} (h:Fz G r i) (E:Ext G G') (hr:G'.w.heap[r]?=G.w.heap[r]?):Fz G' r i:=by
 rcases h with ⟨h1,h2,h3,h4⟩ | ⟨m,ents,clk,s,seen,hT,hm,ha,hl,hp,h,h5,h6,h7⟩
 ·exact .inl ⟨h1,h2,h3,hr.trans h4⟩
 ·exact .inr ⟨m,ents,clk,s,seen,E.T s m hT,(E.keep s m hT).trans hm,ha,hl,λj p e k1 k2=>⟨(hp j p e k1 k2).1.mono E.T E.keep,(hp j p e k1 k2).2.mono E.T E.keep⟩,hr.trans h,h5,h6,h7⟩
def wH.step {i:Jt} {r:Nat} (h:wH G0 G a i r) (S:Step G G') (ha:a'.eval (.tmp i.d)=a.eval (.tmp i.d)):wH G0 G' a' i r:=by
 have hr:G'.w.heap[r]?=G.w.heap[r]?:=S.frame r h.lt h.pi h.L
 refine ⟨ha.trans h.at_,h.new,Nat.lt_of_lt_of_le h.lt S.jd,?_,?_,?_,h.obj.ext S.ext hr⟩
 ·intro s ht
  rcases S.qG s r ht with h0 | hge
  ·exact h.T s h0
  ·have:=h.lt; omega
 ·intro b l hl e
  rcases S.lI b l hl with ⟨l0,h0,e0⟩ | hge
  ·exact h.pi b l0 h0 (e0.trans e)
  ·have:=h.lt; omega
 ·intro d B hd e
  rcases S.o7 d B hd with h0 | hge
  ·exact h.L d B h0 e
  ·have:=h.lt; omega
theorem wH.fill {i:Jt} {r:Nat} {bs ds:Nat->Prop} (h:wH G0 G a i r) (S:tz G G' bs ds):wH G0 G' a i r:=by
 have hr:G'.w.heap[r]?=G.w.heap[r]?:=S.frame r h.lt
 refine ⟨h.at_,h.new,Nat.lt_of_lt_of_le h.lt S.jd,?_,?_,?_,h.obj.ext S.ext hr⟩
 ·intro s ht
  rw [S.T] at ht
  exact h.T s ht
 ·intro b l hl e
  rcases S.lI b l hl with h0 | hge
  ·exact h.pi b l h0 e
  ·have:=h.lt; omega
 ·intro d B hd e
  rcases S.o7 d B hd with h0 | hge
  ·exact h.L d B h0 e
  ·have:=h.lt; omega
def CD.step {it:Option Jt} (h:CD G0 G a it) (S:Step G G') (ha:∀ i,it=some i->a'.eval (.tmp i.d)=a.eval (.tmp i.d)):CD G0 G' a' it:=by
 cases it with
 | none=>trivial
 | some i =>
   obtain ⟨r,h⟩:=h
   exact ⟨r,h.step S (ha i rfl)⟩
theorem CD.jo {it:Option Jt} (h:CD G0 G a it) (live:List Nat):CD G0 (G.gK (iu live G.h.aT) (mC live G.L)) a it:=by
 cases it with
 | none=>trivial
 | some i =>
   obtain ⟨r,h⟩:=h
   exact ⟨r,h.at_,h.new,h.lt,h.T,h.pi,λd B hd=>h.L d B ((show ∀ d B,mC live G.L d=some B->G.L d=some B by grind [mC]) d B hd),h.obj⟩
def qP {it:Option Jt} {o:Oper} {u:Value} (h:qw it o=true):∀ i,it=some i->(a.put o.dst u).eval (.tmp i.d)=a.eval (.tmp i.d):=by
 rintro i rfl
 refine Act.eval_put ?_
 intro d hd e
 cases e
 simp only [qw,hd,Bool.not_eq_true'] at h
 simp at h
def B1 {ents:Array MapEntry} {seen:Array Nat} {e:MapEntry}:e∈(leftOf ents seen).toList↔e∈ents.toList/\e.born∉seen.toList:=by
 simp [leftOf]
def Hx (hF:Fr G0 G) (hW:WR G) {i:Jt} {r:Nat} (hA:wH G0 G a i r) (ty:Nat) :
  (i.js=[]/\(Instr.next (.pointer (some ⟨r,0,none⟩)) false ty).run P G.w=.ok (.tuple #[.bool false]) G.w) \/
  ∃ j∈i.js,∃ x u G',i.es[j]?=some x/\(Instr.next (.pointer (some ⟨r,0,none⟩)) false ty).run P G.w=.ok u G'.w/\G'.h=G.h/\Ext G G'/\Fr G0 G'/\WR G'/\VR G' (qv (some x)) u /\
    wH G0 G' a { i with last:=some j,js:=i.js.filter λy=>!(Nat.beq y j) } r:=by
 rcases hA.obj with ⟨h1,h2,h3,h4⟩ | ⟨m,ents,clk,s,seen,hT,hm,ha,hl,hp,h,h5,h6,h7⟩
 ·exact .inl ⟨h2,by simp [Instr.next,getObj,Sem.run,h4]⟩
 ·rcases run_next_at (P:=P) G.w ty r m clk clk seen ents clk h hm (by
   intro x hx
   obtain ⟨j,hj⟩:=List.getElem?_of_mem hx
   exact ha.1 j x (by simpa using hj)) (Nat.le_refl _) with ⟨h0,hr⟩ | ⟨e,he,w1,hw1,hr⟩
  ·refine .inl ⟨?_,hr⟩
   refine List.eq_nil_iff_forall_not_mem.2 λj hj=>?_
   have hlt:=h5 j hj
   have hb:=(h6 j ents[j] (by simp [hlt])).1 hj
   have:ents[j]∈(leftOf ents seen).toList:=B1.2 ⟨by simp,hb⟩
   have hz:(leftOf ents seen).toList=[]:=by simpa using h0
   rw [hz] at this
   cases this
  ·right
   obtain ⟨hmem,hb⟩:=B1.1 he
   obtain ⟨j,hj⟩:=List.getElem?_of_mem hmem
   have hj:ents[j]?=some e:=by simpa using hj
   have hjs:=(h6 j e hj).2 hb
   have hlt:=h5 j hjs
   have hx:i.es[j]?=some i.es[j]:=by simp
   have hmr:m≠r:=λk=>hA.T s (k▸hT)
   obtain ⟨w',hr,k2,k3,k4,k5⟩:∃ w',(Instr.next (.pointer (some ⟨r,0,none⟩)) false ty).run P G.w=.ok (.tuple #[.bool true,e.key,e.val]) w'/\w'.heap=G.w.heap.setIfInBounds r (.mapIter (some m) clk (seen.push e.born) clk)/\w'.os=G.w.os/\w'.output=G.w.output/\qY G.w w':=by
    refine ⟨_,hr,?_⟩
    rcases hw1 with rfl | rfl<;>first | exact ⟨rfl,rfl,rfl,.rfl _⟩ | exact ⟨rfl,rfl,rfl,rfl,λ_=>Nat.le_succ _⟩
   obtain ⟨E,F',W'⟩:=NO hF hW k2 k3 k4 k5 hA.new hA.T hA.pi hA.L
   obtain ⟨p1,p2⟩:=hp j _ e hx hj
   refine ⟨j,hjs,i.es[j],_,⟨w',G.T,G.h,G.pi,G.L⟩,hx,hr,rfl,E,F',W',Bz (PR.tj (p1.mono E.T E.keep)) (PR.tj (p2.mono E.T E.keep)),?_⟩
   refine ⟨hA.at_,hA.new,by show r<w'.heap.size; rw [k2]; simpa using hA.lt,hA.T,hA.pi,hA.L,?_⟩
   refine .inr ⟨m,ents,clk,s,seen.push e.born,hT,?_,ha,hl,λj p e k1 k2=>⟨(hp j p e k1 k2).1.mono E.T E.keep,(hp j p e k1 k2).2.mono E.T E.keep⟩,?_,?_,?_,?_⟩
   ·show w'.heap[m]? = _
    rw [k2]; grind
   ·show w'.heap[r]? = _
    rw [k2]; have:=hA.lt; grind
   ·intro y hy
    exact h5 y (List.mem_filter.1 hy).1
   ·intro y e' hy
    have hnd:=ha.2
    have hinj:e'.born=e.born->y=j:=by
     intro hbb
     have g1:(ents.toList.map (·.born))[y]?=some e'.born:=by simp [hy]
     have g2:(ents.toList.map (·.born))[j]?=some e.born:=by simp [hj]
     have l1:y<(ents.toList.map (·.born)).length:=(List.getElem?_eq_some_iff.1 g1).1
     have l2:j<(ents.toList.map (·.born)).length:=(List.getElem?_eq_some_iff.1 g2).1
     have g3:(ents.toList.map (·.born))[y]=(ents.toList.map (·.born))[j]:=by rw [(List.getElem?_eq_some_iff.1 g1).2,(List.getElem?_eq_some_iff.1 g2).2,hbb]
     have hp:=List.pairwise_iff_getElem.1 hnd
     rcases Nat.lt_trichotomy y j with k | k | k
     ·exact absurd g3 (hp y j l1 l2 k)
     ·exact k
     ·exact absurd g3.symm (hp j y l2 l1 k)
    have hyj:y=j->e'=e:=by rintro rfl; rw [hy] at hj; exact Option.some.inj hj
    simp only [List.mem_filter,h6 y e' hy,Array.toList_push,List.mem_append,List.mem_singleton,not_or]
    constructor
    ·rintro ⟨u1,u2⟩
     refine ⟨u1,λk=>?_⟩
     rw [hinj k] at u2
     simp at u2
    ·rintro ⟨u1,u2⟩
     refine ⟨u1,?_⟩
     cases hq:Nat.beq y j with
     | false=>rfl
     | true=>exact absurd (congrArg MapEntry.born (hyj (Nat.eq_of_beq_eq_true hq))) u2
   ·rintro y hy
    cases hy
    exact ⟨e,seen,hj,rfl⟩
def Fq {i:Jt} {r:Nat} (hA:wH G0 G a i r) {j:Nat} {x:AV×AV} (hj:i.last=some j) (hx:i.es[j]?=some x) :
  ∃ u,(Instr.entry (.pointer (some ⟨r,0,none⟩))).run P G.w=.ok u G.w/\VR G (.fG [x.1,x.2]) u:=by
 rcases hA.obj with ⟨h1,h2,h3,h4⟩ | ⟨m,ents,clk,s,seen,hT,hm,ha,hl,hp,h,h5,h6,h7⟩
 ·rw [h3] at hj; cases hj
 ·obtain ⟨e,seen0,he,rfl⟩:=h7 j hj
  obtain ⟨p1,p2⟩:=hp j x e hx he
  refine ⟨_,run_entry_at G.w r m clk seen0 ents clk e h hm (by have:=Array.mem_of_getElem? he; simpa using this) ha.2,.fG _ _ rfl ?_⟩
  have:=PR.tj p1
  have:=PR.tj p2
  grind
def Hd (hW:WR G) (hC:gR P X.C) {t:Nat} {x:AV} {x':Value} (hx:VR G x x') {es:List (AV×AV)} (h:B5 X.C t x=some es) {d:Nat} :
  ∃ o,(Instr.range t x').run P G.w=.ok (.pointer (some ⟨G.w.heap.size,0,none⟩)) (G.w.alloc o)/\Fz ⟨G.w.alloc o,G.T,G.h,G.pi,G.L⟩ G.w.heap.size ⟨d,es,none,List.range es.length⟩:=by
 unfold B5 at h
 split at h
 ·rename_i ti hti
  split at h
  ·rename_i kt el hkind
   have hd:=ur hC hti hkind
   have hnew:∀ o:Obj,(G.w.alloc o).heap[G.w.heap.size]?=some o:=λo=>(iX.alloc G.w o).new (G:=G)
   have hold:∀ (o:Obj) B,B<G.w.heap.size->(G.w.alloc o).heap[B]?=G.w.heap[B]?:=λo B hB=>(iX.alloc G.w o).ri (G:=G) hB
   have hE:∀ o:Obj,Ext G ⟨G.w.alloc o,G.T,G.h,G.pi,G.L⟩:=λo=>(w8 hW o).1.ext
   unfold mapOf at h
   split at h
   ·cases h
    cases hx with
    | gf _ hx =>
      cases hx
      refine ⟨_,?_,.inl ⟨rfl,rfl,rfl,hnew _⟩⟩
      simp_all [Instr.range,run_underlying,newObj,Sem.run]
   ·cases h
    cases hx with
    | gf _ hx =>
      cases hx with
      | fm _ _ sn m ents clk _ hB hI hl hy hko hkk hvv =>
        refine ⟨.mapIter (some m) clk #[] clk,run_range_map G.w t kt el m ents clk hd hB,?_⟩
        have E:=hE (.mapIter (some m) clk #[] clk)
        refine .inr ⟨m,ents,clk,_,#[],hI,(hold _ m (hW.mv _ m hI)).trans hB,hy,hl,λj p e k1 k2=>⟨((hkk j p e k1 k2).D6).mono E.T E.keep,((hvv j p e k1 k2).D6).mono E.T E.keep⟩,hnew _,?_,?_,λj hj=>by cases hj⟩
        ·intro j hj
         rw [<- hl]; exact List.mem_range.1 hj
        ·intro j e hj
         have:j<ents.size:=(Array.getElem?_eq_some_iff.1 hj).1
         simp [hl,this]
   ·cases h
  ·cases h
 ·cases h
def WJ (N:Nat) (G0:Ga) (K:Option Jt->Env->au->Prop) (Z:Act->World->Prop):Prop:=∀ G a it e,St N G0 G e a->CD G0 G a it->K it e G.h->Z a G.w
def Ja (hC:gR P X.C) (hK:lh P X.call) {ops:Array Oper} (hN:ops.toList.all (nL N)=true) {k:PJ} (hk:WJ N G0 k (Q .normal)) :
  ∀ (l:List Oper) (i:Nat),ops.toList.drop i=l->WJ N G0 (mD X ops.toList k l) (wpOps P ops Q (List.range' i (ops.size - i))):=by
 intro l
 induction l with
 | nil =>
   intro i hd G a it e hS hI hr
   have:ops.size - i=0:=by simp_all
   rw [this]
   exact hk G a it e hS hI hr
 | cons o l ih =>
   intro i hd G a it e hS hI hr
   have hoi:ops[i]?=some o:=by
    have h1:(ops.toList.drop i)[0]?=some o:=by grind
    grind
   have hlt:i<ops.size:=(Array.getElem?_eq_some_iff.1 hoi).1
   have hd':ops.toList.drop (i+1)=l:=by
    rw [<- List.tail_drop,hd]; rfl
   have hon:nL N o=true:=List.all_eq_true.1 hN o (by grind)
   have hrange:List.range' i (ops.size - i)=i::List.range' (i+1) (ops.size - (i+1)):=by
    have:ops.size - i=(ops.size - (i+1))+1:=by omega
    rw [this,List.range'_succ]
   rw [hrange]
   simp only [wpOps,hoi]
   simp only [mD,Gc] at hr
   have next:=ih (i+1) hd'
   split at hr
   ·rename_i t x hkk
    have hop:=Ej hkk
    obtain ⟨es,d,hrt,hdst,hng,hr⟩:=hr
    obtain ⟨ob,hrun,hobj⟩:=Hd (P:=P) (d:=d) hS.wr hC (fW hS.er x) hrt
    obtain ⟨S1,W1⟩:=w8 hS.wr ob
    rw [oa hng]
    simp only [if_true]
    left
    unfold Oper.wp
    simp only [execOp,hop,Sem.run_bind,hrun,Result.andThen_ok,Sem.run_pure,Oper.upon_value]
    have hS1:=hS.put (o:=o) (v:=.undef) (u:=.pointer (some ⟨G.w.heap.size,0,none⟩)) S1 W1 hon (.undef _)
    have hes:fp e o .undef=y6 e d .undef:=by grind [fp]
    rw [hes] at hS1
    refine next ⟨G.w.alloc ob,G.T,G.h,G.pi,G.L⟩ _ (some _) _ hS1 ⟨G.w.heap.size,?_,hS.fr.S.jd,?_,?_,?_,?_,hobj⟩ hr
    ·rw [hdst,Act.Cu (Nat.lt_of_lt_of_le (tV hon hdst) hS.sz),if_pos rfl]
    ·simp
    ·intro s ht
     exact Nat.lt_irrefl _ (hS.wr.mv s _ ht)
    ·intro b l hl e
     have:=(hS.wr.iU b l hl).1
     omega
    ·intro d2 B hB e
     have:=(hS.wr.kN d2 B hB).1
     omega
   ·rename_i t hkk
    have hop:=F4 hkk
    obtain ⟨i0,rfl,rfl,haw,hng,hr0,hr1⟩:=hr
    obtain ⟨r,hA⟩:=hI
    have hat:a.eval (.tmp i0.d)=.pointer (some ⟨r,0,none⟩):=hA.at_
    rw [oa hng]
    simp only [if_true]
    left
    unfold Oper.wp
    rcases Hx (P:=P) hS.fr hS.wr hA o.type with ⟨hj,hrun⟩ | ⟨j,hj,x,u,G1,hx,hrun,hh,E1,F1,W1,hv,hA1⟩
    ·simp only [execOp,hop,hat,Sem.run_bind,hrun,Result.andThen_ok,Sem.run_pure,Oper.upon_value]
     exact next _ _ (some _) _ (hS.put (.refl G) hS.wr hon C4) ⟨r,hA.step (.refl G) (qP haw i0 rfl)⟩ (hr0 hj)
    ·simp only [execOp,hop,hat,Sem.run_bind,hrun,Result.andThen_ok,Sem.run_pure,Oper.upon_value]
     have hS1:St N G0 G1 (fp e o (qv (some x))) (a.put o.dst u) :=
      ⟨F1,W1,(hS.er.mono E1).put hS.sz hon hv,by rw [Act.Cl]; exact hS.df,by rw [Act.yo]; exact hS.sz⟩
     refine next G1 _ (some _) _ hS1 ⟨r,?_,hA1.new,hA1.lt,hA1.T,hA1.pi,hA1.L,hA1.obj⟩ (by rw [hh]; exact hr1 j hj x hx)
     exact (qP haw i0 rfl).trans hA1.at_
   ·rename_i t hkk
    have hop:=DU hkk
    obtain ⟨i0,j,x,rfl,rfl,haw,hng,hl,hx,hr⟩:=hr
    obtain ⟨r,hA⟩:=hI
    have hat:a.eval (.tmp i0.d)=.pointer (some ⟨r,0,none⟩):=hA.at_
    obtain ⟨u,hrun,hv⟩:=Fq (P:=P) hA hl hx
    rw [oa hng]
    simp only [if_true]
    left
    unfold Oper.wp
    simp only [execOp,hop,hat,Sem.run_bind,hrun,Result.andThen_ok,Sem.run_pure,Oper.upon_value]
    exact next _ _ (some _) _ (hS.put (.refl G) hS.wr hon hv) ⟨r,hA.step (.refl G) (qP haw i0 rfl)⟩ hr
   ·obtain ⟨haw,⟨hw,hr⟩ | ⟨hw,v,h1,hop,hr⟩⟩:=hr
    ·rw [pz (λ_ _ d _ _ _ _ _=>hS.er.rel d) hw]
     simp only [Bool.false_eq_true,if_false]
     exact next _ _ _ _ (hS.put (.refl G) hS.wr hon (VR.Gv G)) (hI.step (.refl G) (qP haw)) hr
    ·rw [pz (λ_ _ d _ _ _ _ _=>hS.er.rel d) hw]
     simp only [if_true]
     have:=uS hS.wr hC hS.er hK hop
     left
     refine this _ Q (λu G' hh hst hwr hv=>?_)
     exact next _ _ _ _ (hS.put hst hwr hon hv) (hI.step hst (qP haw)) (by rw [hh]; exact hr)
   ·cases hr
def Hi (hm:P.follows .mixedOrders=true) (hC:gR P X.C) (hK:lh P X.call) (hIso:mr X.call):∀ (c:Code) (an:ga) (QS:QJ) (Q:Exit->Act->World->Prop),
  codeOk N X.fa.fY c an=true->(∀ x,WJ N G0 (QS x) (Q (Af x)))->WJ N G0 (jK X c an QS) (λa w=>c.wp P Q a w):=by
 intro c
 induction c with
 | skip=>exact λan QS Q _ hQ G a it e hS hI hr=>wp_skip (hQ .gH G a it e hS hI hr)
 | label l=>exact λan QS Q _ hQ G a it e hS hI hr=>wp_label (hQ .gH G a it e hS hI hr)
 | exit id=>exact λan QS Q _ hQ G a it e hS hI hr=>wp_exit (hQ (.ext id) G a it e hS hI hr)
 | ret=>exact λan QS Q _ hQ G a it e hS hI hr=>wp_ret (hQ .ret G a it e hS hI hr)
 | region id ops draw =>
   intro an QS Q hok hQ G a it e hS hI hr
   cases draw with
   | true =>
     obtain ⟨haw,e',h',hb,hr⟩:=hr
     simp only [s6] at hb
     split at hb
     ·rename_i sch
      unfold sB at hb
      split at hb
      ·rename_i e2 h2 hb2
       simp only [Option.some.injEq,Prod.mk.injEq] at hb
       obtain ⟨_,rfl,rfl⟩:=hb
       simp only [codeOk,Bool.and_eq_true] at hok
       have hJ:IF ops (λG a=>CD G0 G a it):=by
        refine ⟨λG G' a h S=>h.step S (λ_ _=>rfl),?_,?_⟩
        ·intro G a o u ho h
         exact h.step (.refl G) (qP (List.all_eq_true.1 haw o ho))
        ·intro G G' a bs ds h S
         cases it with
         | none=>trivial
         | some i =>
           obtain ⟨r,h⟩:=h
           exact ⟨r,h.fill S⟩
       exact uY hJ hm hC hK hIso hok.2 hok.1 hb2 rfl hS hI (λG' a' k1 k2 k3=>hQ .gH G' a' it _ k2 k3 (by rw [k1]; exact hr))
      ·cases hb
     ·cases hb
   | false =>
     simp only [codeOk,Bool.and_eq_true] at hok
     refine wp_region ?_
     have:=Ja (Q:=Q) hC hK hok.1 (hQ .gH) ops.toList 0 (by simp) G a it e hS hI hr
     rw [Nat.sub_zero,<- List.range_eq_range'] at this
     exact this
 | seq p q ihp ihq =>
   intro an QS Q hok hQ G a it e hS hI hr
   have key:∀ (y:ga) (k:PJ),codeOk N X.fa.fY p y=true->jK X p y (wh k QS) it e G.h->WJ N G0 k (λa w=>q.wp P Q a w)->(Code.seq p q).wp P Q a G.w:=by
    intro y k hoy hr hk
    refine wp_seq (ihp y _ _ hoy ?_ G a it e hS hI hr)
    intro x
    cases x with
    | gH=>exact hk
    | ext id=>exact hQ (.ext id)
    | ret=>exact hQ .ret
   rcases hr with ⟨live,y,z,rfl,hr⟩ | ⟨y,z,rfl,hr⟩
   ·simp only [codeOk,Bool.and_eq_true] at hok
    exact key y _ hok.1 hr (λG1 a1 it1 e1 hS1 hI1 hk=>ihq z QS Q hok.2 hQ (G1.gK (iu live G1.h.aT) (mC live G1.L)) a1 it1 _ (hS1.jo live) (hI1.jo live) hk.w)
   ·simp only [codeOk,Bool.and_eq_true] at hok
    exact key y _ hok.1 hr (ihq z QS Q hok.2 hQ)
 | cond c p q ihp ihq =>
   intro an QS Q hok hQ G a it e hS hI hr
   obtain ⟨y,z,rfl,hr⟩:=hr
   simp only [codeOk,Bool.and_eq_true] at hok
   have hv:=fW hS.er c
   rcases hr with ⟨hb,hr⟩ | ⟨hb,hr⟩
   ·rw [bool?_eq hb] at hv
    exact wp_cond_true hv.of_bool (ihp y QS Q hok.1 hQ G a it e hS hI hr)
   ·rw [bool?_eq hb] at hv
    exact wp_cond_false hv.of_bool (ihq z QS Q hok.2 hQ G a it e hS hI hr)
 | block id p ih =>
   intro an QS Q hok hQ G a it e hS hI hr
   simp only [codeOk] at hok
   refine wp_block (ih an (BH id QS) _ hok ?_ G a it e hS hI hr)
   intro x
   cases x with
   | gH=>exact hQ .gH
   | ret=>exact hQ .ret
   | ext id' =>
     intro G1 a1 it1 e1 hS1 hI1 hr
     show Exit.inBlock id Q (.exit id') a1 G1.w
     simp only [BH] at hr
     split at hr
     ·rename_i hid
      have hid:=Nat.eq_of_beq_eq_true hid
      simp only [Exit.inBlock,hid,if_true]
      exact hQ .gH G1 a1 it1 e1 hS1 hI1 hr
     ·rename_i hid
      have hid:=Nat.ne_of_beq_eq_false hid
      simp only [Exit.inBlock,hid,if_false]
      exact hQ (.ext id') G1 a1 it1 e1 hS1 hI1 hr
 | loop p ih =>
   intro an QS Q hok hQ G a it e hS hI hr
   obtain ⟨live,y,rfl,I,⟨m,hm0⟩,hr⟩:=hr
   simp only [codeOk] at hok
   refine xP (λm a w=>∃ G it e,G.w=w/\St N G0 G e a/\CD G0 G a it/\I m it e G.h) ?_ m a G.w ⟨G,it,e,rfl,hS,hI,hm0⟩
   rintro m a _ ⟨G,it,e,rfl,hS,hI,hm1⟩
   refine ih y _ _ hok ?_ (G.gK (iu live G.h.aT) (mC live G.L)) a it _ (hS.jo live) (hI.jo live) (hr m it e G.h hm1).w
   intro x
   cases x with
   | gH =>
     rintro G1 a1 it1 e1 hS1 hI1 ⟨m',hlt,hi⟩
     exact ⟨m',hlt,G1,it1,e1,rfl,hS1,hI1,hi⟩
   | ext id=>exact hQ (.ext id)
   | ret=>exact hQ .ret
 | scope p ih =>
   intro an QS Q hok hQ G a it e hS hI hr
   simp only [codeOk] at hok
   refine wp_scope_straight (ih an QS _ hok ?_ G a it e hS hI hr)
   intro x
   cases x with
   | gH=>exact hQ .gH
   | ext id=>exact hQ (.ext id)
   | ret=>exact hQ .ret
 | _=>intro an QS Q hok hQ G a it e hS hI hr; cases hr
end
end Go.Sx
namespace Go.Sx
open Go
variable [DD]
def wi (C:gv) (fa:eY) (call:mN) (args:List AV) (h:au) (R:AV->au->Prop):Prop :=
 jK ⟨C,fa,call⟩ fa.body fa.lE (λx _ e h'=>(x=.gH\/x=.ret)/\∃ v h2,leave.leave1 C fa.res e h'=some (v,h2)/\R v h2) none (params 0 args) h
section
variable {P:Program} {C:gv} {G:Ga}
def AY (hm:P.follows .mixedOrders=true) (hC:gR P C) {call:mN} (hK:lh P call) (hI:mr call) {f:Nat} {fa:eY} (hF:nV P f fa) {args:List AV} {S:AV->au->Prop}
  (h:wi C fa call args G.h S) (hlo:G.h.aT=[]) (hL:∀ d,G.L d=none) (hW:WR G) {args':Array Value} (hl:args.length=args'.size)
  (hr:∀ (i:Nat) (x:AV) (y:Value),args[i]?=some x->args'[i]?=some y->VC G x y) {R:Ending->World->Prop}
  (hR:∀ v h' u G',S v h'->Step G G'->WR G'->(∀ d,G'.L d=none)->G'.h = { h' with aT:=[] }->wI G' v u->R (.returned u) G'.w):Calls P f args' G.w R:=by
 obtain ⟨fn,hfn,hbody,hres,_,hcode⟩:=hF.ex
 unfold wi at h
 refine calls_of_wp hfn hbody ?_
 have hfr:Fr G G:=by
  refine ⟨⟨⟨λ_ _ h=>h,λ_ _ _=>rfl,Nat.le_refl _,λ_ _ g z xs h=>⟨g,z,xs,h,Nat.le_refl _,λ_=>⟨rfl,λ_ h=>h⟩⟩,λ_ _ es c h=>⟨es,c,h,λ_ h=>h⟩,λd B h=>by grind⟩,rfl,rfl,.rfl _,Nat.le_refl _,λ_ _ _ _=>rfl,
   λ_ l h=>.inl ⟨l,h,rfl⟩,λ_ _ h=>.inl (by rw [show G.pi _ = _ from h]; rfl),λ_ _ h=>.inl h,rfl,λ_ _ _=>rfl,λ_ _ h=>(by cases h),λ_ _ h=>(by cases h),?_⟩,λd B h=>by grind⟩
  intro d c _ hd
  rw [hlo] at hd
  cases hd
 have hSt:St fn.ntmps G G (params 0 args) { tmps:=args'++Array.replicate (fn.ntmps - args'.size) undef,defers:=[] } :=
  ⟨hfr,hW,zY hl hr _,rfl,by grind⟩
 refine Hi (X:=⟨C,fa,call⟩) (N:=fn.ntmps) (G0:=G) hm hC hK hI fa.body fa.lE _ _ hcode ?_ G _ none _ hSt trivial h
 rintro x G1 a1 it1 e1 hS1 - ⟨hx,v,h2,hlv,hs⟩
 have hpost:∃ u,(results fn a1.tmps).run P G1.w=.ok u G1.w/\R (.returned u) G1.w:=by
  rw [<- hres] at hlv
  obtain ⟨e1,u,e2,e3⟩:=uN hS1.wr hC hS1.er hlv
  refine ⟨u,e2,?_⟩
  exact hR v h2 u (G1.gK [] λ_=>none) hs hS1.fr.S (hS1.wr.Cb (λd B h=>by cases h) (λd B h=>by cases h)) (λ_=>rfl) (by rw [e1]; rfl) e3.gK
 rcases hx with rfl | rfl
 ·exact ⟨hS1.df,hpost⟩
 ·exact ⟨hS1.df,hpost⟩
def mR (spec:List AV->Option AV):Bool->List AV->au->Option (AV×au)
 | false,args,h=>match gT h args with
   | some kU=>match spec kU with
     | some v=>some (v,h)
     | none=>none
   | none=>none
 | true,_,_=>none
def II {F:gX} {Pr:gQ} (T:nF P C F Pr) {f:Nat} {fa:eY} (hF:nV P f fa) {spec:List AV->Option AV}
  (hs:∀ args v,spec args=some v->∃ n,wi C fa (gP C F Pr n) args au.empty λv0 h0=>freeze false h0 8 v0=some v):lg P f (mR spec):=by
 constructor
 ·intro shd args h v h' hc G args' hG hlo hL hW hl hr
  subst hG
  obtain ⟨fn,hfn,hbody,_,hname,_⟩:=hF.ex
  refine ⟨⟨fn,hfn,by grind,hname⟩,?_⟩
  intro R hR
  unfold mR at hc
  split at hc
  ·split at hc
   ·rename_i kU ha
    split at hc
    ·rename_i v1 hv1
     simp only [Option.some.injEq,Prod.mk.injEq] at hc
     obtain ⟨rfl,rfl⟩:=hc
     obtain ⟨n,hb⟩:=hs _ _ hv1
     obtain ⟨k1,k2⟩:=qn hW ha hl hr
     refine AY (G:=od G) T.mixed T.cfg (mT T n) (pC T n) hF hb rfl (λ_=>rfl) (AD hW) k1 k2 ?_
     intro v0 h0 u G2 hz S2 W2 _ hh hv
     obtain ⟨S3,W3⟩:=vW hW hL S2 W2
     have hfz:freeze false G2.h 8 v0=some v1:=by
      rw [hh]
      exact nM (λb o h=>h) _ _ _ hz
     exact hR u (re G G2) S3 W3 (λm=>rfl) (λm L=>(tZ S2 W2 hfz hv).gK.vr)
    ·cases hc
   ·cases hc
  ·cases hc
 ·intro args h v h' hc
  simp only [mR] at hc ⊢
  split at hc
  ·rename_i kU ha
   split at hc
   ·rename_i v1 hv1
    simp only [Option.some.injEq,Prod.mk.injEq] at hc
    obtain ⟨rfl,rfl⟩:=hc
    refine ⟨rfl,?_⟩
    intro h2 E
    have ha2:gT h2 args=some kU:=by
     unfold gT at ha ⊢
     split at ha
     ·have:∀ (l l':List AV),fU (freeze true h 8) l=some l'->fU (freeze true h2 8) l=some l':=by
       intro l
       induction l<;>grind [fU,nM]
      grind
     ·exact ha
    rw [ha2]
    simp only [hv1]
   ·cases hc
  ·cases hc
end
end Go.Sx
namespace Go.Sx
open Go
section
variable {X:Ctx} {all l rest:List Oper} {o:Oper} {k:PJ} {it:Option Jt} {e:Env} {h h1:au} {v:AV} {c a b:Code} {an x y:ga} {Q:QJ} {i:Nat} {live:List Nat} {os:Array Oper} {t:Operand}
def jV (w:mD X all k rest it (fp e o v) h1) (hl:l=o::rest:=by exact rfl) (hk:sO o.op=.plain:=by exact rfl) (ha:qw it o=true:=by exact rfl) (hw:fE all e o=some true:=by exact rfl) (hop:gd o.op X e h o.dst=some (v,h1):=by exact rfl):mD X all k l it e h:=by
 subst hl; simp only [mD,Gc,hk]; exact ⟨ha,.inr ⟨hw,v,h1,hop,w⟩⟩
def jR {u d:Nat} {z:Operand} {es:List (AV×AV)} (w:mD X all k rest (some ⟨d,es,none,List.range es.length⟩) (y6 e d .undef) h) (hl:l=o::rest:=by exact rfl) (hk:sO o.op=.range u z:=by exact rfl) (hr:B5 X.C u (fg e z)=some es:=by exact rfl) (hd:o.dst=some d:=by exact rfl) (hg:oj o=true:=by exact rfl):mD X all k l it e h:=by
 subst hl; simp only [mD,Gc,hk]; exact ⟨es,d,hr,hd,hg,w⟩
def jN {u:Nat} {j:Jt} (w0:j.js=[]->mD X all k rest (some j) (fp e o (qv none)) h) (w1:∀ n∈j.js,∀ p,j.es[n]?=some p->mD X all k rest (some { j with last:=some n,js:=j.js.filter λy=>!(Nat.beq y n) }) (fp e o (qv (some p))) h)
  (hl:l=o::rest:=by exact rfl) (hk:sO o.op=.next u:=by exact rfl) (hd:j.d=u:=by exact rfl) (ha:qw (some j) o=true:=by exact rfl) (hg:oj o=true:=by exact rfl):mD X all k l (some j) e h:=by
 subst hl; simp only [mD,Gc,hk]; exact ⟨j,rfl,hd,ha,hg,w0,w1⟩
def jE {u n:Nat} {j:Jt} {p:AV×AV} (w:mD X all k rest (some j) (fp e o (.fG [p.1,p.2])) h) (hp:j.es[n]?=some p) (hn:j.last=some n:=by exact rfl) (hl:l=o::rest:=by exact rfl) (hk:sO o.op=.entry u:=by exact rfl) (hd:j.d=u:=by exact rfl) (ha:qw (some j) o=true:=by exact rfl) (hg:oj o=true:=by exact rfl):mD X all k l (some j) e h:=by
 subst hl; simp only [mD,Gc,hk]; exact ⟨j,n,p,rfl,hd,ha,hg,hn,hp,w⟩
def jO (w:k it e h) (hl:l=[]:=by exact rfl):mD X all k l it e h:=by subst hl; exact w
def jg (w:mD X os.toList (Q .gH) os.toList it e h) (hc:c=.region i os false:=by exact rfl):jK X c an Q it e h:=by subst hc; exact w
def jq (w:jK X a x (wh (jK X b y Q) Q) it e h) (hc:c=.seq a b:=by exact rfl) (ha:an=.sq x y:=by exact rfl):jK X c an Q it e h:=by subst hc ha; exact .inr ⟨_,_,rfl,w⟩
def jz (w:jK X a x (wh (EU live (jK X b y Q)) Q) it e h) (hc:c=.seq a b:=by exact rfl) (ha:an=.seq live x y:=by exact rfl):jK X c an Q it e h:=by subst hc ha; exact .inl ⟨_,_,_,rfl,w⟩
def jT (w:jK X a x Q it e h) (hc:c=.cond t a b:=by exact rfl) (ha:an=.two x y:=by exact rfl) (ht:(fg e t).bool?=some true:=by exact rfl):jK X c an Q it e h:=by subst hc ha; exact ⟨_,_,rfl,.inl ⟨ht,w⟩⟩
def jF (w:jK X b y Q it e h) (hc:c=.cond t a b:=by exact rfl) (ha:an=.two x y:=by exact rfl) (ht:(fg e t).bool?=some false:=by exact rfl):jK X c an Q it e h:=by subst hc ha; exact ⟨_,_,rfl,.inr ⟨ht,w⟩⟩
def jb (w:jK X a an (BH i Q) it e h) (hc:c=.block i a:=by exact rfl):jK X c an Q it e h:=by subst hc; exact w
def je (w:Q (.ext i) it e h) (hc:c=.exit i:=by exact rfl):jK X c an Q it e h:=by subst hc; exact w
def jk (w:Q .gH it e h) (hc:c=.skip:=by exact rfl):jK X c an Q it e h:=by subst hc; exact w
def jr (w:Q .ret it e h) (hc:c=.ret:=by exact rfl):jK X c an Q it e h:=by subst hc; exact w
def jJ {P:Prop} {k:PJ} (E:Env) (h':au) (w:k it E h') (hP:P=EU live k it e h:=by exact rfl) (hE:proj live e=E:=by exact rfl) (hh:{ h with aT:=iu live h.aT }=h':=by exact rfl):P:=by subst hP hE hh; exact ⟨w⟩
def jL (I:Nat->PJ) {m:Nat} (h0:I m it e h) (hs:∀ m it e h,I m it e h->jK X a x (wh (λit e h=>∃ m',m'<m/\I m' it e h) Q) it (proj live e) { h with aT:=iu live h.aT }) (hc:c=.loop a:=by exact rfl) (ha:an=.loop live x:=by exact rfl):jK X c an Q it e h:=by
 subst hc ha; exact ⟨_,_,rfl,I,⟨m,h0⟩,λm it e h hm=>⟨hs m it e h hm⟩⟩
end
def DV {X:Ctx} {f:Nat} {g:Operand} {c:Call} {args:List AV} {v:AV} {d:Option Nat} {e:Env} {H:au} (hb:X.call false f args { H with aT:=[] }=some (v,{ H with aT:=[] })) (hf:c.callee=.value g:=by exact rfl) (hg:fg e g=.gx f [] []:=by exact rfl) (ha:c.args.toList.map (fg e)=args:=by exact rfl) (hok:args.all AV.kK=true:=by exact rfl) (hs:X.fa.fY.elem f=false:=by exact rfl):gd (.call c) X e H d=some (v,H):=by
 simp only [gd,nG,mM,hf,hg,ha,rB,yt,List.nil_append,List.append_nil,hok,hs,hb,sR]
def Kx:YR->Bool
 | .plain=>true
 | _=>false
def ET (it:Option Jt) (o:Oper):Bool:=qw it o&&Kx (sO o.op)
def qu (it:Option Jt):Code->Bool
 | .region _ ops _=>ops.toList.all (ET it)
 | .seq a b=>qu it a&&qu it b
 | .cond _ a b=>qu it a&&qu it b
 | .block _ a=>qu it a
 | .loop a=>qu it a
 | .scope a=>qu it a
 | _=>true
theorem DM (live:List Nat) (k:Env->au->RC) (e:Env) (h:au):jo live k e h=k (proj live e) { h with aT:=iu live h.aT }:=by
 unfold jo
 simp
def Ly {X:Ctx} {all:List Oper} {it:Option Jt} {k:PJ}:∀ {l:List Oper} {e e':Env} {h h':au},uJ X all l e h=some (e',h')->l.all (ET it)=true->k it e' h'->mD X all k l it e h
 | [],e,e',h,h',hr,_,hk=>by
   simp only [uJ,Option.some.injEq,Prod.mk.injEq] at hr
   obtain ⟨rfl,rfl⟩:=hr
   exact hk
 | o::l,e,e',h,h',hr,ha,hk=>by
   simp only [List.all_cons,Bool.and_eq_true,ET] at ha
   obtain ⟨⟨ha,hp⟩,hl⟩:=ha
   have hpl:sO o.op=.plain:=by cases hq:sO o.op<;>simp [hq,Kx] at hp ⊢
   simp only [mD,Gc,hpl]
   refine ⟨ha,?_⟩
   simp only [uJ] at hr
   cases hw:fE all e o with
   | none=>rw [hw] at hr; cases hr
   | some b =>
     rw [hw] at hr
     have ih:=λ{e e':Env} {h h':au}=>Ly (X:=X) (all:=all) (it:=it) (k:=k) (l:=l) (e:=e) (e':=e') (h:=h) (h':=h')
     cases b with
     | false=>exact .inl ⟨rfl,ih hr hl hk⟩
     | true =>
       simp only [oY] at hr
       split at hr
       ·rename_i v h1 hop
        simp only [xZ] at hr
        exact .inr ⟨rfl,v,h1,hop,ih hr hl hk⟩
       ·cases hr
def Qj {X:Ctx} {n:Nat} {it:Option Jt}:∀ (c:Code) (an:ga) (e:Env) (h:au) (x:Ex) (e':Env) (h':au) (Q:QJ),gF X (iC n) c an e h=some (x,e',h')->qu it c=true->Q x it e' h'->jK X c an Q it e h:=by
 intro c
 induction c with
 | skip=>intro an e h x e' h' Q hr _ hq; simp only [gF,Option.some.injEq,Prod.mk.injEq] at hr; obtain ⟨rfl,rfl,rfl⟩:=hr; exact hq
 | label l=>intro an e h x e' h' Q hr _ hq; simp only [gF,Option.some.injEq,Prod.mk.injEq] at hr; obtain ⟨rfl,rfl,rfl⟩:=hr; exact hq
 | exit l=>intro an e h x e' h' Q hr _ hq; simp only [gF,Option.some.injEq,Prod.mk.injEq] at hr; obtain ⟨rfl,rfl,rfl⟩:=hr; exact hq
 | ret=>intro an e h x e' h' Q hr _ hq; simp only [gF,Option.some.injEq,Prod.mk.injEq] at hr; obtain ⟨rfl,rfl,rfl⟩:=hr; exact hq
 | region id ops draw =>
   intro an e h x e' h' Q hr ha hq
   simp only [qu] at ha
   cases draw with
   | true =>
     simp only [gF,sr] at hr
     have hx:x=.gH:=by
      unfold s6 at hr
      split at hr
      ·unfold sB at hr; split at hr
       ·cases hr; rfl
       ·cases hr
      ·cases hr
     subst hx
     refine ⟨List.all_eq_true.2 λo ho=>?_,e',h',hr,hq⟩
     have:=List.all_eq_true.1 ha o ho
     simp only [ET,Bool.and_eq_true] at this
     exact this.1
   | false =>
     simp only [gF,sr,EX,sB] at hr
     split at hr
     ·rename_i e1 h1 hb
      simp only [Option.some.injEq,Prod.mk.injEq] at hr
      obtain ⟨rfl,rfl,rfl⟩:=hr
      exact Ly hb ha hq
     ·cases hr
 | seq a b iha ihb =>
   intro an e h x e' h' Q hr ha hq
   simp only [qu,Bool.and_eq_true] at ha
   simp only [gF,yI] at hr
   have key:∀ (y:ga) (k:Env->au->RC) (k':PJ),andThen k (gF X (iC n) a y e h)=some (x,e',h')->(∀ e1 h1,k e1 h1=some (x,e',h')->k' it e1 h1)->jK X a y (wh k' Q) it e h:=by
    intro y k k' hr hk
    unfold andThen at hr
    split at hr
    ·rename_i e1 h1 hb
     exact iha y _ _ _ _ _ _ hb ha.1 (hk e1 h1 hr)
    ·rename_i hne
     refine iha y _ _ _ _ _ _ hr ha.1 ?_
     cases x with
     | gH=>exact absurd hr (hne _ _)
     | ext id=>exact hq
     | ret=>exact hq
   split at hr
   ·rename_i live y z
    refine .inl ⟨live,y,z,rfl,key y _ _ hr λe1 h1 hk=>?_⟩
    rw [DM] at hk
    exact ⟨ihb z _ _ _ _ _ _ hk ha.2 hq⟩
   ·rename_i y z
    exact .inr ⟨y,z,rfl,key y _ _ hr λe1 h1 hk=>ihb z _ _ _ _ _ _ hk ha.2 hq⟩
   ·cases hr
 | cond t a b iha ihb =>
   intro an e h x e' h' Q hr ha hq
   simp only [qu,Bool.and_eq_true] at ha
   simp only [gF,CM] at hr
   split at hr
   ·rename_i y z
    unfold Cv at hr
    split at hr
    ·rename_i hb; exact ⟨y,z,rfl,.inl ⟨hb,iha y _ _ _ _ _ _ hr ha.1 hq⟩⟩
    ·rename_i hb; exact ⟨y,z,rfl,.inr ⟨hb,ihb z _ _ _ _ _ _ hr ha.2 hq⟩⟩
    ·cases hr
   ·cases hr
 | block id a ih =>
   intro an e h x e' h' Q hr ha hq
   simp only [gF,ux,atEnd] at hr
   split at hr
   ·rename_i id' e1 h1 hb
    refine ih an _ _ _ _ _ (BH id Q) hb ha ?_
    simp only [BH]
    split at hr
    ·rename_i hid
     cases hr
     rw [hid]; exact hq
    ·rename_i hid
     cases hr
     rw [hid]; exact hq
   ·rename_i hne
    refine ih an _ _ _ _ _ (BH id Q) hr ha ?_
    cases x with
    | gH=>exact hq
    | ret=>exact hq
    | ext id'=>exact absurd hr (hne _ _ _)
 | loop a ih =>
   intro an e h x e' h' Q hr ha hq
   simp only [gF,Jv] at hr
   split at hr
   ·rename_i live y
    refine ⟨live,y,rfl,λm it' e h=>it'=it/\iC m (jo live (gF X (iC n) a y)) e h=some (x,e',h'),⟨n,rfl,hr⟩,?_⟩
    rintro m it' e h ⟨rfl,hm⟩
    cases m with
    | zero=>cases hm
    | succ m =>
      simp only [iC,DM] at hm
      split at hm
      ·rename_i e1 h1 hb
       exact ⟨ih y _ _ _ _ _ _ hb ha ⟨m,Nat.lt_succ_self _,rfl,hm⟩⟩
      ·rename_i hne
       refine ⟨ih y _ _ _ _ _ _ hm ha ?_⟩
       cases x with
       | gH=>exact absurd hm (hne _ _)
       | ext id=>exact hq
       | ret=>exact hq
   ·cases hr
 | scope a ih=>exact λan e h x e' h' Q hr ha hq=>ih an e h x e' h' Q hr ha hq
 | _=>intro an e h x e' h' Q hr; cases hr
section
variable {C:gv} {fa:eY} {call:Nat->mN} {R:List AV->AV->Prop} {args:List AV}
def Good (C:gv) (fa:eY) (call:Nat->mN) (args:List AV) (v:AV):Prop:=∃ n,wi C fa (call n) args au.empty λv0 h0=>freeze false h0 8 v0=some v
open Classical in
noncomputable def nN (C:gv) (fa:eY) (call:Nat->mN) (R:List AV->AV->Prop) (args:List AV):Option AV :=
 if h:∃ v,Good C fa call args v/\R args v then some h.choose else none
def wF {v:AV} (hs:nN C fa call R args=some v):Good C fa call args v:=by
 unfold nN at hs
 split at hs
 ·rename_i h
  cases hs
  exact h.choose_spec.1
 ·cases hs
def Lv (h:∃ v,Good C fa call args v/\R args v):∃ v,nN C fa call R args=some v/\R args v:=by
 refine ⟨h.choose,?_,h.choose_spec.2⟩
 unfold nN
 rw [dif_pos h]
end
def yn {spec:List AV->Option AV}:∀ (args:List AV) (h:au) (v:AV) (h':au),mR spec false args h=some (v,h')->h'=h/\∀ h2:au,(∀ b o,h.get b=some o->h2.get b=some o)->mR spec false args h2=some (v,h2):=by
 intro args h v h' hc
 simp only [mR] at hc ⊢
 split at hc
 ·rename_i kU ha
  split at hc
  ·rename_i v1 hv1
   simp only [Option.some.injEq,Prod.mk.injEq] at hc
   obtain ⟨rfl,rfl⟩:=hc
   refine ⟨rfl,?_⟩
   intro h2 E
   have ha2:gT h2 args=some kU:=by
    unfold gT at ha ⊢
    split at ha
    ·have:∀ (l l':List AV),fU (freeze true h 8) l=some l'->fU (freeze true h2 8) l=some l':=by
      intro l
      induction l<;>grind [fU,nM]
     grind
    ·exact ha
   rw [ha2]
   simp only [hv1]
  ·cases hc
 ·cases hc
def Dp {C D:gv} {F:gX} {Pr:gQ} {f:Nat} {fa:eY} {call:Nat->mN} {R:List AV->AV->Prop} {args:List AV} (hp:Pr f=some (mR (nN D fa call R))) (ha:∀ h,gT h args=some args) (h:∃ v,Good D fa call args v/\R args v):∀ h,∃ v,fh C F Pr false f args h v h/\R args v:=by
 intro H
 obtain ⟨v,hv,hR⟩:=Lv h
 refine ⟨v,⟨1,λk hk=>?_⟩,hR⟩
 cases k with
 | zero=>omega
 | succ k=>simp only [gP,hp,mR,ha,hv]
section
variable {C:gv} {F:gX} {Pr:gQ}
open Classical in
noncomputable def mZ (C:gv) (F:gX) (Pr:gQ):mN:=λs f a h =>
 if hx:∃ r,∃ m,∀ k,m<=k->gP C F Pr k s f a h=some r then some hx.choose else none
def CP {s:Bool} {f:Nat} {a:List AV} {h h':au} {v:AV} (hc:fh C F Pr s f a h v h'):mZ C F Pr s f a h=some (v,h'):=by
 have hx:∃ r,∃ m,∀ k,m<=k->gP C F Pr k s f a h=some r:=⟨_,hc⟩
 unfold mZ
 rw [dif_pos hx]
 obtain ⟨m,hm⟩:=hc
 obtain ⟨m',hm'⟩:=hx.choose_spec
 have h1:=hm (max m m') (by omega)
 have h2:=hm' (max m m') (by omega)
 rw [h1] at h2
 exact h2.symm
def C5 {s:Bool} {f:Nat} {a:List AV} {h:au} {r:AV×au} (hc:mZ C F Pr s f a h=some r):∃ m,∀ k,m<=k->gP C F Pr k s f a h=some r:=by
 unfold mZ at hc
 split at hc
 ·rename_i hx
  cases hc
  exact hx.choose_spec
 ·cases hc
def Jb {P:Program} (hN:∀ n,lh P (gP C F Pr n)):lh P (mZ C F Pr):=by
 intro shd f args h v h' hc
 obtain ⟨m,hm⟩:=C5 hc
 exact hN m shd f args h v h' (hm m (Nat.le_refl _))
def HF (hN:∀ n,mr (gP C F Pr n)):mr (mZ C F Pr):=by
 intro f args h v h' hc
 obtain ⟨m,hm⟩:=C5 hc
 refine ⟨(hN m f args h v h' (hm m (Nat.le_refl _))).1,λh2 hE=>?_⟩
 have hh:=(hN m f args h v h' (hm m (Nat.le_refl _))).1
 subst hh
 exact CP ⟨m,λk hk=>(hN k f args _ v _ (hm k hk)).2 h2 hE⟩
noncomputable def rR (C:gv) (F:gX) (Pr:gQ):gQ:=λf=>some λs a h=>mZ C F Pr s f a h
def FN:gX:=λ_=>none
def Sn {s:Bool} {f:Nat} {a:List AV} {h h':au} {v:AV} (hc:fh C F Pr s f a h v h'):fh C FN (rR C F Pr) s f a h v h':=by
 refine ⟨1,λk hk=>?_⟩
 cases k with
 | zero=>omega
 | succ k=>simp only [gP,rR]; exact CP hc
theorem KT (k:Nat):gP C FN (rR C F Pr) (k+1)=mZ C F Pr:=by
 funext s f a h
 simp only [gP,rR]
def jW {fa:eY} {c:Code} {an:ga} {Q:QJ} {it:Option Jt} {e:Env} {h:au} (w:Wp C FN (rR C F Pr) fa c an (λx e h=>Q x it e h) e h) (ha:qu it c=true):jK ⟨C,fa,mZ C F Pr⟩ c an Q it e h:=by
 obtain ⟨x,e',h',⟨m,hm⟩,q⟩:=w
 have h1:=hm (m+1) (by omega)
 unfold XN at h1
 rw [KT] at h1
 exact Qj c an e h x e' h' Q h1 ha q
end
section
variable [DD] {P:Program} {C:gv}
def No (hm:P.follows .mixedOrders=true) (hC:gR P C) {f:Nat} {fa:eY} (hF:nV P f fa) {spec:List AV->Option AV}
  (hs:∀ args v,spec args=some v->∃ call,lh P call/\mr call/\wi C fa call args au.empty λv0 h0=>freeze false h0 8 v0=some v):lg P f (mR spec):=by
 refine ⟨?_,yn⟩
 intro shd args h v h' hc G args' hG hlo hL hW hl hr
 subst hG
 obtain ⟨fn,hfn,hbody,_,hname,_⟩:=hF.ex
 refine ⟨⟨fn,hfn,by grind,hname⟩,?_⟩
 intro R hR
 unfold mR at hc
 split at hc
 ·split at hc
  ·rename_i kU ha
   split at hc
   ·rename_i v1 hv1
    simp only [Option.some.injEq,Prod.mk.injEq] at hc
    obtain ⟨rfl,rfl⟩:=hc
    obtain ⟨call,hK,hI,hb⟩:=hs _ _ hv1
    obtain ⟨k1,k2⟩:=qn hW ha hl hr
    refine AY (G:=od G) hm hC hK hI hF hb rfl (λ_=>rfl) (AD hW) k1 k2 ?_
    intro v0 h0 u G2 hz S2 W2 _ hh hv
    obtain ⟨S3,W3⟩:=vW hW hL S2 W2
    have hfz:freeze false G2.h 8 v0=some v1:=by
     rw [hh]
     exact nM (λb o h=>h) _ _ _ hz
    exact hR u (re G G2) S3 W3 (λm=>rfl) (λm L=>(tZ S2 W2 hfz hv).gK.vr)
   ·cases hc
  ·cases hc
 ·cases hc
end
end Go.Sx
