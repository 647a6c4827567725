/- Proves rules for the walks and their soundness. -/
import Derived.Test.YtihofefpkjfmnaaGreatNaf
set_option linter.all false
set_option maxHeartbeats 0
namespace Go.Sx
open Go
def OC {l:List Bool} {i k:Nat} {x:Bool} (h:l.count true=k) {hi:i<l.length} (hq:l[i]=x) (hx:x=false):(l.set i true).count true=k+1:=RQ h (hq.trans hx)
def Ly {κ β:Type} [DecidableEq κ] {k : κ} {x : β} {l:List (κ×β)} (h:nc l):nc (put k x l):=by
 cases hl:look k l with
 | none=>exact Gk h hl
 | some y =>
   have:(put k x l).map Prod.fst=l.map Prod.fst:=by
    clear h
    induction l with
    | nil=>simp [look] at hl
    | cons p l ih =>
      unfold look at hl
      unfold put
      split at hl
      ·rename_i hp; rw [if_pos hp]; simp [hp]
      ·rename_i hp; rw [if_neg hp]; simp [ih hl]
   unfold nc; rw [this]; exact h
def C3 {κ β:Type} [DecidableEq κ] {k : κ} {x : β}:∀ {l:List (κ×β)},(put k x l).length<=l.length+1
 | []=>by simp [put]
 | p::l=>by
   unfold put
   split
   ·simp
   ·have:=C3 (k:=k) (x:=x) (l:=l); simp; omega
def GS {β:Type} {k:Int} {x : β} {l:List (Int×β)} (h:∀ y∈l,oM y.1) (hk:oM k):∀ y∈put k x l,oM y.1:=by
 intro y hy
 rcases CW hy with rfl | hy
 ·exact hk
 ·exact h y hy
def Ev {κ β:Type} {l l':List (κ×β)} (h:l'.Sublist l) (hn:nc l):nc l':=hn.sublist (h.map _)
def Sb {β:Type} {l l':List (Int×β)} (h:l'.Sublist l) (hr:∀ y∈l,oM y.1):∀ y∈l',oM y.1:=λy hy=>hr y (h.mem hy)
def LG (y:lq):Prop:=y.elems.l.length<=60/\∀ z∈y.elems.l,oM z
def mU.lg {p:bY} (h:mU p):∀ y∈p.lines.l,LG y:=λy hy=>⟨h.line y hy,h.XL y hy⟩
def E9 {p q:bY} (hq:q=p.canon) (h:mU p):∀ y∈q.lines.l,LG y:=by
 subst hq
 intro x hx
 simp only [bY.canon,Row.canon,Row.yg,List.mem_map] at hx
 obtain ⟨y,hy,rfl⟩:=hx
 exact h.lg y hy
def ri (r:kq):Prop:=0<r.steps.l.length/\r.steps.l.length<=12/\r.nq.l.length<=12/\pT r
def Ax (c:kn):Prop:=c.kr.l.length<=12/\∀ w∈c.kr.l,w.free.l.length<=1000000
def Nc {r a:kq} (h:ri a) (h1:r.steps.l=a.steps.l) (h2:r.nq.l=a.nq.l) (h3:r.guards.l=a.guards.l) (h4:r.mf.l=a.mf.l) (h5:r.holds.l=a.holds.l):ri r:=by
 unfold ri pT at h ⊢
 rw [h1,h2,h3,h4,h5]; exact h
def Lj {p:bY} {k e:Int} (h:k=lR p e) (hk:k=4\/k=1):0<=e/\e<(p.elems.l.length:Int):=by
 by_cases h1:e<0\/e>=p.elems.l.length
 ·rw [s8 h1] at h; omega
 ·omega
def L9 {l m:List Int} {k:Nat} {x y:Int} (h:l=m) {hk:k<l.length} (hq:l[k]=x) {hk2:k<m.length} (hq2:m[k]=y) (hn:x≠y):False:=by
 subst h; exact hn (hq.symm.trans hq2)
section
variable {C:lS} {F:m0} {Pr:mM} {fa:kp} {e:Env} {h:bV} {all rest:List Oper} {o:Oper} {q:Env->bV->Prop} {H:bV} {ls:mR}
end
def BU (t:Nat):List (Nat×Nat)->Option Nat
 | []=>none
 | p::l=>match Nat.beq p.1 t with
   | true=>some p.2
   | false=>BU t l
def CT (L:List lF) (i:Nat):AV:=match L[i]? with
 | some r=>r.v
 | none=>.undef
def y6 (k:Bool) (L:List lF) (ix:List (Nat×Nat)):Env->Env
 | []=>[]
 | p::E=>(p.1,match BU p.1 ix with
   | some i=>(match k with
     | true=>mj p.1 (CT L i)
     | false=>CT L i)
   | none=>p.2)::y6 k L ix E
theorem Ho {H:bV} {L:List lF} (hS:Sep H L) (ix:List (Nat×Nat)):∀ E,y6 true L ix E=y6 false L ix E
 | []=>rfl
 | p::E=>by
   simp only [y6]
   rw [Ho hS ix E]
   cases BU p.1 ix with
   | none=>rfl
   | some i =>
     simp only [CT]
     cases hi:L[i]? with
     | none=>simp only [mj]; split<;>rfl
     | some r=>rw [hS.KB hi p.1]
def PM {H:bV} {L:List lF} {e E:Env} (hS:Sep H L) (ix:List (Nat×Nat)) (h1:e=y6 true L ix E:=by rfl) (h2:y6 false L ix E=E:=by rfl):e=E :=
 h1.trans ((Ho hS ix E).trans h2)
def yz:List Nat->List AV->Env
 | t::ts,v::vs=>(t,v)::yz ts vs
 | _,_=>[]
def At (live:List Nat) (vs:List AV) (H:bV) (L:mR) (e:Env) (h:bV):Prop:=proj live e=yz live vs/\{ h with cT:=nr live h.cT } = { H with cT:=L }
def atR {live:List Nat} {vs:List AV} {H:bV} {L:mR} {e:Env} {h:bV} (h1:proj live e=yz live vs:=by rfl) (h2:{ h with cT:=nr live h.cT } = { H with cT:=L }:=by rfl):At live vs H L e h:=⟨h1,h2⟩
def kF {live:List Nat} {vs:List AV} {H:bV} {L:mR} {e:Env} {h:bV} {H0:bV} {R:List lF} (hS:Sep H0 R) (ix:List (Nat×Nat)) (h1:proj live e=y6 true R ix (yz live vs):=by rfl) (h3:y6 false R ix (yz live vs)=yz live vs:=by rfl) (h2:{ h with cT:=nr live h.cT } = { H with cT:=L }:=by rfl):At live vs H L e h:=⟨PM hS ix h1 h3,h2⟩
section
variable {C:lS} {F:m0} {Pr:mM} {fa:kp} {c:Code} {an:od} {Q:Ex->Env->bV->Prop} {live:List Nat} {e:Env} {h:bV}
def rR {vs:List AV} {H:bV} {L:mR} (hA:At live vs H L e h) (w:Wp C F Pr fa c an Q (yz live vs) { H with cT:=L }):Wp C F Pr fa c an Q (proj live e) { h with cT:=nr live h.cT }:=VK hA.1 hA.2 w
def wz (vs:List AV) (H:bV) (L:mR) (w:Wp C F Pr fa c an Q (yz live vs) { H with cT:=L }) (hA:At live vs H L e h:=by exact atR):Wp C F Pr fa c an Q (proj live e) { h with cT:=nr live h.cT }:=rR hA w
def wy (vs:List AV) (L:mR) (w:Wp C F Pr fa c an Q (yz live vs) { bV.empty with cT:=L }) (hA:At live vs bV.empty L e h:=by exact atR):Wp C F Pr fa c an Q (proj live e) { h with cT:=nr live h.cT }:=rR hA w
end
section
variable {Q:Prop} {H:bV} {L:List lF} {α:Type} {enc : α->List AV} {w tt:Bool} {v:AV} {n:Nat} {l:List α}
def nd (hS:Sep H L) (i:Nat) (K:∀ r:ka α,r.l=l->r.l.length=l.length->(∀ m,freeze true { H with cT:=[] } (m+2) v=some (r.av enc))->Q) (hi:L[i]?=some (.sl w tt v n (l.map enc)):=by rfl) (he:∀ m x,kP (freeze true { H with cT:=[] } (m+1)) (enc x)=some (enc x):=by first | exact λ_ _=>rfl | (intro _ _; simp only [bY.af,my.af,j7.af,mr.af,lY.af,lq.af,kR.af,lD.af,kS.af,dO.af,kL.af,lI.af,kq.af,nh.af,lV.af,mA.af,D1.af,lL.af,kn.af,nW,kP,oD,oZ,pB,oz,pE])) (hl:l.length<=s9:=by simp only [s9]; first | omega | (simp<;>omega)):Q:=by
 obtain ⟨r,h1,h2⟩:=Rf hS hi hl
 exact K r h1 (congrArg _ h1) λm=>h2 [] _ (he m)
end
def PJ (k:Bool) (R:List lF) (ix:List (Nat×Nat)) (live:List Nat) (e:Env):Env:=live.map λt=>(t,match BU t ix with
 | some i=>(match k with
   | true=>mj t (CT R i)
   | false=>CT R i)
 | none=>mj t (nz e t))
theorem Ts {H:bV} {L:List lF} (hS:Sep H L) (ix:List (Nat×Nat)) (live:List Nat) (e:Env):PJ true L ix live e=PJ false L ix live e:=by
 refine List.map_congr_left λt _=>?_
 cases BU t ix with
 | none=>rfl
 | some i =>
   simp only [CT]
   cases hi:L[i]? with
   | none=>simp only [mj]; split<;>rfl
   | some r=>rw [hS.KB hi t]
def wk {C:lS} {F:m0} {Pr:mM} {fa:kp} {c:Code} {an:od} {Q:Ex->Env->bV->Prop} {live:List Nat} {e:Env} {h H0:bV} {R:List lF} (hS:Sep H0 R) (ix:List (Nat×Nat)) (w:Wp C F Pr fa c an Q (PJ false R ix live e) { h with cT:=nr live h.cT }) (he:proj live e=PJ true R ix live e:=by rfl):Wp C F Pr fa c an Q (proj live e) { h with cT:=nr live h.cT }:=by
 rw [he,Ts hS]; exact w
end Go.Sx
namespace Go.Sx
open Go
section
variable {X:Ctx} {e:Env} {h:bV} {d:Option Nat} {ti te:TI} {t el n k dd:Nat} {x y:Operand} {l:List Bool} {b:Bool}
def ym (hT:X.C.T t=some ti) (hk:ti.kind=.array n el) (hE:X.C.T el=some te) (hz:te.size=1) (hx:kz e x=.la dd 0) (hy:kz e y=.int .i64 (k:Int)) (hn:k<n):lu (.indexAddr t x y) X e h d=some (.la dd k,h):=by
 have hai:qD (.int .i64 (k:Int))=some k:=rfl
 have hlt:Nat.blt k n=true:=by simp_all
 simp only [lu,qZ,qh,hT,hk,hE,hx,hy,hai,hlt,Bn,N3,pc,mD,hz,Nat.mul_one,Nat.zero_add]
def QX (hT:X.C.T t=some ti) (ha:ti.agg=false) (hx:kz e x=.la dd k) (hl:lT h.cT dd=some (List.map AV.bool l)) (hk:k<l.length) (hq:l[k]=b):lu (.load t x) X e h d=some (.bool b,h):=by
 simp only [lu,wK,uV,hT,hx,sD,Gc,hl,part,ha,mD]
 rw [List.getElem?_map,List.getElem?_eq_getElem hk,hq]
 rfl
def TP (hT:X.C.T t=some ti) (ha:ti.agg=true) (hs:ti.size=n) (hx:kz e x=.la dd 0) (hl:lT h.cT dd=some (List.map AV.bool l)) (hk:l.length=n):lu (.load t x) X e h d=some (.agg (List.map AV.bool l),h):=by
 subst hk
 simp only [lu,wK,uV,hT,hx,sD,Gc,hl,part,ha,hs,List.drop_zero]
 rw [List.take_of_length_le (by simp)]
 simp [qO,zr,mD]
def B0 (hT:X.C.T t=some ti) (ha:ti.agg=false) (hz:ti.size=1) (hx:kz e x=.la dd k) (hy:kz e y=.bool b) (hl:lT h.cT dd=some (List.map AV.bool l)) (hk:k<l.length):lu (.store t x y) X e h d=some (.undef,{ h with cT:=uF h.cT dd (List.map AV.bool (l.set k b)) }):=by
 have hc:cellsOf ti (.bool b)=some [.bool b]:=by simp only [cellsOf,ha,hz]; rfl
 refine pd hT hx hy hc rfl hl ?_
 have h1:Nat.ble (k+1) l.length=true:=Nat.ble_eq.mpr hk
 simp only [pg,List.length_map,List.length_cons,List.length_nil,Nat.zero_add,h1,qO]
 congr 1
 rw [List.set_eq_take_append_cons_drop,if_pos hk,List.map_append,List.map_cons,List.map_take,List.map_drop]
 simp
def UU (hT:X.C.T t=some ti) (hk:ti.kind=.array n el) (hE:X.C.T el=some te) (ha:te.agg=false) (hz:te.size=1) (hx:kz e x=.agg (List.map AV.bool l)) (hy:kz e y=.int .i64 (k:Int)) (hn:k<n) (hl:k<l.length) (hq:l[k]=b):lu (.index t x y) X e h d=some (.bool b,h):=by
 have hai:qD (.int .i64 (k:Int))=some k:=rfl
 have hlt:Nat.blt k n=true:=by simp_all
 simp only [lu,zd,xy,hT,hk,hE,hx,hy,hai,hlt,AV.agg?,part,ha,hz,Nat.mul_one]
 rw [List.getElem?_map,List.getElem?_eq_getElem hl,hq]
 rfl
end
end Go.Sx
namespace Go.Sx
open Go
def tu (p:bY) (e:Int):Int:=if e<0 then 0 else match p.elems.l[e.toNat]? with
 | some x=>x.len
 | none=>0
def EV {p:bY} {e:Int} (h:e<0\/e>=p.elems.l.length):tu p e=0:=by
 grind [tu]
def G6 {p:bY} {e:Int} {x:my} (h0:0<=e) (hx:e.toNat<p.elems.l.length) (hq:p.elems.l[e.toNat]=x):tu p e=x.len:=by
 grind [tu]
def Gf {α:Type} {l:List α} {k:Nat} {x y : α} {hk:k<l.length} (h:l[k]=x) (e:x=y):y∈l:=by
 subst e h; exact List.getElem_mem _
def QS {α:Type} {l:List α} {k:Nat} {y : α} (h:∀ (i:Nat) (hi:i<l.length),i<k->¬ l[i]=y) (hk:l.length<=k):y∉l:=by
 intro hy
 obtain ⟨i,hi,e⟩:=List.mem_iff_getElem.mp hy
 exact h i hi (by omega) e
def wC (p:bY) (s:kR) (e:Int):Bool:=if lR p e=1 then decide (IntKind.i64.wrap (s.len+p.lN)<=tu p e) else decide (lR p e=4)
def sk (l:List lY) (i:Int):Int:=match pe l i with
 | some x=>x.elem
 | none=>-1
def Cy (B:Int->Int) (r:kS) (leg:Int):Int:=if leg=0 then B r.from_ else match r.kr.l[(leg - 1).toNat]? with
 | none=>-1
 | some l=>if l.end_=1 then B l.to else if l.end_=3 then l.to else -1
def uO (B:Int->Int) (d:dO) (run leg:Int):Int:=if run<0 then -1 else match d.runs.l[run.toNat]? with
 | none=>-1
 | some r=>if leg<0\/leg > r.kr.l.length then -1 else Cy B r leg
section
variable {B:Int->Int} {d:dO} {run leg:Int} {x:kS} {y:lD}
def Rc (h:AE d run leg):uO B d run leg = -1:=by
 unfold uO
 split
 ·rfl
 ·split
  ·rfl
  ·rename_i hr
   obtain ⟨hl,rfl⟩:=List.getElem?_eq_some_iff.mp hr
   rw [if_pos]
   rcases h with h | h | h | ⟨h1,h2⟩<;>omega
theorem T5 (h0:0<=run) (hx:run.toNat<d.runs.l.length) (hl0:0<=leg) (hl1:leg<=((d.runs.l[run.toNat]).kr.l.length:Int)):uO B d run leg=Cy B (d.runs.l[run.toNat]) leg:=by
 grind [uO]
theorem X5 (h:leg=0):Cy B x leg=B x.from_:=by grind [Cy]
theorem UY (h0:¬ leg=0) {r:Row lD} (hr:r=x.kr) (hy:(leg - 1).toNat<r.l.length) (hq:r.l[(leg - 1).toNat]=y):Cy B x leg=if y.end_=1 then B y.to else if y.end_=3 then y.to else -1:=by
 subst hr; rw [Cy,if_neg h0,List.getElem?_eq_getElem hy,hq]
end
theorem Ea {l:List lY} {N:j7->Option j7} {d:dO} {run leg:Int}:uO (sk l) d run leg=match mT true (pe l) N d run leg with
 | some h=>h.elem
 | none=>-1:=by
 unfold uO mT
 by_cases h:run<0
 ·simp [h]
 ·simp only [h,if_false]
  cases d.runs.l[run.toNat]? with
  | none=>rfl
  | some r =>
    simp only
    by_cases h2:leg<0\/leg > r.kr.l.length
    ·simp [h2]
    ·simp only [h2,if_false]
     unfold Cy vW sk
     by_cases h3:leg=0
     ·simp [h3]
     ·simp only [h3,if_false]
      cases r.kr.l[(leg - 1).toNat]? with
      | none=>rfl
      | some y =>
        simp only
        unfold ra
        by_cases h4:y.end_=1
        ·simp [h4]
        ·simp only [h4,if_false]
         by_cases h5:y.end_=3
         ·simp only [h5,if_true]
          cases N ⟨y.to,0⟩<;>cases N ⟨y.to,1⟩<;>rfl
         ·simp [h5]
def RT {l:List lY} {N:j7->Option j7} {d:dO} {run leg:Int} {h:j7} (e:mT true (pe l) N d run leg=some h):h.elem=uO (sk l) d run leg:=by
 rw [Ea (N:=N),e]
def R1 {l:List lY} {N:j7->Option j7} {d:dO} {run leg:Int} (e:mT true (pe l) N d run leg=none) : -1=uO (sk l) d run leg:=by
 rw [Ea (N:=N),e]
def yL (r:kq):Int:=match r.steps.l[((r.steps.l.length:Int) - 1).toNat]? with
 | some s=>s.elem
 | none=>0
def vN {r:kq} {x:kL} {h:((r.steps.l.length:Int) - 1).toNat<r.steps.l.length} (hq:r.steps.l[((r.steps.l.length:Int) - 1).toNat]=x):yL r=x.elem:=by
 rw [yL,List.getElem?_eq_getElem h,hq]
def wv (r:kq) (l:lD):Bool:=decide (r.end_=l.end_/\0<r.steps.l.length/\if l.end_=1 then r.to=l.to else yL r=l.to)
def L6 {r:kq} {l:lD} (h:true=wv r l):0<r.steps.l.length:=by
 have:=of_decide_eq_true h.symm; exact this.2.1
def qW {α:Type} (P : α->Bool):Nat->List α->List Int
 | _,[]=>[]
 | i,a::l=>if P a=true then (i:Int)::qW P (i+1) l else qW P (i+1) l
theorem FX {α:Type} {P : α->Bool} {x : α}:∀ (l:List α) (i:Nat),qW P i (l++[x])=qW P i l++if P x=true then [((i+l.length:Nat):Int)] else []
 | [],i=>by simp [qW]
 | a::l,i=>by
   have h:=FX (P:=P) (x:=x) l (i+1)
   simp only [List.cons_append,qW,h,List.length_cons]
   rw [show i+1+l.length=i+(l.length+1) by omega]
   split<;>simp
section
variable {α:Type} {P : α->Bool} {l:List α} {k:Nat} {x : α} {o:List Int}
theorem EG {hk:k<l.length} (hq:l[k]=x):qW P 0 (l.take (k+1))=qW P 0 (l.take k)++if P x=true then [(k:Int)] else []:=by
 rw [List.take_add_one,List.getElem?_eq_getElem hk,hq,Option.toList_some,FX,List.length_take,Nat.zero_add,Nat.min_eq_left (by omega)]
def Hc {hk:k<l.length} (hq:l[k]=x) (h:o=qW P 0 (l.take k)) (hp:P x=true):o++[(k:Int)]=qW P 0 (l.take (k+1)):=by
 rw [EG hq,if_pos hp,h]
def sx {hk:k<l.length} (hq:l[k]=x) (h:o=qW P 0 (l.take k)) (hp:P x=false):o=qW P 0 (l.take (k+1)):=by
 rw [EG hq,hp,h]; simp
def Sd (h:o=qW P 0 (l.take k)) (hk:l.length<=k):o=qW P 0 l:=by
 rwa [List.take_of_length_le hk] at h
theorem FQ (h:∀ x,P x=false):∀ (l:List α) (i:Nat),qW P i l=[]
 | [],_=>rfl
 | a::l,i=>by simp [qW,h,FQ h l]
end
def uU (p:bY) (d:dO) (run leg:Int):Int:=oQ true (pe p.signals.l) (np p.kB.l) (lR p) (λx=>(pZ p.signals.l x).getD (-1)) d run leg
def oe (p:bY) (d:dO) (run leg:Int):Int:=uO (sk p.signals.l) d run leg
def p3 (p:bY) (d:dO) (run leg:Int) (r:kq):Bool:=match d.runs.l[run.toNat]? with
 | none=>false
 | some x=>match x.kr.l[leg.toNat]?,d.ko.l[x.ko.toNat]? with
   | some l,some k=>decide (0<=x.ko/\r.from_=uU p d run leg/\wv r l=true/\r.bare=false/\¬ oe p d run leg∈r.mf.l/\wC p k (yL r)=true)
   | _,_=>false
def mY (p:bY) (L:List kq) (d:dO) (run leg:Int):List Int:=if uU p d run leg<0 then [] else qW (p3 p d run leg) 0 L
section
variable {p:bY} {d:dO} {run leg:Int} {r:kq} {x:kS} {l:lD} {k:kR} {L:List kq} {f:Int}
def LH (hf:f=uU p d run leg) (h:¬ r.from_=f):p3 p d run leg r=false:=by
 subst hf; grind [p3]
def KR {hx:run.toNat<d.runs.l.length} (hq:d.runs.l[run.toNat]=x) {hy:leg.toNat<x.kr.l.length} (hl:x.kr.l[leg.toNat]=l) (h:false=wv r l):p3 p d run leg r=false:=by
 grind [p3]
def Lg (h:r.bare=true):p3 p d run leg r=false:=by
 grind [p3]
def Mb {s:Int} (hs:s=oe p d run leg) (h:s∈r.mf.l):p3 p d run leg r=false:=by
 subst hs; grind [p3]
def L4 {hx:run.toNat<d.runs.l.length} (hq:d.runs.l[run.toNat]=x) {hz:x.ko.toNat<d.ko.l.length} (hk:d.ko.l[x.ko.toNat]=k) {e:Int} (he:yL r=e) (h:false=wC p k e):p3 p d run leg r=false:=by
 subst he; grind [p3]
def Lh {hx:run.toNat<d.runs.l.length} (hq:d.runs.l[run.toNat]=x) {hy:leg.toNat<x.kr.l.length} (hl:x.kr.l[leg.toNat]=l) {hz:x.ko.toNat<d.ko.l.length} (hk:d.ko.l[x.ko.toNat]=k) {s e:Int} (h0:0<=x.ko) (hf:f=uU p d run leg) (h1:r.from_=f) (h2:true=wv r l) (h3:r.bare=false) (hs:s=oe p d run leg) (h4:s∉r.mf.l) (he:yL r=e) (h5:true=wC p k e):p3 p d run leg r=true:=by
 subst hs he hf; grind [p3]
def Cn (hf:f=uU p d run leg) (h:f<0) {o:List Int} (ho:o=[]):o=mY p L d run leg:=by
 subst hf; rw [mY,if_pos h,ho]
def Ch (hf:f=uU p d run leg) (h:¬ f<0) {o:List Int} {n:Nat} (ho:o=qW (p3 p d run leg) 0 (L.take n)) (hn:L.length<=n):o=mY p L d run leg:=by
 subst hf; rw [mY,if_neg h]; exact Sd ho hn
def K3 {hx:run.toNat<d.runs.l.length} (hq:d.runs.l[run.toNat]=x) (h:x.ko<0\/x.ko>=(d.ko.l.length:Int)) : []=mY p L d run leg:=by
 have:∀ r,p3 p d run leg r=false:=by intro r; grind [p3]
 rw [mY,FQ this]; simp
end
structure rB (n:kb):Prop where
 next:∀ x,look x n.next=np n.p.kB.l x
 reads:∀ x,look x n.reads=pZ n.p.signals.l x
 en:∀ i x,pe n.p.signals.l i=some x->0<=x.en
 Si:wH n.line n.p
theorem rB.from_ {n:kb} (h:rB n) {d:dO} {run leg:Int}:oQ false (pe n.p.signals.l) (λx=>look x n.next) (lR n.p) (λx=>(look x n.reads).getD (-1)) d run leg=uU n.p d run leg:=by
 have h1:(λx=>look x n.next)=np n.p.kB.l:=funext h.next
 have h2:(λx=>(look x n.reads).getD (-1))=(λx=>(pZ n.p.signals.l x).getD (-1)):=by funext x; rw [h.reads]
 rw [h1,h2,OI h.en]; rfl
theorem qu (p:bY):p.canon.lines.l=p.lines.l.map lq.canon:=rfl
def Gm {m:List (Int×Int×Int)} {p:bY} (h:wH m p):wH m p.canon:=by
 refine ⟨λe y hy=>?_,λi hi e he=>?_⟩
 ·obtain ⟨i,hi,h1,h2⟩:=h.1 e y hy
  refine ⟨i,by rw [qu,List.length_map]; exact hi,h1,?_⟩
  simp only [qu,List.getElem_map]
  exact h2
 ·have hi':i<p.lines.l.length:=by rw [qu,List.length_map] at hi; exact hi
  simp only [qu,List.getElem_map] at he
  exact h.2 i hi' e he
def qo.self {n:kb} {p:bY} (h:qo n p):rB n:=by
 have hj:n.p.kB.l=p.kB.l:=by rw [h.kH]; rfl
 exact ⟨λx=>by rw [h.next,hj],λx=>by rw [h.reads,h.signals],by rw [h.signals]; exact RV h.Ur,by rw [h.kH]; exact Gm h.Si⟩
def Al (p:bY) (x:j7):Prop:=0<=x.en/\((lR p x.elem=1->x.en<2)/\(lR p x.elem=4->x.en<1))
def sB (p:bY) (len:Int) (t:mA):Int :=
 if len<1\/4000<len\/(¬ lR p t.at_.elem=4/\¬ lR p t.at_.elem=1)\/t.at_.en<0\/(if lR p t.at_.elem=1 then 2 else 1)<=t.at_.en then 1
 else if (pZ p.signals.l t.at_).getD (-1)<0 then 7
 else if lR p t.at_.elem=4 then (if t.left=0 then 0 else 1)
 else if t.left<0\/tu p t.at_.elem<t.left then 1
 else if tu p t.at_.elem<IntKind.i64.wrap (t.left+len) then 9 else 0
def Gw {p:bY} {len:Int} {t:mA} (h:sB p len t=0):lR p t.at_.elem=1\/lR p t.at_.elem=4:=by
 grind [sB]
def wc (p:bY) (d:dO) (i:Nat):Int:=sB p (vR d i) (nC p d i)
def qw (p:bY) (d:dO) (i:Nat):List Int:=p7 p [(nC p d i).at_]
def qG (L:Nat->List Int) (k:Nat):Prop:=∃ i j,i<j/\j<k/\∃ x∈L i,x∈L j
def qG.mono {L:Nat->List Int} {k m:Nat} (h:qG L k) (hk:k<=m):qG L m:=by
 obtain ⟨i,j,h1,h2,h3⟩:=h
 exact ⟨i,j,h1,by omega,h3⟩
def oJ (p:bY) (d:dO) (r:Int):Prop :=
 (∃ i,i<d.runs.l.length/\r=wc p d i/\r≠0/\∀ j,j<i->wc p d j=0) \/
 ((∀ i,i<d.runs.l.length->wc p d i=0)/\((r=0/\¬ qG (qw p d) d.runs.l.length)\/(r=18/\qG (qw p d) d.runs.l.length)))
theorem oJ.uu {p:bY} {d:dO} {r s:Int} (h1:oJ p d r) (h2:oJ p d s):r=s:=by
 rcases h1 with ⟨i,hi,h1,h3,h4⟩ | ⟨h1,h3⟩<;>rcases h2 with ⟨j,hj,h5,h6,h7⟩ | ⟨h5,h6⟩
 ·rcases Nat.lt_trichotomy i j with h | h | h
  ·exact absurd (h1.trans (h7 i h)) h3
  ·subst h; rw [h1,h5]
  ·exact absurd (h5.trans (h4 j h)) h6
 ·exact absurd (h1.trans (h5 i hi)) h3
 ·exact absurd (h5.trans (h1 j hj)) h6
 ·grind
structure sg (L:Nat->List Int) (k:Nat) (r:List Int) (m:List (Int×Bool)) (e:Int):Prop where
 src:∀ x,look x m=some true->(∃ i,i<k/\x∈L i)\/x∈r
 err:e=0\/e=18/\qG L (k+1)
def sg.zero (L:Nat->List Int):sg L 0 [] [] 0:=⟨λx h=>by simp [look] at h,.inl rfl⟩
def sg.start {L:Nat->List Int} {k:Nat} {m:List (Int×Bool)} {e:Int} (h:sg L k [] m e) (r:List Int):sg L k (r.take 0) m e:=by simpa using h
theorem sg.put {L:Nat->List Int} {k j:Nat} {r:List Int} {m:List (Int×Bool)} {e:Int} {x:Int} (h:sg L k (r.take j) m e) (hj:j<r.length) (hq:r[j]=x):sg L k (r.take (j+1)) (put x true m) e:=by
 refine ⟨λy hy=>?_,h.err⟩
 rw [pf hj hq]
 by_cases hxy:y=x
 ·subst hxy; exact .inr (by simp)
 ·have:look y m=some true:=by grind [nQ]
  rcases h.src y this with h1 | h1
  ·exact .inl h1
  ·exact .inr (by simp [h1])
def sg.KY {L:Nat->List Int} {k j:Nat} {r:List Int} {m:List (Int×Bool)} {e e':Int} {x:Int} (h:sg L k (r.take j) m e) (hj:j<r.length) (hq:r[j]=x) (hr:r=L k) (h1:r.length<=1) (hl:look x m=some true) (he:e'=18):sg L k (r.take (j+1)) (Go.Sx.put x true m) e':=by
 have h2:=h.put hj hq
 refine ⟨h2.src,.inr ⟨he,?_⟩⟩
 have hj0:j=0:=by omega
 subst hj0
 rcases h.src x hl with ⟨i,hi,hx⟩ | hx
 ·exact ⟨i,k,hi,by omega,x,hx,by rw [<- hr,<- hq]; exact List.getElem_mem _⟩
 ·simp at hx
def sg.done {L:Nat->List Int} {k j:Nat} {r:List Int} {m:List (Int×Bool)} {e:Int} (h:sg L k (r.take j) m e) (hj:r.length<=j) (hr:r=L k):sg L (k+1) [] m e:=by
 rw [List.take_of_length_le hj,hr] at h
 refine ⟨λx hx=>?_,?_⟩
 ·rcases h.src x hx with ⟨i,hi,h1⟩ | h1
  ·exact .inl ⟨i,by omega,h1⟩
  ·exact .inl ⟨k,by omega,h1⟩
 ·rcases h.err with h1 | ⟨h1,h2⟩
  ·exact .inl h1
  ·exact .inr ⟨h1,h2.mono (by omega)⟩
def AX {p:bY} {d:dO} {k:Nat} {r len:Int} {t:mA} (hE:∀ i,i<k->wc p d i=0) (hk:k<d.runs.l.length) (hl:len=vR d k) (ht:t=nC p d k) (h:r=sB p len t) (hr:¬ r=0):oJ p d r:=by
 subst hl ht
 exact .inl ⟨k,hk,h,hr,hE⟩
def TO {p:bY} {d:dO} {k:Nat} {r len:Int} {t:mA} (hl:len=vR d k) (ht:t=nC p d k) (h:r=sB p len t) (hr:r=0):wc p d k=0:=by
 subst hl ht; exact h.symm.trans hr
def GA {p:bY} {d:dO} {k:Nat} {e:Int} {m:List (Int×Bool)} (hE:∀ i,i<k->wc p d i=0) (hk:d.runs.l.length<=k) (hk2:k<=d.runs.l.length) (h1:Tk (qw p d) k m e) (h2:e=0\/e=18/\qG (qw p d) k):oJ p d e:=by
 have:k=d.runs.l.length:=by omega
 subst this
 refine .inr ⟨hE,?_⟩
 rcases h2 with h | ⟨h,h3⟩
 ·refine .inl ⟨h,λ⟨i,j,hij,hj,x,hx,hx2⟩=>?_⟩
  exact h1.Ds h i j hij hj x hx hx2
 ·exact .inr ⟨h,h3⟩
def Bi (n:Int):Prop:=(97<=n/\n<=122)\/(65<=n/\n<=90)
def C9 (i:Nat) (n:Int):Prop:=Bi n\/(0<i/\48<=n/\n<=57)
def yn (s:List UInt8):Prop:=1<=s.length/\s.length<=8/\∀ (i:Nat) (h:i<s.length),C9 i ((s[i]).toNat:Int)
def Ri {s:List UInt8} {k:Nat} {c:UInt8} {hk:k<s.length} (hq:s[k]=c) (h:∀ (i:Nat) (h:i<s.length),i<k->C9 i ((s[i]).toNat:Int)) (hc:C9 k (c.toNat:Int)):∀ (i:Nat) (h:i<s.length),i<k+1->C9 i ((s[i]).toNat:Int):=by
 intro i hi h2
 rcases Nat.lt_succ_iff_lt_or_eq.mp h2 with h3 | h3
 ·exact h i hi h3
 ·subst h3; rw [hq]; exact hc
def Hu {s:List UInt8} {k:Nat} {c:UInt8} {hk:k<s.length} (hq:s[k]=c) (h:yn s) (hl:¬ Bi (c.toNat:Int)) (hd:k=0\/(c.toNat:Int)<48\/(c.toNat:Int) > 57):False:=by
 have:=h.2.2 k hk
 rw [hq] at this
 rcases this with h1 | h1
 ·exact hl h1
 ·omega
def Ez {s:List UInt8} {k:Nat} {c d:UInt8} {hk:k<s.length} (hq:s[k]=c) (h:yn s) (hl:¬ Bi (c.toNat:Int)) (hd:(d.toNat:Int)<48\/(d.toNat:Int) > 57) (hq2:s[k]=d):False:=by
 subst hq2; subst hq; exact Hu rfl h hl (.inr hd)
def xq (s:kR):Prop:=yn s.name.l/\1<=s.len/\s.len<=4000/\1<=s.top/\s.top<=60/\1<=s.acc/\s.acc<=10/\1<=s.lC/\s.lC<=10
def Cb (l:List kR):Prop:=l.length<=4/\(∀ s∈l,xq s)/\∀ (i j:Nat) (h:j<l.length) (hij:i<j),¬ (l[i]).name.l=(l[j]).name.l
def yM (p:bY) (l:List kR):Prop:=Cb l/\∀ s∈l,s.top<=p.top/\p.lC<=s.lC
def MO {l:List kR} {k:Nat} {x:kR} {r:Int} {hk:k<l.length} (hq:l[k]=x) (h:∀ (i j:Nat) (h:j<l.length) (hij:i<j),j<k->¬ (l[i]).name.l=(l[j]).name.l) (hf:∀ (j:Nat) (h:j<l.length),(j:Int)<r->¬ (l[j]).name.l=x.name.l) (hr:¬ r≠(k:Int)) :
  ∀ (i j:Nat) (h:j<l.length) (hij:i<j),j<k+1->¬ (l[i]).name.l=(l[j]).name.l:=by
 intro i j hj hij h2
 rcases Nat.lt_succ_iff_lt_or_eq.mp h2 with h3 | h3
 ·exact h i j hj hij h3
 ·subst h3; rw [hq]; exact hf i (by omega) (by omega)
def Np {l:List kR} {k j:Nat} {x y:kR} (h:Cb l) {r:Row kR} {hk:k<l.length} (hq:l[k]=x) {hj:j<r.l.length} (hy:r.l[j]=y) (he:y.name.l=x.name.l) (hr:r.l=l.take k:=by rfl):False:=by
 subst hq hy
 have hjk:j<k:=by rw [hr,List.length_take] at hj; omega
 refine h.2.2 j k hk hjk ?_
 rw [<- he]
 congr 2
 simp [hr]
def Az (p:bY) (x:lD):Prop:=(x.end_=1/\0<=x.to/\x.to<(p.signals.l.length:Int))\/(x.end_=2/\lR p x.to=4)\/(x.end_=3/\lR p x.to=1)
def BA (l:List lD):Nat->Int
 | 0=>0
 | k+1=>match l[k]? with
   | some x=>x.at_
   | none=>0
def Sl {l:List lD} {k:Nat} {x:lD} {hk:k<l.length} (hq:l[k]=x):x.at_=BA l (k+1):=by
 rw [BA,List.getElem?_eq_getElem hk,hq]
def An (p:bY) (l:List lD) (i:Nat) (x:lD):Prop:=0<=x.at_/\BA l i<=x.at_/\x.at_<=2000/\Az p x
def EH (p:bY) (l:List lD):Prop:=∀ (i:Nat) (h:i<l.length),An p l i l[i]
def SD {p:bY} {l:List lD} {k:Nat} (h:∀ (i:Nat) (h:i<l.length),i<k->An p l i l[i]) (hk:k<=l.length):0<=BA l k:=by
 cases k with
 | zero=>simp [BA]
 | succ k =>
   have:=(h k (by omega) (by omega)).1
   rw [BA,List.getElem?_eq_getElem (by omega:k<l.length)]
   exact this
def O1 {p:bY} {l:List lD} {k:Nat} {x:lD} {hk:k<l.length} (hq:l[k]=x) (h:∀ (i:Nat) (h:i<l.length),i<k->An p l i l[i]) (hx:An p l k x):∀ (i:Nat) (h:i<l.length),i<k+1->An p l i l[i]:=by
 intro i hi h2
 rcases Nat.lt_succ_iff_lt_or_eq.mp h2 with h3 | h3
 ·exact h i hi h3
 ·subst h3; rw [hq]; exact hx
def Oj {p:bY} {l:List lD} {k:Nat} {x:lD} {n:Int} (h:EH p l) {hk:k<l.length} (hq:l[k]=x) (hn:n=BA l k) (hd:¬ (0<=x.at_/\x.at_<=2000)\/x.at_<n\/¬ Az p x):False:=by
 have h2:=h k hk
 rw [hq] at h2
 obtain ⟨h3,h4,h5,h6⟩:=h2
 rcases hd with h7 | h7 | h7
 ·exact h7 ⟨h3,h5⟩
 ·omega
 ·exact h7 h6
def yk (p:bY) (d:dO) (r:kS):Prop:=yn r.name.l/\(0<=r.ko/\r.ko<(d.ko.l.length:Int))/\(0<=r.from_/\r.from_<(p.signals.l.length:Int))/\(0<=r.left/\r.left<=4000)/\EH p r.kr.l
structure uG (p:bY) (d:dO):Prop where
 runs:d.runs.l.length<=8
 kr:∀ r∈d.runs.l,r.kr.l.length<=12
 QP:yM p d.ko.l
 beg:0<=d.nP/\d.nP<=86399
 ok:∀ r∈d.runs.l,yk p d r
 name:∀ (i j:Nat) (h:j<d.runs.l.length) (hij:i<j),¬ (d.runs.l[i]).name.l=(d.runs.l[j]).name.l
theorem uG.ot {p:bY} {d:dO} (h:uG p d):ug d:=⟨h.runs,λr hr=>⟨h.kr r hr,(h.ok r hr).2.1⟩⟩
def Mm {l:List kS} {k j:Nat} {x y:kS} {r:Row kS} {hk:k<l.length} (hq:l[k]=x) {hj:j<r.l.length} (hy:r.l[j]=y) (h:∀ y∈(l.take k).take j,∀ x,l[k]?=some x->¬ y.name.l=x.name.l) (hn:¬ x.name.l=y.name.l) (hr:r.l=l.take k:=by rfl):∀ y∈(l.take k).take (j+1),∀ x,l[k]?=some x->¬ y.name.l=x.name.l:=by
 intro z hz w hw
 rw [List.getElem?_eq_getElem hk,hq] at hw
 cases hw
 have hj2:j<(l.take k).length:=by rw [<- hr]; exact hj
 have hy2:(l.take k)[j]=y:=by rw [<- hy]; congr 1; exact hr.symm
 rw [pf hj2 hy2] at hz
 rcases List.mem_append.mp hz with hz | hz
 ·exact h z hz _ (by rw [List.getElem?_eq_getElem hk,hq])
 ·simp at hz; subst hz; exact λe=>hn e.symm
def MN {l:List kS} {k j:Nat} {x:kS} {hk:k<l.length} (hq:l[k]=x) (h0:∀ (i j:Nat) (h:j<l.length) (hij:i<j),j<k->¬ (l[i]).name.l=(l[j]).name.l) (h:∀ y∈(l.take k).take j,∀ x,l[k]?=some x->¬ y.name.l=x.name.l) {r:Row kS} (hj:¬ (j:Int)<(r.l.length:Int)) (hr:r.l=l.take k:=by rfl):∀ (i j:Nat) (h:j<l.length) (hij:i<j),j<k+1->¬ (l[i]).name.l=(l[j]).name.l:=by
 replace hj:(l.take k).length<=j:=by rw [<- hr]; omega
 rw [List.take_of_length_le hj] at h
 exact Ej hq h0 λy hy=>h y hy x (by rw [List.getElem?_eq_getElem hk,hq])
def RZ {l:List kS} {k:Nat} {x:kS} {r:ka kS} {hk:k<l.length} (hq:l[k]=x) (h:∀ (i j:Nat) (h:j<l.length) (hij:i<j),¬ (l[i]).name.l=(l[j]).name.l) (he:∃ y∈r.l,y.name.l=x.name.l) (hr:r.l=l.take k:=by rfl):False:=by
 subst hq
 obtain ⟨y,hy,he⟩:=he
 rw [hr] at hy
 obtain ⟨i,hi,rfl⟩:=List.mem_take_iff_getElem.mp hy
 exact h i k hk (by omega) he
def sv (p:bY) (L:List kq) (d:dO) (i:Nat):Prop:=∃ x,d.runs.l[i]?=some x/\(x.kr.l.length=0\/(∃ y,x.kr.l[((x.kr.l.length:Int) - 1).toNat]?=some y/\y.end_≠2)\/∃ j:Nat,j<x.kr.l.length/\mY p L d i j=[])
def pO (p:bY) (L:List kq) (d:dO) (r:Int):Prop :=
 ((∃ s∈p.signals.l,s.auto=true)/\r=7)\/((∀ s∈p.signals.l,s.auto=false)/\∃ e,oJ p d e/\((e≠0/\r=e)\/(e=0/\((r=10/\∃ i,i<d.runs.l.length/\sv p L d i)\/(r=0/\∀ i,i<d.runs.l.length->¬ sv p L d i)))))
theorem pO.uu {p:bY} {L:List kq} {d:dO} {r s:Int} (h1:pO p L d r) (h2:pO p L d s):r=s:=by
 rcases h1 with ⟨⟨x,hx,ha⟩,h3⟩ | ⟨h3,e,he,h4⟩<;>rcases h2 with ⟨⟨y,hy,hb⟩,h5⟩ | ⟨h5,f,hf,h6⟩
 ·rw [h3,h5]
 ·rw [h5 x hx] at ha; cases ha
 ·rw [h3 y hy] at hb; cases hb
 ·have:=he.uu hf
  subst this
  rcases h4 with ⟨h7,h8⟩ | ⟨h7,⟨h8,i,hi,h9⟩ | ⟨h8,h9⟩⟩<;>rcases h6 with ⟨h10,h11⟩ | ⟨h10,⟨h11,j,hj,h12⟩ | ⟨h11,h12⟩⟩<;>first | (rw [h8,h11]; done) | exact absurd h7 h10 | exact absurd h10 h7 | exact absurd h9 (h12 i hi) | exact absurd h12 (h9 j hj)
section
variable {p:bY} {L:List kq} {d:dO} {k j:Nat} {x:kS} {y:lD} {e:Int}
def M7 {s:lY} {hk:k<p.signals.l.length} (hq:p.signals.l[k]=s) (h:s.auto=true):pO p L d 7:=.inl ⟨⟨s,by rw [<- hq]; exact List.getElem_mem _,h⟩,rfl⟩
def A8 (hS:∀ s∈p.signals.l,s.auto=false) (h:oJ p d e) (he:¬ e=0):pO p L d e:=.inr ⟨hS,e,h,.inl ⟨he,rfl⟩⟩
def sT (hS:∀ s∈p.signals.l,s.auto=false) (h:oJ p d 0) (hk:k<d.runs.l.length) (hb:sv p L d k):pO p L d 10:=.inr ⟨hS,0,h,.inr ⟨rfl,.inl ⟨rfl,k,hk,hb⟩⟩⟩
def Fm (hS:∀ s∈p.signals.l,s.auto=false) (h:oJ p d 0) (hb:∀ i,i<k->¬ sv p L d i) (hk:d.runs.l.length<=k):pO p L d 0:=.inr ⟨hS,0,h,.inr ⟨rfl,.inr ⟨rfl,λi hi=>hb i (by omega)⟩⟩⟩
def Qf {hk:k<d.runs.l.length} (hq:d.runs.l[k]=x) (h:(x.kr.l.length:Int)=0):sv p L d k:=⟨x,by rw [List.getElem?_eq_getElem hk,hq],.inl (by omega)⟩
def PY {hk:k<d.runs.l.length} (hq:d.runs.l[k]=x) {hl:((x.kr.l.length:Int) - 1).toNat<x.kr.l.length} (hy:x.kr.l[((x.kr.l.length:Int) - 1).toNat]=y) (h:y.end_≠2):sv p L d k:=⟨x,by rw [List.getElem?_eq_getElem hk,hq],.inr (.inl ⟨y,by rw [List.getElem?_eq_getElem hl,hy],h⟩)⟩
def Qm {hk:k<d.runs.l.length} (hq:d.runs.l[k]=x) {r:List Int} (hr:r=mY p L d k j) (h:(r.length:Int)=0) (hj:j<x.kr.l.length):sv p L d k:=⟨x,by rw [List.getElem?_eq_getElem hk,hq],.inr (.inr ⟨j,hj,by rw [<- hr]; exact List.length_eq_zero_iff.mp (by omega)⟩)⟩
def Ui {hk:k<d.runs.l.length} (hq:d.runs.l[k]=x) (h1:¬ (x.kr.l.length:Int)=0) {hl:((x.kr.l.length:Int) - 1).toNat<x.kr.l.length} (hy:x.kr.l[((x.kr.l.length:Int) - 1).toNat]=y) (h2:¬ y.end_≠2) (h3:∀ i:Nat,i<j->mY p L d k i≠[]) (hj:x.kr.l.length<=j):¬ sv p L d k:=by
 rintro ⟨z,hz,h⟩
 rw [List.getElem?_eq_getElem hk,hq] at hz
 cases hz
 rcases h with h | ⟨w,hw,h⟩ | ⟨i,hi,h⟩
 ·omega
 ·rw [List.getElem?_eq_getElem hl,hy] at hw; cases hw; exact h2 h
 ·exact h3 i (by omega) h
def ne_nil {r:List Int} (hr:r=mY p L d k j) (h:¬ (r.length:Int)=0):mY p L d k j≠[]:=by
 rw [<- hr]; rintro rfl; simp at h
def wi {m:Nat} (hE:∀ i,i<k->wc p d i=0) (h1:d.runs.l.length<=k) (hM:¬ qG (qw p d) m) (h2:d.runs.l.length<=m) (h3:m<=d.runs.l.length):oJ p d 0:=by
 have:m=d.runs.l.length:=by omega
 subst this
 exact .inr ⟨λi hi=>hE i (by omega),.inl ⟨rfl,hM⟩⟩
def wJ (p:bY) (d:dO) (k:Nat) (l:List Int):Prop:=∀ x,x∈l↔∃ i,i<k/\x∈qw p d i
def wJ.zero:wJ p d 0 []:=λx=>by simp
def Bk {t:mA} {n:Int} (ht:t=nC p d k) (hK:n=lR p t.at_.elem) (h:n=1):qw p d k=[t.at_.elem]:=by
 subst ht; simp [qw,p7,<- hK,h]
def Ff {t:mA} {n:Int} {m:Nat} (hE:∀ i,i<m->wc p d i=0) (hk:k<m) (ht:t=nC p d k) (hK:n=lR p t.at_.elem) (h:¬ n=1):qw p d k=[]:=by
 subst ht
 have:=Gw (hE k hk)
 have:n=4:=by omega
 simp [qw,p7,<- hK,this]
def wJ.snoc {l:List Int} {z:Int} (h:wJ p d k l) (hz:qw p d k=[z]):wJ p d (k+1) (l++[z]):=by
 intro x
 rw [List.mem_append,h x]
 constructor
 ·rintro (⟨i,hi,hx⟩ | hx)
  ·exact ⟨i,by omega,hx⟩
  ·exact ⟨k,by omega,by rw [hz]; exact hx⟩
 ·rintro ⟨i,hi,hx⟩
  rcases Nat.lt_succ_iff_lt_or_eq.mp hi with h1 | h1
  ·exact .inl ⟨i,h1,hx⟩
  ·subst h1; rw [hz] at hx; exact .inr hx
def wJ.same {l:List Int} (h:wJ p d k l) (hz:qw p d k=[]):wJ p d (k+1) l:=by
 intro x
 rw [h x]
 constructor
 ·rintro ⟨i,hi,hx⟩; exact ⟨i,by omega,hx⟩
 ·rintro ⟨i,hi,hx⟩
  rcases Nat.lt_succ_iff_lt_or_eq.mp hi with h1 | h1
  ·exact ⟨i,h1,hx⟩
  ·subst h1; rw [hz] at hx; cases hx
def Ey {L:Nat->List Int} (h:¬ qG L k) (hn:∀ x∈L k,∀ i,i<k->x∉L i):¬ qG L (k+1):=by
 rintro ⟨i,j,hij,hj,x,hx,hx2⟩
 rcases Nat.lt_succ_iff_lt_or_eq.mp hj with h1 | h1
 ·exact h ⟨i,j,hij,h1,x,hx,hx2⟩
 ·subst h1; exact hn x hx2 i hij hx
def K8 {L:Nat->List Int} (h:¬ qG L k) (hz:L k=[]):¬ qG L (k+1):=Ey h (by rw [hz]; simp)
def wJ.Ow {l:List Int} {z:Int} {s:List Int} (h:wJ p d k l) (hs:s=l) (hz:qw p d k=[z]) (hM:¬ qG (qw p d) k) (hn:z∉s):¬ qG (qw p d) (k+1):=by
 subst hs
 refine Ey hM λx hx i hi h2=>?_
 rw [hz] at hx; simp at hx; subst hx
 exact hn ((h x).mpr ⟨i,hi,h2⟩)
def wJ.KY {l:List Int} {z:Int} {s:List Int} (h:wJ p d k l) (hs:s=l) (hz:qw p d k=[z]) (hi:z∈s) (hE:∀ i,i<j->wc p d i=0) (h1:d.runs.l.length<=j) (hk:k<d.runs.l.length):oJ p d 18:=by
 subst hs
 obtain ⟨i,hik,h2⟩:=(h z).mp hi
 exact .inr ⟨λi hi=>hE i (by omega),.inr ⟨rfl,i,k,hik,hk,z,h2,by rw [hz]; simp⟩⟩
end
theorem Fk (p:bY):mY p.canon=mY p:=rfl
theorem Fy (p:bY):oJ p.canon=oJ p:=rfl
def Ab {p:bY} {d:dO} {e:Int} (h:oJ p d e) (he:¬ e≠0):oJ p d 0:=by
 have:e=0:=by omega
 subst this; exact h
def XF {p:bY} (h:∀ e∈p.elems.l,(1<=e.kind/\e.kind<=4)/\(e.kind=4->e.len=0)):Et p:=h
def Zb {p:bY} {k:Nat} (h:∀ (i:Nat) (h:i<p.kB.l.length),i<k->VE p (p.kB.l[i]).a.elem/\VE p (p.kB.l[i]).b.elem) (hk:p.kB.l.length<=k):JV p:=m6 (P:=λj:mr=>VE p j.a.elem/\VE p j.b.elem) h hk
structure xW (p:bY) (k j:Nat) (m:List (Int×Bool)):Prop where
 val:∀ (i:Nat) (h:i<p.lines.l.length),i<k->∀ e∈(p.lines.l[i]).elems.l,VE p e/\look e m=some true
 Ds:∀ (i j:Nat) (h:j<p.lines.l.length) (hij:i<j),j<k->∀ e∈(p.lines.l[i]).elems.l,e∉(p.lines.l[j]).elems.l
 cur:∀ x,p.lines.l[k]?=some x->∀ e∈x.elems.l.take j,VE p e/\look e m=some true/\∀ (i:Nat) (h:i<p.lines.l.length),i<k->e∉(p.lines.l[i]).elems.l
section
variable {p:bY} {k j:Nat} {m:List (Int×Bool)} {x:lq} {e:Int}
def xW.zero:xW p 0 0 []:=⟨λ_ _ h=>by omega,λ_ _ _ _ h=>by omega,λ_ _ e h=>by simp at h⟩
theorem xW.put (h:xW p k j m) {hk:k<p.lines.l.length} (hq:p.lines.l[k]=x) {hj:j<x.elems.l.length} (he:x.elems.l[j]=e) (hv:VE p e) (hl:¬ look e m=some true):xW p k (j+1) (put e true m):=by
 have lp:∀ y,look y m=some true->look y (Go.Sx.put e true m)=some true:=λy hy=>um hy
 refine ⟨λi hi hik y hy=>⟨(h.val i hi hik y hy).1,lp y (h.val i hi hik y hy).2⟩,h.Ds,λz hz y hy=>?_⟩
 rw [List.getElem?_eq_getElem hk,hq] at hz
 cases hz
 rw [pf hj he] at hy
 rcases List.mem_append.mp hy with hy | hy
 ·have:=h.cur x (by rw [List.getElem?_eq_getElem hk,hq]) y hy
  exact ⟨this.1,lp y this.2.1,this.2.2⟩
 ·simp at hy; subst hy
  exact ⟨hv,by grind [nQ],λi hi hik hm=>hl (h.val i hi hik _ hm).2⟩
theorem xW.next (h:xW p k j m) {hk:k<p.lines.l.length} (hq:p.lines.l[k]=x) (hj:x.elems.l.length<=j):xW p (k+1) 0 m:=by
 have hc:=h.cur x (by rw [List.getElem?_eq_getElem hk,hq])
 rw [List.take_of_length_le hj] at hc
 refine ⟨λi hi hik e he=>?_,λi j2 hj2 hij hjk e he=>?_,λ_ _ e h=>by simp at h⟩
 ·rcases Nat.lt_succ_iff_lt_or_eq.mp hik with h1 | h1
  ·exact h.val i hi h1 e he
  ·subst h1; rw [hq] at he; exact ⟨(hc e he).1,(hc e he).2.1⟩
 ·rcases Nat.lt_succ_iff_lt_or_eq.mp hjk with h1 | h1
  ·exact h.Ds i j2 hj2 hij h1 e he
  ·subst h1; rw [hq]; exact λhm=>(hc e hm).2.2 i (by omega) hij he
def xW.ok (h:xW p k 0 m) (hk:p.lines.l.length<=k):zX p:=by
 refine ⟨λx hx e he=>?_,λi j hj hij=>h.Ds i j hj hij (by omega)⟩
 obtain ⟨i,hi,rfl⟩:=List.mem_iff_getElem.mp hx
 exact (h.val i hi (by omega) e he).1
end
def Vg {p:bY} (h:JV p) (h40:p.elems.l.length<=40):∀ j∈p.kB.l,pN j.a.elem/\pN j.b.elem:=λj hj=>⟨⟨(h j hj).1.1,by have:=(h j hj).1.2; omega⟩,(h j hj).2.1,by have:=(h j hj).2.2; omega⟩
structure sR (p:bY) (k j:Nat) (m:List (Int×Int×Int)):Prop where
 snd:∀ e y,look e m=some y->(∃ (i:Nat) (h:i<p.lines.l.length),i<k/\y.1=(i:Int)/\e∈(p.lines.l[i]).elems.l)\/(y.1=(k:Int)/\∃ x,p.lines.l[k]?=some x/\e∈x.elems.l.take j)
 cmp:∀ (i:Nat) (h:i<p.lines.l.length),i<k->∀ e∈(p.lines.l[i]).elems.l,∃ q,look e m=some ((i:Int),q)
 cur:∀ x,p.lines.l[k]?=some x->∀ e∈x.elems.l.take j,∃ q,look e m=some ((k:Int),q)
section
variable {p:bY} {k j:Nat} {m:List (Int×Int×Int)} {x:lq} {e c:Int}
def sR.zero:sR p 0 0 []:=⟨λe y h=>by simp [look] at h,λ_ _ h=>by omega,λ_ _ e h=>by simp at h⟩
theorem sR.put (hp:zX p) (h:sR p k j m) {hk:k<p.lines.l.length} (hq:p.lines.l[k]=x) {hj:j<x.elems.l.length} (he:x.elems.l[j]=e):sR p k (j+1) (put e ((k:Int),c) m):=by
 have hg:p.lines.l[k]?=some x:=by rw [List.getElem?_eq_getElem hk,hq]
 have hex:e∈x.elems.l:=by rw [<- he]; exact List.getElem_mem _
 refine ⟨λd y hd=>?_,λi hi hik d hd=>?_,λz hz d hd=>?_⟩
 ·by_cases hde:d=e
  ·subst hde
   have:y=((k:Int),c):=by grind [nQ]
   subst this
   exact .inr ⟨rfl,x,hg,by rw [pf hj he]; simp⟩
  ·have hd2:look d m=some y:=by grind [nQ]
   rcases h.snd d y hd2 with h1 | ⟨h1,z,hz,h2⟩
   ·exact .inl h1
   ·rw [hg] at hz; cases hz
    exact .inr ⟨h1,x,hg,by rw [pf hj he]; simp [h2]⟩
 ·have hne:d≠e:=by
   rintro rfl
   exact hp.2 i k hk hik d hd (by rw [hq]; exact hex)
  obtain ⟨q,hq2⟩:=h.cmp i hi hik d hd
  exact ⟨q,by grind [nQ]⟩
 ·rw [hg] at hz; cases hz
  by_cases hde:d=e
  ·subst hde; exact ⟨c,by grind [nQ]⟩
  ·rw [pf hj he] at hd
   rcases List.mem_append.mp hd with hd | hd
   ·obtain ⟨q,hq2⟩:=h.cur x hg d hd
    exact ⟨q,by grind [nQ]⟩
   ·simp at hd; exact absurd hd hde
theorem sR.next (h:sR p k j m) {hk:k<p.lines.l.length} (hq:p.lines.l[k]=x) (hj:x.elems.l.length<=j):sR p (k+1) 0 m:=by
 have hg:p.lines.l[k]?=some x:=by rw [List.getElem?_eq_getElem hk,hq]
 refine ⟨λd y hd=>?_,λi hi hik d hd=>?_,λ_ _ e h=>by simp at h⟩
 ·rcases h.snd d y hd with ⟨i,hi,h1,h2⟩ | ⟨h1,z,hz,h2⟩
  ·exact .inl ⟨i,hi,by omega,h2⟩
  ·rw [hg] at hz; cases hz
   exact .inl ⟨k,hk,by omega,h1,by rw [hq]; exact List.mem_of_mem_take h2⟩
 ·rcases Nat.lt_succ_iff_lt_or_eq.mp hik with h1 | h1
  ·exact h.cmp i hi h1 d hd
  ·subst h1
   rw [hq] at hd
   exact h.cur x hg d (by rwa [List.take_of_length_le hj])
def sR.ok (h:sR p k 0 m) (hk:p.lines.l.length<=k):wH m p:=by
 refine ⟨λd y hd=>?_,λi hi d hd=>h.cmp i hi (by omega) d hd⟩
 rcases h.snd d y hd with ⟨i,hi,h1,h2,h3⟩ | ⟨h1,z,hz,h2⟩
 ·exact ⟨i,hi,h2,h3⟩
 ·simp at h2
end
def uK (P:Int->Bool) (l l2:List Int) (i j:Int):Prop:=l2.take i.toNat=(l.take j.toNat).filter P/\l2.drop j.toNat=l.drop j.toNat
section
variable {P:Int->Bool} {l l2:List Int} {i j x y:Int}
def Fu {l l2:List Int} {n:Nat} (h:l2.drop n=l.drop n) {h1:n<l2.length} (hq:l2[n]=x):∃ h2:n<l.length,l[n]=x:=by
 have h3:(l2.drop n)[0]?=some x:=by rw [List.getElem?_drop,Nat.add_zero,List.getElem?_eq_getElem h1,hq]
 rw [h,List.getElem?_drop,Nat.add_zero] at h3
 exact List.getElem?_eq_some_iff.mp h3
def Pu {l l2:List Int} {n:Nat} (h:l2.drop n=l.drop n):l2.drop (n+1)=l.drop (n+1):=by
 have:∀ m:List Int,m.drop (n+1)=(m.drop n).drop 1:=λm=>by rw [List.drop_drop]
 rw [this,this,h]
def uK.start (h0:0<=i) (hb:∀ (k:Nat) (h:k<l.length),(k:Int)<i->P l[k]=true) (hi:i<l.length) (hP:∀ (h:i.toNat<l.length),P l[i.toNat]=false):uK P l l i (i+1):=by
 have e:(i+1).toNat=i.toNat+1:=by omega
 have hl:i.toNat<l.length:=by omega
 refine ⟨?_,rfl⟩
 rw [e,List.take_add_one,List.getElem?_eq_getElem hl,Option.toList_some,List.filter_append,List.filter_cons,hP hl]
 simp only [Bool.false_eq_true,if_false,List.filter_nil,List.append_nil]
 symm
 rw [List.filter_eq_self]
 intro a ha
 obtain ⟨k,hk,rfl⟩:=List.mem_take_iff_getElem.mp ha
 exact hb k (by omega) (by omega)
theorem uK.mj (h:uK P l l2 i j) (h0:0<=i) (hij:i<j) {hj:j.toNat<l2.length} (hq:l2[j.toNat]=x) (hP:P x=true):uK P l (l2.set i.toNat x) (i+1) (j+1):=by
 have e1:(i+1).toNat=i.toNat+1:=by omega
 have e2:(j+1).toNat=j.toNat+1:=by omega
 obtain ⟨hl,hlq⟩:=Fu h.2 hq
 refine ⟨?_,?_⟩
 ·rw [e1,e2,List.take_add_one,List.getElem?_set_self (by omega),List.take_add_one,List.getElem?_eq_getElem hl,hlq,Option.toList_some,List.filter_append,<- h.1,List.take_set_of_le (Nat.le_refl _)]
  simp [hP]
 ·rw [e2,List.drop_set_of_lt (by omega)]
  exact Pu h.2
def uK.skip (h:uK P l l2 i j) (h0:0<=i) (hij:i<j) {hj:j.toNat<l2.length} (hq:l2[j.toNat]=x) (hP:P x=false):uK P l l2 i (j+1):=by
 have e2:(j+1).toNat=j.toNat+1:=by omega
 obtain ⟨hl,hlq⟩:=Fu h.2 hq
 refine ⟨?_,by rw [e2]; exact Pu h.2⟩
 rw [e2,List.take_add_one,List.getElem?_eq_getElem hl,hlq,Option.toList_some,List.filter_append,<- h.1]
 simp [hP]
def uK.done (h:uK P l l2 i j) (hj:(l.length:Int)<=j) (hi:i.toNat<=l2.length) {n:Nat}:(l2.take i.toNat++List.replicate n y).take i.toNat=l.filter P:=by
 rw [List.take_append_of_le_length (by rw [List.length_take]; omega),List.take_take,Nat.min_self,h.1,List.take_of_length_le (by omega)]
def filter_all (h:∀ x∈l,P x=true):l=l.filter P:=(List.filter_eq_self.mpr h).symm
end
def qQ (p:bY) (x:Int):Bool:=!decide (lR p x=4)
def T7 {l:List Int} {k:Nat} {x:Int} {P:Int->Bool} {b:Bool} {hk:k<l.length} (hq:l[k]=x) (h:P x=b):∀ h:((k:Int)).toNat<l.length,P l[((k:Int)).toNat]=b:=by
 intro _; subst hq; exact h
theorem nN {α:Type} {l:List α} {k:Nat} {x y : α} {hk:k<l.length} (hq:l[k]=x):y∈l.take (k+1)↔y∈l.take k\/y=x:=by
 rw [pf hk hq]; simp
def qA (m:List (Int×Bool)) (y:Int):Prop:=∃ b,look y m=some b
theorem C1 {m:List (Int×Bool)} {x y:Int} {b:Bool}:qA (put x b m) y↔y=x\/qA m y:=by
 unfold qA
 by_cases h:y=x
 ·subst h; exact ⟨λ_=>.inl rfl,λ_=>⟨b,by grind [nQ]⟩⟩
 ·constructor
  ·rintro ⟨c,hc⟩; exact .inr ⟨c,by grind [nQ]⟩
  ·rintro (h1 | ⟨c,hc⟩)
   ·exact absurd h1 h
   ·exact ⟨c,by grind [nQ]⟩
def RO {y:Int}:¬ qA [] y:=by rintro ⟨b,h⟩; simp [look] at h
theorem CJ {m:List (Int×Bool)} {y:Int} (hn:nc m):qA m y↔y∈m.map Prod.fst:=by
 induction m with
 | nil=>simp [qA,look]
 | cons a m ih =>
   have hn2:nc m:=(List.nodup_cons.mp hn).2
   have:=ih hn2
   unfold qA at this ⊢
   simp only [List.map_cons,List.mem_cons]
   by_cases h:a.1=y
   ·subst h; exact ⟨λ_=>.inl rfl,λ_=>⟨a.2,by simp [look]⟩⟩
   ·rw [<- this]
    simp only [look,if_neg h]
    grind
def rv (ln:List (Int×Int×Int)) (ll:List lq) (x y:Int):Prop:=y=x\/∃ (l:Nat) (h:l<ll.length) (q:Int),look x ln=some ((l:Int),q)/\y∈(ll[l]).elems.l
section
variable {ln:List (Int×Int×Int)} {ll:List lq} {m mo:List (Int×Bool)} {x y r e:Int} {k:Nat} {L:lq} {E:Row Int}
def OS {E:List Int} (h:∀ y,qA mo y↔qA m y\/y=x\/y∈E.take k) {hk:k<E.length} (hq:E[k]=e):∀ y,qA (put e true mo) y↔qA m y\/y=x\/y∈E.take (k+1):=by
 intro y
 rw [C1,h y,nN hq]
 grind
def R6 (h:∀ y,qA mo y↔qA m y\/y=x\/y∈L.elems.l.take k) (hk:L.elems.l.length<=k) (hl:(∃ q,look x ln=some (r,q))\/(look x ln=none/\r = -1)) (h0:r>=0) {hx:r.toNat<ll.length} (hq:ll[r.toNat]=L):∀ y,qA mo y↔qA m y\/rv ln ll x y:=by
 intro y
 rw [h y,List.take_of_length_le hk]
 have hr:((r.toNat:Nat):Int)=r:=Int.toNat_of_nonneg h0
 obtain ⟨q,hq2⟩:∃ q,look x ln=some (r,q):=by
  rcases hl with h1 | ⟨_,h1⟩
  ·exact h1
  ·omega
 unfold rv
 constructor
 ·rintro (h1 | h1 | h1)
  ·exact .inl h1
  ·exact .inr (.inl h1)
  ·exact .inr (.inr ⟨r.toNat,hx,q,by rw [hr]; exact hq2,by rw [hq]; exact h1⟩)
 ·rintro (h1 | h1 | ⟨l,hl2,q2,h1,h2⟩)
  ·exact .inl h1
  ·exact .inr (.inl h1)
  ·rw [hq2] at h1
   have:l=r.toNat:=by have:=congrArg (λz:Option (Int×Int)=>z.map Prod.fst) h1; simp at this; omega
   subst this
   rw [hq] at h2
   exact .inr (.inr h2)
def SB (hl:(∃ q,look x ln=some (r,q))\/(look x ln=none/\r = -1)) (h0:¬ r>=0\/¬ r<(ll.length:Int)):∀ y,qA (put x true m) y↔qA m y\/rv ln ll x y:=by
 intro y
 rw [C1]
 unfold rv
 constructor
 ·rintro (h1 | h1)
  ·exact .inr (.inl h1)
  ·exact .inl h1
 ·rintro (h1 | h1 | ⟨l,hl2,q2,h1,h2⟩)
  ·exact .inr h1
  ·exact .inl h1
  ·exfalso
   rcases hl with ⟨q,hq⟩ | ⟨hq,_⟩
   ·rw [hq] at h1
    have:=congrArg (λz:Option (Int×Int)=>z.map Prod.fst) h1
    simp at this; omega
   ·rw [hq] at h1; cases h1
end
theorem Rr {l l':List (Int×Bool)} {key:Int} (hn:nc l) (hs:l'.Sublist l) (h:FN key l l'):∀ y,qA l' y↔qA l y/\y≠key:=by
 intro y
 have hn':nc l':=Ev hs hn
 rcases h with ⟨h1,rfl⟩ | ⟨j,b,h1,rfl⟩
 ·constructor
  ·rintro ⟨b,hb⟩
   exact ⟨⟨b,hb⟩,by rintro rfl; rw [h1] at hb; cases hb⟩
  ·exact λh=>h.1
 ·rw [CJ hn',CJ hn]
  obtain ⟨hj,hq⟩:=List.getElem?_eq_some_iff.mp h1
  have hm:(l.eraseIdx j).map Prod.fst=(l.map Prod.fst).eraseIdx j:=wD _ _ _
  rw [hm,List.mem_eraseIdx_iff_getElem]
  have hjk:(l.map Prod.fst)[j]'(by simpa using hj)=key:=by rw [List.getElem_map,hq]
  constructor
  ·rintro ⟨i,hi,hij,rfl⟩
   refine ⟨List.getElem_mem _,λe=>hij ?_⟩
   exact (List.getElem_inj hn).mp (e.trans hjk.symm)
  ·rintro ⟨hy,hne⟩
   obtain ⟨i,hi,rfl⟩:=List.mem_iff_getElem.mp hy
   exact ⟨i,hi,by rintro rfl; exact hne hjk,rfl⟩
def xe (l:List Int):Prop:=l.Pairwise (· < ·)
def xe.ext {l m:List Int} (h1:xe l) (h2:xe m) (h:∀ x,x∈l↔x∈m):l=m:=by
 induction l generalizing m with
 | nil=>cases m with
   | nil=>rfl
   | cons b m=>have:=(h b).mpr (by simp); simp at this
 | cons a l ih =>
   cases m with
   | nil=>have:=(h a).mp (by simp); simp at this
   | cons b m =>
     obtain ⟨ha,hl⟩:=List.pairwise_cons.mp h1
     obtain ⟨hb,hm⟩:=List.pairwise_cons.mp h2
     have hab:a=b:=by
      have h3:=(h a).mp (by simp)
      have h4:=(h b).mpr (by simp)
      rcases List.mem_cons.mp h3 with h3 | h3
      ·exact h3
      ·rcases List.mem_cons.mp h4 with h4 | h4
       ·exact h4.symm
       ·have:=ha b h4; have:=hb a h3; omega
     subst hab
     congr 1
     refine ih hl hm λx=>?_
     have:=h x
     simp only [List.mem_cons] at this
     constructor
     ·intro hx
      rcases this.mp (.inr hx) with h5 | h5
      ·have:=ha x hx; omega
      ·exact h5
     ·intro hx
      rcases this.mpr (.inr hx) with h5 | h5
      ·have:=hb x hx; omega
      ·exact h5
def Lk {l:List Int} (h:l.Nodup):xe (mv l):=by
 have h1:=uL l
 have h2:(mv l).Nodup:=(qz l).nodup_iff.mpr h
 exact (h1.and h2).imp λ⟨a,b⟩=>by omega
def Tg (ln:List (Int×Int×Int)) (ll:List lq) (rd:kq) (y:Int):Prop:=(∃ s∈rd.steps.l,rv ln ll s.elem y)\/∃ z∈rd.mf.l,rv ln ll z y
def nI (ln:List (Int×Int×Int)) (ll:List lq) (L:List kq) (R:List Int) (k:Nat) (y:Int):Prop:=∃ i∈R.take k,∃ rd,L[i.toNat]?=some rd/\Tg ln ll rd y
def C8 (ln:List (Int×Int×Int)) (ll:List lq) (L:List kq) (R:List Int) (k j:Nat) (y:Int):Prop:=∃ i,R[k]?=some i/\∃ rd,L[i.toNat]?=some rd/\∃ s∈rd.steps.l.take j,rv ln ll s.elem y
def CU (ln:List (Int×Int×Int)) (ll:List lq) (L:List kq) (R:List Int) (k j:Nat) (y:Int):Prop:=∃ i,R[k]?=some i/\∃ rd,L[i.toNat]?=some rd/\((∃ s∈rd.steps.l,rv ln ll s.elem y)\/∃ z∈rd.mf.l.take j,rv ln ll z y)
section
variable {ln:List (Int×Int×Int)} {ll:List lq} {L:List kq} {R:List Int} {k j:Nat} {m mo:List (Int×Bool)} {i:Int} {rd:kq} {s:kL} {z:Int}
def QE {A:Int->Prop} (h:∀ y,¬ A y):∀ y,A y↔nI ln ll L R 0 y:=λy=>⟨λh2=>absurd h2 (h y),λ⟨i,hi,_⟩=>by simp at hi⟩
def ac9:∀ y,qA [] y↔nI ln ll L R 0 y:=QE λ_=>RO
def Ql {A:Int->Prop} (h:∀ y,A y↔nI ln ll L R k y):∀ y,A y↔nI ln ll L R k y\/C8 ln ll L R k 0 y:=by
 intro y; rw [h y]
 constructor
 ·exact .inl
 ·rintro (h | ⟨i,_,rd,_,s,hs,_⟩)
  ·exact h
  ·simp at hs
def S4 {A B:Int->Prop} (h:∀ y,A y↔nI ln ll L R k y\/C8 ln ll L R k j y) {hk:k<R.length} (hq:R[k]=i) {hr:i.toNat<L.length} (hrd:L[i.toNat]=rd) {hj:j<rd.steps.l.length} (hs:rd.steps.l[j]=s) (ha:∀ y,B y↔A y\/rv ln ll s.elem y):∀ y,B y↔nI ln ll L R k y\/C8 ln ll L R k (j+1) y:=by
 have hR:R[k]?=some i:=by rw [List.getElem?_eq_getElem hk,hq]
 have hL:L[i.toNat]?=some rd:=by rw [List.getElem?_eq_getElem hr,hrd]
 intro y; rw [ha y,h y]
 constructor
 ·rintro ((h1 | ⟨i2,h2,rd2,h3,s2,h4,h5⟩) | h1)
  ·exact .inl h1
  ·refine .inr ⟨i,hR,rd,hL,s2,?_,h5⟩
   rw [hR] at h2; cases h2; rw [hL] at h3; cases h3
   exact (nN hs).mpr (.inl h4)
  ·exact .inr ⟨i,hR,rd,hL,s,(nN hs).mpr (.inr rfl),h1⟩
 ·rintro (h1 | ⟨i2,h2,rd2,h3,s2,h4,h5⟩)
  ·exact .inl (.inl h1)
  ·rw [hR] at h2; cases h2; rw [hL] at h3; cases h3
   rcases (nN hs).mp h4 with h6 | rfl
   ·exact .inl (.inr ⟨i,hR,rd,hL,s2,h6,h5⟩)
   ·exact .inr h5
def QY {A:Int->Prop} (h:∀ y,A y↔nI ln ll L R k y\/C8 ln ll L R k j y) {hk:k<R.length} (hq:R[k]=i) {hr:i.toNat<L.length} (hrd:L[i.toNat]=rd) (hj:rd.steps.l.length<=j):∀ y,A y↔nI ln ll L R k y\/CU ln ll L R k 0 y:=by
 have hR:R[k]?=some i:=by rw [List.getElem?_eq_getElem hk,hq]
 have hL:L[i.toNat]?=some rd:=by rw [List.getElem?_eq_getElem hr,hrd]
 intro y; rw [h y]
 constructor
 ·rintro (h1 | ⟨i2,h2,rd2,h3,s2,h4,h5⟩)
  ·exact .inl h1
  ·exact .inr ⟨i2,h2,rd2,h3,.inl ⟨s2,List.mem_of_mem_take h4,h5⟩⟩
 ·rintro (h1 | ⟨i2,h2,rd2,h3,⟨s2,h4,h5⟩ | ⟨z,hz,_⟩⟩)
  ·exact .inl h1
  ·rw [hR] at h2; cases h2; rw [hL] at h3; cases h3
   exact .inr ⟨i,hR,rd,hL,s2,by rwa [List.take_of_length_le hj],h5⟩
  ·simp at hz
def Sg {A B:Int->Prop} (h:∀ y,A y↔nI ln ll L R k y\/CU ln ll L R k j y) {hk:k<R.length} (hq:R[k]=i) {hr:i.toNat<L.length} (hrd:L[i.toNat]=rd) {hj:j<rd.mf.l.length} (hs:rd.mf.l[j]=z) (ha:∀ y,B y↔A y\/rv ln ll z y):∀ y,B y↔nI ln ll L R k y\/CU ln ll L R k (j+1) y:=by
 have hR:R[k]?=some i:=by rw [List.getElem?_eq_getElem hk,hq]
 have hL:L[i.toNat]?=some rd:=by rw [List.getElem?_eq_getElem hr,hrd]
 intro y; rw [ha y,h y]
 constructor
 ·rintro ((h1 | ⟨i2,h2,rd2,h3,h4 | ⟨s2,h4,h5⟩⟩) | h1)
  ·exact .inl h1
  ·exact .inr ⟨i2,h2,rd2,h3,.inl h4⟩
  ·rw [hR] at h2; cases h2; rw [hL] at h3; cases h3
   exact .inr ⟨i,hR,rd,hL,.inr ⟨s2,(nN hs).mpr (.inl h4),h5⟩⟩
  ·exact .inr ⟨i,hR,rd,hL,.inr ⟨z,(nN hs).mpr (.inr rfl),h1⟩⟩
 ·rintro (h1 | ⟨i2,h2,rd2,h3,h4 | ⟨s2,h4,h5⟩⟩)
  ·exact .inl (.inl h1)
  ·exact .inl (.inr ⟨i2,h2,rd2,h3,.inl h4⟩)
  ·rw [hR] at h2; cases h2; rw [hL] at h3; cases h3
   rcases (nN hs).mp h4 with h6 | rfl
   ·exact .inl (.inr ⟨i,hR,rd,hL,.inr ⟨s2,h6,h5⟩⟩)
   ·exact .inr h5
def Hf {A:Int->Prop} (h:∀ y,A y↔nI ln ll L R k y\/CU ln ll L R k j y) {hk:k<R.length} (hq:R[k]=i) {hr:i.toNat<L.length} (hrd:L[i.toNat]=rd) (hj:rd.mf.l.length<=j):∀ y,A y↔nI ln ll L R (k+1) y:=by
 have hR:R[k]?=some i:=by rw [List.getElem?_eq_getElem hk,hq]
 have hL:L[i.toNat]?=some rd:=by rw [List.getElem?_eq_getElem hr,hrd]
 intro y; rw [h y]
 unfold nI
 constructor
 ·rintro (⟨i2,h1,h2⟩ | ⟨i2,h2,rd2,h3,h4⟩)
  ·exact ⟨i2,(nN hq).mpr (.inl h1),h2⟩
  ·rw [hR] at h2; cases h2; rw [hL] at h3; cases h3
   refine ⟨i,(nN hq).mpr (.inr rfl),rd,hL,?_⟩
   rcases h4 with h4 | ⟨z,hz,h5⟩
   ·exact .inl h4
   ·exact .inr ⟨z,List.mem_of_mem_take hz,h5⟩
 ·rintro ⟨i2,h1,rd2,h2,h3⟩
  rcases (nN hq).mp h1 with h1 | rfl
  ·exact .inl ⟨i2,h1,rd2,h2,h3⟩
  ·rw [hL] at h2; cases h2
   refine .inr ⟨i2,hR,rd,hL,?_⟩
   rcases h3 with h3 | ⟨z,hz,h5⟩
   ·exact .inl h3
   ·exact .inr ⟨z,by rwa [List.take_of_length_le hj],h5⟩
def Tl {p:bY} {m':List (Int×Bool)} {st:Int} {lo lf r:List Int} (h:∀ y,qA m y↔nI ln ll L R k y) (hk:R.length<=k) (hn:nc m) (hd:m'.Sublist m/\FN st m m') (hs:lo=mv (m'.map Prod.fst)) (hf:lf=lo.filter (qQ p)) (hr:r=lf):xe r/\∀ y,y∈r↔nI ln ll L R R.length y/\y≠st/\lR p y≠4:=by
 subst hr hf hs
 have hn':nc m':=Ev hd.1 hn
 refine ⟨(Lk hn').filter _,λy=>?_⟩
 rw [List.mem_filter,(qz _).mem_iff,<- CJ hn',Rr hn hd.1 hd.2,h y]
 unfold nI qQ
 rw [List.take_of_length_le hk,List.take_of_length_le (Nat.le_refl _)]
 simp [and_assoc]
end
def Lv {l:List (Int×Bool)} {m:List Int} (h:m=mv (l.map Prod.fst)):m.length=l.length:=by
 rw [h,(qz _).length_eq,List.length_map]
def Rh {l m:List Int} {P:Int->Bool} (h:m=l.filter P):m.length<=l.length:=by
 rw [h]; exact List.length_filter_le _ _
def oO (l:List Bool) (y:Int):Prop:=0<=y/\l[y.toNat]?=some true
theorem Bl {x y:Int}:rv [] [] x y↔y=x:=by
 unfold rv
 constructor
 ·rintro (h | ⟨l,h,_⟩)
  ·exact h
  ·simp at h
 ·exact .inl
def LQ {n:Nat}:∀ y,¬ oO (List.replicate n false) y:=by
 rintro y ⟨h0,h⟩
 rw [List.getElem?_replicate] at h
 split at h<;>cases h
section
variable {l:List Bool} {x y:Int} {b:Bool}
theorem FI (h0:0<=x) (hx:x.toNat<l.length):∀ y,oO (l.set x.toNat true) y↔oO l y\/y=x:=by
 intro y
 unfold oO
 rw [List.getElem?_set]
 by_cases h:x.toNat=y.toNat
 ·rw [if_pos h,if_pos hx]
  constructor
  ·rintro ⟨h1,_⟩; exact .inr (by omega)
  ·rintro (⟨h1,_⟩ | rfl)
   ·exact ⟨h1,rfl⟩
   ·exact ⟨h0,rfl⟩
 ·rw [if_neg h]
  constructor
  ·exact .inl
  ·rintro (h1 | rfl)
   ·exact h1
   ·exact absurd rfl h
def FP (h0:0<=x) (hx:x.toNat<l.length):∀ y,oO (l.set x.toNat true) y↔oO l y\/rv [] [] x y:=by
 intro y; rw [FI h0 hx,Bl]
theorem LY (hx:x.toNat<l.length) (hq:l[x.toNat]=b):l.set x.toNat b=l:=by
 subst hq; exact List.set_getElem_self hx
def FA (h0:0<=x) {hx:x.toNat<l.length} (hq:l[x.toNat]=b):oO l x↔b=true:=by
 unfold oO
 rw [List.getElem?_eq_getElem hx,hq]
 constructor
 ·rintro ⟨_,h⟩; exact Option.some.inj h
 ·rintro rfl; exact ⟨h0,rfl⟩
end
def yR (p:bY) (B:Int->Prop) (k:Nat) (y:Int):Prop:=B y\/∃ (i:Nat) (h:i<p.lines.l.length),i<k/\y∈(p.lines.l[i]).elems.l/\∃ x∈(p.lines.l[i]).elems.l,B x
section
variable {p:bY} {B:Int->Prop} {k j:Nat} {l l2:List Bool} {x:lq} {e:Int} {b c:Bool}
def aac (h:∀ y,oO l y↔B y):∀ y,oO l y↔yR p B 0 y:=by
 intro y; rw [h y]; unfold yR
 constructor
 ·exact .inl
 ·rintro (h | ⟨i,_,hi,_⟩)
  ·exact h
  ·omega
def yq (l:List Bool) (E:List Int) (j:Nat) (b:Bool):Prop:=b=true↔∃ x∈E.take j,oO l x
def Ze {E:List Int}:yq l E 0 false:=by unfold yq; simp
def XE {E:List Int} (h:yq l E j b) (hb:b=true) {hj:j<E.length} (hq:E[j]=e):yq l E (j+1) true:=by
 refine ⟨λ_=>?_,λ_=>rfl⟩
 obtain ⟨x,hx,h2⟩:=h.mp hb
 exact ⟨x,(nN hq).mpr (.inl hx),h2⟩
def Yq {E:List Int} (h:yq l E j b) (hb:b=false) {hj:j<E.length} (hq:E[j]=e) (h0:0<=e) {hx:e.toNat<l.length} (hc:l[e.toNat]=c) {d:Bool} (hd:c=d):yq l E (j+1) d:=by
 subst hd
 have h2:=FA h0 hc
 constructor
 ·intro h3; exact ⟨e,(nN hq).mpr (.inr rfl),h2.mpr h3⟩
 ·rintro ⟨x,hx,h3⟩
  rcases (nN hq).mp hx with h4 | rfl
  ·have:=h.mpr ⟨x,h4,h3⟩; rw [hb] at this; cases this
  ·exact h2.mp h3
def zc (p:bY) (B:Int->Prop) (k:Nat) (E:List Int) (j:Nat) (b:Bool) (y:Int):Prop:=yR p B k y\/(b=true/\y∈E.take j)
def V1 {E:List Int} (h:∀ y,oO l y↔yR p B k y):∀ y,oO l y↔zc p B k E 0 b y:=by
 intro y; rw [h y]; unfold zc; simp
def Ys {E:List Int} (h:∀ y,oO l y↔zc p B k E j b y) {hj:j<E.length} (hq:E[j]=e) (h0:0<=e) (hx:e.toNat<l.length) (hc:l[e.toNat]=c) (hm:c=true\/b=true) {d:Bool} (hd:d=true):∀ y,oO (l.set e.toNat d) y↔zc p B k E (j+1) b y:=by
 subst hd
 intro y
 rw [FI h0 hx,h y]
 unfold zc
 rw [nN hq]
 constructor
 ·rintro ((h1 | h1) | rfl)
  ·exact .inl h1
  ·exact .inr ⟨h1.1,.inl h1.2⟩
  ·rcases hm with h1 | h1
   ·have h2:=(h y).mp ((FA h0 hc).mpr h1)
    rcases h2 with h2 | h2
    ·exact .inl h2
    ·exact .inr ⟨h2.1,.inl h2.2⟩
   ·exact .inr ⟨h1,.inr rfl⟩
 ·rintro (h1 | ⟨h1,h2 | h2⟩)
  ·exact .inl (.inl h1)
  ·exact .inl (.inr ⟨h1,h2⟩)
  ·exact .inr h2
def Vt {E:List Int} (h:∀ y,oO l y↔zc p B k E j b y) (hx:e.toNat<l.length) (hc:l[e.toNat]=c) (hm:c=false) (hb:b=false) {d:Bool} (hd:d=false):∀ y,oO (l.set e.toNat d) y↔zc p B k E (j+1) b y:=by
 subst hd hm
 intro y
 rw [LY hx hc,h y]
 unfold zc
 simp [hb]
def R8 {m:Nat} (hp:zX p) (h:∀ y,oO l2 y↔zc p B k x.elems.l j b y) (hm:yq l x.elems.l m b) (he:x.elems.l.length<=m) (h0:∀ y,oO l y↔yR p B k y) {hk:k<p.lines.l.length} (hq:p.lines.l[k]=x) (hj:x.elems.l.length<=j):∀ y,oO l2 y↔yR p B (k+1) y:=by
 have hb:b=true↔∃ z∈x.elems.l,B z:=by
  unfold yq at hm
  rw [hm,List.take_of_length_le he]
  constructor
  ·rintro ⟨z,hz,h1⟩
   rcases (h0 z).mp h1 with h2 | ⟨i,hi,hik,h2,_⟩
   ·exact ⟨z,hz,h2⟩
   ·exact absurd (by rw [hq]; exact hz) (hp.2 i k hk hik z h2)
  ·rintro ⟨z,hz,h1⟩; exact ⟨z,hz,(h0 z).mpr (.inl h1)⟩
 intro y
 rw [h y]
 unfold zc yR
 rw [List.take_of_length_le hj,hb]
 constructor
 ·rintro ((h1 | ⟨i,hi,hik,h1⟩) | ⟨h1,h2⟩)
  ·exact .inl h1
  ·exact .inr ⟨i,hi,by omega,h1⟩
  ·exact .inr ⟨k,hk,by omega,by rw [hq]; exact h2,by rw [hq]; exact h1⟩
 ·rintro (h1 | ⟨i,hi,hik,h1,h2⟩)
  ·exact .inl (.inl h1)
  ·rcases Nat.lt_succ_iff_lt_or_eq.mp hik with h3 | h3
   ·exact .inl (.inr ⟨i,hi,h3,h1,h2⟩)
   ·subst h3; rw [hq] at h1 h2; exact .inr ⟨h2,h1⟩
end
def zn (l:List Bool) (Q:Int->Prop) (k:Nat) (o:List Int):Prop:=xe o/\(∀ y∈o,y<k)/\∀ y,y∈o↔y<k/\oO l y/\Q y
section
variable {l:List Bool} {Q:Int->Prop} {k:Nat} {o:List Int} {b:Bool}
def UO:zn l Q 0 []:=⟨List.Pairwise.nil,by simp,λy=>⟨by simp,λ⟨h1,h2,_⟩=>by have:=h2.1; omega⟩⟩
def XO (h:zn l Q k o) {hk:k<l.length} (hq:l[k]=b) (hb:b=true) (hQ:Q (k:Int)):zn l Q (k+1) (o++[(k:Int)]):=by
 subst hb
 refine ⟨List.pairwise_append.mpr ⟨h.1,by simp,λa ha c hc=>by simp at hc; subst hc; exact h.2.1 a ha⟩,λy hy=>?_,λy=>?_⟩
 ·rcases List.mem_append.mp hy with h1 | h1
  ·have:=h.2.1 y h1; omega
  ·simp at h1; omega
 ·rw [List.mem_append,h.2.2 y]
  simp only [List.mem_singleton]
  constructor
  ·rintro (⟨h1,h2⟩ | rfl)
   ·exact ⟨by omega,h2⟩
   ·exact ⟨by omega,⟨by omega,by simp [List.getElem?_eq_getElem hk,hq]⟩,hQ⟩
  ·rintro ⟨h1,h2⟩
   by_cases h3:y<k
   ·exact .inl ⟨h3,h2⟩
   ·exact .inr (by omega)
def Kp (h:zn l Q k o) (hn:∀ (h:k<l.length),l[k]=true->¬ Q (k:Int)):zn l Q (k+1) o:=by
 refine ⟨h.1,λy hy=>by have:=h.2.1 y hy; omega,λy=>?_⟩
 rw [h.2.2 y]
 constructor
 ·rintro ⟨h1,h2⟩; exact ⟨by omega,h2⟩
 ·rintro ⟨h1,h2,h3⟩
  refine ⟨?_,h2,h3⟩
  by_cases h4:y<k
  ·exact h4
  ·exfalso
   have:y=(k:Int):=by omega
   subst this
   obtain ⟨_,h5⟩:=h2
   rw [Int.toNat_natCast] at h5
   obtain ⟨h6,h7⟩:=List.getElem?_eq_some_iff.mp h5
   exact hn h6 h7 h3
def RR (h:zn l Q k o) (hk:l.length<=k):xe o/\∀ y,y∈o↔oO l y/\Q y:=by
 refine ⟨h.1,λy=>?_⟩
 rw [h.2.2 y]
 constructor
 ·exact λh=>h.2
 ·rintro ⟨h1,h2⟩
  refine ⟨?_,h1,h2⟩
  obtain ⟨h3,h4⟩:=h1
  obtain ⟨h5,_⟩:=List.getElem?_eq_some_iff.mp h4
  omega
end
def Be (p:bY) (d:dO) (run leg:Int):Int:=if lR p (oe p d run (leg+1))=4 then -1 else oe p d run (leg+1)
def RM {A:Int->Prop} {ln:List (Int×Int×Int)} {ll:List lq} {L:List kq} {R:List Int} {k:Nat} (h:∀ y,A y↔nI ln ll L R k y) (hk:R.length<=k):∀ y,A y↔nI ln ll L R R.length y:=by
 intro y; rw [h y]; unfold nI
 rw [List.take_of_length_le hk,List.take_of_length_le (Nat.le_refl _)]
def vc (p:bY) (L:List kq) (d:dO) (run leg:Int) (y:Int):Prop:=nI [] [] L (mY p L d run leg) (mY p L d run leg).length y
def RX {A:Int->Prop} {p:bY} {L:List kq} {d:dO} {run leg:Int} {R:List Int} {k:Nat} (h:∀ y,A y↔nI [] [] L R k y) (hk:R.length<=k) (hR:R=mY p L d run leg):∀ y,A y↔vc p L d run leg y:=by
 subst hR; exact RM h hk
def Hb {α:Type} {P : α->Bool}:∀ (l:List α) (i:Nat),∀ x∈qW P i l,(i:Int)<=x/\x<((i+l.length:Nat):Int)
 | [],_,x,h=>by simp [qW] at h
 | a::l,i,x,h=>by
   have h2:=Hb (P:=P) l (i+1) x
   simp only [qW] at h
   simp only [List.length_cons]
   split at h
   ·rcases List.mem_cons.mp h with rfl | h
    ·omega
    ·have:=h2 h; omega
   ·have:=h2 h; omega
def JX {p:bY} {L:List kq} {d:dO} {run leg:Int}:∀ x∈mY p L d run leg,0<=x/\x<(L.length:Int):=by
 intro x hx
 unfold mY at hx
 split at hx
 ·cases hx
 ·have:=Hb _ _ x hx; omega
def sE (p:bY) (L:List kq) (d:dO) (run leg:Int) (w:List Int×Int):Prop:=xe w.1/\(∀ y,y∈w.1↔yR p (vc p L d run leg) p.lines.l.length y/\y≠oe p d run leg/\lR p y≠4)/\w.2=Be p d run leg
theorem sE.uu {p:bY} {L:List kq} {d:dO} {run leg:Int} {w v:List Int×Int} (h1:sE p L d run leg w) (h2:sE p L d run leg v):w=v:=Prod.ext (h1.1.ext h2.1 λx=>by rw [h1.2.1 x,h2.2.1 x]) (h1.2.2.trans h2.2.2.symm)
def Rv {p:bY} {L:List kq} {d:dO} {run leg:Int} {arr:List Bool} {o r:List Int} {m k:Nat} {e:Int} (hA:∀ y,oO arr y↔yR p (vc p L d run leg) m y) (hm:p.lines.l.length<=m) (hm2:m<=p.lines.l.length) (ht:zn arr (λy=>y≠oe p d run leg/\lR p y≠4) k o) (hk:arr.length<=k) (hr:r=o) (he:e=Be p d run leg):sE p L d run leg (r,e):=by
 subst hr
 have hm3:m=p.lines.l.length:=by omega
 subst hm3
 obtain ⟨h1,h2⟩:=RR ht hk
 exact ⟨h1,λy=>by rw [h2 y,hA y],he⟩
def XU {p:bY} {d:dO} {run leg s k:Int} (hs:s=oe p d run (leg+1)) (hk:k=lR p s) (h:k≠4):s=Be p d run leg:=by
 subst hk hs; rw [Be,if_neg h]
def Wt {p:bY} {d:dO} {run leg s k:Int} (hs:s=oe p d run (leg+1)) (hk:k=lR p s) (h:¬ k≠4) : -1=Be p d run leg:=by
 subst hk hs; rw [Be,if_pos (by omega)]
def Dd {ln:List (Int×Int×Int)} {p:bY} {x y:Int} (h:wH ln p):rv ln p.canon.lines.l x y↔y=x\/∃ (i:Nat) (hi:i<p.lines.l.length),x∈(p.lines.l[i]).elems.l/\y∈(p.lines.l[i]).elems.l:=by
 unfold rv
 constructor
 ·rintro (h1 | ⟨l,hl,q,h1,h2⟩)
  ·exact .inl h1
  ·obtain ⟨i,hi,h3,h4⟩:=h.1 x _ h1
   have:l=i:=by simp at h3; omega
   subst this
   refine .inr ⟨l,hi,h4,?_⟩
   simp only [qu,List.getElem_map] at h2
   exact h2
 ·rintro (h1 | ⟨i,hi,h1,h2⟩)
  ·exact .inl h1
  ·obtain ⟨q,hq⟩:=h.2 i hi x h1
   refine .inr ⟨i,by rw [qu,List.length_map]; exact hi,q,hq,?_⟩
   simp only [qu,List.getElem_map]
   exact h2
theorem KO {ln:List (Int×Int×Int)} {ll:List lq} {L:List kq} {R:List Int} {k:Nat} {y:Int}:nI ln ll L R k y↔∃ x,nI [] [] L R k x/\rv ln ll x y:=by
 unfold nI Tg
 constructor
 ·rintro ⟨i,hi,rd,hr,⟨s,hs,h⟩ | ⟨z,hz,h⟩⟩
  ·exact ⟨s.elem,⟨i,hi,rd,hr,.inl ⟨s,hs,.inl rfl⟩⟩,h⟩
  ·exact ⟨z,⟨i,hi,rd,hr,.inr ⟨z,hz,.inl rfl⟩⟩,h⟩
 ·rintro ⟨x,⟨i,hi,rd,hr,⟨s,hs,h1⟩ | ⟨z,hz,h1⟩⟩,h⟩
  ·rw [Bl] at h1; subst h1; exact ⟨i,hi,rd,hr,.inl ⟨s,hs,h⟩⟩
  ·rw [Bl] at h1; subst h1; exact ⟨i,hi,rd,hr,.inr ⟨x,hz,h⟩⟩
theorem Xa {ln:List (Int×Int×Int)} {p:bY} {L:List kq} {d:dO} {run leg:Int} (h:wH ln p) (y:Int):nI ln p.canon.lines.l L (mY p L d run leg) (mY p L d run leg).length y↔yR p (vc p L d run leg) p.lines.l.length y:=by
 rw [KO]
 unfold yR
 constructor
 ·rintro ⟨x,h1,h2⟩
  rcases (Dd h).mp h2 with rfl | ⟨i,hi,h3,h4⟩
  ·exact .inl h1
  ·exact .inr ⟨i,hi,hi,h4,x,h3,h1⟩
 ·rintro (h1 | ⟨i,hi,_,h4,x,h3,h1⟩)
  ·exact ⟨y,h1,.inl rfl⟩
  ·exact ⟨x,h1,(Dd h).mpr (.inr ⟨i,hi,h3,h4⟩)⟩
def Nu {n:kb} {ll:List lq} {L:List kq} {d:dO} {run leg:Int} {r:List Int} {e s:Int} (hN:rB n) (hll:ll=n.p.canon.lines.l) (ha:xe r) (hy:∃ R,R=mY n.p L d run leg/\∀ y,y∈r↔nI n.line ll L R R.length y/\y≠oe n.p d run leg/\lR n.p y≠4) (hs:s=oe n.p d run (leg+1)) (he:e=if lR n.p s=4 then -1 else s):sE n.p L d run leg (r,e):=by
 subst hll hs
 obtain ⟨R,rfl,hy⟩:=hy
 exact ⟨ha,λy=>by rw [hy y,Xa hN.Si],he⟩
def xl (p:bY) (d:dO) (run:Int):List Int:=if lR p (oe p d run 0)=0\/lR p (oe p d run 0)=4 then [] else [oe p d run 0]
def WL (p:bY) (L:List kq) (d:dO) (run:Int) (l:List lL) (k:Nat):Prop:=l.length=k/\∀ (i:Nat) (h:i<l.length),sE p L d run (i:Int) ((l[i]).free.l,(l[i]).end_)
def rP (p:bY) (L:List kq) (d:dO) (run:Int) (c:kn):Prop:=c.at_.l=xl p d run/\∃ x,d.runs.l[run.toNat]?=some x/\WL p L d run c.kr.l x.kr.l.length
section
variable {p:bY} {L:List kq} {d:dO} {run:Int} {l:List lL} {k:Nat} {w:lL} {n:Int} {c c2:kn} {x:kS}
def WL.zero:WL p L d run [] 0:=⟨rfl,λi h=>by simp at h⟩
def WL.snoc (h:WL p L d run l k) (hw:sE p L d run (k:Int) (w.free.l,w.end_)):WL p L d run (l++[w]) (k+1):=by
 refine ⟨by simp [h.1],λi hi=>?_⟩
 by_cases hik:i<l.length
 ·rw [List.getElem_append_left hik]; exact h.2 i hik
 ·have:i=l.length:=by simp at hi; omega
  subst this
  rw [List.getElem_append_right (Nat.le_refl _)]
  simp only [Nat.sub_self,List.getElem_cons_zero]
  rw [h.1]; exact hw
def WL.P4 (h:WL p L d run l n.toNat) (h0:0<=n) (hw:sE p L d run n (w.free.l,w.end_)):WL p L d run (l++[w]) (n+1).toNat:=by
 have e:(n+1).toNat=n.toNat+1:=by omega
 rw [e]
 refine h.snoc ?_
 rwa [Int.toNat_of_nonneg h0]
theorem rP.abs (h1:rP p L d run c) (h2:rP p L d run c2):c.at_.l=c2.at_.l/\c.kr.l.map (λw=>(w.free.l,w.end_))=c2.kr.l.map (λw=>(w.free.l,w.end_)):=by
 obtain ⟨ha,x,hx,hl,hw⟩:=h1
 obtain ⟨hb,y,hy,hm,hv⟩:=h2
 rw [hx] at hy; cases hy
 refine ⟨ha.trans hb.symm,List.ext_getElem (by simp [hl,hm]) λi h3 h4=>?_⟩
 simp only [List.getElem_map]
 exact (hw i (by simpa using h3)).uu (hv i (by simpa using h4))
def Dr {a:List Int} (h:WL p L d run l k) (h0:0<=run) {hx:run.toNat<d.runs.l.length} (hq:d.runs.l[run.toNat]=x) (hk:x.kr.l.length<=k) (hk2:k<=x.kr.l.length) (ha:c.at_.l=a) (ha2:a=xl p d run) (hc:c.kr.l=l):rP p L d run c:=by
 have:k=x.kr.l.length:=by omega
 subst this
 exact ⟨ha.trans ha2,x,by rw [List.getElem?_eq_getElem hx,hq],by rw [hc]; exact h⟩
def WN {s q:Int} (hs:s=oe p d run 0) (hq:q=lR p s) (h1:q≠0) (h2:q≠4) : [s]=xl p d run:=by
 subst hs hq; unfold xl; rw [if_neg (by omega)]
def Vw {s q:Int} (hs:s=oe p d run 0) (hq:q=lR p s) (h:¬ q≠0\/¬ q≠4) : []=xl p d run:=by
 subst hs hq; unfold xl; rw [if_pos (by omega)]
def VO {s q:Int} (hs:s=oe p d run 0) (hq:q=if lR p s=4 then -1 else s) (hv:0<=oe p d run 0->lR p (oe p d run 0)≠0) (h:q>=0) : [q]=xl p d run:=by
 subst hs
 split at hq
 ·omega
 ·subst hq; unfold xl
  have:=hv h
  rw [if_neg (by omega)]
def Uk {s q:Int} (hs:s=oe p d run 0) (hq:q=if lR p s=4 then -1 else s) (h:¬ q>=0) : []=xl p d run:=by
 subst hs
 unfold xl
 split at hq
 ·rw [if_pos (by omega)]
 ·subst hq
  rw [if_pos (.inl (s8 (by omega)))]
end
def QC {p:bY} {d:dO} {run leg s:Int} (h:leg=0) (hs:s=uO (sk p.signals.l) d run leg):s=oe p d run 0:=by subst h; exact hs
def Rl {d:dO} {run leg:Int} (h:AE d run leg) (h0:0<=run/\run<(d.runs.l.length:Int)) (hl:leg=0):False:=by
 rcases h with h | h | h | ⟨h1,h2⟩<;>omega
def OJ {p:bY} {L:List kq} {d:dO} {run:Int} {l:List lL} {k:Nat} {c:kn} {a:List Int} {R:Row lD} (h:WL p L d run l k) (h0:0<=run/\run<(d.runs.l.length:Int)) (hr:∀ h:run.toNat<d.runs.l.length,R=(d.runs.l[run.toNat]).kr) (hk:R.l.length<=k) (hk2:k<=R.l.length) (ha:c.at_.l=a) (ha2:a=xl p d run) (hc:c.kr.l=l):rP p L d run c:=by
 have hx:run.toNat<d.runs.l.length:=by omega
 have:=hr hx
 subst this
 exact Dr h h0.1 (hx:=hx) rfl hk hk2 ha ha2 hc
def so (d:dO) (run:Int):Nat:=match d.runs.l[run.toNat]? with
 | some x=>x.kr.l.length
 | none=>0
theorem CL {d:dO} {run:Int} {x:kS} {h:run.toNat<d.runs.l.length} (hq:d.runs.l[run.toNat]=x):so d run=x.kr.l.length:=by
 rw [so,List.getElem?_eq_getElem h,hq]
def ph (r:kq):Int×Int×Int×Bool×List kL×List Int:=(r.from_,r.to,r.end_,r.bare,r.steps.l,r.mf.l)
def nS (r:kS):Int×Int×List lD:=(r.ko,r.from_,r.kr.l)
def zQ {α β:Type} {f : α->β} {l:List α} {k:Nat} {x y : α} {z:List β} (h:l.map f=z) {hk:k<l.length} (hq:l[k]=x) (hf:f y=f x):(l.set k y).map f=z:=by
 rw [List.map_set,<- h,hf,<- hq]
 refine List.ext_getElem? λi=>?_
 rw [List.getElem?_set]
 split
 ·rename_i h1
  subst h1
  simp [hk]
 ·rfl
def Tc {x y:kq} (h1:y.steps.l=x.steps.l) (h2:y.mf.l=x.mf.l) (hf:y.from_=x.from_:=by rfl) (ht:y.to=x.to:=by rfl) (he:y.end_=x.end_:=by rfl) (hb:y.bare=x.bare:=by rfl):ph y=ph x:=by
 unfold ph; rw [h1,h2,hf,ht,he,hb]
def RW {x y:kS} (h1:y.kr.l=x.kr.l) (hf:y.from_=x.from_:=by rfl) (hs:y.ko=x.ko:=by rfl):nS y=nS x:=by
 unfold nS; rw [h1,hf,hs]
def mN (p:bY) (L:List kq) (d:dO) (l:List kn) (k:Nat):Prop:=l.length=k/\∀ (i:Nat) (h:i<l.length),rP p L d (i:Int) l[i]
def mN.zero {p:bY} {L:List kq} {d:dO}:mN p L d [] 0:=⟨rfl,λi h=>by simp at h⟩
def mN.snoc {p:bY} {L:List kq} {d:dO} {l:List kn} {k:Nat} {c:kn} (h:mN p L d l k) (hc:rP p L d (k:Int) c):mN p L d (l++[c]) (k+1):=by
 refine ⟨by simp [h.1],λi hi=>?_⟩
 by_cases hik:i<l.length
 ·rw [List.getElem_append_left hik]; exact h.2 i hik
 ·have:i=l.length:=by simp at hi; omega
  subst this
  rw [List.getElem_append_right (Nat.le_refl _)]
  simp only [Nat.sub_self,List.getElem_cons_zero]
  rw [h.1]; exact hc
def mN.end_ {p:bY} {L:List kq} {d:dO} {l r:List kn} {k n:Nat} (h:mN p L d l k) (hr:r=l) (h1:n<=k) (h2:k<=n):mN p L d r n:=by
 subst hr
 have:k=n:=by omega
 subst this; exact h
end Go.Sx
namespace Go.Sx
open Go
def nD (s:Int) (S:Int->Prop):Prop:=∃ b:BitVec 64,s=(b.toNat:Int)/\∀ i:Nat,i<64->(b.getLsbD i=true↔S (i:Int))
def nD.congr {s:Int} {S T:Int->Prop} (h:nD s S) (e:∀ i:Int,0<=i->(S i↔T i)):nD s T:=by
 obtain ⟨b,h1,h2⟩:=h
 exact ⟨b,h1,λi hi=>(h2 i hi).trans (e i (by omega))⟩
def Gh {S:Int->Prop} (h:∀ i:Int,0<=i->¬ S i):nD 0 S:=⟨0#64,by simp,λi hi=>by simp [h i (by omega)]⟩
theorem Bt (b:BitVec 64):IntKind.u64.wrap (b.toNat:Int)=(b.toNat:Int):=by
 have:=b.isLt
 show (if (false&&decide ((b.toNat:Int) % (2 ^ 64:Int)>=(2 ^ 63:Int)))=true then (b.toNat:Int) % (2 ^ 64:Int) - (2 ^ 64:Int) else (b.toNat:Int) % (2 ^ 64:Int))=(b.toNat:Int)
 simp only [Bool.false_and,Bool.false_eq_true,if_false]
 omega
theorem wh (b:BitVec 64):BitVec.ofInt 64 (b.toNat:Int)=b:=by
 simp [BitVec.ofInt_natCast]
def C0 {a b z:Int} {S T:Int->Prop} (h:mw .or .u64 a b=some (.int .u64 z)) (ha:nD a S) (hb:nD b T):nD z (λi=>S i\/T i):=by
 obtain ⟨x,rfl,hx⟩:=ha
 obtain ⟨y,rfl,hy⟩:=hb
 have hz:z=((x ||| y).toNat:Int):=by
  simp only [mw,NI,vj,IntKind.bits] at h
  rw [wh,wh,Bt] at h
  injection h with h; injection h with _ h; exact h.symm
 exact ⟨x ||| y,hz,λi hi=>by rw [BitVec.getLsbD_or,Bool.or_eq_true,hx i hi,hy i hi]⟩
theorem Nb {a b z:Int} {S T:Int->Prop} (h:mw .and .u64 a b=some (.int .u64 z)) (ha:nD a S) (hb:nD b T):nD z (λi=>S i/\T i):=by
 obtain ⟨x,rfl,hx⟩:=ha
 obtain ⟨y,rfl,hy⟩:=hb
 have hz:z=((x &&& y).toNat:Int):=by
  simp only [mw,Iw,vj,IntKind.bits] at h
  rw [wh,wh,Bt] at h
  injection h with h; injection h with _ h; exact h.symm
 exact ⟨x &&& y,hz,λi hi=>by rw [BitVec.getLsbD_and,Bool.and_eq_true,hx i hi,hy i hi]⟩
def Mv {x z:Int} (h:mw .shl .u64 1 x=some (.int .u64 z)) (h0:0<=x) (h1:x<40):nD z (λi=>i=x):=by
 obtain ⟨n,rfl⟩:=Int.eq_ofNat_of_zero_le h0
 have hn:n<40:=by omega
 have hz:z=((1#64 <<< n).toNat:Int):=by
  simp only [mw,Kx,if_neg (Int.not_lt.mpr h0),vj,IntKind.bits] at h
  injection h with h; injection h with _ h
  rw [<- h,rO,<- Bt (1#64 <<< n)]
  congr 1
  have:n=0\/n=1\/n=2\/n=3\/n=4\/n=5\/n=6\/n=7\/n=8\/n=9\/n=10\/n=11\/n=12\/n=13\/n=14\/n=15\/n=16\/n=17\/n=18\/n=19\/n=20\/n=21\/n=22\/n=23\/n=24\/n=25\/n=26\/n=27\/n=28\/n=29\/n=30\/n=31\/n=32\/n=33\/n=34\/n=35\/n=36\/n=37\/n=38\/n=39:=by omega
  rcases this with rfl | rfl | rfl | rfl | rfl | rfl | rfl | rfl | rfl | rfl | rfl | rfl | rfl | rfl | rfl | rfl | rfl | rfl | rfl | rfl | rfl | rfl | rfl | rfl | rfl | rfl | rfl | rfl | rfl | rfl | rfl | rfl | rfl | rfl | rfl | rfl | rfl | rfl | rfl | rfl<;>decide
 refine ⟨1#64 <<< n,hz,λi hi=>?_⟩
 rw [BitVec.getLsbD_shiftLeft,BitVec.getLsbD_one]
 simp
 omega
theorem K4 {z:Int} {S:Int->Prop} (h:nD z S):z=0↔∀ i:Int,0<=i->i<64->¬ S i:=by
 obtain ⟨b,rfl,hb⟩:=h
 constructor
 ·intro h0 i hi h64 hs
  obtain ⟨n,rfl⟩:=Int.eq_ofNat_of_zero_le hi
  have:=(hb n (by omega)).mpr hs
  have hz:b=0#64:=BitVec.eq_of_toNat_eq (by simpa using h0)
  rw [hz] at this; simp at this
 ·intro h0
  have hz:b=0#64:=by
   refine BitVec.eq_of_getLsbD_eq λi hi=>?_
   have h1:=h0 i (by omega) (by omega)
   have h2:=hb i hi
   cases hbi:b.getLsbD i with
   | false=>simp
   | true=>exact absurd (h2.mp hbi) h1
  rw [hz]; rfl
def vU (l:List Int):Int->Prop:=λi=>i∈l/\i<40
def IN {l:List Int} {k:Nat} {x s z w:Int} {hk:k<l.length} (hq:l[k]=x) (h:nD s (vU (l.take k))) (h1:mw .shl .u64 1 x=some (.int .u64 z)) (h2:mw .or .u64 s z=some (.int .u64 w)) (h0:0<=x) (h4:x<40):nD w (vU (l.take (k+1))):=by
 refine (C0 h2 h (Mv h1 h0 h4)).congr λi hi=>?_
 unfold vU
 rw [nN hq]
 constructor
 ·rintro (⟨h5,h6⟩ | rfl)
  ·exact ⟨.inl h5,h6⟩
  ·exact ⟨.inr rfl,h4⟩
 ·rintro ⟨h5 | rfl,h6⟩
  ·exact .inl ⟨h5,h6⟩
  ·exact .inr rfl
def Mf {l:List Int} {k:Nat} {x s:Int} {hk:k<l.length} (hq:l[k]=x) (h:nD s (vU (l.take k))) (h0:¬ x>=0\/¬ x<40):nD s (vU (l.take (k+1))):=by
 refine h.congr λi hi=>?_
 unfold vU
 rw [nN hq]
 constructor
 ·rintro ⟨h5,h6⟩; exact ⟨.inl h5,h6⟩
 ·rintro ⟨h5 | rfl,h6⟩
  ·exact ⟨h5,h6⟩
  ·rcases h0 with h0 | h0<;>omega
def JC {l:List Int} {k:Nat} {s:Int} (h:nD s (vU (l.take k))) (hk:l.length<=k):nD s (vU l):=by
 rwa [List.take_of_length_le hk] at h
def zY (l:List kn) (k:Int) (m:Nat):Int->Prop:=λi=>∃ (j:Nat) (h:j<l.length),j<m/\¬ (j:Int)=k/\vU (l[j]).at_.l i
def R3 {l:List kn} {k s t z:Int} {m:Nat} {x:kn} {hm:m<l.length} (hq:l[m]=x) (h:nD s (zY l k m)) (hx:nD t (vU x.at_.l)) (ho:mw .or .u64 s t=some (.int .u64 z)) (hn:(m:Int)≠k):nD z (zY l k (m+1)):=by
 refine (C0 ho h hx).congr λi hi=>?_
 constructor
 ·rintro (⟨j,h1,h2,h3⟩ | h1)
  ·exact ⟨j,h1,by omega,h3⟩
  ·exact ⟨m,hm,by omega,hn,by rw [hq]; exact h1⟩
 ·rintro ⟨j,h1,h2,h3,h4⟩
  rcases Nat.lt_succ_iff_lt_or_eq.mp h2 with h5 | h5
  ·exact .inl ⟨j,h1,h5,h3,h4⟩
  ·subst h5; rw [hq] at h4; exact .inr h4
def Tq {l:List kn} {k s:Int} {m:Nat} (h:nD s (zY l k m)) (hn:¬ (m:Int)≠k):nD s (zY l k (m+1)):=by
 refine h.congr λi hi=>?_
 constructor
 ·rintro ⟨j,h1,h2,h3⟩; exact ⟨j,h1,by omega,h3⟩
 ·rintro ⟨j,h1,h2,h3,h4⟩
  exact ⟨j,h1,by omega,h3,h4⟩
def xf (l:List lL):Int->Prop:=λi=>∃ w∈l,vU w.free.l i
def MH {l:List lL} {s t z:Int} {m:Nat} {x:lL} {hm:m<l.length} (hq:l[m]=x) (h:nD s (xf (l.take m))) (hx:nD t (vU x.free.l)) (ho:mw .or .u64 s t=some (.int .u64 z)):nD z (xf (l.take (m+1))):=by
 refine (C0 ho h hx).congr λi hi=>?_
 unfold xf
 constructor
 ·rintro (⟨w,h1,h2⟩ | h1)
  ·exact ⟨w,(nN hq).mpr (.inl h1),h2⟩
  ·exact ⟨x,(nN hq).mpr (.inr rfl),h1⟩
 ·rintro ⟨w,h1,h2⟩
  rcases (nN hq).mp h1 with h3 | rfl
  ·exact .inl ⟨w,h3,h2⟩
  ·exact .inr h2
def Ra {l:List lL} {k:Nat} {s:Int} (h:nD s (xf (l.take k))) (hk:l.length<=k):nD s (xf l):=by
 rwa [List.take_of_length_le hk] at h
abbrev CX:=List Int×List (List Int)
def mX (c:kn):CX:=(c.at_.l,c.kr.l.map λw=>w.free.l)
def tS (c:List CX) (k:Nat):Prop:=∀ (i:Nat) (h:i<c.length),i≠k->∀ e∈(c[i]).1,∀ x,c[k]?=some x->∀ w∈x.2,e∉w
def zI (c:List CX) (home:List Bool) (k:Nat):Prop:=home[k]?=some false/\tS c k/\∀ j,j<k->¬ (home[j]?=some false/\tS c j)
theorem zI.uu {c:List CX} {home:List Bool} {k j:Nat} (h1:zI c home k) (h2:zI c home j):k=j:=by
 rcases Nat.lt_trichotomy k j with h | h | h
 ·exact absurd ⟨h1.1,h1.2.1⟩ (h2.2.2 k h)
 ·exact h
 ·exact absurd ⟨h2.1,h2.2.1⟩ (h1.2.2 j h)
inductive p4 (c0:List CX):Nat->List CX->List Bool->Prop
 | zero:p4 c0 0 c0 (List.replicate c0.length false)
 | succ {m k:Nat} {c:List CX} {home:List Bool} (h:p4 c0 m c home) (n:zI c home k):p4 c0 (m+1) (c.set k ([],[])) (home.set k true)
theorem p4.uu {c0:List CX} {m:Nat} {c:List CX} {home:List Bool} (h:p4 c0 m c home):∀ {c':List CX} {home':List Bool},p4 c0 m c' home'->c=c'/\home=home':=by
 induction h with
 | zero=>intro c' home' h; cases h; exact ⟨rfl,rfl⟩
 | succ h n ih =>
   intro c' home' h'
   cases h' with
   | succ h2 n2 =>
     obtain ⟨rfl,rfl⟩:=ih h2
     obtain rfl:=n.uu n2
     exact ⟨rfl,rfl⟩
def p4.back {c0:List CX} {m:Nat} {c:List CX} {home:List Bool} (h:p4 c0 m c home):∀ j,j<m->∃ c' home' k,p4 c0 j c' home'/\zI c' home' k:=by
 induction h with
 | zero=>intro j hj; omega
 | succ h n ih =>
   intro j hj
   rcases Nat.lt_succ_iff_lt_or_eq.mp hj with h1 | h1
   ·exact ih j h1
   ·subst h1; exact ⟨_,_,_,h,n⟩
def rH (c0:List CX) (b:Bool):Prop:=∃ m c home,p4 c0 m c home/\((b=true/\∀ x∈home,x=true)\/(b=false/\false∈home/\∀ k,¬ zI c home k))
theorem rH.uu {c0:List CX} {a b:Bool} (h1:rH c0 a) (h2:rH c0 b):a=b:=by
 obtain ⟨m,c,home,hr,h1⟩:=h1
 obtain ⟨m',c',home',hr',h2⟩:=h2
 have no:∀ {c:List CX} {home:List Bool} {k:Nat},(∀ x∈home,x=true)->¬ zI c home k:=by
  intro c home k h n
  have:=h false (List.mem_of_getElem? n.1)
  cases this
 rcases Nat.lt_trichotomy m m' with h | h | h
 ·obtain ⟨c2,home2,k,h3,h4⟩:=hr'.back m h
  obtain ⟨rfl,rfl⟩:=hr.uu h3
  rcases h1 with ⟨_,h5⟩ | ⟨_,_,h5⟩
  ·exact (no h5 h4).elim
  ·exact (h5 k h4).elim
 ·subst h
  obtain ⟨rfl,rfl⟩:=hr.uu hr'
  rcases h1 with ⟨rfl,h3⟩ | ⟨rfl,h3,_⟩<;>rcases h2 with ⟨rfl,h4⟩ | ⟨rfl,h4,_⟩
  ·rfl
  ·have:=h3 _ h4; cases this
  ·have:=h4 _ h3; cases this
  ·rfl
 ·obtain ⟨c2,home2,k,h3,h4⟩:=hr.back m' h
  obtain ⟨rfl,rfl⟩:=hr'.uu h3
  rcases h2 with ⟨_,h5⟩ | ⟨_,_,h5⟩
  ·exact (no h5 h4).elim
  ·exact (h5 k h4).elim
theorem p4.len {c0:List CX} {m:Nat} {c:List CX} {home:List Bool} (h:p4 c0 m c home):c.length=c0.length/\home.length=c0.length:=by
 induction h with
 | zero=>simp
 | succ h n ih=>simpa using ih
def yh (l:List kn):Prop:=∀ c∈l,∀ x∈c.at_.l,0<=x/\x<40
def NY {l:List kn} {k:Nat} {x:kn} {a b z:Int} (h40:yh l) {hk:k<l.length} (hq:l[k]=x) (ha:nD a (zY l (k:Int) l.length)) (hb:nD b (xf x.kr.l)) (hz:mw .and .u64 a b=some (.int .u64 z)):z=0↔tS (l.map mX) k:=by
 rw [K4 (Nb hz ha hb)]
 constructor
 ·intro h i hi hik e he y hy w hw hew
  rw [List.getElem?_map,List.getElem?_eq_getElem hk,hq] at hy
  simp only [Option.map_some,Option.some.injEq] at hy
  subst hy
  rw [List.getElem_map] at he
  rw [List.length_map] at hi
  obtain ⟨v,hv,rfl⟩:=List.mem_map.mp hw
  have h4:=h40 _ (List.getElem_mem hi) e he
  exact h e h4.1 (by omega) ⟨⟨i,hi,hi,by omega,he,h4.2⟩,v,hv,hew,h4.2⟩
 ·rintro h i hi h64 ⟨⟨j,hj,_,hjk,hm,h4⟩,w,hw,h5,_⟩
  refine h j (by simpa using hj) (by omega) i (by rw [List.getElem_map]; exact hm) (mX x) (by rw [List.getElem?_map,List.getElem?_eq_getElem hk,hq]; rfl) w.free.l (List.mem_map.mpr ⟨w,hw,rfl⟩) h5
def xH (c:List CX) (home:List Bool) (n:Int):Prop:=∀ j:Nat,(j:Int)<n->¬ (home[j]?=some false/\tS c j)
section
variable {c:List CX} {home:List Bool} {n z a b:Int} {x:Bool} {l:List kn} {y:kn} {c0:List CX} {k m:Nat}
def xH.init (h:∀ (j:Nat) (hj:j<home.length),(j:Int)<n->home[j]=true):xH c home n:=by
 rintro j hj ⟨h1,_⟩
 obtain ⟨h2,h3⟩:=List.getElem?_eq_some_iff.mp h1
 rw [h j h2 hj] at h3; cases h3
def xH.XX (h:xH c home n) (h0:0<=n) {hk:n.toNat<home.length} (hq:home[n.toNat]=x) (hx:x=true):xH c home (n+1):=by
 intro j hj
 by_cases h1:(j:Int)<n
 ·exact h j h1
 ·have:j=n.toNat:=by omega
  subst this
  rintro ⟨h2,_⟩
  rw [List.getElem?_eq_getElem hk,hq,hx] at h2; cases h2
def xH.Xs (h:xH c home n) (h0:0<=n) (hc:¬ tS c n.toNat):xH c home (n+1):=by
 intro j hj
 by_cases h1:(j:Int)<n
 ·exact h j h1
 ·have:j=n.toNat:=by omega
  subst this
  exact λh2=>hc h2.2
def Lu {r:ka kn} (hr:r.l=l) (h40:yh l) (h0:0<=n) {hk:n.toNat<l.length} (hq:l[n.toNat]=y) (ha:nD a (zY r.l n r.l.length)) (hb:nD b (xf y.kr.l)) (hz:mw .and .u64 a b=some (.int .u64 z)):z=0↔tS (l.map mX) n.toNat:=by
 have hn:((n.toNat:Nat):Int)=n:=Int.toNat_of_nonneg h0
 rw [hr,<- hn] at ha
 exact NY h40 hq (by simpa using ha) hb hz
theorem p4.go (h:p4 c0 k (l.map mX) home) (hno:xH (l.map mX) home n) (h0:0<=n) {hk:n.toNat<home.length} (hq:home[n.toNat]=x) (hx:x=false) (hc:tS (l.map mX) n.toNat) (hy:mX y=([],[]):=by rfl):p4 c0 (k+1) ((l.set n.toNat y).map mX) (home.set n.toNat true):=by
 rw [List.map_set,hy]
 refine h.succ ⟨by rw [List.getElem?_eq_getElem hk,hq,hx],hc,λj hj=>hno j (by omega)⟩
theorem yh.set (h:yh l) (hy:y.at_.l=[]:=by rfl):yh (l.set k y):=by
 intro d hd x hx
 rcases List.mem_or_eq_of_mem_set hd with h1 | h1
 ·exact h d h1 x hx
 ·subst h1; rw [hy] at hx; cases hx
def all_true:∀ {home:List Bool},home.length<=home.count true->∀ x∈home,x=true
 | [],_=>by simp
 | a::l,h=>by
   have h2:=List.count_le_length (l:=l) (a:=true)
   cases a with
   | true =>
     intro x hx
     rcases List.mem_cons.mp hx with rfl | hx
     ·rfl
     ·exact all_true (home:=l) (by simpa using h) x hx
   | false=>simp at h; omega
def De:∀ {home:List Bool},home.count true<home.length->false∈home
 | [],h=>by simp at h
 | true::l,h=>by simp at h; exact List.mem_cons_of_mem _ (De h)
 | false::l,_=>by simp
def LI (h:p4 c0 k c home) (hc:home.count true=k) (hk:home.length<=k):rH c0 true:=⟨k,c,home,h,.inl ⟨rfl,all_true (by omega)⟩⟩
def Mi (h:p4 c0 k c home) (hc:home.count true=k) (hk:k<home.length) (hno:xH c home n) (hn:(home.length:Int)<=n):rH c0 false:=by
 refine ⟨k,c,home,h,.inr ⟨rfl,De (by omega),λj hj=>?_⟩⟩
 obtain ⟨h2,_⟩:=List.getElem?_eq_some_iff.mp hj.1
 exact hno j (by omega) ⟨hj.1,hj.2.1⟩
def p4.X8 {r:List kn} {h:List Bool} (hr:l=r) (hh:h=List.replicate r.length false):p4 (r.map mX) 0 (l.map mX) h:=by
 subst hr hh
 have:=p4.zero (c0:=l.map mX)
 rwa [List.length_map] at this
end
def sA (n:Nat) (o:List Int):List Bool:=(List.range n).map λj:Nat=>decide ((j:Int)∈o)
theorem xh {n j:Nat} {o:List Int} (h:j<n):(sA n o)[j]?=some (decide ((j:Int)∈o)):=by
 simp [sA,h]
theorem NQ {n j:Nat} {o:List Int}:sA n (o++[(j:Int)])=(sA n o).set j true:=by
 refine List.ext_getElem? λi=>?_
 by_cases hi:i<n
 ·rw [xh hi,List.getElem?_set]
  by_cases hj:j=i
  ·subst hj; simp [sA,hi]
  ·rw [if_neg hj,xh hi]
   congr 1
   have:¬ (i:Int)=(j:Int):=by omega
   simp [this]
 ·rw [List.getElem?_eq_none (by simp [sA]; omega),List.getElem?_eq_none (by simp [sA]; omega)]
def p4.count {c0:List CX} {m:Nat} {c:List CX} {home:List Bool} (h:p4 c0 m c home):home.count true=m:=by
 induction h with
 | zero=>simp [List.count_replicate]
 | succ h n ih =>
   obtain ⟨h1,h2⟩:=List.getElem?_eq_some_iff.mp n.1
   rw [List.count_set h1,ih,h2]; simp
def rf (l0:List kn) (o0:List Int) (n:Nat) (b:Bool) (l:List kn) (o:List Int) (k:Nat):Prop :=
 (b=false->l=l0/\o=o0/\xH (l0.map mX) (sA n o0) k)/\(b=true->∃ j:Nat,zI (l0.map mX) (sA n o0) j/\l.map mX=(l0.map mX).set j ([],[])/\o=o0++[(j:Int)])
section
variable {l0 l:List kn} {o0 o:List Int} {n k m:Nat} {b:Bool} {c0:List CX}
def rf.zero:rf l0 o0 n false l0 o0 0:=⟨λ_=>⟨rfl,rfl,λj hj=>absurd hj (by omega)⟩,λh=>by cases h⟩
def rf.p9 {s:List Int} (h:rf l0 o0 n b l o k) (hb:b=false) (hs:s=o) (hi:(k:Int)∈s) (hk:k<n):rf l0 o0 n b l o (k+1):=by
 subst hb; replace hb:false=false:=rfl
 obtain ⟨h1,h2,h3⟩:=h.1 hb
 refine ⟨λ_=>⟨h1,h2,λj hj=>?_⟩,λh=>by cases h⟩
 by_cases hjk:j<k
 ·exact h3 j (by omega)
 ·have:j=k:=by omega
  subst this
  rintro ⟨h4,_⟩
  rw [xh hk,<- h2,<- hs] at h4
  simp [hi] at h4
def rf.no {s:ka kn} (h:rf l0 o0 n b l o k) (hb:b=false) (hs:s.l=l) (hc:¬ tS (s.l.map mX) k):rf l0 o0 n b l o (k+1):=by
 subst hb; replace hb:false=false:=rfl
 obtain ⟨h1,h2,h3⟩:=h.1 hb
 refine ⟨λ_=>⟨h1,h2,λj hj=>?_⟩,λh=>by cases h⟩
 by_cases hjk:j<k
 ·exact h3 j (by omega)
 ·have:j=k:=by omega
  subst this
  rintro ⟨_,h4⟩
  rw [hs,h1] at hc; exact hc h4
def rf.yes {t:List Int} {s:ka kn} {y:kn} (h:rf l0 o0 n b l o k) (hb:b=false) (ht:t=o) (hi:(k:Int)∉t) (hs:s.l=l) (hc:tS (s.l.map mX) k) (hk:k<n) (hy:mX y=([],[]):=by rfl):rf l0 o0 n true (l.set k y) (o++[(k:Int)]) (k+1):=by
 obtain ⟨h1,h2,h3⟩:=h.1 hb
 subst h1 h2
 refine ⟨λh=>(by cases h),λ_=>⟨k,⟨by rw [xh hk,<- ht]; simp [hi],by rw [<- hs]; exact hc,λj hj=>h3 j (by omega)⟩,by rw [List.map_set,hy],rfl⟩⟩
theorem rf.len (h:rf l0 o0 n b l o k) (hb:b=true):o.length=o0.length+1:=by
 obtain ⟨j,_,_,h3⟩:=h.2 hb
 rw [h3]; simp
def rf.Zo (h:rf l0 o0 n b l o k) (hb:b=true) (hr:p4 c0 o0.length (l0.map mX) (sA n o0)):p4 c0 o.length (l.map mX) (sA n o):=by
 rw [h.len hb]
 obtain ⟨j,h1,h2,h3⟩:=h.2 hb
 rw [h2,h3,NQ]
 exact hr.succ h1
def rf.stuck (h:rf l0 o0 n b l o k) (hb:b=false) (hr:p4 c0 o0.length (l0.map mX) (sA n o0)) (hn:n<=k) (hm:o0.length<n):rH c0 false:=by
 obtain ⟨h1,h2,h3⟩:=h.1 hb
 have hl:(sA n o0).length=n:=by simp [sA]
 exact Mi hr hr.count (by omega) h3 (by omega)
def Of (hr:p4 c0 o.length (l.map mX) (sA n o)) (hn:n<=o.length):rH c0 true:=by
 have hl:(sA n o).length=n:=by simp [sA]
 exact LI hr hr.count (by omega)
def WZ {r:List kn} (hl:l=r) (hn:n=r.length):p4 (r.map mX) ([]:List Int).length (l.map mX) (sA n []):=by
 subst hl hn
 have h:=p4.zero (c0:=l.map mX)
 have:sA l.length []=List.replicate (l.map mX).length false:=by
  refine List.ext_getElem? λi=>?_
  by_cases hi:i<l.length
  ·rw [xh hi,List.getElem?_replicate]; simp [hi]
  ·rw [List.getElem?_eq_none (by simp [sA]; omega),List.getElem?_eq_none (by simp; omega)]
 rw [this]; exact h
end
def uM (l:List kn) (k:Int) (f:List Int) (m:Nat):Prop:=∀ (i:Nat) (h:i<l.length),i<m->¬ (i:Int)=k->∀ e∈(l[i]).at_.l,e∉f
def Rb {l:List kn} {k:Int} {f:List Int} {i j:Nat} {x:kn} {e:Int} {hi:i<l.length} (hq:l[i]=x) {hj:j<x.at_.l.length} (he:x.at_.l[j]=e) (hn:(i:Int)≠k) (hf:e∈f):¬ uM l k f l.length:=by
 intro h
 exact h i hi hi hn e (by rw [hq,<- he]; exact List.getElem_mem _) hf
def N4 {l:List kn} {k:Int} {f:List Int} {m j:Nat} {x:kn} {hm:m<l.length} (hq:l[m]=x) (h:uM l k f m) (h2:¬ (m:Int)=k->∀ (i:Nat) (hi:i<x.at_.l.length),i<j->x.at_.l[i]∉f) (hj:x.at_.l.length<=j):uM l k f (m+1):=by
 intro i hi him hik e he
 rcases Nat.lt_succ_iff_lt_or_eq.mp him with h1 | h1
 ·exact h i hi h1 hik e he
 ·subst h1
  rw [hq] at he
  obtain ⟨a,ha,rfl⟩:=List.mem_iff_getElem.mp he
  exact h2 hik a ha (by omega)
def R7 {l:List kn} {k:Int} {f:List Int} {m:Nat} (h:uM l k f m) (hm:l.length<=m):uM l k f l.length:=λi hi _=>h i hi (by omega)
def RU {l:List kn} {k:Int} {x:kn} {m:Nat} (h0:0<=k) {hk:k.toNat<l.length} (hq:l[k.toNat]=x) (h:∀ (i:Nat) (hi:i<x.kr.l.length),i<m->uM l k (x.kr.l[i]).free.l l.length) (hm:x.kr.l.length<=m):tS (l.map mX) k.toNat:=by
 intro i hi hik e he y hy w hw hew
 rw [List.getElem?_map,List.getElem?_eq_getElem hk,hq] at hy
 simp only [Option.map_some,Option.some.injEq] at hy
 subst hy
 obtain ⟨v,hv,rfl⟩:=List.mem_map.mp hw
 obtain ⟨a,ha,rfl⟩:=List.mem_iff_getElem.mp hv
 rw [List.length_map] at hi
 rw [List.getElem_map] at he
 exact h a ha (by omega) i hi hi (by omega) e he hew
def TF {l:List kn} {k:Int} {x:kn} {w:lL} {m:Nat} (h0:0<=k) {hk:k.toNat<l.length} (hq:l[k.toNat]=x) {hm:m<x.kr.l.length} (hw:x.kr.l[m]=w) (h:¬ uM l k w.free.l l.length):¬ tS (l.map mX) k.toNat:=by
 intro hc
 refine h λi hi _ hik e he hf=>?_
 refine hc i (by simpa using hi) (by omega) e (by rw [List.getElem_map]; exact he) (mX x) (by rw [List.getElem?_map,List.getElem?_eq_getElem hk,hq]; rfl) w.free.l (List.mem_map.mpr ⟨w,by rw [<- hw]; exact List.getElem_mem _,rfl⟩) hf
def L1 {b:Bool} {p:Prop} (h1:b=true) (h2:b=false):p:=by rw [h1] at h2; cases h2
end Go.Sx
namespace Go.Sx
open Go
def CQ {α β:Type} {f : α->β} {l m:List α} (h:l.map f=m.map f) (i:Nat):(l[i]?).map f=(m[i]?).map f:=by
 rw [<- List.getElem?_map,<- List.getElem?_map,h]
section
variable {d e:dO} {L M:List kq} {p:bY} {run leg:Int}
def run_get (h:d.runs.l.map nS=e.runs.l.map nS) (i:Nat):(d.runs.l[i]?=none/\e.runs.l[i]?=none)\/∃ x y,d.runs.l[i]?=some x/\e.runs.l[i]?=some y/\x.ko=y.ko/\x.from_=y.from_/\x.kr.l=y.kr.l:=by
 have h1:=CQ h i
 cases hx:d.runs.l[i]?<;>cases hy:e.runs.l[i]?<;>simp_all [nS]
theorem yj {B:Int->Int} (h:d.runs.l.map nS=e.runs.l.map nS):uO B d run leg=uO B e run leg:=by
 unfold uO Cy
 rcases run_get h run.toNat with ⟨h1,h2⟩ | ⟨x,y,h1,h2,_,h4,h5⟩<;>rw [h1,h2]
 simp only [h4,h5]
theorem Gn {amb:Bool} {A:Int->Option j7} {N:j7->Option j7} (h:d.runs.l.map nS=e.runs.l.map nS):mT amb A N d run leg=mT amb A N e run leg:=by
 unfold mT vW
 rcases run_get h run.toNat with ⟨h1,h2⟩ | ⟨x,y,h1,h2,_,h4,h5⟩<;>rw [h1,h2]
 simp only [h4,h5]
theorem Cg {amb:Bool} {A:Int->Option j7} {N:j7->Option j7} {K:Int->Int} {R:j7->Int} (h:d.runs.l.map nS=e.runs.l.map nS):oQ amb A N K R d run leg=oQ amb A N K R e run leg:=by
 unfold oQ
 rw [Gn h]
 rcases run_get h run.toNat with ⟨h1,h2⟩ | ⟨x,y,h1,h2,_,h4,h5⟩<;>rw [h1,h2]
 simp only [h5]
theorem Lx {r s:kq} (h:d.runs.l.map nS=e.runs.l.map nS) (hs:d.ko.l=e.ko.l) (hr:ph r=ph s):p3 p d run leg r=p3 p e run leg s:=by
 simp only [ph,Prod.mk.injEq] at hr
 obtain ⟨r1,r2,r3,r4,r5,r6⟩:=hr
 unfold p3 wv yL uU oe
 rw [Cg h,yj h,hs,r1,r2,r3,r4,r5,r6]
 rcases run_get h run.toNat with ⟨h1,h2⟩ | ⟨x,y,h1,h2,h3,h4,h5⟩<;>rw [h1,h2]
 simp only [h3,h5]
theorem Fo (h:d.runs.l.map nS=e.runs.l.map nS) (hs:d.ko.l=e.ko.l):∀ (L M:List kq) (i:Nat),L.map ph=M.map ph->qW (p3 p d run leg) i L=qW (p3 p e run leg) i M
 | [],[],_,_=>rfl
 | [],_::_,_,hL=>by simp at hL
 | _::_,[],_,hL=>by simp at hL
 | r::L,s::M,i,hL=>by
   simp only [List.map_cons,List.cons.injEq] at hL
   simp only [qW,Lx h hs hL.1,Fo h hs L M (i+1) hL.2]
theorem GM (h:d.runs.l.map nS=e.runs.l.map nS) (hs:d.ko.l=e.ko.l) (hL:L.map ph=M.map ph):mY p L d run leg=mY p M e run leg:=by
 unfold mY uU
 rw [Cg h,Fo h hs L M 0 hL]
def Dh {ln:List (Int×Int×Int)} {ll:List lq} {R:List Int} {k:Nat} {y:Int} (hL:L.map ph=M.map ph) (h:nI ln ll L R k y):nI ln ll M R k y:=by
 obtain ⟨i,hi,rd,h1,h2⟩:=h
 have h3:=CQ hL i.toNat
 rw [h1] at h3
 cases h4:M[i.toNat]? with
 | none=>rw [h4] at h3; simp at h3
 | some s =>
   rw [h4] at h3
   simp only [Option.map_some,Option.some.injEq,ph,Prod.mk.injEq] at h3
   obtain ⟨_,_,_,_,h5,h6⟩:=h3
   refine ⟨i,hi,s,h4,?_⟩
   unfold Tg at h2 ⊢
   rwa [h5,h6] at h2
def IE {w:List Int×Int} (h:d.runs.l.map nS=e.runs.l.map nS) (hs:d.ko.l=e.ko.l) (hL:L.map ph=M.map ph) (hw:sE p L d run leg w):sE p M e run leg w:=by
 have hb:vc p L d run leg=vc p M e run leg:=by
  funext y
  unfold vc
  rw [GM h hs hL]
  exact propext ⟨Dh hL,Dh hL.symm⟩
 unfold sE Be oe at hw ⊢
 rw [hb] at hw
 rw [<- yj h,<- yj h]; exact hw
def mN.MV {l:List kn} {k:Nat} (h:d.runs.l.map nS=e.runs.l.map nS) (hs:d.ko.l=e.ko.l) (hL:L.map ph=M.map ph) (hc:mN p L d l k):mN p M e l k:=by
 refine ⟨hc.1,λi hi=>?_⟩
 obtain ⟨h1,x,h2,h3,h4⟩:=hc.2 i hi
 refine ⟨?_,?_⟩
 ·unfold xl oe at h1 ⊢
  rw [<- yj h]; exact h1
 ·rcases run_get h (i:Int).toNat with ⟨h5,_⟩ | ⟨x',y,h5,h6,_,_,h7⟩
  ·rw [h5] at h2; cases h2
  ·rw [h5] at h2; cases h2
   exact ⟨y,h6,by rw [<- h7]; exact h3,λj hj=>IE h hs hL (h4 j hj)⟩
end
def mN.NW {p:bY} {L:List kq} {d:dO} {l:List kn} {k:Nat} (h:mN p L d l k) (h40:p.elems.l.length<=40):yh l:=by
 intro c hc x hx
 obtain ⟨i,hi,rfl⟩:=List.mem_iff_getElem.mp hc
 rw [(h.2 i hi).1] at hx
 unfold xl at hx
 split at hx
 ·cases hx
 ·rename_i h0
  rw [List.mem_singleton] at hx
  subst hx
  have:¬ (oe p d i 0<0\/oe p d i 0>=p.elems.l.length):=λhh=>h0 (.inl (s8 hh))
  omega
theorem mN.abs {p:bY} {L:List kq} {d:dO} {l m:List kn} {k:Nat} (h1:mN p L d l k) (h2:mN p L d m k):l.map mX=m.map mX:=by
 refine List.ext_getElem (by simp [h1.1,h2.1]) λi hi hj=>?_
 rw [List.length_map] at hi hj
 obtain ⟨h3,h4⟩:=rP.abs (h1.2 i hi) (h2.2 i hj)
 simp only [List.getElem_map,mX]
 have h5:=congrArg (List.map Prod.fst) h4
 simp only [List.map_map] at h5
 rw [h3]; exact congrArg _ h5
def Nz {p:bY} {d:dO} (hk:Et p) (hv:∀ s∈p.signals.l,0<=s.at_.elem/\s.at_.elem<(p.elems.l.length:Int)/\0<=s.at_.en) {i:Int}:0<=oe p d i 0->lR p (oe p d i 0)≠0:=by
 intro h0
 have hb:∀ x,0<=sk p.signals.l x->lR p (sk p.signals.l x)≠0:=by
  intro x h1
  unfold sk pe at h1 ⊢
  by_cases hx:x<0
  ·simp [hx] at h1
  ·rw [if_neg hx] at h1 ⊢
   cases hs:p.signals.l[x.toNat]? with
   | none=>rw [hs] at h1; simp at h1
   | some s =>
     obtain ⟨hl,hq⟩:=List.getElem?_eq_some_iff.mp hs
     have h2:=hv s (hq▸List.getElem_mem hl)
     have h3:(s.at_.elem).toNat<p.elems.l.length:=by omega
     have h4:=(hk _ (List.getElem_mem h3)).1.1
     simp only [Option.map_some]
     unfold lR
     rw [if_neg (by omega),List.getElem?_eq_getElem h3]
     simp only; omega
 unfold oe uO Cy at h0 ⊢
 grind
def y4 (p:bY) (L:List kq) (d:dO) (e:Int):Prop:=∃ e0,pO p L d e0/\(e0≠0->e=e0)/\(e0=0->∃ l b,mN p L d l d.runs.l.length/\rH (l.map mX) b/\(b=true->e=0)/\(b=false->e=19))
section
variable {p:bY} {L M:List kq} {d f:dO} {e w:Int} {l m:List kn} {k:Nat} {b:Bool}
def SP (h:pO p L d e) (hr:e≠0):y4 p L d e:=⟨e,h,λ_=>rfl,λh0=>absurd h0 hr⟩
def L2 {q:bY} (h:pO p L d w) (hr:¬ w≠0) (hq:q=p) (h1:f.runs.l.map nS=d.runs.l.map nS) (h2:f.ko.l=d.ko.l) (h3:M.map ph=L.map ph) (hc:mN q M f l k) (hk:k=f.runs.l.length) (hs:rH (l.map mX) b) (he:e=if b=true then 0 else 19):y4 p L d e:=by
 subst hq
 refine ⟨w,h,λh0=>absurd h0 hr,λ_=>⟨l,b,?_,hs,λhb=>by rw [he,hb]; rfl,λhb=>by rw [he,hb]; rfl⟩⟩
 have:k=d.runs.l.length:=by rw [hk]; simpa using congrArg List.length h1
 rw [<- this]; exact hc.MV h1 h2 h3
def TH (h:y4 p L d e) (hc:pO p L d w) (hw:w≠0):e=w:=by
 obtain ⟨e0,h1,h2,_⟩:=h
 have:=h1.uu hc
 subst this; exact h2 hw
def KT (h:y4 p L d e) (hc:pO p L d w) (hw:¬ w≠0) (hl:mN p L d l d.runs.l.length) (hs:rH (l.map mX) b):(b=true->e=0)/\(b=false->e=19):=by
 obtain ⟨e0,h1,_,h2⟩:=h
 have:=h1.uu hc
 subst this
 obtain ⟨m,b',h3,h4,h5,h6⟩:=h2 (by omega)
 rw [h3.abs hl] at h4
 have:=h4.uu hs
 subst this; exact ⟨h5,h6⟩
def TJ (h:y4 p L d 0):pO p L d 0:=by
 obtain ⟨e0,h1,h2,_⟩:=h
 by_cases h0:e0=0
 ·subst h0; exact h1
 ·have:=h2 h0; omega
end
def xc (c:kn):List Int×List (List Int×Int):=(c.at_.l,c.kr.l.map λw=>(w.free.l,w.end_))
theorem mN.xc {p:bY} {L:List kq} {d:dO} {l m:List kn} {k:Nat} (h1:mN p L d l k) (h2:mN p L d m k):l.map xc=m.map xc:=by
 refine List.ext_getElem (by simp [h1.1,h2.1]) λi hi hj=>?_
 rw [List.length_map] at hi hj
 obtain ⟨h3,h4⟩:=rP.abs (h1.2 i hi) (h2.2 i hj)
 simp only [List.getElem_map,Go.Sx.xc]
 rw [h3,h4]
def LC {p:bY} (h:Et p) (e:Int) (hk:lR p e=4):tu p e=0:=by
 unfold lR at hk
 unfold tu
 by_cases h0:e<0
 ·simp [h0]
 ·rw [if_neg h0] at hk ⊢
  cases hs:p.elems.l[e.toNat]? with
  | none=>rfl
  | some x =>
    rw [hs] at hk
    obtain ⟨hl,hq⟩:=List.getElem?_eq_some_iff.mp hs
    exact (h x (hq▸List.getElem_mem hl)).2 hk
def EY {α β:Type} {f : α->β} {l m:List α} {k:Nat} {x y : α} (h:l.map f=m.map f) {hk:k<l.length} (hq:l[k]=x) {hj:k<m.length} (hr:m[k]=y):f x=f y:=by
 have:=CQ h k
 rw [List.getElem?_eq_getElem hk,List.getElem?_eq_getElem hj,hq,hr] at this
 simpa using this
def ON {l m:List lL} {k:Nat} {x y:lL} (h:l.map (λw=>(w.free.l,w.end_))=m.map (λw=>(w.free.l,w.end_))) {hk:k<l.length} (hq:l[k]=x) {hj:k<m.length} (hr:m[k]=y) (hn:x.end_≠y.end_):False:=hn (congrArg Prod.snd (EY h hq hr))
def Og {l m:List lL} {k:Nat} {x y:lL} (h:l.map (λw=>(w.free.l,w.end_))=m.map (λw=>(w.free.l,w.end_))) {hk:k<l.length} (hq:l[k]=x) {hj:k<m.length} (hr:m[k]=y):x.free.l=y.free.l:=congrArg Prod.fst (EY h hq hr)
def FH {l:List Int} {k:Nat} {x c:Int} (h:∀ (i:Nat) (hi:i<l.length),i<k->l[i]=c) (hx:x=c):∀ (i:Nat) (hi:i<(l.set k x).length),i<k+1->(l.set k x)[i]=c:=by
 intro i hi hk
 rw [List.length_set] at hi
 rw [List.getElem_set]
 split
 ·exact hx
 ·exact h i hi (by omega)
def all_eq {a b l:List Int} {n:Nat} {c:Int} (h:a=l) (hl:l.length=n) (h1:∀ x∈l,x=c) (hb:b.length=n) (h2:∀ x∈b,x=c):a=b:=by
 rw [h,List.eq_replicate_iff.mpr ⟨hl,h1⟩,List.eq_replicate_iff.mpr ⟨hb,h2⟩]
def Ub {p:bY} {L:List kq} {d e:dO} {n:Nat} (h:y4 p L d 0) (he:e.runs.l.map nS=d.runs.l.map nS) (hn:n=d.runs.l.length) (h0:∀ i:Nat,i<n->so e i=0):n=0:=by
 by_cases hz:n=0
 ·exact hz
 ·exfalso
  have hi:0<d.runs.l.length:=by omega
  have h1:=h0 0 (by omega)
  have hl:=congrArg List.length he
  simp only [List.length_map] at hl
  obtain ⟨h2,h3⟩ | ⟨_,e0,_,h4⟩:=TJ h
  ·omega
  ·rcases h4 with ⟨h5,h6⟩ | ⟨_,⟨h5,_⟩ | ⟨_,h6⟩⟩
   ·exact h5 h6.symm
   ·omega
   ·refine h6 0 hi ⟨d.runs.l[0],List.getElem?_eq_getElem hi,.inl ?_⟩
    rcases run_get he 0 with ⟨h7,_⟩ | ⟨x,y,h7,h8,_,_,h9⟩
    ·rw [List.getElem?_eq_getElem (by omega)] at h7; cases h7
    ·unfold so at h1
     simp only [Int.ofNat_zero,Int.toNat_zero,Int.natCast_zero] at h1
     have h1':x.kr.l.length=0:=by
      have h10:e.runs.l[((0:Nat):Int).toNat]?=some x:=h7
      revert h1
      simp only [h7]
      exact id
     rw [List.getElem?_eq_getElem hi] at h8
     cases h8
     rw [<- h9]; exact h1'
end Go.Sx
