/- Proves rules for the walks and their soundness. -/
import Derived.Lib.RowBridge
import Derived.Test.YtgoeonlbgdamhaaGreatHaf
set_option linter.all false
set_option maxHeartbeats 0
namespace Go.Sx
open Go
def rT (p:bS) (e:Int):Int:=if e<0 then 0 else match p.elems.l[e.toNat]? with
 | some x=>x.len
 | none=>0
def DH {p:bS} {e:Int} (h:e<0\/e>=p.elems.l.length):rT p e=0:=by
 grind [rT]
def FU {p:bS} {e:Int} {x:j9} (h0:0<=e) (hx:e.toNat<p.elems.l.length) (hq:p.elems.l[e.toNat]=x):rT p e=x.len:=by
 grind [rT]
def JZ {α:Type} {l:List α} {k:Nat} {x y : α} {hk:k<l.length} (h:l[k]=x) (e:x=y):y∈l:=by
 subst e h; exact List.getElem_mem _
def OU {α:Type} {l:List α} {k:Nat} {y : α} (h:∀ (i:Nat) (hi:i<l.length),i<k->¬ l[i]=y) (hk:l.length<=k):y∉l:=by
 intro hy
 obtain ⟨i,hi,e⟩:=List.mem_iff_getElem.mp hy
 exact h i hi (by omega) e
def Ar (p:bS) (s:jW) (e:Int):Bool:=if kr p e=1 then decide (IntKind.i64.wrap (s.len+p.j5)<=rT p e) else decide (kr p e=4)
def BW (l:List j6) (i:Int):Int:=match oE l i with
 | some x=>x.elem
 | none=>-1
def stL (B:Int->Int) (r:lb) (leg:Int):Int:=if leg=0 then B r.from_ else match r.jE.l[(leg - 1).toNat]? with
 | none=>-1
 | some l=>if l.end_=1 then B l.to else if l.end_=3 then l.to else -1
def F4 (B:Int->Int) (d:iI) (run leg:Int):Int:=if run<0 then -1 else match d.runs.l[run.toNat]? with
 | none=>-1
 | some r=>if leg<0\/leg > r.jE.l.length then -1 else stL B r leg
section
variable {B:Int->Int} {d:iI} {run leg:Int} {x:lb} {y:j7}
end
theorem E2 {l:List j6} {N:iu->Option iu} {d:iI} {run leg:Int}:F4 (BW l) d run leg=match lD true (oE l) N d run leg with
 | some h=>h.elem
 | none=>-1:=by
 unfold F4 lD
 by_cases h:run<0
 ·simp [h]
 ·simp only [h,if_false]
  cases d.runs.l[run.toNat]? with
  | none=>rfl
  | some r =>
    simp only
    by_cases h2:leg<0\/leg > r.jE.l.length
    ·simp [h2]
    ·simp only [h2,if_false]
     unfold stL vY BW
     by_cases h3:leg=0
     ·simp [h3]
     ·simp only [h3,if_false]
      cases r.jE.l[(leg - 1).toNat]? with
      | none=>rfl
      | some y =>
        simp only
        unfold o1
        by_cases h4:y.end_=1
        ·simp [h4]
        ·simp only [h4,if_false]
         by_cases h5:y.end_=3
         ·simp only [h5,if_true]
          cases N ⟨y.to,0⟩<;>cases N ⟨y.to,1⟩<;>rfl
         ·simp [h5]
def SH {l:List j6} {N:iu->Option iu} {d:iI} {run leg:Int} {h:iu} (e:lD true (oE l) N d run leg=some h):h.elem=F4 (BW l) d run leg:=by
 rw [E2 (N:=N),e]
def SI {l:List j6} {N:iu->Option iu} {d:iI} {run leg:Int} (e:lD true (oE l) N d run leg=none) : -1=F4 (BW l) d run leg:=by
 rw [E2 (N:=N),e]
def y7 (r:iQ):Int:=match r.steps.l[((r.steps.l.length:Int) - 1).toNat]? with
 | some s=>s.elem
 | none=>0
def w5 {r:iQ} {x:iT} {h:((r.steps.l.length:Int) - 1).toNat<r.steps.l.length} (hq:r.steps.l[((r.steps.l.length:Int) - 1).toNat]=x):y7 r=x.elem:=by
 rw [y7,List.getElem?_eq_getElem h,hq]
def wO (r:iQ) (l:j7):Bool:=decide (r.end_=l.end_/\0<r.steps.l.length/\if l.end_=1 then r.to=l.to else y7 r=l.to)
def sI {α:Type} (P : α->Bool):Nat->List α->List Int
 | _,[]=>[]
 | i,a::l=>if P a=true then (i:Int)::sI P (i+1) l else sI P (i+1) l
theorem DB {α:Type} {P : α->Bool} {x : α}:∀ (l:List α) (i:Nat),sI P i (l++[x])=sI P i l++if P x=true then [((i+l.length:Nat):Int)] else []
 | [],i=>by simp [sI]
 | a::l,i=>by
   have h:=DB (P:=P) (x:=x) l (i+1)
   simp only [List.cons_append,sI,h,List.length_cons]
   rw [show i+1+l.length=i+(l.length+1) by omega]
   split<;>simp
section
variable {α:Type} {P : α->Bool} {l:List α} {k:Nat} {x : α} {o:List Int}
theorem Ey {hk:k<l.length} (hq:l[k]=x):sI P 0 (l.take (k+1))=sI P 0 (l.take k)++if P x=true then [(k:Int)] else []:=by
 rw [List.take_add_one,List.getElem?_eq_getElem hk,hq,Option.toList_some,DB,List.length_take,Nat.zero_add,Nat.min_eq_left (by omega)]
def Sz {hk:k<l.length} (hq:l[k]=x) (h:o=sI P 0 (l.take k)) (hp:P x=true):o++[(k:Int)]=sI P 0 (l.take (k+1)):=by
 rw [Ey hq,if_pos hp,h]
def xQ {hk:k<l.length} (hq:l[k]=x) (h:o=sI P 0 (l.take k)) (hp:P x=false):o=sI P 0 (l.take (k+1)):=by
 rw [Ey hq,hp,h]; simp
def SG (h:o=sI P 0 (l.take k)) (hk:l.length<=k):o=sI P 0 l:=by
 rwa [List.take_of_length_le hk] at h
end
def wC (p:bS) (d:iI) (run leg:Int):Int:=pk true (oE p.signals.l) (lq p.iO.l) (kr p) (λx=>(nC p.signals.l x).getD (-1)) d run leg
def AF (p:bS) (d:iI) (run leg:Int):Int:=F4 (BW p.signals.l) d run leg
def qL (p:bS) (d:iI) (run leg:Int) (r:iQ):Bool:=match d.runs.l[run.toNat]? with
 | none=>false
 | some x=>match x.jE.l[leg.toNat]?,d.iW.l[x.iW.toNat]? with
   | some l,some k=>decide (0<=x.iW/\r.from_=wC p d run leg/\wO r l=true/\r.bare=false/\¬ AF p d run leg∈r.mA.l/\Ar p k (y7 r)=true)
   | _,_=>false
def oF (p:bS) (L:List iQ) (d:iI) (run leg:Int):List Int:=if wC p d run leg<0 then [] else sI (qL p d run leg) 0 L
section
variable {p:bS} {d:iI} {run leg:Int} {r:iQ} {x:lb} {l:j7} {k:jW} {L:List iQ} {f:Int}
def Ub (hf:f=wC p d run leg) (h:¬ r.from_=f):qL p d run leg r=false:=by
 subst hf; grind [qL]
def S5 {hx:run.toNat<d.runs.l.length} (hq:d.runs.l[run.toNat]=x) {hy:leg.toNat<x.jE.l.length} (hl:x.jE.l[leg.toNat]=l) (h:false=wO r l):qL p d run leg r=false:=by
 grind [qL]
def T2 (h:r.bare=true):qL p d run leg r=false:=by
 grind [qL]
def Us {s:Int} (hs:s=AF p d run leg) (h:s∈r.mA.l):qL p d run leg r=false:=by
 subst hs; grind [qL]
def TB {hx:run.toNat<d.runs.l.length} (hq:d.runs.l[run.toNat]=x) {hz:x.iW.toNat<d.iW.l.length} (hk:d.iW.l[x.iW.toNat]=k) {e:Int} (he:y7 r=e) (h:false=Ar p k e):qL p d run leg r=false:=by
 subst he; grind [qL]
def Ur {hx:run.toNat<d.runs.l.length} (hq:d.runs.l[run.toNat]=x) {hy:leg.toNat<x.jE.l.length} (hl:x.jE.l[leg.toNat]=l) {hz:x.iW.toNat<d.iW.l.length} (hk:d.iW.l[x.iW.toNat]=k) {s e:Int} (h0:0<=x.iW) (hf:f=wC p d run leg) (h1:r.from_=f) (h2:true=wO r l) (h3:r.bare=false) (hs:s=AF p d run leg) (h4:s∉r.mA.l) (he:y7 r=e) (h5:true=Ar p k e):qL p d run leg r=true:=by
 subst hs he hf; grind [qL]
def Jj (hf:f=wC p d run leg) (h:f<0) {o:List Int} (ho:o=[]):o=oF p L d run leg:=by
 subst hf; rw [oF,if_pos h,ho]
def Ik (hf:f=wC p d run leg) (h:¬ f<0) {o:List Int} {n:Nat} (ho:o=sI (qL p d run leg) 0 (L.take n)) (hn:L.length<=n):o=oF p L d run leg:=by
 subst hf; rw [oF,if_neg h]; exact SG ho hn
end
structure RK (n:iR):Prop where
 next:∀ x,look x n.next=lq n.p.iO.l x
 reads:∀ x,look x n.reads=nC n.p.signals.l x
 en:∀ i x,oE n.p.signals.l i=some x->0<=x.en
 lin:CQ n.line n.p
def RK.from_ {n:iR} (h:RK n) {d:iI} {run leg:Int}:pk false (oE n.p.signals.l) (λx=>look x n.next) (kr n.p) (λx=>(look x n.reads).getD (-1)) d run leg=wC n.p d run leg:=by
 have h1:(λx=>look x n.next)=lq n.p.iO.l:=funext h.next
 have h2:(λx=>(look x n.reads).getD (-1))=(λx=>(nC n.p.signals.l x).getD (-1)):=by funext x; rw [h.reads]
 rw [h1,h2,Lq h.en]; rfl
def uq (p:bS) (len:Int) (t:kU):Int :=
 if len<1\/4000<len\/(¬ kr p t.at_.elem=4/\¬ kr p t.at_.elem=1)\/t.at_.en<0\/(if kr p t.at_.elem=1 then 2 else 1)<=t.at_.en then 1
 else if (nC p.signals.l t.at_).getD (-1)<0 then 7
 else if kr p t.at_.elem=4 then (if t.left=0 then 0 else 1)
 else if t.left<0\/rT p t.at_.elem<t.left then 1
 else if rT p t.at_.elem<IntKind.i64.wrap (t.left+len) then 9 else 0
def Fc {p:bS} {len:Int} {t:kU} (h:uq p len t=0):kr p t.at_.elem=1\/kr p t.at_.elem=4:=by
 grind [uq]
def wv (p:bS) (d:iI) (i:Nat):Int:=uq p (Em d i) (rk p d i)
def qH (p:bS) (d:iI) (i:Nat):List Int:=qj p [(rk p d i).at_]
def pz (L:Nat->List Int) (k:Nat):Prop:=∃ i j,i<j/\j<k/\∃ x∈L i,x∈L j
def pz.mono {L:Nat->List Int} {k m:Nat} (h:pz L k) (hk:k<=m):pz L m:=by
 obtain ⟨i,j,h1,h2,h3⟩:=h
 exact ⟨i,j,h1,by omega,h3⟩
def pc (p:bS) (d:iI) (r:Int):Prop :=
 (∃ i,i<d.runs.l.length/\r=wv p d i/\r≠0/\∀ j,j<i->wv p d j=0) \/
 ((∀ i,i<d.runs.l.length->wv p d i=0)/\((r=0/\¬ pz (qH p d) d.runs.l.length)\/(r=18/\pz (qH p d) d.runs.l.length)))
theorem pc.vR {p:bS} {d:iI} {r s:Int} (h1:pc p d r) (h2:pc p d s):r=s:=by
 rcases h1 with ⟨i,hi,h1,h3,h4⟩ | ⟨h1,h3⟩<;>rcases h2 with ⟨j,hj,h5,h6,h7⟩ | ⟨h5,h6⟩
 ·rcases Nat.lt_trichotomy i j with h | h | h
  ·exact absurd (h1.trans (h7 i h)) h3
  ·subst h; rw [h1,h5]
  ·exact absurd (h5.trans (h4 j h)) h6
 ·exact absurd (h1.trans (h5 i hi)) h3
 ·exact absurd (h5.trans (h1 j hj)) h6
 ·grind
structure xU (L:Nat->List Int) (k:Nat) (r:List Int) (m:List (Int×Bool)) (e:Int):Prop where
 src:∀ x,look x m=some true->(∃ i,i<k/\x∈L i)\/x∈r
 err:e=0\/e=18/\pz L (k+1)
def xU.zero (L:Nat->List Int):xU L 0 [] [] 0:=⟨λx h=>by simp [look] at h,.inl rfl⟩
theorem xU.put {L:Nat->List Int} {k j:Nat} {r:List Int} {m:List (Int×Bool)} {e:Int} {x:Int} (h:xU L k (r.take j) m e) (hj:j<r.length) (hq:r[j]=x):xU L k (r.take (j+1)) (put x true m) e:=by
 refine ⟨λy hy=>?_,h.err⟩
 rw [nA hj hq]
 by_cases hxy:y=x
 ·subst hxy; exact .inr (by simp)
 ·have:look y m=some true:=by grind [l9]
  rcases h.src y this with h1 | h1
  ·exact .inl h1
  ·exact .inr (by simp [h1])
def xU.DI {L:Nat->List Int} {k j:Nat} {r:List Int} {m:List (Int×Bool)} {e e':Int} {x:Int} (h:xU L k (r.take j) m e) (hj:j<r.length) (hq:r[j]=x) (hr:r=L k) (h1:r.length<=1) (hl:look x m=some true) (he:e'=18):xU L k (r.take (j+1)) (Go.Sx.put x true m) e':=by
 have h2:=h.put hj hq
 refine ⟨h2.src,.inr ⟨he,?_⟩⟩
 have hj0:j=0:=by omega
 subst hj0
 rcases h.src x hl with ⟨i,hi,hx⟩ | hx
 ·exact ⟨i,k,hi,by omega,x,hx,by rw [<- hr,<- hq]; exact List.getElem_mem _⟩
 ·simp at hx
def xU.done {L:Nat->List Int} {k j:Nat} {r:List Int} {m:List (Int×Bool)} {e:Int} (h:xU L k (r.take j) m e) (hj:r.length<=j) (hr:r=L k):xU L (k+1) [] m e:=by
 rw [List.take_of_length_le hj,hr] at h
 refine ⟨λx hx=>?_,?_⟩
 ·rcases h.src x hx with ⟨i,hi,h1⟩ | h1
  ·exact .inl ⟨i,by omega,h1⟩
  ·exact .inl ⟨k,by omega,h1⟩
 ·rcases h.err with h1 | ⟨h1,h2⟩
  ·exact .inl h1
  ·exact .inr ⟨h1,h2.mono (by omega)⟩
def Fh {p:bS} {d:iI} {k:Nat} {r len:Int} {t:kU} (hE:∀ i,i<k->wv p d i=0) (hk:k<d.runs.l.length) (hl:len=Em d k) (ht:t=rk p d k) (h:r=uq p len t) (hr:¬ r=0):pc p d r:=by
 subst hl ht
 exact .inl ⟨k,hk,h,hr,hE⟩
def Uk {p:bS} {d:iI} {k:Nat} {r len:Int} {t:kU} (hl:len=Em d k) (ht:t=rk p d k) (h:r=uq p len t) (hr:r=0):wv p d k=0:=by
 subst hl ht; exact h.symm.trans hr
def zR (n:Int):Prop:=(97<=n/\n<=122)\/(65<=n/\n<=90)
def B4 (i:Nat) (n:Int):Prop:=zR n\/(0<i/\48<=n/\n<=57)
def wJ (s:List UInt8):Prop:=1<=s.length/\s.length<=8/\∀ (i:Nat) (h:i<s.length),B4 i ((s[i]).toNat:Int)
def Si {s:List UInt8} {k:Nat} {c:UInt8} {hk:k<s.length} (hq:s[k]=c) (h:∀ (i:Nat) (h:i<s.length),i<k->B4 i ((s[i]).toNat:Int)) (hc:B4 k (c.toNat:Int)):∀ (i:Nat) (h:i<s.length),i<k+1->B4 i ((s[i]).toNat:Int):=by
 intro i hi h2
 rcases Nat.lt_succ_iff_lt_or_eq.mp h2 with h3 | h3
 ·exact h i hi h3
 ·subst h3; rw [hq]; exact hc
def Gk {s:List UInt8} {k:Nat} {c:UInt8} {hk:k<s.length} (hq:s[k]=c) (h:wJ s) (hl:¬ zR (c.toNat:Int)) (hd:k=0\/(c.toNat:Int)<48\/(c.toNat:Int) > 57):False:=by
 have:=h.2.2 k hk
 rw [hq] at this
 rcases this with h1 | h1
 ·exact hl h1
 ·omega
def Es {s:List UInt8} {k:Nat} {c d:UInt8} {hk:k<s.length} (hq:s[k]=c) (h:wJ s) (hl:¬ zR (c.toNat:Int)) (hd:(d.toNat:Int)<48\/(d.toNat:Int) > 57) (hq2:s[k]=d):False:=by
 subst hq2; subst hq; exact Gk rfl h hl (.inr hd)
def zd (s:jW):Prop:=wJ s.name.l/\1<=s.len/\s.len<=4000/\1<=s.top/\s.top<=60/\1<=s.acc/\s.acc<=10/\1<=s.jY/\s.jY<=10
def O3 (l:List jW):Prop:=l.length<=4/\(∀ s∈l,zd s)/\∀ (i j:Nat) (h:j<l.length) (hij:i<j),¬ (l[i]).name.l=(l[j]).name.l
def EN (p:bS) (l:List jW):Prop:=O3 l/\∀ s∈l,s.top<=p.top/\p.jY<=s.jY
def LO {l:List jW} {k:Nat} {x:jW} {r:Int} {hk:k<l.length} (hq:l[k]=x) (h:∀ (i j:Nat) (h:j<l.length) (hij:i<j),j<k->¬ (l[i]).name.l=(l[j]).name.l) (hf:∀ (j:Nat) (h:j<l.length),(j:Int)<r->¬ (l[j]).name.l=x.name.l) (hr:¬ r≠(k:Int)) :
  ∀ (i j:Nat) (h:j<l.length) (hij:i<j),j<k+1->¬ (l[i]).name.l=(l[j]).name.l:=by
 intro i j hj hij h2
 rcases Nat.lt_succ_iff_lt_or_eq.mp h2 with h3 | h3
 ·exact h i j hj hij h3
 ·subst h3; rw [hq]; exact hf i (by omega) (by omega)
def OM (p:bS) (x:j7):Prop:=(x.end_=1/\0<=x.to/\x.to<(p.signals.l.length:Int))\/(x.end_=2/\kr p x.to=4)\/(x.end_=3/\kr p x.to=1)
def EV (l:List j7):Nat->Int
 | 0=>0
 | k+1=>match l[k]? with
   | some x=>x.at_
   | none=>0
def Vq {l:List j7} {k:Nat} {x:j7} {hk:k<l.length} (hq:l[k]=x):x.at_=EV l (k+1):=by
 rw [EV,List.getElem?_eq_getElem hk,hq]
def yQ (p:bS) (l:List j7) (i:Nat) (x:j7):Prop:=0<=x.at_/\EV l i<=x.at_/\x.at_<=2000/\OM p x
def Kz (p:bS) (l:List j7):Prop:=∀ (i:Nat) (h:i<l.length),yQ p l i l[i]
def UW {p:bS} {l:List j7} {k:Nat} (h:∀ (i:Nat) (h:i<l.length),i<k->yQ p l i l[i]) (hk:k<=l.length):0<=EV l k:=by
 cases k with
 | zero=>simp [EV]
 | succ k =>
   have:=(h k (by omega) (by omega)).1
   rw [EV,List.getElem?_eq_getElem (by omega:k<l.length)]
   exact this
def Mf {p:bS} {l:List j7} {k:Nat} {x:j7} {hk:k<l.length} (hq:l[k]=x) (h:∀ (i:Nat) (h:i<l.length),i<k->yQ p l i l[i]) (hx:yQ p l k x):∀ (i:Nat) (h:i<l.length),i<k+1->yQ p l i l[i]:=by
 intro i hi h2
 rcases Nat.lt_succ_iff_lt_or_eq.mp h2 with h3 | h3
 ·exact h i hi h3
 ·subst h3; rw [hq]; exact hx
def G5 (p:bS) (d:iI) (r:lb):Prop:=wJ r.name.l/\(0<=r.iW/\r.iW<(d.iW.l.length:Int))/\(0<=r.from_/\r.from_<(p.signals.l.length:Int))/\(0<=r.left/\r.left<=4000)/\Kz p r.jE.l
structure xz (p:bS) (d:iI):Prop where
 runs:d.runs.l.length<=8
 jE:∀ r∈d.runs.l,r.jE.l.length<=12
 TV:EN p d.iW.l
 beg:0<=d.xR/\d.xR<=86399
 ok:∀ r∈d.runs.l,G5 p d r
 name:∀ (i j:Nat) (h:j<d.runs.l.length) (hij:i<j),¬ (d.runs.l[i]).name.l=(d.runs.l[j]).name.l
theorem xz.oZ {p:bS} {d:iI} (h:xz p d):tB d:=⟨h.runs,λr hr=>⟨h.jE r hr,(h.ok r hr).2.1⟩⟩
def LJ {l:List lb} {k j:Nat} {x y:lb} {r:Row lb} {hk:k<l.length} (hq:l[k]=x) {hj:j<r.l.length} (hy:r.l[j]=y) (h:∀ y∈(l.take k).take j,∀ x,l[k]?=some x->¬ y.name.l=x.name.l) (hn:¬ x.name.l=y.name.l) (hr:r.l=l.take k:=by rfl):∀ y∈(l.take k).take (j+1),∀ x,l[k]?=some x->¬ y.name.l=x.name.l:=by
 intro z hz w hw
 rw [List.getElem?_eq_getElem hk,hq] at hw
 cases hw
 have hj2:j<(l.take k).length:=by rw [<- hr]; exact hj
 have hy2:(l.take k)[j]=y:=by rw [<- hy]; congr 1; exact hr.symm
 rw [nA hj2 hy2] at hz
 rcases List.mem_append.mp hz with hz | hz
 ·exact h z hz _ (by rw [List.getElem?_eq_getElem hk,hq])
 ·simp at hz; subst hz; exact λe=>hn e.symm
def Lo {l:List lb} {k j:Nat} {x:lb} {hk:k<l.length} (hq:l[k]=x) (h0:∀ (i j:Nat) (h:j<l.length) (hij:i<j),j<k->¬ (l[i]).name.l=(l[j]).name.l) (h:∀ y∈(l.take k).take j,∀ x,l[k]?=some x->¬ y.name.l=x.name.l) {r:Row lb} (hj:¬ (j:Int)<(r.l.length:Int)) (hr:r.l=l.take k:=by rfl):∀ (i j:Nat) (h:j<l.length) (hij:i<j),j<k+1->¬ (l[i]).name.l=(l[j]).name.l:=by
 replace hj:(l.take k).length<=j:=by rw [<- hr]; omega
 rw [List.take_of_length_le hj] at h
 exact L3 hq h0 λy hy=>h y hy x (by rw [List.getElem?_eq_getElem hk,hq])
def rn (p:bS) (L:List iQ) (d:iI) (i:Nat):Prop:=∃ x,d.runs.l[i]?=some x/\(x.jE.l.length=0\/(∃ y,x.jE.l[((x.jE.l.length:Int) - 1).toNat]?=some y/\y.end_≠2)\/∃ j:Nat,j<x.jE.l.length/\oF p L d i j=[])
def sM (p:bS) (L:List iQ) (d:iI) (r:Int):Prop :=
 ((∃ s∈p.signals.l,s.auto=true)/\r=7)\/((∀ s∈p.signals.l,s.auto=false)/\∃ e,pc p d e/\((e≠0/\r=e)\/(e=0/\((r=10/\∃ i,i<d.runs.l.length/\rn p L d i)\/(r=0/\∀ i,i<d.runs.l.length->¬ rn p L d i)))))
theorem sM.vR {p:bS} {L:List iQ} {d:iI} {r s:Int} (h1:sM p L d r) (h2:sM p L d s):r=s:=by
 rcases h1 with ⟨⟨x,hx,ha⟩,h3⟩ | ⟨h3,e,he,h4⟩<;>rcases h2 with ⟨⟨y,hy,hb⟩,h5⟩ | ⟨h5,f,hf,h6⟩
 ·rw [h3,h5]
 ·rw [h5 x hx] at ha; cases ha
 ·rw [h3 y hy] at hb; cases hb
 ·have:=he.vR hf
  subst this
  rcases h4 with ⟨h7,h8⟩ | ⟨h7,⟨h8,i,hi,h9⟩ | ⟨h8,h9⟩⟩<;>rcases h6 with ⟨h10,h11⟩ | ⟨h10,⟨h11,j,hj,h12⟩ | ⟨h11,h12⟩⟩<;>first | (rw [h8,h11]; done) | exact absurd h7 h10 | exact absurd h10 h7 | exact absurd h9 (h12 i hi) | exact absurd h12 (h9 j hj)
section
variable {p:bS} {L:List iQ} {d:iI} {k j:Nat} {x:lb} {y:j7} {e:Int}
def Na {s:j6} {hk:k<p.signals.l.length} (hq:p.signals.l[k]=s) (h:s.auto=true):sM p L d 7:=.inl ⟨⟨s,by rw [<- hq]; exact List.getElem_mem _,h⟩,rfl⟩
def Ej (hS:∀ s∈p.signals.l,s.auto=false) (h:pc p d e) (he:¬ e=0):sM p L d e:=.inr ⟨hS,e,h,.inl ⟨he,rfl⟩⟩
def yf (hS:∀ s∈p.signals.l,s.auto=false) (h:pc p d 0) (hk:k<d.runs.l.length) (hb:rn p L d k):sM p L d 10:=.inr ⟨hS,0,h,.inr ⟨rfl,.inl ⟨rfl,k,hk,hb⟩⟩⟩
def Ll (hS:∀ s∈p.signals.l,s.auto=false) (h:pc p d 0) (hb:∀ i,i<k->¬ rn p L d i) (hk:d.runs.l.length<=k):sM p L d 0:=.inr ⟨hS,0,h,.inr ⟨rfl,.inr ⟨rfl,λi hi=>hb i (by omega)⟩⟩⟩
def acj {hk:k<d.runs.l.length} (hq:d.runs.l[k]=x) (h:(x.jE.l.length:Int)=0):rn p L d k:=⟨x,by rw [List.getElem?_eq_getElem hk,hq],.inl (by omega)⟩
def YJ {hk:k<d.runs.l.length} (hq:d.runs.l[k]=x) {hl:((x.jE.l.length:Int) - 1).toNat<x.jE.l.length} (hy:x.jE.l[((x.jE.l.length:Int) - 1).toNat]=y) (h:y.end_≠2):rn p L d k:=⟨x,by rw [List.getElem?_eq_getElem hk,hq],.inr (.inl ⟨y,by rw [List.getElem?_eq_getElem hl,hy],h⟩)⟩
def YU {hk:k<d.runs.l.length} (hq:d.runs.l[k]=x) {r:List Int} (hr:r=oF p L d k j) (h:(r.length:Int)=0) (hj:j<x.jE.l.length):rn p L d k:=⟨x,by rw [List.getElem?_eq_getElem hk,hq],.inr (.inr ⟨j,hj,by rw [<- hr]; exact List.length_eq_zero_iff.mp (by omega)⟩)⟩
def T0 {hk:k<d.runs.l.length} (hq:d.runs.l[k]=x) (h1:¬ (x.jE.l.length:Int)=0) {hl:((x.jE.l.length:Int) - 1).toNat<x.jE.l.length} (hy:x.jE.l[((x.jE.l.length:Int) - 1).toNat]=y) (h2:¬ y.end_≠2) (h3:∀ i:Nat,i<j->oF p L d k i≠[]) (hj:x.jE.l.length<=j):¬ rn p L d k:=by
 rintro ⟨z,hz,h⟩
 rw [List.getElem?_eq_getElem hk,hq] at hz
 cases hz
 rcases h with h | ⟨w,hw,h⟩ | ⟨i,hi,h⟩
 ·omega
 ·rw [List.getElem?_eq_getElem hl,hy] at hw; cases hw; exact h2 h
 ·exact h3 i (by omega) h
def ne_nil {r:List Int} (hr:r=oF p L d k j) (h:¬ (r.length:Int)=0):oF p L d k j≠[]:=by
 rw [<- hr]; rintro rfl; simp at h
def uC {m:Nat} (hE:∀ i,i<k->wv p d i=0) (h1:d.runs.l.length<=k) (hM:¬ pz (qH p d) m) (h2:d.runs.l.length<=m) (h3:m<=d.runs.l.length):pc p d 0:=by
 have:m=d.runs.l.length:=by omega
 subst this
 exact .inr ⟨λi hi=>hE i (by omega),.inl ⟨rfl,hM⟩⟩
def uN (p:bS) (d:iI) (k:Nat) (l:List Int):Prop:=∀ x,x∈l↔∃ i,i<k/\x∈qH p d i
def uN.zero:uN p d 0 []:=λx=>by simp
def Ad {t:kU} {n:Int} (ht:t=rk p d k) (hK:n=kr p t.at_.elem) (h:n=1):qH p d k=[t.at_.elem]:=by
 subst ht; simp [qH,qj,<- hK,h]
def DO {t:kU} {n:Int} {m:Nat} (hE:∀ i,i<m->wv p d i=0) (hk:k<m) (ht:t=rk p d k) (hK:n=kr p t.at_.elem) (h:¬ n=1):qH p d k=[]:=by
 subst ht
 have:=Fc (hE k hk)
 have:n=4:=by omega
 simp [qH,qj,<- hK,this]
def uN.snoc {l:List Int} {z:Int} (h:uN p d k l) (hz:qH p d k=[z]):uN p d (k+1) (l++[z]):=by
 intro x
 rw [List.mem_append,h x]
 constructor
 ·rintro (⟨i,hi,hx⟩ | hx)
  ·exact ⟨i,by omega,hx⟩
  ·exact ⟨k,by omega,by rw [hz]; exact hx⟩
 ·rintro ⟨i,hi,hx⟩
  rcases Nat.lt_succ_iff_lt_or_eq.mp hi with h1 | h1
  ·exact .inl ⟨i,h1,hx⟩
  ·subst h1; rw [hz] at hx; exact .inr hx
def uN.same {l:List Int} (h:uN p d k l) (hz:qH p d k=[]):uN p d (k+1) l:=by
 intro x
 rw [h x]
 constructor
 ·rintro ⟨i,hi,hx⟩; exact ⟨i,by omega,hx⟩
 ·rintro ⟨i,hi,hx⟩
  rcases Nat.lt_succ_iff_lt_or_eq.mp hi with h1 | h1
  ·exact ⟨i,h1,hx⟩
  ·subst h1; rw [hz] at hx; cases hx
def Dh {L:Nat->List Int} (h:¬ pz L k) (hn:∀ x∈L k,∀ i,i<k->x∉L i):¬ pz L (k+1):=by
 rintro ⟨i,j,hij,hj,x,hx,hx2⟩
 rcases Nat.lt_succ_iff_lt_or_eq.mp hj with h1 | h1
 ·exact h ⟨i,j,hij,h1,x,hx,hx2⟩
 ·subst h1; exact hn x hx2 i hij hx
def J8 {L:Nat->List Int} (h:¬ pz L k) (hz:L k=[]):¬ pz L (k+1):=Dh h (by rw [hz]; simp)
def uN.SW {l:List Int} {z:Int} {s:List Int} (h:uN p d k l) (hs:s=l) (hz:qH p d k=[z]) (hM:¬ pz (qH p d) k) (hn:z∉s):¬ pz (qH p d) (k+1):=by
 subst hs
 refine Dh hM λx hx i hi h2=>?_
 rw [hz] at hx; simp at hx; subst hx
 exact hn ((h x).mpr ⟨i,hi,h2⟩)
def uN.DI {l:List Int} {z:Int} {s:List Int} (h:uN p d k l) (hs:s=l) (hz:qH p d k=[z]) (hi:z∈s) (hE:∀ i,i<j->wv p d i=0) (h1:d.runs.l.length<=j) (hk:k<d.runs.l.length):pc p d 18:=by
 subst hs
 obtain ⟨i,hik,h2⟩:=(h z).mp hi
 exact .inr ⟨λi hi=>hE i (by omega),.inr ⟨rfl,i,k,hik,hk,z,h2,by rw [hz]; simp⟩⟩
end
def Xl {p:bS} (h:∀ e∈p.elems.l,(1<=e.kind/\e.kind<=4)/\(e.kind=4->e.len=0)):IM p:=h
def WJ {p:bS} {k:Nat} (h:∀ (i:Nat) (h:i<p.iO.l.length),i<k->VE p (p.iO.l[i]).a.elem/\VE p (p.iO.l[i]).b.elem) (hk:p.iO.l.length<=k):JV p:=lu (P:=λj:j3=>VE p j.a.elem/\VE p j.b.elem) h hk
structure vU (p:bS) (k j:Nat) (m:List (Int×Bool)):Prop where
 val:∀ (i:Nat) (h:i<p.lines.l.length),i<k->∀ e∈(p.lines.l[i]).elems.l,VE p e/\look e m=some true
 Gr:∀ (i j:Nat) (h:j<p.lines.l.length) (hij:i<j),j<k->∀ e∈(p.lines.l[i]).elems.l,e∉(p.lines.l[j]).elems.l
 cur:∀ x,p.lines.l[k]?=some x->∀ e∈x.elems.l.take j,VE p e/\look e m=some true/\∀ (i:Nat) (h:i<p.lines.l.length),i<k->e∉(p.lines.l[i]).elems.l
section
variable {p:bS} {k j:Nat} {m:List (Int×Bool)} {x:jx} {e:Int}
def vU.zero:vU p 0 0 []:=⟨λ_ _ h=>by omega,λ_ _ _ _ h=>by omega,λ_ _ e h=>by simp at h⟩
theorem vU.put (h:vU p k j m) {hk:k<p.lines.l.length} (hq:p.lines.l[k]=x) {hj:j<x.elems.l.length} (he:x.elems.l[j]=e) (hv:VE p e) (hl:¬ look e m=some true):vU p k (j+1) (put e true m):=by
 have lp:∀ y,look y m=some true->look y (Go.Sx.put e true m)=some true:=λy hy=>sB hy
 refine ⟨λi hi hik y hy=>⟨(h.val i hi hik y hy).1,lp y (h.val i hi hik y hy).2⟩,h.Gr,λz hz y hy=>?_⟩
 rw [List.getElem?_eq_getElem hk,hq] at hz
 cases hz
 rw [nA hj he] at hy
 rcases List.mem_append.mp hy with hy | hy
 ·have:=h.cur x (by rw [List.getElem?_eq_getElem hk,hq]) y hy
  exact ⟨this.1,lp y this.2.1,this.2.2⟩
 ·simp at hy; subst hy
  exact ⟨hv,by grind [l9],λi hi hik hm=>hl (h.val i hi hik _ hm).2⟩
theorem vU.next (h:vU p k j m) {hk:k<p.lines.l.length} (hq:p.lines.l[k]=x) (hj:x.elems.l.length<=j):vU p (k+1) 0 m:=by
 have hc:=h.cur x (by rw [List.getElem?_eq_getElem hk,hq])
 rw [List.take_of_length_le hj] at hc
 refine ⟨λi hi hik e he=>?_,λi j2 hj2 hij hjk e he=>?_,λ_ _ e h=>by simp at h⟩
 ·rcases Nat.lt_succ_iff_lt_or_eq.mp hik with h1 | h1
  ·exact h.val i hi h1 e he
  ·subst h1; rw [hq] at he; exact ⟨(hc e he).1,(hc e he).2.1⟩
 ·rcases Nat.lt_succ_iff_lt_or_eq.mp hjk with h1 | h1
  ·exact h.Gr i j2 hj2 hij h1 e he
  ·subst h1; rw [hq]; exact λhm=>(hc e hm).2.2 i (by omega) hij he
theorem vU.ok (h:vU p k 0 m) (hk:p.lines.l.length<=k):HM p:=by
 refine ⟨λx hx e he=>?_,λi j hj hij=>h.Gr i j hj hij (by omega)⟩
 obtain ⟨i,hi,rfl⟩:=List.mem_iff_getElem.mp hx
 exact (h.val i hi (by omega) e he).1
end
def ab7 {p:bS} (h:JV p) (h40:p.elems.l.length<=40):∀ j∈p.iO.l,nk j.a.elem/\nk j.b.elem:=λj hj=>⟨⟨(h j hj).1.1,by have:=(h j hj).1.2; omega⟩,(h j hj).2.1,by have:=(h j hj).2.2; omega⟩
structure qK (p:bS) (k j:Nat) (m:List (Int×Int×Int)):Prop where
 snd:∀ e y,look e m=some y->(∃ (i:Nat) (h:i<p.lines.l.length),i<k/\y.1=(i:Int)/\e∈(p.lines.l[i]).elems.l)\/(y.1=(k:Int)/\∃ x,p.lines.l[k]?=some x/\e∈x.elems.l.take j)
 cmp:∀ (i:Nat) (h:i<p.lines.l.length),i<k->∀ e∈(p.lines.l[i]).elems.l,∃ q,look e m=some ((i:Int),q)
 cur:∀ x,p.lines.l[k]?=some x->∀ e∈x.elems.l.take j,∃ q,look e m=some ((k:Int),q)
section
variable {p:bS} {k j:Nat} {m:List (Int×Int×Int)} {x:jx} {e c:Int}
def qK.zero:qK p 0 0 []:=⟨λe y h=>by simp [look] at h,λ_ _ h=>by omega,λ_ _ e h=>by simp at h⟩
theorem qK.put (hp:HM p) (h:qK p k j m) {hk:k<p.lines.l.length} (hq:p.lines.l[k]=x) {hj:j<x.elems.l.length} (he:x.elems.l[j]=e):qK p k (j+1) (put e ((k:Int),c) m):=by
 have hg:p.lines.l[k]?=some x:=by rw [List.getElem?_eq_getElem hk,hq]
 have hex:e∈x.elems.l:=by rw [<- he]; exact List.getElem_mem _
 refine ⟨λd y hd=>?_,λi hi hik d hd=>?_,λz hz d hd=>?_⟩
 ·by_cases hde:d=e
  ·subst hde
   have:y=((k:Int),c):=by grind [l9]
   subst this
   exact .inr ⟨rfl,x,hg,by rw [nA hj he]; simp⟩
  ·have hd2:look d m=some y:=by grind [l9]
   rcases h.snd d y hd2 with h1 | ⟨h1,z,hz,h2⟩
   ·exact .inl h1
   ·rw [hg] at hz; cases hz
    exact .inr ⟨h1,x,hg,by rw [nA hj he]; simp [h2]⟩
 ·have hne:d≠e:=by
   rintro rfl
   exact hp.2 i k hk hik d hd (by rw [hq]; exact hex)
  obtain ⟨q,hq2⟩:=h.cmp i hi hik d hd
  exact ⟨q,by grind [l9]⟩
 ·rw [hg] at hz; cases hz
  by_cases hde:d=e
  ·subst hde; exact ⟨c,by grind [l9]⟩
  ·rw [nA hj he] at hd
   rcases List.mem_append.mp hd with hd | hd
   ·obtain ⟨q,hq2⟩:=h.cur x hg d hd
    exact ⟨q,by grind [l9]⟩
   ·simp at hd; exact absurd hd hde
theorem qK.next (h:qK p k j m) {hk:k<p.lines.l.length} (hq:p.lines.l[k]=x) (hj:x.elems.l.length<=j):qK p (k+1) 0 m:=by
 have hg:p.lines.l[k]?=some x:=by rw [List.getElem?_eq_getElem hk,hq]
 refine ⟨λd y hd=>?_,λi hi hik d hd=>?_,λ_ _ e h=>by simp at h⟩
 ·rcases h.snd d y hd with ⟨i,hi,h1,h2⟩ | ⟨h1,z,hz,h2⟩
  ·exact .inl ⟨i,hi,by omega,h2⟩
  ·rw [hg] at hz; cases hz
   exact .inl ⟨k,hk,by omega,h1,by rw [hq]; exact List.mem_of_mem_take h2⟩
 ·rcases Nat.lt_succ_iff_lt_or_eq.mp hik with h1 | h1
  ·exact h.cmp i hi h1 d hd
  ·subst h1
   rw [hq] at hd
   exact h.cur x hg d (by rwa [List.take_of_length_le hj])
theorem qK.ok (h:qK p k 0 m) (hk:p.lines.l.length<=k):CQ m p:=by
 refine ⟨λd y hd=>?_,λi hi d hd=>h.cmp i hi (by omega) d hd⟩
 rcases h.snd d y hd with ⟨i,hi,h1,h2,h3⟩ | ⟨h1,z,hz,h2⟩
 ·exact ⟨i,hi,h2,h3⟩
 ·simp at h2
end
def xZ (P:Int->Bool) (l l2:List Int) (i j:Int):Prop:=l2.take i.toNat=(l.take j.toNat).filter P/\l2.drop j.toNat=l.drop j.toNat
section
variable {P:Int->Bool} {l l2:List Int} {i j x y:Int}
def DL {l l2:List Int} {n:Nat} (h:l2.drop n=l.drop n) {h1:n<l2.length} (hq:l2[n]=x):∃ h2:n<l.length,l[n]=x:=by
 have h3:(l2.drop n)[0]?=some x:=by rw [List.getElem?_drop,Nat.add_zero,List.getElem?_eq_getElem h1,hq]
 rw [h,List.getElem?_drop,Nat.add_zero] at h3
 exact List.getElem?_eq_some_iff.mp h3
def OB {l l2:List Int} {n:Nat} (h:l2.drop n=l.drop n):l2.drop (n+1)=l.drop (n+1):=by
 have:∀ m:List Int,m.drop (n+1)=(m.drop n).drop 1:=λm=>by rw [List.drop_drop]
 rw [this,this,h]
theorem xZ.keep (h:xZ P l l2 i j) (h0:0<=i) (hij:i<j) {hj:j.toNat<l2.length} (hq:l2[j.toNat]=x) (hP:P x=true):xZ P l (l2.set i.toNat x) (i+1) (j+1):=by
 have e1:(i+1).toNat=i.toNat+1:=by omega
 have e2:(j+1).toNat=j.toNat+1:=by omega
 obtain ⟨hl,hlq⟩:=DL h.2 hq
 refine ⟨?_,?_⟩
 ·rw [e1,e2,List.take_add_one,List.getElem?_set_self (by omega),List.take_add_one,List.getElem?_eq_getElem hl,hlq,Option.toList_some,List.filter_append,<- h.1,List.take_set_of_le (Nat.le_refl _)]
  simp [hP]
 ·rw [e2,List.drop_set_of_lt (by omega)]
  exact OB h.2
def xZ.skip (h:xZ P l l2 i j) (h0:0<=i) (hij:i<j) {hj:j.toNat<l2.length} (hq:l2[j.toNat]=x) (hP:P x=false):xZ P l l2 i (j+1):=by
 have e2:(j+1).toNat=j.toNat+1:=by omega
 obtain ⟨hl,hlq⟩:=DL h.2 hq
 refine ⟨?_,by rw [e2]; exact OB h.2⟩
 rw [e2,List.take_add_one,List.getElem?_eq_getElem hl,hlq,Option.toList_some,List.filter_append,<- h.1]
 simp [hP]
def xZ.done (h:xZ P l l2 i j) (hj:(l.length:Int)<=j) (hi:i.toNat<=l2.length) {n:Nat}:(l2.take i.toNat++List.replicate n y).take i.toNat=l.filter P:=by
 rw [List.take_append_of_le_length (by rw [List.length_take]; omega),List.take_take,Nat.min_self,h.1,List.take_of_length_le (by omega)]
end
def pa (m:List (Int×Bool)) (y:Int):Prop:=∃ b,look y m=some b
theorem RT {m:List (Int×Bool)} {x y:Int} {b:Bool}:pa (put x b m) y↔y=x\/pa m y:=by
 unfold pa
 by_cases h:y=x
 ·subst h; exact ⟨λ_=>.inl rfl,λ_=>⟨b,by grind [l9]⟩⟩
 ·constructor
  ·rintro ⟨c,hc⟩; exact .inr ⟨c,by grind [l9]⟩
  ·rintro (h1 | ⟨c,hc⟩)
   ·exact absurd h1 h
   ·exact ⟨c,by grind [l9]⟩
def Gl {y:Int}:¬ pa [] y:=by rintro ⟨b,h⟩; simp [look] at h
def Sr {m:List (Int×Bool)} {y:Int} (hn:lR m):pa m y↔y∈m.map Prod.fst:=by
 induction m with
 | nil=>simp [pa,look]
 | cons a m ih =>
   have hn2:lR m:=(List.nodup_cons.mp hn).2
   have:=ih hn2
   unfold pa at this ⊢
   simp only [List.map_cons,List.mem_cons]
   by_cases h:a.1=y
   ·subst h; exact ⟨λ_=>.inl rfl,λ_=>⟨a.2,by simp [look]⟩⟩
   ·rw [<- this]
    simp only [look,if_neg h]
    grind
def Tp (ln:List (Int×Int×Int)) (ll:List jx) (x y:Int):Prop:=y=x\/∃ (l:Nat) (h:l<ll.length) (q:Int),look x ln=some ((l:Int),q)/\y∈(ll[l]).elems.l
section
variable {ln:List (Int×Int×Int)} {ll:List jx} {m mo:List (Int×Bool)} {x y r e:Int} {k:Nat} {L:jx} {E:Row Int}
end
def mL (l:List Int):Prop:=l.Pairwise (· < ·)
def mL.ext {l m:List Int} (h1:mL l) (h2:mL m) (h:∀ x,x∈l↔x∈m):l=m:=by
 induction l generalizing m with
 | nil=>cases m with
   | nil=>rfl
   | cons b m=>have:=(h b).mpr (by simp); simp at this
 | cons a l ih =>
   cases m with
   | nil=>have:=(h a).mp (by simp); simp at this
   | cons b m =>
     obtain ⟨ha,hl⟩:=List.pairwise_cons.mp h1
     obtain ⟨hb,hm⟩:=List.pairwise_cons.mp h2
     have hab:a=b:=by
      have h3:=(h a).mp (by simp)
      have h4:=(h b).mpr (by simp)
      rcases List.mem_cons.mp h3 with h3 | h3
      ·exact h3
      ·rcases List.mem_cons.mp h4 with h4 | h4
       ·exact h4.symm
       ·have:=ha b h4; have:=hb a h3; omega
     subst hab
     congr 1
     refine ih hl hm λx=>?_
     have:=h x
     simp only [List.mem_cons] at this
     constructor
     ·intro hx
      rcases this.mp (.inr hx) with h5 | h5
      ·have:=ha x hx; omega
      ·exact h5
     ·intro hx
      rcases this.mpr (.inr hx) with h5 | h5
      ·have:=hb x hx; omega
      ·exact h5
def JB {l:List Int} (h:l.Nodup):mL (jG l):=by
 have h1:=qC l
 have h2:(jG l).Nodup:=(mi l).nodup_iff.mpr h
 exact (h1.and h2).imp λ⟨a,b⟩=>by omega
def RdS (ln:List (Int×Int×Int)) (ll:List jx) (rd:iQ) (y:Int):Prop:=(∃ s∈rd.steps.l,Tp ln ll s.elem y)\/∃ z∈rd.mA.l,Tp ln ll z y
def acN (ln:List (Int×Int×Int)) (ll:List jx) (L:List iQ) (R:List Int) (k:Nat) (y:Int):Prop:=∃ i∈R.take k,∃ rd,L[i.toNat]?=some rd/\RdS ln ll rd y
section
variable {ln:List (Int×Int×Int)} {ll:List jx} {L:List iQ} {R:List Int} {k j:Nat} {m mo:List (Int×Bool)} {i:Int} {rd:iQ} {s:iT} {z:Int}
end
def mC (l:List Bool) (y:Int):Prop:=0<=y/\l[y.toNat]?=some true
def Cu {n:Nat}:∀ y,¬ mC (List.replicate n false) y:=by
 rintro y ⟨h0,h⟩
 rw [List.getElem?_replicate] at h
 split at h<;>cases h
section
variable {l:List Bool} {x y:Int} {b:Bool}
theorem E9 (h0:0<=x) (hx:x.toNat<l.length):∀ y,mC (l.set x.toNat true) y↔mC l y\/y=x:=by
 intro y
 unfold mC
 rw [List.getElem?_set]
 by_cases h:x.toNat=y.toNat
 ·rw [if_pos h,if_pos hx]
  constructor
  ·rintro ⟨h1,_⟩; exact .inr (by omega)
  ·rintro (⟨h1,_⟩ | rfl)
   ·exact ⟨h1,rfl⟩
   ·exact ⟨h0,rfl⟩
 ·rw [if_neg h]
  constructor
  ·exact .inl
  ·rintro (h1 | rfl)
   ·exact h1
   ·exact absurd rfl h
theorem KP (hx:x.toNat<l.length) (hq:l[x.toNat]=b):l.set x.toNat b=l:=by
 subst hq; exact List.set_getElem_self hx
def Mk (h0:0<=x) {hx:x.toNat<l.length} (hq:l[x.toNat]=b):mC l x↔b=true:=by
 unfold mC
 rw [List.getElem?_eq_getElem hx,hq]
 constructor
 ·rintro ⟨_,h⟩; exact Option.some.inj h
 ·rintro rfl; exact ⟨h0,rfl⟩
end
def ClK (p:bS) (B:Int->Prop) (k:Nat) (y:Int):Prop:=B y\/∃ (i:Nat) (h:i<p.lines.l.length),i<k/\y∈(p.lines.l[i]).elems.l/\∃ x∈(p.lines.l[i]).elems.l,B x
section
variable {p:bS} {B:Int->Prop} {k j:Nat} {l l2:List Bool} {x:jx} {e:Int} {b c:Bool}
end
def si (l:List Bool) (Q:Int->Prop) (k:Nat) (o:List Int):Prop:=mL o/\(∀ y∈o,y<k)/\∀ y,y∈o↔y<k/\mC l y/\Q y
section
variable {l:List Bool} {Q:Int->Prop} {k:Nat} {o:List Int} {b:Bool}
def C9:si l Q 0 []:=⟨List.Pairwise.nil,by simp,λy=>⟨by simp,λ⟨h1,h2,_⟩=>by have:=h2.1; omega⟩⟩
def ab4 (h:si l Q k o) {hk:k<l.length} (hq:l[k]=b) (hb:b=true) (hQ:Q (k:Int)):si l Q (k+1) (o++[(k:Int)]):=by
 subst hb
 refine ⟨List.pairwise_append.mpr ⟨h.1,by simp,λa ha c hc=>by simp at hc; subst hc; exact h.2.1 a ha⟩,λy hy=>?_,λy=>?_⟩
 ·rcases List.mem_append.mp hy with h1 | h1
  ·have:=h.2.1 y h1; omega
  ·simp at h1; omega
 ·rw [List.mem_append,h.2.2 y]
  simp only [List.mem_singleton]
  constructor
  ·rintro (⟨h1,h2⟩ | rfl)
   ·exact ⟨by omega,h2⟩
   ·exact ⟨by omega,⟨by omega,by simp [List.getElem?_eq_getElem hk,hq]⟩,hQ⟩
  ·rintro ⟨h1,h2⟩
   by_cases h3:y<k
   ·exact .inl ⟨h3,h2⟩
   ·exact .inr (by omega)
def aaf (h:si l Q k o) (hn:∀ (h:k<l.length),l[k]=true->¬ Q (k:Int)):si l Q (k+1) o:=by
 refine ⟨h.1,λy hy=>by have:=h.2.1 y hy; omega,λy=>?_⟩
 rw [h.2.2 y]
 constructor
 ·rintro ⟨h1,h2⟩; exact ⟨by omega,h2⟩
 ·rintro ⟨h1,h2,h3⟩
  refine ⟨?_,h2,h3⟩
  by_cases h4:y<k
  ·exact h4
  ·exfalso
   have:y=(k:Int):=by omega
   subst this
   obtain ⟨_,h5⟩:=h2
   rw [Int.toNat_natCast] at h5
   obtain ⟨h6,h7⟩:=List.getElem?_eq_some_iff.mp h5
   exact hn h6 h7 h3
def BG (h:si l Q k o) (hk:l.length<=k):mL o/\∀ y,y∈o↔mC l y/\Q y:=by
 refine ⟨h.1,λy=>?_⟩
 rw [h.2.2 y]
 constructor
 ·exact λh=>h.2
 ·rintro ⟨h1,h2⟩
  refine ⟨?_,h1,h2⟩
  obtain ⟨h3,h4⟩:=h1
  obtain ⟨h5,_⟩:=List.getElem?_eq_some_iff.mp h4
  omega
end
def aez (p:bS) (d:iI) (run leg:Int):Int:=if kr p (AF p d run (leg+1))=4 then -1 else AF p d run (leg+1)
def aaq (p:bS) (L:List iQ) (d:iI) (run leg:Int) (y:Int):Prop:=acN [] [] L (oF p L d run leg) (oF p L d run leg).length y
def AY (p:bS) (L:List iQ) (d:iI) (run leg:Int) (w:List Int×Int):Prop:=mL w.1/\(∀ y,y∈w.1↔ClK p (aaq p L d run leg) p.lines.l.length y/\y≠AF p d run leg/\kr p y≠4)/\w.2=aez p d run leg
theorem AY.vR {p:bS} {L:List iQ} {d:iI} {run leg:Int} {w v:List Int×Int} (h1:AY p L d run leg w) (h2:AY p L d run leg v):w=v:=Prod.ext (h1.1.ext h2.1 λx=>by rw [h1.2.1 x,h2.2.1 x]) (h1.2.2.trans h2.2.2.symm)
def atP (p:bS) (d:iI) (run:Int):List Int:=if kr p (AF p d run 0)=0\/kr p (AF p d run 0)=4 then [] else [AF p d run 0]
def WL (p:bS) (L:List iQ) (d:iI) (run:Int) (l:List tA) (k:Nat):Prop:=l.length=k/\∀ (i:Nat) (h:i<l.length),AY p L d run (i:Int) ((l[i]).free.l,(l[i]).end_)
def Jx (p:bS) (L:List iQ) (d:iI) (run:Int) (c:mI):Prop:=c.at_.l=atP p d run/\∃ x,d.runs.l[run.toNat]?=some x/\WL p L d run c.jE.l x.jE.l.length
section
variable {p:bS} {L:List iQ} {d:iI} {run:Int} {l:List tA} {k:Nat} {w:tA} {n:Int} {c c2:mI} {x:lb}
def WL.zero:WL p L d run [] 0:=⟨rfl,λi h=>by simp at h⟩
def WL.snoc (h:WL p L d run l k) (hw:AY p L d run (k:Int) (w.free.l,w.end_)):WL p L d run (l++[w]) (k+1):=by
 refine ⟨by simp [h.1],λi hi=>?_⟩
 by_cases hik:i<l.length
 ·rw [List.getElem_append_left hik]; exact h.2 i hik
 ·have:i=l.length:=by simp at hi; omega
  subst this
  rw [List.getElem_append_right (Nat.le_refl _)]
  simp only [Nat.sub_self,List.getElem_cons_zero]
  rw [h.1]; exact hw
end
def qQ (p:bS) (L:List iQ) (d:iI) (l:List mI) (k:Nat):Prop:=l.length=k/\∀ (i:Nat) (h:i<l.length),Jx p L d (i:Int) l[i]
def qQ.zero {p:bS} {L:List iQ} {d:iI}:qQ p L d [] 0:=⟨rfl,λi h=>by simp at h⟩
def qQ.snoc {p:bS} {L:List iQ} {d:iI} {l:List mI} {k:Nat} {c:mI} (h:qQ p L d l k) (hc:Jx p L d (k:Int) c):qQ p L d (l++[c]) (k+1):=by
 refine ⟨by simp [h.1],λi hi=>?_⟩
 by_cases hik:i<l.length
 ·rw [List.getElem_append_left hik]; exact h.2 i hik
 ·have:i=l.length:=by simp at hi; omega
  subst this
  rw [List.getElem_append_right (Nat.le_refl _)]
  simp only [Nat.sub_self,List.getElem_cons_zero]
  rw [h.1]; exact hc
def qQ.end_ {p:bS} {L:List iQ} {d:iI} {l r:List mI} {k n:Nat} (h:qQ p L d l k) (hr:r=l) (h1:n<=k) (h2:k<=n):qQ p L d r n:=by
 subst hr
 have:k=n:=by omega
 subst this; exact h
end Go.Sx
namespace Go.Sx
open Go
def Lw (s:Int) (S:Int->Prop):Prop:=∃ b:BitVec 64,s=(b.toNat:Int)/\∀ i:Nat,i<64->(b.getLsbD i=true↔S (i:Int))
def Lw.congr {s:Int} {S T:Int->Prop} (h:Lw s S) (e:∀ i:Int,0<=i->(S i↔T i)):Lw s T:=by
 obtain ⟨b,h1,h2⟩:=h
 exact ⟨b,h1,λi hi=>(h2 i hi).trans (e i (by omega))⟩
abbrev CX:=List Int×List (List Int)
def tQ (c:mI):CX:=(c.at_.l,c.jE.l.map λw=>w.free.l)
def Di (c:List CX) (k:Nat):Prop:=∀ (i:Nat) (h:i<c.length),i≠k->∀ e∈(c[i]).1,∀ x,c[k]?=some x->∀ w∈x.2,e∉w
def xA (c:List CX) (home:List Bool) (k:Nat):Prop:=home[k]?=some false/\Di c k/\∀ j,j<k->¬ (home[j]?=some false/\Di c j)
theorem xA.vR {c:List CX} {home:List Bool} {k j:Nat} (h1:xA c home k) (h2:xA c home j):k=j:=by
 rcases Nat.lt_trichotomy k j with h | h | h
 ·exact absurd ⟨h1.1,h1.2.1⟩ (h2.2.2 k h)
 ·exact h
 ·exact absurd ⟨h2.1,h2.2.1⟩ (h1.2.2 j h)
inductive rK (c0:List CX):Nat->List CX->List Bool->Prop
 | zero:rK c0 0 c0 (List.replicate c0.length false)
 | succ {m k:Nat} {c:List CX} {home:List Bool} (h:rK c0 m c home) (n:xA c home k):rK c0 (m+1) (c.set k ([],[])) (home.set k true)
theorem rK.vR {c0:List CX} {m:Nat} {c:List CX} {home:List Bool} (h:rK c0 m c home):∀ {c':List CX} {home':List Bool},rK c0 m c' home'->c=c'/\home=home':=by
 induction h with
 | zero=>intro c' home' h; cases h; exact ⟨rfl,rfl⟩
 | succ h n ih =>
   intro c' home' h'
   cases h' with
   | succ h2 n2 =>
     obtain ⟨rfl,rfl⟩:=ih h2
     obtain rfl:=n.vR n2
     exact ⟨rfl,rfl⟩
def rK.back {c0:List CX} {m:Nat} {c:List CX} {home:List Bool} (h:rK c0 m c home):∀ j,j<m->∃ c' home' k,rK c0 j c' home'/\xA c' home' k:=by
 induction h with
 | zero=>intro j hj; omega
 | succ h n ih =>
   intro j hj
   rcases Nat.lt_succ_iff_lt_or_eq.mp hj with h1 | h1
   ·exact ih j h1
   ·subst h1; exact ⟨_,_,_,h,n⟩
def Be (c0:List CX) (b:Bool):Prop:=∃ m c home,rK c0 m c home/\((b=true/\∀ x∈home,x=true)\/(b=false/\false∈home/\∀ k,¬ xA c home k))
theorem Be.vR {c0:List CX} {a b:Bool} (h1:Be c0 a) (h2:Be c0 b):a=b:=by
 obtain ⟨m,c,home,hr,h1⟩:=h1
 obtain ⟨m',c',home',hr',h2⟩:=h2
 have no:∀ {c:List CX} {home:List Bool} {k:Nat},(∀ x∈home,x=true)->¬ xA c home k:=by
  intro c home k h n
  have:=h false (List.mem_of_getElem? n.1)
  cases this
 rcases Nat.lt_trichotomy m m' with h | h | h
 ·obtain ⟨c2,home2,k,h3,h4⟩:=hr'.back m h
  obtain ⟨rfl,rfl⟩:=hr.vR h3
  rcases h1 with ⟨_,h5⟩ | ⟨_,_,h5⟩
  ·exact (no h5 h4).elim
  ·exact (h5 k h4).elim
 ·subst h
  obtain ⟨rfl,rfl⟩:=hr.vR hr'
  rcases h1 with ⟨rfl,h3⟩ | ⟨rfl,h3,_⟩<;>rcases h2 with ⟨rfl,h4⟩ | ⟨rfl,h4,_⟩
  ·rfl
  ·have:=h3 _ h4; cases this
  ·have:=h4 _ h3; cases this
  ·rfl
 ·obtain ⟨c2,home2,k,h3,h4⟩:=hr.back m' h
  obtain ⟨rfl,rfl⟩:=hr'.vR h3
  rcases h2 with ⟨_,h5⟩ | ⟨_,_,h5⟩
  ·exact (no h5 h4).elim
  ·exact (h5 k h4).elim
theorem rK.len {c0:List CX} {m:Nat} {c:List CX} {home:List Bool} (h:rK c0 m c home):c.length=c0.length/\home.length=c0.length:=by
 induction h with
 | zero=>simp
 | succ h n ih=>simpa using ih
def M2 (l:List mI):Prop:=∀ c∈l,∀ x∈c.at_.l,0<=x/\x<40
def U3 (c:List CX) (home:List Bool) (n:Int):Prop:=∀ j:Nat,(j:Int)<n->¬ (home[j]?=some false/\Di c j)
section
variable {c:List CX} {home:List Bool} {n z a b:Int} {x:Bool} {l:List mI} {y:mI} {c0:List CX} {k m:Nat}
theorem rK.go (h:rK c0 k (l.map tQ) home) (hno:U3 (l.map tQ) home n) (h0:0<=n) {hk:n.toNat<home.length} (hq:home[n.toNat]=x) (hx:x=false) (hc:Di (l.map tQ) n.toNat) (hy:tQ y=([],[]):=by rfl):rK c0 (k+1) ((l.set n.toNat y).map tQ) (home.set n.toNat true):=by
 rw [List.map_set,hy]
 refine h.succ ⟨by rw [List.getElem?_eq_getElem hk,hq,hx],hc,λj hj=>hno j (by omega)⟩
theorem M2.set (h:M2 l) (hy:y.at_.l=[]:=by rfl):M2 (l.set k y):=by
 intro d hd x hx
 rcases List.mem_or_eq_of_mem_set hd with h1 | h1
 ·exact h d h1 x hx
 ·subst h1; rw [hy] at hx; cases hx
def Cs:∀ {home:List Bool},home.count true<home.length->false∈home
 | [],h=>by simp at h
 | true::l,h=>by simp at h; exact List.mem_cons_of_mem _ (Cs h)
 | false::l,_=>by simp
def Vx (h:rK c0 k c home) (hc:home.count true=k) (hk:k<home.length) (hno:U3 c home n) (hn:(home.length:Int)<=n):Be c0 false:=by
 refine ⟨k,c,home,h,.inr ⟨rfl,Cs (by omega),λj hj=>?_⟩⟩
 obtain ⟨h2,_⟩:=List.getElem?_eq_some_iff.mp hj.1
 exact hno j (by omega) ⟨hj.1,hj.2.1⟩
end
def Dn (n:Nat) (o:List Int):List Bool:=(List.range n).map λj:Nat=>decide ((j:Int)∈o)
theorem RZ {n j:Nat} {o:List Int} (h:j<n):(Dn n o)[j]?=some (decide ((j:Int)∈o)):=by
 simp [Dn,h]
def rK.count {c0:List CX} {m:Nat} {c:List CX} {home:List Bool} (h:rK c0 m c home):home.count true=m:=by
 induction h with
 | zero=>simp [List.count_replicate]
 | succ h n ih =>
   obtain ⟨h1,h2⟩:=List.getElem?_eq_some_iff.mp n.1
   rw [List.count_set h1,ih,h2]; simp
def sW (l0:List mI) (o0:List Int) (n:Nat) (b:Bool) (l:List mI) (o:List Int) (k:Nat):Prop :=
 (b=false->l=l0/\o=o0/\U3 (l0.map tQ) (Dn n o0) k)/\(b=true->∃ j:Nat,xA (l0.map tQ) (Dn n o0) j/\l.map tQ=(l0.map tQ).set j ([],[])/\o=o0++[(j:Int)])
section
variable {l0 l:List mI} {o0 o:List Int} {n k m:Nat} {b:Bool} {c0:List CX}
def sW.zero:sW l0 o0 n false l0 o0 0:=⟨λ_=>⟨rfl,rfl,λj hj=>absurd hj (by omega)⟩,λh=>by cases h⟩
def sW.nX {s:List Int} (h:sW l0 o0 n b l o k) (hb:b=false) (hs:s=o) (hi:(k:Int)∈s) (hk:k<n):sW l0 o0 n b l o (k+1):=by
 subst hb; replace hb:false=false:=rfl
 obtain ⟨h1,h2,h3⟩:=h.1 hb
 refine ⟨λ_=>⟨h1,h2,λj hj=>?_⟩,λh=>by cases h⟩
 by_cases hjk:j<k
 ·exact h3 j (by omega)
 ·have:j=k:=by omega
  subst this
  rintro ⟨h4,_⟩
  rw [RZ hk,<- h2,<- hs] at h4
  simp [hi] at h4
def sW.no {s:jo mI} (h:sW l0 o0 n b l o k) (hb:b=false) (hs:s.l=l) (hc:¬ Di (s.l.map tQ) k):sW l0 o0 n b l o (k+1):=by
 subst hb; replace hb:false=false:=rfl
 obtain ⟨h1,h2,h3⟩:=h.1 hb
 refine ⟨λ_=>⟨h1,h2,λj hj=>?_⟩,λh=>by cases h⟩
 by_cases hjk:j<k
 ·exact h3 j (by omega)
 ·have:j=k:=by omega
  subst this
  rintro ⟨_,h4⟩
  rw [hs,h1] at hc; exact hc h4
theorem sW.len (h:sW l0 o0 n b l o k) (hb:b=true):o.length=o0.length+1:=by
 obtain ⟨j,_,_,h3⟩:=h.2 hb
 rw [h3]; simp
def sW.stuck (h:sW l0 o0 n b l o k) (hb:b=false) (hr:rK c0 o0.length (l0.map tQ) (Dn n o0)) (hn:n<=k) (hm:o0.length<n):Be c0 false:=by
 obtain ⟨h1,h2,h3⟩:=h.1 hb
 have hl:(Dn n o0).length=n:=by simp [Dn]
 exact Vx hr hr.count (by omega) h3 (by omega)
end
end Go.Sx
namespace Go.Sx
open Go
section
variable {d e:iI} {L M:List iQ} {p:bS} {run leg:Int}
end
section
variable {p:bS} {L M:List iQ} {d f:iI} {e w:Int} {l m:List mI} {k:Nat} {b:Bool}
end
def Kv {p:bS} (h:IM p) (e:Int) (hk:kr p e=4):rT p e=0:=by
 unfold kr at hk
 unfold rT
 by_cases h0:e<0
 ·simp [h0]
 ·rw [if_neg h0] at hk ⊢
  cases hs:p.elems.l[e.toNat]? with
  | none=>rfl
  | some x =>
    rw [hs] at hk
    obtain ⟨hl,hq⟩:=List.getElem?_eq_some_iff.mp hs
    exact (h x (hq▸List.getElem_mem hl)).2 hk
end Go.Sx
namespace Go.Sx
open Go Go.Proofs Go.RowKit Go.Maps Go.Sort
def Av:List AV->Option Int
 | [v]=>B0 v
 | _=>none
def pX:List (List AV)->Option (List Int)
 | []=>some []
 | c::l=>match Av c with
   | some n=>match pX l with
     | some ks=>some (n::ks)
     | none=>none
   | none=>none
def putAt (xs:List (List AV)) (o l:Nat) (ys:List (List AV)):List (List AV):=xs.take o++ys++xs.drop (o+l)
def mV (l:List Int):List (List AV):=l.map λn=>[.int .i64 n]
def pj (shd:Bool) (args:List AV) (h:aT):R2:=match args with
 | [.sl [] _]=>some (.je [],h)
 | [.hs b g o l]=>match l with
   | 0=>some (.je [],h)
   | k+1=>match shd with
     | false=>none
     | true=>match h.get b with
       | some (.iG g' z xs)=>match Nat.beq g g'&&(Nat.beq z 1&&(Nat.ble (o+(k+1)) xs.length&&Nat.ble (k+1) 1000000)) with
         | true=>match pX ((xs.drop o).take (k+1)) with
           | some ks=>some (.je [],h.set b (.iG g' z (putAt xs o (k+1) (mV (jG ks)))))
           | none=>none
         | false=>none
       | _=>none
 | _=>none
theorem Ip {c:List AV} {n:Int} (h:Av c=some n):c=[.int .i64 n]:=by
 unfold Av at h
 split at h
 ·rw [(CF h).1]
 ·cases h
theorem wD:∀ {l:List (List AV)} {ks:List Int},pX l=some ks->l=mV ks
 | [],ks,h=>by simp only [pX,Option.some.injEq] at h; subst h; rfl
 | c::l,ks,h=>by
   unfold pX at h
   split at h
   ·rename_i n hn
    split at h
    ·rename_i ks' hk
     simp only [Option.some.injEq] at h
     subst h
     rw [Ip hn,wD hk]; rfl
    ·cases h
   ·cases h
theorem Ci {xs ys:List (List AV)} {o l i:Nat} (hy:ys.length=l) (hl:o+l<=xs.length):(putAt xs o l ys)[i]?=if o<=i/\i<o+l then ys[i - o]? else xs[i]?:=by
 unfold putAt
 rw [List.append_assoc,List.getElem?_append]
 have h1:(xs.take o).length=o:=by rw [List.length_take]; omega
 rw [h1]
 split
 ·rename_i hi
  rw [if_neg (by omega),List.getElem?_take_of_lt hi]
 ·rename_i hi
  rw [List.getElem?_append,hy]
  split
  ·rw [if_pos (by omega)]
  ·rw [if_neg (by omega),List.getElem?_drop]
   congr 1
   omega
theorem Kk {xs ys:List (List AV)} {o l:Nat} (hy:ys.length=l) (hl:o+l<=xs.length):(putAt xs o l ys).length=xs.length:=by
 unfold putAt
 simp only [List.length_append,List.length_take,List.length_drop]
 omega
def Mh {G:Ga} (hW:WR G) {b g z:Nat} {xs xs':List (List AV)} {L:Loc} (hp:G.pi b=some L) (hget:G.h.get b=some (.iG g z xs)) {w1 w':World} {c':Array Value} {e:TypeId}
  (hP:qm G.w w1 L.B (.cells c' e (0,0))) (hb:Below w1.heap.size w1 w') (hblk:∀ G',Ext G G'->G'.w.heap[L.B]?=some (.cells c' e (0,0))->nu G' L z xs') :
  ∃ T',Step G ⟨w',T',G.h.set b (.iG g z xs'),G.pi,G.L⟩/\WR ⟨w',T',G.h.set b (.iG g z xs'),G.pi,G.L⟩:=by
 obtain ⟨s1,W1⟩:=tN (ob:=.iG g z xs') hW hp hP (.inl ⟨g,z,xs,xs',hget,rfl⟩) (by rintro _ _ _ ⟨⟩; exact hblk) (by rintro _ _ ⟨⟩)
 obtain ⟨s2,W2⟩:=Bu W1 hb (λ_ _=>False) (λ_ _ h=>h.elim)
 exact ⟨_,s1.trans s2,W2⟩
theorem Jn {G:Ga} {n:Int} {v:Value} (h:VC G (.int .i64 n) v):v=.int .i64 n:=by
 cases h.vr with
 | jn _ hp=>cases hp; rfl
def CB {G:Ga} (hW:WR G) {b g o l:Nat} {xs:List (List AV)} (hget:G.h.get b=some (.iG g 1 xs)) (hle:o+l<=xs.length) {ks:List Int} (hks:pX ((xs.drop o).take l)=some ks) {L:Loc} (hp:G.pi b=some L) :
  ks.length=l/\Holds (Value.int .i64) G.w L.B (L.base+o*1) ks.toArray:=by
 obtain ⟨c,e,hB,hcap,hsz,hz,hc⟩:=hW.iG b L g 1 xs hp hget
 have hrow:=wD hks
 have hlen:ks.length=l:=by
  have:=congrArg List.length hrow
  simp only [mV,List.length_map,List.length_take,List.length_drop] at this
  omega
 have hel:∀ (i:Nat) (n:Int),ks[i]?=some n->xs[o+i]?=some [.int .i64 n]:=by
  intro i n hn
  have hi:i<l:=by rw [<- hlen]; exact (List.getElem?_eq_some_iff.1 hn).1
  have h2:((xs.drop o).take l)[i]?=(mV ks)[i]?:=by rw [hrow]
  rw [List.getElem?_take_of_lt hi,List.getElem?_drop,mV,List.getElem?_map,hn] at h2
  exact h2
 have hcell:∀ (i:Nat) (n:Int),ks[i]?=some n->c[L.base+o*1+i]?=some (.int .i64 n):=by
  intro i n hn
  obtain ⟨v,hv,_,hvc⟩:=hc (o+i) _ 0 _ (hel i n hn) rfl
  rw [Jn hvc] at hv
  rw [<- hv]
  congr 1
  omega
 refine ⟨hlen,λj hj=>?_⟩
 have hj:j<ks.length:=by simpa using hj
 refine ⟨?_,?_⟩
 ·have:=hcell j ks[j] (by simp [hj])
  simp only [World.cell?,hB]
  rw [this]
  simp [hj]
 ·simp [World.frozen?,hB]
def FX {G:Ga} (hW:WR G) {b g o l:Nat} {xs:List (List AV)} (hget:G.h.get b=some (.iG g 1 xs)) (hle:o+l<=xs.length) {L:Loc} (hp:G.pi b=some L) (ys:List Int) (qY:ys.length=l) (n:Nat) (os:Array Obj) :
  ∃ T',Step G ⟨grow (putRow (Value.int .i64) (Sort.ahead G.w n) L.B (L.base+o*1) ys.toArray) os,T',G.h.set b (.iG g 1 (putAt xs o l (mV ys))),G.pi,G.L⟩ /\
    WR ⟨grow (putRow (Value.int .i64) (Sort.ahead G.w n) L.B (L.base+o*1) ys.toArray) os,T',G.h.set b (.iG g 1 (putAt xs o l (mV ys))),G.pi,G.L⟩:=by
 obtain ⟨c,e,hB,hcap,hsz,hz,hc⟩:=hW.iG b L g 1 xs hp hget
 have hcs:(mV ys).length=l:=by simp [mV,qY]
 have hP:qm G.w (putRow (Value.int .i64) (Sort.ahead G.w n) L.B (L.base+o*1) ys.toArray) L.B (.cells (putCells (Value.int .i64) (L.base+o*1) ys.toArray c) e (0,0)):=by
  refine ⟨?_,λk hk=>?_,by simp,rfl,rfl,rfl⟩
  ·simp [putRow,mapBlock,Array.getElem?_modify,hB,onCells]
  ·simp [putRow,mapBlock,Array.getElem?_modify,Ne.symm hk]
 have hbl:Below (putRow (Value.int .i64) (Sort.ahead G.w n) L.B (L.base+o*1) ys.toArray).heap.size (putRow (Value.int .i64) (Sort.ahead G.w n) L.B (L.base+o*1) ys.toArray) (grow (putRow (Value.int .i64) (Sort.ahead G.w n) L.B (L.base+o*1) ys.toArray) os) :=
  ⟨rfl,rfl,rfl,by simp,λk hk=>heap_grow_old _ _ hk⟩
 refine Mh (xs':=putAt xs o l (mV ys)) hW hp hget hP hbl ?_
 intro G' E hw
 refine ⟨_,_,hw,by rw [Kk hcs hle]; exact hcap,by simp only [putCells,Array.size_mapIdx]; exact hsz,?_,?_⟩
 ·intro i cs h
  rw [Ci hcs hle] at h
  split at h
  ·simp only [mV,List.getElem?_map,Option.map_eq_some_iff] at h
   obtain ⟨m,_,rfl⟩:=h; rfl
  ·exact hz i cs h
 ·intro i cs j x h hj
  rw [Ci hcs hle] at h
  split at h
  ·rename_i hi
   simp only [mV,List.getElem?_map,Option.map_eq_some_iff] at h
   obtain ⟨m,hm,rfl⟩:=h
   cases j with
   | succ j=>cases hj
   | zero =>
     simp only [List.getElem?_cons_zero,Option.some.injEq] at hj
     subst hj
     have hcs2:L.base+i*1+0<c.size:=by
      have:=Nat.mul_le_mul_right 1 hcap
      omega
     refine ⟨.int .i64 m,?_,rfl,⟨.jn rfl (.int _ _ _),rfl⟩⟩
     simp only [putCells,Array.getElem?_mapIdx,Array.getElem?_eq_getElem hcs2,Option.map_some,List.size_toArray,qY]
     rw [if_pos ⟨by omega,by omega⟩,show L.base+i*1+0 - (L.base+o*1)=i - o by omega]
     have hm2:=List.getElem?_eq_some_iff.1 hm
     obtain ⟨hm3,hm4⟩:=hm2
     simp [hm3,hm4]
  ·rename_i hi
   have hz1:=hz i cs h
   have hj0:j=0:=by
    have:=(List.getElem?_eq_some_iff.1 hj).1
    omega
   subst hj0
   obtain ⟨v,hv,ho,hvc⟩:=hc i cs 0 x h hj
   refine ⟨v,?_,ho,hvc.mono E⟩
   simp only [putCells,Array.getElem?_mapIdx,hv,Option.map_some,List.size_toArray,qY]
   rw [if_neg (by omega)]
def KW {P:Program} {f:Nat}
  (h1:∀ (iG off cap:Nat) (zs:List Int) (w:World),Holds (Value.int .i64) w iG off zs.toArray->iG<w.heap.size->zs.length<4611686018427387904 ->
    Calls P f #[.slice (some ⟨iG,off,none⟩) zs.length cap] w λe w'=>e=.returned (.tuple #[])/\∃ n os,w'=grow (putRow (Value.int .i64) (Sort.ahead w n) iG off (zs.mergeSort λx y=>decide (x<=y)).toArray) os)
  {G:Ga} (hW:WR G) {b g o l:Nat} {xs:List (List AV)} (hget:G.h.get b=some (.iG g 1 xs)) (hle:o+l<=xs.length) (hl:l<=1000000) {ks:List Int} (hks:pX ((xs.drop o).take l)=some ks) {L:Loc} (hp:G.pi b=some L) {cap':Nat}
  {R:Ending->World->Prop} (hR:∀ G',Step G G'->WR G'->G'.h=G.h.set b (.iG g 1 (putAt xs o l (mV (jG ks))))->R (.returned (.tuple #[])) G'.w) :
  Calls P f #[.slice (some ⟨L.B,L.base+o*1,none⟩) l cap'] G.w R:=by
 obtain ⟨hlen,hH⟩:=CB hW hget hle hks hp
 have hlt:L.B<G.w.heap.size:=(hW.kD b L hp).1
 rw [<- hlen]
 refine (h1 L.B (L.base+o*1) cap' ks G.w hH hlt (by omega)).mono ?_
 rintro e' w' ⟨rfl,n,os,rfl⟩
 have hso:(ks.mergeSort λx y=>decide (x<=y))=jG ks:=Ck (.refl _)
 have qY:(jG ks).length=l:=by rw [(mi ks).length_eq,hlen]
 rw [hso]
 obtain ⟨T',S1,W1⟩:=FX hW hget hle hp (jG ks) qY n os
 exact hR _ S1 W1 rfl
def tc (ks:List Int):List Int:=Lib.compact ks++List.replicate (ks.length - (Lib.compact ks).length) 0
theorem KC (ks:List Int):(tc ks).length=ks.length:=by
 have:=Lib.compact_length_le ks
 simp only [tc,List.length_append,List.length_replicate]
 omega
def KJ {P:Program} {f:Nat}
  (h1:∀ (iG off cap:Nat) (zs:List Int) (w:World),Holds (Value.int .i64) w iG off zs.toArray->zs.length<=9223372036854775807->zs.length<=cap ->
    Calls P f #[.slice (some ⟨iG,off,none⟩) zs.length cap] w λe w'=>e=.returned (.slice (some ⟨iG,off,none⟩) (Lib.compact zs).length cap)/\∃ q,w'=putRow (Value.int .i64) (Sort.ahead w q) iG off (Lib.compact zs++List.replicate (zs.length - (Lib.compact zs).length) 0).toArray)
  {G:Ga} (hW:WR G) {b g o l:Nat} {xs:List (List AV)} (hget:G.h.get b=some (.iG g 1 xs)) (hle:o+l<=xs.length) (hl:l<=1000000) {ks:List Int} (hks:pX ((xs.drop o).take l)=some ks) {L:Loc} (hp:G.pi b=some L) {cap':Nat} (hcl:l<=cap')
  {R:Ending->World->Prop} (hR:∀ G',Step G G'->WR G'->G'.pi=G.pi->G'.h=G.h.set b (.iG g 1 (putAt xs o l (mV (tc ks))))->R (.returned (.slice (some ⟨L.B,L.base+o*1,none⟩) (Lib.compact ks).length cap')) G'.w) :
  Calls P f #[.slice (some ⟨L.B,L.base+o*1,none⟩) l cap'] G.w R:=by
 obtain ⟨hlen,hH⟩:=CB hW hget hle hks hp
 rw [<- hlen]
 refine (h1 L.B (L.base+o*1) cap' ks G.w hH (by omega) (by omega)).mono ?_
 rintro e' w' ⟨rfl,n,rfl⟩
 obtain ⟨T',S1,W1⟩:=FX hW hget hle hp (tc ks) (by rw [KC,hlen]) n #[]
 rw [grow_empty] at S1 W1
 exact hR _ S1 W1 rfl rfl
def pB (shd:Bool) (args:List AV) (h:aT):R2:=match args with
 | [.sl [] c]=>some (.sl [] c,h)
 | [.hs b g o l]=>match l with
   | 0=>some (.hs b g o 0,h)
   | k+1=>match shd with
     | false=>none
     | true=>match h.get b with
       | some (.iG g' z xs)=>match Nat.beq g g'&&(Nat.beq z 1&&(Nat.ble (o+(k+1)) xs.length&&Nat.ble (k+1) 1000000)) with
         | true=>match pX ((xs.drop o).take (k+1)) with
           | some ks=>some (.hs b g o (Lib.compact ks).length,h.set b (.iG g' z (putAt xs o (k+1) (mV (tc ks)))))
           | none=>none
         | false=>none
       | _=>none
 | _=>none
def ET:∀ (args:List AV) (h:aT) (v:AV) (h':aT),pB false args h=some (v,h')->h'=h/\∀ h2:aT,(∀ b o,h.get b=some o->h2.get b=some o)->pB false args h2=some (v,h2):=by
 intro args h v h' hc
 unfold pB at hc
 split at hc
 ·cases hc; exact ⟨rfl,λ_ _=>rfl⟩
 ·split at hc
  ·cases hc; exact ⟨rfl,λ_ _=>rfl⟩
  ·cases hc
 ·cases hc
theorem FC {P : Program} {f : Nat} (hex : ∃ fn, P.funcs[f]? = some fn ∧ fn.body.isNone = false ∧ (fn.name == "runtime.NumGoroutine") = false)
  (h1:∀ (iG off cap:Nat) (zs:List Int) (w:World),Holds (Value.int .i64) w iG off zs.toArray->zs.length<=9223372036854775807->zs.length<=cap ->
    Calls P f #[.slice (some ⟨iG,off,none⟩) zs.length cap] w λe w'=>e=.returned (.slice (some ⟨iG,off,none⟩) (Lib.compact zs).length cap)/\∃ q,w'=putRow (Value.int .i64) (Sort.ahead w q) iG off (Lib.compact zs++List.replicate (zs.length - (Lib.compact zs).length) 0).toArray)
  (h0:∀ (p:Option Addr) (cap:Nat) (w:World),Calls P f #[.slice p 0 cap] w λe w'=>e=.returned (.slice p 0 cap)/\w'=w):nF P f pB where
 call:=by
  intro shd args h v h' hc G args' hG hlo hL hW hl hr
  refine ⟨hex,?_⟩
  intro R hR
  subst hG
  have one:∀ x:AV,args=[x]->∃ y,args' = #[y]/\VC G x y:=by
   rintro x rfl
   cases args' with | mk l =>
   cases l with
   | nil=>simp at hl
   | cons y l =>
     cases l with
     | nil=>exact ⟨y,rfl,hr 0 x y rfl rfl⟩
     | cons _ _=>simp at hl
  unfold pB at hc
  split at hc
  ·obtain ⟨y,rfl,hy⟩:=one _ rfl
   cases hc
   have hv:=hy.vr
   cases hv with
   | jn hi hp =>
     have key:∃ p cap,y=.slice p 0 cap:=by cases hp<;>exact ⟨_,_,rfl⟩
     obtain ⟨p,cap,rfl⟩:=key
     refine (h0 _ _ G.w).mono ?_
     rintro e w' ⟨rfl,rfl⟩
     exact hR _ _ (Step.refl G) hW (λm=>rfl) (λm L=>VR.jJ (.jn hi hp) rfl)
  ·obtain ⟨y,rfl,hy⟩:=one _ rfl
   rename_i b g o l
   have hv:=hy.vr
   split at hc
   ·cases hc
    have key:∃ p cap,y=.slice p 0 cap:=by
     cases hv with
     | jn hi _=>cases hi
     | hs=>exact ⟨_,_,rfl⟩
    obtain ⟨p,cap,rfl⟩:=key
    refine (h0 _ _ G.w).mono ?_
    rintro e w' ⟨rfl,rfl⟩
    exact hR _ _ (Step.refl G) hW (λm=>rfl) (λm L=>VR.jJ hv rfl)
   ·rename_i k
    split at hc
    ·cases hc
    ·split at hc
     ·rename_i g' z xs hget
      split at hc
      ·rename_i hq
       simp only [Bool.and_eq_true,Nat.ble_eq] at hq
       obtain ⟨q1,q2,q3,q5⟩:=hq
       obtain rfl:=Nat.eq_of_beq_eq_true q1
       obtain rfl:=Nat.eq_of_beq_eq_true q2
       split at hc
       ·rename_i ks hks
        cases hc
        have hlen:=(wD hks)
        have hlen:ks.length=k+1:=by
         have:=congrArg List.length hlen
         simp only [mV,List.length_map,List.length_take,List.length_drop] at this
         omega
        have hcl:=Lib.compact_length_le ks
        cases hv with
        | jn hi _=>cases hi
        | hs _ _ _ _ a cap' hb hg hle hh =>
        obtain ⟨L,hp,hcap,ha⟩:=hh _ _ hget
        rw [ha (by omega)]
        refine KJ h1 hW hget q3 q5 hks hp hle (λG' S W epi e=>hR _ _ S W (λm=>by rw [e]) (λm L0=>VR.jJ ?_ rfl))
        refine .hs b g o _ _ cap' (by rw [e]; simpa using hb) ?_ (by omega) ?_
        ·intro g0 z xs' hx
         rw [e,aT.lg] at hx
         split at hx
         ·cases hx; exact Nat.le_refl _
         ·exact hg _ _ _ hx
        ·intro z xs' hx
         rw [e,aT.lg] at hx
         split at hx
         ·cases hx
          exact ⟨L,by rw [epi]; exact hp,hcap,λ_=>rfl⟩
         ·rename_i hne
          exact (hne ⟨rfl,aT.mR hget⟩).elim
       ·cases hc
      ·cases hc
     ·cases hc
  ·cases hc
 A5:=ET
def E8:∀ (args:List AV) (h:aT) (v:AV) (h':aT),pj false args h=some (v,h')->h'=h/\∀ h2:aT,(∀ b o,h.get b=some o->h2.get b=some o)->pj false args h2=some (v,h2):=by
 intro args h v h' hc
 unfold pj at hc
 split at hc
 ·cases hc; exact ⟨rfl,λ_ _=>rfl⟩
 ·split at hc
  ·cases hc; exact ⟨rfl,λ_ _=>rfl⟩
  ·cases hc
 ·cases hc
theorem Fx {P : Program} {f : Nat} (hex : ∃ fn, P.funcs[f]? = some fn ∧ fn.body.isNone = false ∧ (fn.name == "runtime.NumGoroutine") = false)
  (h1:∀ (iG off cap:Nat) (zs:List Int) (w:World),Holds (Value.int .i64) w iG off zs.toArray->iG<w.heap.size->zs.length<4611686018427387904 ->
    Calls P f #[.slice (some ⟨iG,off,none⟩) zs.length cap] w λe w'=>e=.returned (.tuple #[])/\∃ n os,w'=grow (putRow (Value.int .i64) (Sort.ahead w n) iG off (zs.mergeSort λx y=>decide (x<=y)).toArray) os)
  (h0:∀ (p:Option Addr) (cap:Nat) (w:World),Calls P f #[.slice p 0 cap] w λe w'=>e=.returned (.tuple #[])/\w'=w):nF P f pj where
 call:=by
  intro shd args h v h' hc G args' hG hlo hL hW hl hr
  refine ⟨hex,?_⟩
  intro R hR
  subst hG
  have one:∀ x:AV,args=[x]->∃ y,args' = #[y]/\VC G x y:=by
   rintro x rfl
   cases args' with | mk l =>
   cases l with
   | nil=>simp at hl
   | cons y l =>
     cases l with
     | nil=>exact ⟨y,rfl,hr 0 x y rfl rfl⟩
     | cons _ _=>simp at hl
  unfold pj at hc
  split at hc
  ·obtain ⟨y,rfl,hy⟩:=one _ rfl
   cases hc
   have hv:=hy.vr
   cases hv with
   | jn _ hp =>
     have key:∃ p cap,y=.slice p 0 cap:=by cases hp<;>exact ⟨_,_,rfl⟩
     obtain ⟨p,cap,rfl⟩:=key
     refine (h0 _ _ G.w).mono ?_
     rintro e w' ⟨rfl,rfl⟩
     exact hR _ _ (Step.refl G) hW (λm=>rfl) (λm L=>.je [] #[] rfl (by simp))
  ·obtain ⟨y,rfl,hy⟩:=one _ rfl
   rename_i b g o l
   have hv:=hy.vr
   cases hv with
   | jn hi _=>cases hi
   | hs _ _ _ _ a cap' hb hg hle hh =>
   split at hc
   ·cases hc
    refine (h0 _ _ G.w).mono ?_
    rintro e w' ⟨rfl,rfl⟩
    exact hR _ _ (Step.refl G) hW (λm=>rfl) (λm L=>.je [] #[] rfl (by simp))
   ·rename_i k
    split at hc
    ·cases hc
    ·split at hc
     ·rename_i g' z xs hget
      split at hc
      ·rename_i hq
       simp only [Bool.and_eq_true,Nat.ble_eq] at hq
       obtain ⟨q1,q2,q3,q5⟩:=hq
       obtain rfl:=Nat.eq_of_beq_eq_true q1
       obtain rfl:=Nat.eq_of_beq_eq_true q2
       split at hc
       ·rename_i ks hks
        cases hc
        obtain ⟨L,hp,hcap,ha⟩:=hh _ _ hget
        rw [ha (by omega)]
        exact KW h1 hW hget q3 q5 hks hp (λG' S W e=>hR _ _ S W (λm=>by rw [e]) (λm L=>.je [] #[] rfl (by simp)))
       ·cases hc
      ·cases hc
     ·cases hc
  ·cases hc
 A5:=E8
end Go.Sx
namespace Go.Sx
open Go Go.Proofs
theorem z6:∀ {l:List Int},(∀ x∈l,mf x)->pX (l.map iP)=some l
 | [],_=>rfl
 | x::l,h=>by
   have h1:Av (iP x)=some x:=by
    have:=h x (by simp)
    simp only [Av,iP,B0]
    exact if_pos (by unfold mf at this; omega)
   simp only [List.map_cons,pX,h1,z6 (λy hy=>h y (List.mem_cons_of_mem _ hy))]
def L4 {C:jH} {F0:kP} {Pr:kx} {f:Nat} (hp:Pr f=some pj) {H:aT} {t:Bool} {v:AV} {l:List Int} {F:List jL} (hS:Sep H (.sl true t v 1 (l.map iP)::F)) (q1:l.length<=1000000) (q2:∀ x∈l,mf x) :
  ∃ u H',jf C F0 Pr true f [v] { H with iq:=[] } u H'/\u=.je []/\Sep H' (.sl true t v 1 ((jG l).map iP)::F):=by
 have qY:(jG l).length=l.length:=(mi l).length_eq
 have hcall:∀ (H':aT),pj true [v] { H with iq:=[] }=some (.je [],H')->jf C F0 Pr true f [v] { H with iq:=[] } (.je []) H':=by
  intro H' h
  refine ⟨1,λk hk=>?_⟩
  cases k with
  | zero=>omega
  | succ k=>simp only [lT,hp]; rw [h]
 obtain ⟨hxl,hc⟩:=hS.at (i:=0) rfl
 have nil:l=[]->pj true [v] { H with iq:=[] }=some (.je [],{ H with iq:=[] })->∃ u H',jf C F0 Pr true f [v] { H with iq:=[] } u H'/\u=.je []/\Sep H' (.sl true t v 1 ((jG l).map iP)::F):=by
  rintro rfl h
  exact ⟨_,_,hcall _ h,rfl,hS.iq _⟩
 rcases hc with ⟨h0,rfl⟩ | ⟨h0 | h0,rfl⟩ | ⟨b,g,j,hb,rfl,hg,htj⟩
 ·exact nil (List.map_eq_nil_iff.mp h0) rfl
 ·cases h0
 ·have:=List.map_eq_nil_iff.mp h0
  subst this
  exact nil rfl rfl
 ·cases hl:l with
  | nil=>subst hl; exact nil rfl rfl
  | cons x t' =>
    have hlen:(l.map iP).length=t'.length+1:=by rw [hl]; simp
    have hlob:H.lo<=b:=aT.mR hg
    have hr:pj true [.hs b g 0 (l.map iP).length] { H with iq:=[] }=some (.je [],{ H.set b (.iG g 1 ((jG l).map iP++j)) with iq:=[] }):=by
     rw [hlen]
     have hk:pX (((l.map iP++j).drop 0).take (t'.length+1))=some l:=by
      rw [List.drop_zero,<- hlen,List.take_left]
      exact z6 q2
     have hb2:(Nat.ble (0+(t'.length+1)) (l.map iP++j).length&&Nat.ble (t'.length+1) 1000000)=true:=by
      rw [Bool.and_eq_true,Nat.ble_eq,Nat.ble_eq,List.length_append,<- hlen]
      rw [List.length_map] at hlen ⊢
      omega
     have hput:putAt (l.map iP++j) 0 (t'.length+1) (mV (jG l))=(jG l).map iP++j:=by
      unfold putAt
      rw [Nat.zero_add,<- hlen,List.drop_left]
      rfl
     simp only [pj,aT.kR,hg,Nat.beq_refl,Bool.true_and,hb2,hk,hput,aT.oh]
    rw [<- hl]
    refine ⟨_,_,hcall _ hr,rfl,Sep.iq ?_ _⟩
    refine (hS.mD (i:=0) rfl (r':=.sl true t (.hs b g 0 (l.map iP).length) 1 ((jG l).map iP)) (by simpa using hS.lo) (by simp) ⟨?_,.inr (.inr ⟨b,g,j,by simp_all,by simp [qY],?_,htj⟩)⟩ ?_ ?_)
    ·intro z hz
     obtain ⟨y,_,rfl⟩:=List.mem_map.mp hz; rfl
    ·grind [aT.lg]
    ·intro b' hb' hne; rw [aT.lg,if_neg (by rintro ⟨rfl,_⟩; exact hne rfl)]
    ·intro b' hb'; exact .inl hb'
def LL {C:jH} {F0:kP} {Pr:kx} {f:Nat} (hp:Pr f=some pB) {H:aT} {t:Bool} {v:AV} {l:List Int} {F:List jL} (hS:Sep H (.sl true t v 1 (l.map iP)::F)) (q1:l.length<=1000000) (q2:∀ x∈l,mf x) :
  ∃ u H',jf C F0 Pr true f [v] { H with iq:=[] } u H'/\Sep H' (.sl true false u 1 ((Lib.compact l).map iP)::F):=by
 have hcl:=Lib.compact_length_le l
 have hcall:∀ (u:AV) (H':aT),pB true [v] { H with iq:=[] }=some (u,H')->jf C F0 Pr true f [v] { H with iq:=[] } u H':=by
  intro u H' h
  refine ⟨1,λk hk=>?_⟩
  cases k with
  | zero=>omega
  | succ k=>simp only [lT,hp]; rw [h]
 have hS0:Sep H (.sl true false v 1 (l.map iP)::F):=hS.vD (i:=0) rfl
 obtain ⟨hxl,hc⟩:=hS.at (i:=0) rfl
 have nil:l=[]->pB true [v] { H with iq:=[] }=some (v,{ H with iq:=[] })->∃ u H',jf C F0 Pr true f [v] { H with iq:=[] } u H'/\Sep H' (.sl true false u 1 ((Lib.compact l).map iP)::F):=by
  rintro rfl h
  exact ⟨_,_,hcall _ _ h,hS0.iq _⟩
 rcases hc with ⟨h0,rfl⟩ | ⟨h0 | h0,rfl⟩ | ⟨b,g,j,hb,rfl,hg,htj⟩
 ·exact nil (List.map_eq_nil_iff.mp h0) rfl
 ·cases h0
 ·have:=List.map_eq_nil_iff.mp h0
  subst this
  exact nil rfl rfl
 ·cases hl:l with
  | nil=>subst hl; exact nil rfl rfl
  | cons x t' =>
    have hlen:(l.map iP).length=t'.length+1:=by rw [hl]; simp
    have hlob:H.lo<=b:=aT.mR hg
    have hr:pB true [.hs b g 0 (l.map iP).length] { H with iq:=[] }=some (.hs b g 0 (Lib.compact l).length,{ H.set b (.iG g 1 ((tc l).map iP++j)) with iq:=[] }):=by
     rw [hlen]
     have hk:pX (((l.map iP++j).drop 0).take (t'.length+1))=some l:=by
      rw [List.drop_zero,<- hlen,List.take_left]
      exact z6 q2
     have hb2:(Nat.ble (0+(t'.length+1)) (l.map iP++j).length&&Nat.ble (t'.length+1) 1000000)=true:=by
      rw [Bool.and_eq_true,Nat.ble_eq,Nat.ble_eq,List.length_append,<- hlen]
      rw [List.length_map] at hlen ⊢
      omega
     have hput:putAt (l.map iP++j) 0 (t'.length+1) (mV (tc l))=(tc l).map iP++j:=by
      unfold putAt
      rw [Nat.zero_add,<- hlen,List.drop_left]
      rfl
     simp only [pB,aT.kR,hg,Nat.beq_refl,Bool.true_and,hb2,hk,hput,aT.oh]
    rw [<- hl]
    refine ⟨_,_,hcall _ _ hr,Sep.iq ?_ _⟩
    refine (hS.mD (i:=0) rfl (r':=.sl true false (.hs b g 0 (Lib.compact l).length) 1 ((Lib.compact l).map iP)) (by simpa using hS.lo) (by simp) ⟨?_,.inr (.inr ⟨b,g,(List.replicate (l.length - (Lib.compact l).length) 0).map iP++j,by simp_all,by simp,?_,λh=>by cases h⟩)⟩ ?_ ?_)
    ·intro z hz
     obtain ⟨y,_,rfl⟩:=List.mem_map.mp hz; rfl
    ·rw [aT.lg,if_pos ⟨rfl,hlob⟩,tc,List.map_append,List.append_assoc]
    ·intro b' hb' hne; rw [aT.lg,if_neg (by rintro ⟨rfl,_⟩; exact hne rfl)]
    ·intro b' hb'; exact .inl hb'
end Go.Sx
namespace Go.Sx
open Go Go.Proofs
def UM {d:Array Int} (h:∀ i j:Nat,i<=j->j<d.size->d[i]!<=d[j]!):∀ m:Nat,m<=d.size->mL (Lib.compactUpTo d m)/\(∀ x,x∈Lib.compactUpTo d m↔∃ i,i<m/\(d[i]!)=x)
 | 0,_=>⟨.nil,λx=>by simp [Lib.compactUpTo]⟩
 | m+1,hm=>by
   obtain ⟨h1,h2⟩:=UM h m (by omega)
   rw [Lib.compactUpTo_succ]
   by_cases hk:Lib.keeps d m=true
   ·rw [if_pos hk]
    refine ⟨?_,λx=>?_⟩
    ·refine List.pairwise_append.mpr ⟨h1,by simp,λa ha b hb=>?_⟩
     simp only [List.mem_singleton] at hb
     subst hb
     obtain ⟨i,hi,rfl⟩:=(h2 a).mp ha
     have h3:=h i (m - 1) (by omega) (by omega)
     have h4:=h (m - 1) m (by omega) (by omega)
     have h5:d[m]!≠d[m - 1]!:=by
      have:=of_decide_eq_true hk
      rcases this with rfl | h
      ·omega
      ·exact h
     omega
    ·simp only [List.mem_append,h2,List.mem_singleton]
     constructor
     ·rintro (⟨i,hi,rfl⟩ | rfl)
      ·exact ⟨i,by omega,rfl⟩
      ·exact ⟨m,by omega,rfl⟩
     ·rintro ⟨i,hi,rfl⟩
      rcases Nat.lt_or_ge i m with h | h
      ·exact .inl ⟨i,h,rfl⟩
      ·exact .inr (by rw [show i=m from by omega])
   ·rw [if_neg hk,List.append_nil]
    refine ⟨h1,λx=>(h2 x).trans ⟨λ⟨i,hi,e⟩=>⟨i,by omega,e⟩,?_⟩⟩
    rintro ⟨i,hi,rfl⟩
    rcases Nat.lt_or_ge i m with h | h
    ·exact ⟨i,h,rfl⟩
    ·obtain rfl:i=m:=by omega
     have h6:¬ (i=0\/d[i]!≠d[i - 1]!):=λhh=>hk (decide_eq_true hh)
     exact ⟨i - 1,by omega,by have:=λhne=>h6 (.inr hne); exact (Classical.byContradiction λhne=>this (λe=>hne e.symm))⟩
def FD {l:List Int} (h:l.Pairwise (·<=·)):mL (Lib.compact l)/\∀ x,x∈Lib.compact l↔x∈l:=by
 have hp:=List.pairwise_iff_getElem.mp h
 obtain ⟨h1,h2⟩:=UM (d:=l.toArray) (by
  intro i j hij hj
  have hj:j<l.length:=by simpa using hj
  rw [getElem!_pos _ i (by simp; omega),getElem!_pos _ j (by simpa using hj)]
  rcases Nat.lt_or_ge i j with h | h
  ·simpa using hp i j (by omega) hj h
  ·obtain rfl:i=j:=by omega
   exact Int.le_refl _) l.length (by simp)
 refine ⟨h1,λx=>(h2 x).trans ?_⟩
 constructor
 ·rintro ⟨i,hi,rfl⟩
  rw [getElem!_pos _ i (by simpa using hi)]
  simp
 ·intro hx
  obtain ⟨i,hi,rfl⟩:=List.mem_iff_getElem.mp hx
  exact ⟨i,hi,by rw [getElem!_pos _ i (by simpa using hi)]; simp⟩
def Nb (l:List Int):mL (Lib.compact (jG l))/\∀ x,x∈Lib.compact (jG l)↔x∈l:=by
 obtain ⟨h1,h2⟩:=FD (qC l)
 exact ⟨h1,λx=>(h2 x).trans (mi l).mem_iff⟩
end Go.Sx
namespace Go.Sx
open Go Go.Proofs
structure jz where
 iC:Row iL
 roads:Row Int
 steps:Row (Row Int)
 lj:Row (Row Int)
 done:Int
def jz.af (x:jz):List AV:=[x.iC.av iL.af,x.roads.av iP,x.steps.av (kp iP),x.lj.av (kp iP),.int .i64 x.done]
def pS (p:bS) (e:Int):Prop:=0<=e/\e<(p.elems.l.length:Int)
def sY (p:bS) (b:iL):Prop:=(∀ h∈b.dO.l,pS p h.elem)/\(¬ b.mode=2->¬ b.mode=4->∀ h∈b.dO.l,kr p h.elem=4)
def m3 (p:bS) (t:List iu) (y:Int):Prop:=∃ h∈t,h.elem=y/\kr p h.elem≠4
structure ue (t:jz):Prop where
 Dw:t.iC.l.length<=40
 Vy:t.steps.l.length<=60
 zon:t.lj.l.length<=60
 tra:∀ b∈t.iC.l,b.dO.l.length<=60
 row:∀ s∈t.steps.l,s.l.length<=60
 roz:∀ s∈t.lj.l,s.l.length<=60
structure uS (p:bS) (t:jz):Prop where
 pos:0<t.iC.l.length
 Vy:t.steps.l.length=t.iC.l.length
 zon:t.lj.l.length=t.iC.l.length
 roa:t.roads.l.length=t.iC.l.length
 Dw:∀ b∈t.iC.l,sY p b
 row:∀ s∈t.steps.l,∀ e∈s.l,pS p e
section
variable {p:bS} {b:iL} {t:List iu} {k:Nat} {x:iu} {n:Int} {l:List Bool} {y:Int}
def Cq {e:Int} (h:kr p e≠0):pS p e:=by
 by_cases h1:e<0\/e>=p.elems.l.length
 ·exact absurd (xw h1) h
 ·exact ⟨by omega,by omega⟩
def DN:y∈qj p t↔m3 p t y:=by
 unfold qj m3
 simp only [List.mem_map,List.mem_filter,decide_eq_true_eq]
 constructor
 ·rintro ⟨h,⟨h1,h2⟩,h3⟩; exact ⟨h,h1,h3,h2⟩
 ·rintro ⟨h,h1,h3,h2⟩; exact ⟨h,⟨h1,h2⟩,h3⟩
def Sa {r:List Int} (h:r=qj p (t.take k)) (q:∀ h∈t,pS p h.elem) (hp:p.elems.l.length<=1000):∀ x∈r,mf x:=by
 subst h
 intro y hy
 obtain ⟨h,h1,rfl,_⟩:=DN.mp hy
 have:=q h (List.mem_of_mem_take h1)
 unfold pS at this; unfold mf
 omega
def LU {r s:List Int} (h:s=jG r) (q:∀ x∈r,mf x):∀ x∈s,mf x:=by
 subst h
 exact λx hx=>q x ((mi r).mem_iff.mp hx)
def Li {r s:List Int} (h:s=jG r):s.length=r.length:=by rw [h]; exact (mi r).length_eq
def Lc {r1 r2 r3 r:List Int} (h1:r1=qj p (t.take k)) (hk:t.length<=k) (h2:r2=jG r1) (h3:r3=Lib.compact r2) (hr:r=r3):mL r/\∀ y,y∈r↔m3 p t y:=by
 subst hr
 rw [List.take_of_length_le hk] at h1
 subst h1 h2 h3
 obtain ⟨h4,h5⟩:=Nb (qj p t)
 exact ⟨h4,λy=>(h5 y).trans DN⟩
def PS:∀ y,mC (List.replicate 40 false) y↔m3 p (t.take 0) y:=λy=>⟨λh=>absurd h (Cu y),λ⟨h,h1,_⟩=>by simp at h1⟩
theorem so {α:Type} {t:List α} {x : α} {hk:k<t.length} (hq:t[k]=x) {y : α}:y∈t.take (k+1)↔y∈t.take k\/y=x:=by
 rw [List.take_add_one,List.getElem?_eq_getElem hk,hq,List.mem_append]; simp
def YC {hk:k<t.length} (hq:t[k]=x) (h:∀ y,mC l y↔m3 p (t.take k) y) (h0:0<=x.elem) (hx:x.elem.toNat<l.length) (hK:n=kr p x.elem) (hn:n≠4):∀ y,mC (l.set x.elem.toNat true) y↔m3 p (t.take (k+1)) y:=by
 intro y
 rw [E9 h0 hx,h y]
 constructor
 ·rintro (⟨z,h1,h2⟩ | rfl)
  ·exact ⟨z,(so hq).mpr (.inl h1),h2⟩
  ·exact ⟨x,(so hq).mpr (.inr rfl),rfl,hK▸hn⟩
 ·rintro ⟨z,h1,h2,h3⟩
  rcases (so hq).mp h1 with h1 | rfl
  ·exact .inl ⟨z,h1,h2,h3⟩
  ·exact .inr h2.symm
def Xg {hk:k<t.length} (hq:t[k]=x) (h:∀ y,mC l y↔m3 p (t.take k) y) (h0:0<=x.elem) (hx:x.elem.toNat<l.length) (hK:n=kr p x.elem) (hn:n=4):∀ y,mC (l.set x.elem.toNat false) y↔m3 p (t.take (k+1)) y:=by
 have hno:l[x.elem.toNat]=false:=by
  cases hb:l[x.elem.toNat] with
  | false=>rfl
  | true =>
    obtain ⟨z,_,h1,h2⟩:=(h x.elem).mp ((Mk h0 hb).mpr rfl)
    rw [h1] at h2
    exact absurd (hK.symm.trans hn) h2
 rw [KP hx hno]
 intro y
 rw [h y]
 constructor
 ·rintro ⟨z,h1,h2⟩; exact ⟨z,(so hq).mpr (.inl h1),h2⟩
 ·rintro ⟨z,h1,h2,h3⟩
  rcases (so hq).mp h1 with h1 | rfl
  ·exact ⟨z,h1,h2,h3⟩
  ·exact absurd (hK.symm.trans hn) h3
def R8 {o r:List Int} {m:Nat} (h:∀ y,mC l y↔m3 p (t.take k) y) (hk:t.length<=k) (hT:si l (λ_=>True) m o) (hm:l.length<=m) (hr:r=o):mL r/\∀ y,y∈r↔m3 p t y:=by
 subst hr
 rw [List.take_of_length_le hk] at h
 obtain ⟨h1,h2⟩:=BG hT hm
 exact ⟨h1,λy=>(h2 y).trans ⟨λhh=>(h y).mp hh.1,λhh=>⟨(h y).mpr hh,trivial⟩⟩⟩
def SA (q:sY p b) (h1:¬ b.mode=2) (h2:¬ b.mode=4):mL []/\∀ y,y∈([]:List Int)↔m3 p b.dO.l y :=
 ⟨.nil,λy=>⟨λh=>by simp at h,λ⟨z,hz,_,h3⟩=>absurd (q.2 h1 h2 z hz) h3⟩⟩
end
def pJ (p:bS) (t:jz) (R:List Int) (k:Nat) (y:Int):Prop:=∃ i∈R.take k,∃ b,t.iC.l[i.toNat]?=some b/\m3 p b.dO.l y
def rm (p:bS) (t:jz) (k y:Int):Prop :=
 0<=k/\((∃ b,t.iC.l[(min k ((t.iC.l.length:Int) - 1)).toNat]?=some b/\m3 p b.dO.l y)\/(∃ b,t.iC.l[(min (max (k - 1) 0) ((t.iC.l.length:Int) - 1)).toNat]?=some b/\m3 p b.dO.l y)\/(k<(t.iC.l.length:Int)/\∃ s,t.steps.l[k.toNat]?=some s/\y∈s.l))
def po (p:bS) (t:jz) (lo hi y:Int):Prop:=∃ j,lo<=j/\j<hi/\0<=j/\∃ b,t.iC.l[(min j ((t.iC.l.length:Int) - 1)).toNat]?=some b/\m3 p b.dO.l y
def SZ {p:bS} {b:iL} {x:iu} {n:Int} {h0:0<b.dO.l.length} (hq:b.dO.l[0]=x) (hK:n=kr p x.elem) (hn:n=4) (hl:b.dO.l.length=1):sY p b:=by
 have h:∀ h∈b.dO.l,h=x:=by
  obtain ⟨y,hy⟩:=List.length_eq_one_iff.mp hl
  simp only [hy,List.getElem_cons_zero] at hq
  subst hq
  intro h hh
  rw [hy] at hh
  exact List.mem_singleton.mp hh
 have hk:kr p x.elem=4:=by omega
 exact ⟨λz hz=>by rw [h z hz]; exact Cq (by omega),λ_ _ z hz=>by rw [h z hz]; exact hk⟩
def Vm {p:bS} {b:iL} (hl:b.dO.l.length=0):sY p b:=by
 have h:=List.eq_nil_of_length_eq_zero hl
 exact ⟨λz hz=>(by rw [h] at hz; simp at hz),λ_ _ z hz=>by rw [h] at hz; simp at hz⟩
def UK {p:bS} {b:iL} (h:∀ x∈b.dO.l,pS p x.elem) (hm:b.mode=2\/b.mode=4):sY p b:=⟨h,λh1 h2=>by omega⟩
def KT {t:jz} {k m:Nat} (h1:t.iC.l.length<=40) (h2:t.steps.l.length<=60) (h3:t.lj.l.length<=60) (h4:∀ (i:Nat) (h:i<t.iC.l.length),i<k->(t.iC.l[i]).dO.l.length<=60) (hk:t.iC.l.length<=k)
  (h5:∀ (i:Nat) (h:i<(([]++t.steps.l)++t.lj.l).length),i<m->((([]++t.steps.l)++t.lj.l)[i]).l.length<=60) (hm:(([]++t.steps.l)++t.lj.l).length<=m):ue t:=by
 have h6:=lu (P:=λb:Row Int=>b.l.length<=60) h5 hm
 exact ⟨h1,h2,h3,lu h4 hk,λs hs=>h6 s (by simp [hs]),λs hs=>h6 s (by simp [hs])⟩
def Uo {p:bS} {x y:List Int} {k:Nat} (h:∀ (i:Nat) (h:i<(([]++x)++y).length),i<k->pS p ((([]++x)++y)[i])) (hk:(([]++x)++y).length<=k):∀ e∈x,pS p e:=by
 have h6:=lu (P:=pS p) h hk
 exact λe he=>h6 e (by simp [he])
def Mv {p:bS} {t:jz} {k:Nat} (h1:0<t.iC.l.length) (h2:t.roads.l.length=t.iC.l.length) (h3:t.steps.l.length=t.iC.l.length) (h4:t.lj.l.length=t.iC.l.length) (h5:∀ (i:Nat) (h:i<t.iC.l.length),i<k->sY p t.iC.l[i]) (hk:t.iC.l.length<=k)
  (h6:∀ (i:Nat) (h:i<t.steps.l.length),i<k->∀ e∈(t.steps.l[i]).l,pS p e):uS p t :=
 ⟨h1,h3,h4,h2,lu h5 hk,lu (P:=λs:Row Int=>∀ e∈s.l,pS p e) h6 (by omega)⟩
def aee {r:Row Int} {a b x:Int} {k:Nat} {h:k<r.l.length} (hq:r.l[k]=x) (hr:r.l=[a,b]):(k=0/\x=a)\/(k=1/\x=b):=by
 have h2:r.l[k]?=some x:=by rw [List.getElem?_eq_getElem h,hq]
 rw [hr] at h2
 match k,h2 with
 | 0,h2=>exact .inl ⟨rfl,by simpa using h2.symm⟩
 | 1,h2=>exact .inr ⟨rfl,by simpa using h2.symm⟩
 | k+2,h2=>simp at h2
section
variable {p:bS} {t:jz} {R:List Int} {k j m m':Nat} {x a b c n:Int} {l:List Bool} {bd:iL} {r o:List Int} {y:Int}
def SX:∀ y,mC (List.replicate 40 false) y↔pJ p t R 0 y:=λy=>⟨λh=>absurd h (Cu y),λ⟨i,h1,_⟩=>by simp at h1⟩
def F2 (h:∀ y,mC l y↔pJ p t R k y):∀ y,mC l y↔pJ p t R k y\/y∈r.take 0:=λy=>(h y).trans ⟨.inl,λh=>h.elim id λh=>by simp at h⟩
def Ka {hk:j<r.length} (hq:r[j]=x) (h:∀ y,mC l y↔pJ p t R k y\/y∈r.take j) (h0:0<=x) (hx:x.toNat<l.length):∀ y,mC (l.set x.toNat true) y↔pJ p t R k y\/y∈r.take (j+1):=by
 intro y
 rw [E9 h0 hx,h y,so hq,or_assoc]
def JI (h:∀ y,mC l y↔pJ p t R k y\/y∈r.take j) (hj:r.length<=j) (hR:R[k]?=some x) {hx:x.toNat<t.iC.l.length} (hb:t.iC.l[x.toNat]=bd) (hL:mL r/\∀ y,y∈r↔m3 p bd.dO.l y):∀ y,mC l y↔pJ p t R (k+1) y:=by
 intro y
 rw [h y,List.take_of_length_le hj,hL.2 y]
 have hbq:t.iC.l[x.toNat]?=some bd:=by rw [List.getElem?_eq_getElem hx,hb]
 have hk:k<R.length:=(List.getElem?_eq_some_iff.mp hR).1
 have hq:R[k]=x:=(List.getElem?_eq_some_iff.mp hR).2
 unfold pJ
 constructor
 ·rintro (⟨i,h1,h2⟩ | h1)
  ·exact ⟨i,(so hq).mpr (.inl h1),h2⟩
  ·exact ⟨x,(so hq).mpr (.inr rfl),bd,hbq,h1⟩
 ·rintro ⟨i,h1,b,h2,h3⟩
  rcases (so hq).mp h1 with h1 | rfl
  ·exact .inl ⟨i,h1,b,h2,h3⟩
  ·rw [hbq] at h2; cases h2; exact .inr h3
def U6 (h:(k=0/\x=a)\/(k=1/\x=b)):([a,b]:List Int)[k]?=some x:=by
 rcases h with ⟨rfl,rfl⟩ | ⟨rfl,rfl⟩<;>rfl
theorem Dk (hj:2<=j):pJ p t [a,b] j y↔(∃ bd,t.iC.l[a.toNat]?=some bd/\m3 p bd.dO.l y)\/(∃ bd,t.iC.l[b.toNat]?=some bd/\m3 p bd.dO.l y):=by
 unfold pJ
 rw [List.take_of_length_le (by simpa using hj)]
 simp
def Ku (hL:mL r/\∀ y,y∈r↔m3 p bd.dO.l y) (hm:sY p bd):∀ y∈r,pS p y:=by
 intro y hy
 obtain ⟨z,hz,rfl,_⟩:=(hL.2 y).mp hy
 exact hm.1 z hz
def RU (h:n<0):mL []/\∀ y,y∈([]:List Int)↔rm p t n y:=⟨.nil,λy=>⟨λh=>by simp at h,λh2=>by have:=h2.1; omega⟩⟩
def Lb {s:Row Int} (h0:¬ n<0) (hlt:n<(t.iC.l.length:Int)) (ha:a=min n ((t.iC.l.length:Int) - 1)) (hc:c=max (n - 1) 0) (hb:b=min c ((t.iC.l.length:Int) - 1)) {hx:n.toNat<t.steps.l.length} (hs:t.steps.l[n.toNat]=s)
  (h:∀ y,mC l y↔pJ p t [a,b] 2 y\/y∈s.l.take j) (hj:s.l.length<=j) (hT:si l (λ_=>True) m' o) (hm:l.length<=m') {ro:List Int} (hr:ro=o):mL ro/\∀ y,y∈ro↔rm p t n y:=by
 subst hr
 obtain ⟨h1,h2⟩:=BG hT hm
 refine ⟨h1,λy=>?_⟩
 have hsq:t.steps.l[n.toNat]?=some s:=by rw [List.getElem?_eq_getElem hx,hs]
 rw [h2 y,h y,Dk (Nat.le_refl _),List.take_of_length_le hj]
 unfold rm
 rw [ha,hb,hc,hsq,or_assoc]
 constructor
 ·rintro ⟨h3,_⟩
  exact ⟨by omega,h3.imp id (Or.imp id λh4=>⟨hlt,s,rfl,h4⟩)⟩
 ·rintro ⟨_,h3⟩
  exact ⟨h3.imp id (Or.imp id λ⟨_,s',h4,h5⟩=>by cases h4; exact h5),trivial⟩
def Xd (h:∀ y,mC l y↔pJ p t R k y) (h1:k<=2) (h2:2<=k):∀ y,mC l y↔pJ p t R 2 y:=by
 obtain rfl:k=2:=by omega
 exact h
def LI (h0:¬ n<0) (hge:¬ n<(t.iC.l.length:Int)) (ha:a=min n ((t.iC.l.length:Int) - 1)) (hc:c=max (n - 1) 0) (hb:b=min c ((t.iC.l.length:Int) - 1))
  (h:∀ y,mC l y↔pJ p t [a,b] j y) (hj:2<=j) (hT:si l (λ_=>True) m' o) (hm:l.length<=m') {ro:List Int} (hr:ro=o):mL ro/\∀ y,y∈ro↔rm p t n y:=by
 subst hr
 obtain ⟨h1,h2⟩:=BG hT hm
 refine ⟨h1,λy=>?_⟩
 rw [h2 y,h y,Dk hj]
 unfold rm
 rw [ha,hb,hc]
 constructor
 ·rintro ⟨h3,_⟩
  exact ⟨by omega,h3.imp id .inl⟩
 ·rintro ⟨_,h3⟩
  exact ⟨h3.imp id λh4=>h4.elim id λ⟨h5,_⟩=>absurd h5 hge,trivial⟩
end
def K0 {r s:List Int} (h:s=Lib.compact r):s.length<=r.length:=by rw [h]; exact Lib.compact_length_le r
section
variable {p:bS} {t:jz} {k lo hi n pl x:Int} {j:Nat} {m:List (Int×Bool)} {bd:iL} {r:List Int} {L:Int->Prop}
def ZR {mm:Int} (he:mm=min n ((t.iC.l.length:Int) - 1)) {hx:mm.toNat<t.iC.l.length} (hq:t.iC.l[mm.toNat]=bd):t.iC.l[(min n ((t.iC.l.length:Int) - 1)).toNat]?=some bd:=by
 rw [<- he,List.getElem?_eq_getElem hx,hq]
def SE:∀ y,pa [] y↔po p t lo lo y:=λy=>⟨λh=>absurd h Gl,λ⟨j,h1,h2,_⟩=>by omega⟩
def zI (h:∀ y,pa m y↔L y):∀ y,pa m y↔L y\/y∈r.take 0:=λy=>(h y).trans ⟨.inl,λh=>h.elim id λh=>by simp at h⟩
def BI {hk:j<r.length} (hq:r[j]=x) (h:∀ y,pa m y↔L y\/y∈r.take j):∀ y,pa (put x true m) y↔L y\/y∈r.take (j+1):=by
 intro y
 rw [RT,h y,so hq]
 constructor
 ·rintro (rfl | h1 | h1)
  ·exact .inr (.inr rfl)
  ·exact .inl h1
  ·exact .inr (.inl h1)
 ·rintro (h1 | h1 | rfl)
  ·exact .inr (.inl h1)
  ·exact .inr (.inr h1)
  ·exact .inl rfl
def GU (h:∀ y,pa m y↔po p t lo k y\/y∈r.take j) (hj:r.length<=j) (h0:0<=k) (hl:lo<=k) (hb:t.iC.l[(min k ((t.iC.l.length:Int) - 1)).toNat]?=some bd) (hL:mL r/\∀ y,y∈r↔m3 p bd.dO.l y):∀ y,pa m y↔po p t lo (k+1) y:=by
 intro y
 rw [h y,List.take_of_length_le hj,hL.2 y]
 constructor
 ·rintro (⟨i,h1,h2,h3⟩ | h1)
  ·exact ⟨i,h1,by omega,h3⟩
  ·exact ⟨k,hl,by omega,h0,bd,hb,h1⟩
 ·rintro ⟨i,h1,h2,h3,b,h4,h5⟩
  by_cases hik:i<k
  ·exact .inl ⟨i,h1,hik,h3,b,h4,h5⟩
  ·obtain rfl:i=k:=by omega
   rw [hb] at h4; cases h4; exact .inr h5
def GQ (h:∀ y,pa m y↔po p t lo k y) (hn:k<0\/t.iC.l.length=0) (hp:0<t.iC.l.length):∀ y,pa m y↔po p t lo (k+1) y:=by
 intro y
 rw [h y]
 constructor
 ·rintro ⟨i,h1,h2,h3⟩; exact ⟨i,h1,by omega,h3⟩
 ·rintro ⟨i,h1,h2,h3,h4⟩; exact ⟨i,h1,by omega,h3,h4⟩
def Aa {s q:List Int} (hNd:lR m) (hs:s=jG (m.map Prod.fst)) (hr:q=s):mL q/\∀ y,y∈q↔pa m y:=by
 subst hr hs
 exact ⟨JB hNd,λy=>(mi _).mem_iff.trans (Sr hNd).symm⟩
theorem CE {y:Int} (hn:0<=n) (hp:0<t.iC.l.length) (hpl:pl=min n (t.iC.l.length:Int)):po p t (pl - 1) (pl+1) y↔(∃ b,t.iC.l[(min n ((t.iC.l.length:Int) - 1)).toNat]?=some b/\m3 p b.dO.l y)\/(∃ b,t.iC.l[(min (max (n - 1) 0) ((t.iC.l.length:Int) - 1)).toNat]?=some b/\m3 p b.dO.l y):=by
 constructor
 ·rintro ⟨i,h1,h2,h3,b,h4,h5⟩
  by_cases hi:i=pl
  ·rw [show (min i ((t.iC.l.length:Int) - 1)).toNat=(min n ((t.iC.l.length:Int) - 1)).toNat by omega] at h4
   exact .inl ⟨b,h4,h5⟩
  ·rw [show (min i ((t.iC.l.length:Int) - 1)).toNat=(min (max (n - 1) 0) ((t.iC.l.length:Int) - 1)).toNat by omega] at h4
   exact .inr ⟨b,h4,h5⟩
 ·rintro (⟨b,h4,h5⟩ | ⟨b,h4,h5⟩)
  ·exact ⟨pl,by omega,by omega,by omega,b,by rw [show (min pl ((t.iC.l.length:Int) - 1)).toNat=(min n ((t.iC.l.length:Int) - 1)).toNat by omega]; exact h4,h5⟩
  ·by_cases hz:pl=0
   ·exact ⟨pl,by omega,by omega,by omega,b,by rw [show (min pl ((t.iC.l.length:Int) - 1)).toNat=(min (max (n - 1) 0) ((t.iC.l.length:Int) - 1)).toNat by omega]; exact h4,h5⟩
   ·exact ⟨pl - 1,by omega,by omega,by omega,b,by rw [show (min (pl - 1) ((t.iC.l.length:Int) - 1)).toNat=(min (max (n - 1) 0) ((t.iC.l.length:Int) - 1)).toNat by omega]; exact h4,h5⟩
def Vi {s q:List Int} {w:Row Int} (hNd:lR m) (hs:s=jG (m.map Prod.fst)) (hr:q=s) (hp:0<t.iC.l.length) (hpl:pl=min n (t.iC.l.length:Int)) (h0:0<=pl) (hlt:pl<(t.iC.l.length:Int)) {hx:pl.toNat<t.steps.l.length} (hw:t.steps.l[pl.toNat]=w)
  (h:∀ y,pa m y↔po p t (pl - 1) (pl+1) y\/y∈w.l.take j) (hj:w.l.length<=j):mL q/\∀ y,y∈q↔rm p t n y:=by
 obtain ⟨h1,h2⟩:=Aa hNd hs hr
 refine ⟨h1,λy=>?_⟩
 have hnp:n=pl:=by omega
 have hwq:t.steps.l[n.toNat]?=some w:=by rw [hnp,List.getElem?_eq_getElem hx,hw]
 rw [h2 y,h y,List.take_of_length_le hj,CE (by omega) hp hpl]
 unfold rm
 rw [hwq,or_assoc]
 constructor
 ·intro h3
  exact ⟨by omega,h3.imp id (Or.imp id λh4=>⟨by omega,w,rfl,h4⟩)⟩
 ·rintro ⟨_,h3⟩
  exact h3.imp id (Or.imp id λ⟨_,s',h4,h5⟩=>by cases h4; exact h5)
def TT {s q:List Int} (hNd:lR m) (hs:s=jG (m.map Prod.fst)) (hr:q=s) (hp:0<t.iC.l.length) (hpl:pl=min n (t.iC.l.length:Int)) (h0:0<=pl) (hge:¬ pl<(t.iC.l.length:Int))
  (h:∀ y,pa m y↔po p t (pl - 1) hi y) (hh:hi=pl+1):mL q/\∀ y,y∈q↔rm p t n y:=by
 obtain ⟨h1,h2⟩:=Aa hNd hs hr
 refine ⟨h1,λy=>?_⟩
 subst hh
 rw [h2 y,h y,CE (by omega) hp hpl]
 unfold rm
 constructor
 ·intro h3
  exact ⟨by omega,h3.imp id .inl⟩
 ·rintro ⟨_,h3⟩
  exact h3.imp id λh4=>h4.elim id λ⟨h5,_⟩=>absurd h5 (by omega)
def Um {s q:List Int} (hNd:lR m) (hs:s=jG (m.map Prod.fst)) (hr:q=s) (h0:n<0) (hm:m.length=0):mL q/\∀ y,y∈q↔rm p t n y:=by
 obtain ⟨h1,h2⟩:=Aa hNd hs hr
 refine ⟨h1,λy=>?_⟩
 have:=List.eq_nil_of_length_eq_zero hm
 subst this
 rw [h2 y]
 exact ⟨λh=>absurd h Gl,λh=>by have:=h.1; omega⟩
theorem BH {m:Int} (h:0<=m) (h2:m<=1000000):IntKind.i64.wrap (m - (1))=m - 1:=vE _ (by omega) (by omega)
def NN (h:∀ y,pa m y↔po p t lo hi y) (hh:hi=pl):∀ y,pa m y↔po p t lo pl y:=hh▸h
def BU {e:Int} (h:pS p e) (hp:p.elems.l.length<=1000):mf e:=by unfold pS at h; unfold mf; omega
end
def T9 {p:bS} {b:iL} (h:0<b.dO.l.length/\∀ x∈b.dO.l,pS p x.elem) (hm:b.mode=2\/b.mode=4):sY p b:=UK h.2 hm
end Go.Sx
namespace Go.Sx
open Go
def mU (P:Program) (N:Nat) (G0:Ga) (c:Code) (e:Env) (h:aT) (x:Ex) (e':Env) (h':aT):Prop :=
 ∀ (G:Ga) (a:Act) (Q:Exit->Act->World->Prop),G.h=h->St N G0 G e a->(∀ G' a',G'.h=h'->St N G0 G' e' a'->Q (Ae x) a' G'.w)->c.wp P Q a G.w
def By:Tr jU->(Nat->Nat)->aT->Bool
 | .leaf,_,_=>true
 | .node l v r,f,h=>(match v with
   | some (.iG g z xs)=>match h.get (f 0) with
     | some (.iG g' z' xs')=>Nat.beq g g'&&Nat.beq z z'&&mB (mB (lZ 12)) xs xs'
     | _=>false
   | some (.map es c)=>match h.get (f 0) with
     | some (.map es' c')=>Nat.beq c c'&&mB (λp q=>lZ 12 p.1 q.1&&lZ 12 p.2.1 q.2.1&&Nat.beq p.2.2 q.2.2) es es'
     | _=>false
   | none=>true)&&By l (λn=>f (2*n+1)) h&&By r (λn=>f (2*n+2)) h
def BF (h2 h1:aT):Bool:=Nat.beq h2.size h1.size&&Nat.beq h2.lo h1.lo&&Nat.beq h2.lo 0&&mB (λp q=>Nat.beq p.1 q.1&&mB (lZ 12) p.2 q.2) h2.iq h1.iq&&By h2.tr id h1
structure Sub (h2 h1:aT):Prop where
 size:h2.size=h1.size
 lo:h2.lo=h1.lo
 iq:h2.iq=h1.iq
 get:∀ b o,h2.get b=some o->h1.get b=some o
theorem yE:∀ (t:Tr jU) (f:Nat->Nat) (h:aT),By t f h=true->∀ (n:Nat) (o:jU),t.get n=some o->h.get (f n)=some o
 | .leaf,_,_,_,n,o,h=>by simp [Tr.get] at h
 | .node l v r,f,h,ha,n,o,hg=>by
   simp only [By,Bool.and_eq_true] at ha
   obtain ⟨⟨h1,h2⟩,h3⟩:=ha
   cases n with
   | zero =>
     simp only [Tr.get] at hg
     subst hg
     cases o with
     | iG g z xs =>
       simp only at h1
       split at h1
       ·rename_i g' z' xs' hget
        simp only [Bool.and_eq_true] at h1
        rw [hget,Nat.eq_of_beq_eq_true h1.1.1,Nat.eq_of_beq_eq_true h1.1.2,mO (λ_ _=>mO (oG 12) _ _) _ _ h1.2]
       ·cases h1
     | map es c =>
       simp only at h1
       split at h1
       ·rename_i es' c' hget
        simp only [Bool.and_eq_true] at h1
        have:es=es':=mO (λp q hpq=>by
         simp only [Bool.and_eq_true] at hpq
         exact Prod.ext (oG 12 _ _ hpq.1.1) (Prod.ext (oG 12 _ _ hpq.1.2) (Nat.eq_of_beq_eq_true hpq.2))) _ _ h1.2
        rw [hget,Nat.eq_of_beq_eq_true h1.1,this]
       ·cases h1
   | succ m =>
     simp only [Tr.get] at hg
     split at hg
     ·rename_i hm
      have hm:=Nat.eq_of_beq_eq_true hm
      have:=yE l _ h h2 (m / 2) o hg
      rw [show 2*(m / 2)+1=m+1 by omega] at this
      exact this
     ·rename_i hm
      have hm:m % 2≠0:=Nat.ne_of_beq_eq_false hm
      have:=yE r _ h h3 (m / 2) o hg
      rw [show 2*(m / 2)+2=m+1 by omega] at this
      exact this
def He {h2 h1:aT} (h:BF h2 h1=true):Sub h2 h1:=by
 simp only [BF,Bool.and_eq_true] at h
 obtain ⟨⟨⟨⟨a1,a2⟩,a3⟩,a4⟩,a5⟩:=h
 refine ⟨Nat.eq_of_beq_eq_true a1,Nat.eq_of_beq_eq_true a2,mO (λp q hpq=>by
  simp only [Bool.and_eq_true] at hpq
  exact Prod.ext (Nat.eq_of_beq_eq_true hpq.1) (mO (oG 12) _ _ hpq.2)) _ _ a4,?_⟩
 grind [aT.get,yE]
section
variable {P:Program} {X:Ctx} {N:Nat} {G0:Ga}
theorem St.drop {G:Ga} {e:Env} {a:Act} {h2:aT} (hS:St N G0 G e a) (hs:Sub h2 G.h) (h0:G0.h.size=0):St N G0 ⟨G.w,G.T,h2,G.pi,G.L⟩ e a:=by
 have E:Ext G ⟨G.w,G.T,h2,G.pi,G.L⟩:=⟨λ_ _ h=>h,λ_ _ _=>rfl,by rw [hs.size]; omega,λb _ g z xs h=>⟨g,z,xs,hs.get b _ h,Nat.le_refl _,λ_=>⟨rfl,λ_ h=>h⟩⟩,λb _ es c h=>⟨es,c,hs.get b _ h,λ_ h=>h⟩,λ_ _ h=>h⟩
 refine ⟨⟨?_,hS.fr.L⟩,?_,hS.er.mono E,hS.df,hS.sz⟩
 ·have S:=hS.fr.S
  refine ⟨⟨S.ext.T,S.ext.keep,by omega,λb hb=>by omega,λb hb=>by omega,S.ext.iq⟩,S.os,S.output,S.tape,S.kV,S.frame,S.mT,S.nr,S.rI,?_,λb hb=>by omega,S.qi,S.ri,S.sh⟩
  exact hs.lo.trans S.lo
 ·have W:=hS.wr
  refine ⟨λb l g z xs hp hg=>(W.iG b l g z xs hp (hs.get b _ hg)).mono E rfl,λb l es c hp hg=>(W.map b l es c hp (hs.get b _ hg)).mono E rfl,?_,?_,W.mG,W.p9,W.oc,W.LT,W.oM,?_,W.m0,?_,?_⟩
  ·intro d B cs hd hcs
   have hcs:jK h2.iq d=some cs:=hcs
   rw [hs.iq] at hcs
   exact (W.loc d B cs hd hcs).mono E rfl
  ·intro b l h
   refine ⟨(W.kD b l h).1,?_⟩
   show b<h2.size
   rw [hs.size]; exact (W.kD b l h).2
  ·intro d B h
   refine ⟨(W.lX d B h).1,?_⟩
   show (jK h2.iq d).isSome=true
   rw [hs.iq]; exact (W.lX d B h).2
  ·show h2.lo<=h2.size
   rw [hs.lo,hs.size]; exact W.lo
  ·intro b o h
   show b<h2.size
   rw [hs.size]; exact W.lt b o (hs.get b o h)
def uU (hm:P.follows .mixedOrders=true) (hC:jX P X.C) (hK:nI P X.call) (hI:oA X.call) {n:Nat} {c:Code} {an:lB} {e:Env} {h:aT} {x:Ex} {e':Env} {h':aT} (hr:jS X (kJ n) c an e h=some (x,e',h')) (hok:codeOk N X.fa.jm c an=true) :
  mU P N G0 c e h x e' h':=λG a Q hG hS hQ=>tD hm hC hK hI n c an e h x e' h' hr hok G a Q hG hS hQ
inductive tn (f:Env->aT->RC):Env->aT->Ex->Env->aT->Prop
 | last {e h x e' h'} (k:Nat):qA k f e h=some (x,e',h')->x≠.ka->tn f e h x e' h'
 | step {e h e1 h1 h2 x e' h'} (k:Nat):qA (k+1) f e h=some (.ka,e1,h1)->Sub h2 h1->tn f e1 h2 x e' h'->tn f e h x e' h'
def mW (k:Nat) (f:Env->aT->RC) (e:Env) (h:aT) (e1:Env) (h2:aT):Bool:=match qA (k+1) f e h with
 | some (.ka,e',h')=>mB (λp q=>Nat.beq p.1 q.1&&lZ 12 p.2 q.2) e1 e'&&BF h2 h'
 | _=>false
def tn.piece {f:Env->aT->RC} {e:Env} {h:aT} {e1:Env} {h2:aT} {x:Ex} {e':Env} {h':aT} (k:Nat) (hp:mW k f e h e1 h2=true) (hc:tn f e1 h2 x e' h'):tn f e h x e' h':=by
 unfold mW at hp
 split at hp
 ·rename_i e0 h0 hi
  simp only [Bool.and_eq_true] at hp
  have:e1=e0:=mO (λp q hpq=>by
   simp only [Bool.and_eq_true] at hpq
   exact Prod.ext (Nat.eq_of_beq_eq_true hpq.1) (oG 12 _ _ hpq.2)) _ _ hp.1
  subst this
  exact .step k hi (He hp.2) hc
 grind
def Fv {c:Code} {n0:Nat} (ih:u0 P X N G0 (kJ n0) c) {live:List Nat} {y:lB} (hok:codeOk N X.fa.jm c y=true) {J:Nat->Act->World->Prop} {Q:Exit->Act->World->Prop} {n:Nat}
  {e:Env} {h:aT} {x:Ex} {e':Env} {h':aT} (hr:lM live (jS X (kJ n0) c y) e h=some (x,e',h')) {G:Ga} {a:Act} (hG:G.h=h) (hS:St N G0 G e a)
  (hQ:∀ G' a',G'.h=h'->St N G0 G' e' a'->Exit.then (λa' w'=>∃ m,m<n/\J m a' w') Q (Ae x) a' G'.w):c.wp P (Exit.then (λa' w'=>∃ m,m<n/\J m a' w') Q) a G.w:=by
 rw [om] at hr
 subst hG
 exact ih y _ _ _ _ _ hr hok (G.jJ (kX live G.h.iq) (oP live G.L)) a _ rfl (hS.lM live) hQ
def zo {c:Code} {n0:Nat} (ih:u0 P X N G0 (kJ n0) c) {live:List Nat} {y:lB} (hok:codeOk N X.fa.jm c y=true) (h0:G0.h.size=0) {e:Env} {h:aT} {x:Ex} {e':Env} {h':aT}
  (hc:tn (lM live (jS X (kJ n0) c y)) e h x e' h'):mU P N G0 (.loop c) e h x e' h':=by
 have count:∃ t,∃ R:Nat->Env->aT->Prop,R t e h/\∀ n e h,R n e h->∃ x1 e1 h1,lM live (jS X (kJ n0) c y) e h=some (x1,e1,h1) /\
   ((x1=.ka/\∃ m h2,m<n/\Sub h2 h1/\R m e1 h2)\/(x1≠.ka/\x1=x/\e1=e'/\h1=h')):=by
  have subrefl:∀ h:aT,Sub h h:=λh=>⟨rfl,rfl,rfl,λ_ _ h=>h⟩
  induction hc with
  | @last e h x e' h' k hi hx =>
    refine ⟨k,λn e h=>qA n (lM live (jS X (kJ n0) c y)) e h=some (x,e',h'),hi,?_⟩
    intro n e h hn
    cases n with
    | zero =>
      grind [qA]
    | succ n =>
      simp only [qA] at hn
      split at hn
      ·rename_i e2 h2 hf
       exact ⟨.ka,e2,h2,hf,.inl ⟨rfl,n,h2,Nat.lt_succ_self _,subrefl _,hn⟩⟩
      grind
  | @step e h e1 h1 h2 x e' h' k hi hs hc ihc =>
    obtain ⟨t,R,hR,hstep⟩:=ihc
    refine ⟨t+(k+1),λn e h=>R n e h\/∃ j,n=t+j/\0<j/\qA j (lM live (jS X (kJ n0) c y)) e h=some (.ka,e1,h1),?_,?_⟩
    ·grind
    ·intro n e h hn
     rcases hn with hn | ⟨j,rfl,hj,hn⟩
     ·obtain ⟨x1,e2,h3,a1,a2⟩:=hstep n e h hn
      refine ⟨x1,e2,h3,a1,?_⟩
      rcases a2 with ⟨b1,m,h4,b2,b3,b4⟩ | b
      ·exact .inl ⟨b1,m,h4,b2,b3,.inl b4⟩
      grind
     ·cases j with
      | zero=>omega
      | succ j =>
        simp only [qA] at hn
        split at hn
        ·rename_i e2 h3 hf
         refine ⟨.ka,e2,h3,hf,.inl ⟨rfl,?_⟩⟩
         cases j with
         | zero =>
           simp only [qA,Option.some.injEq,Prod.mk.injEq,true_and] at hn
           obtain ⟨rfl,rfl⟩:=hn
           exact ⟨t,h2,by omega,hs,.inl hR⟩
         | succ j=>exact ⟨t+(j+1),h3,by omega,subrefl _,.inr ⟨j+1,rfl,Nat.succ_pos _,hn⟩⟩
        grind
 obtain ⟨t,R,hR,hstep⟩:=count
 intro G a Q hG hS hQ
 refine zY (λm a w=>∃ G e,G.w=w/\St N G0 G e a/\R m e G.h) ?_ t a G.w ⟨G,e,rfl,hS,by grind⟩
 rintro n a _ ⟨G,e,rfl,hS,hR⟩
 obtain ⟨x1,e1,h1,hf,hor⟩:=hstep n e G.h hR
 refine Fv ih hok hf rfl hS ?_
 intro G' a' hG' hS'
 rcases hor with ⟨rfl,m,h2,hlt,hs,hR2⟩ | ⟨hne,rfl,rfl,rfl⟩
 ·subst hG'
  exact ⟨m,hlt,⟨G'.w,G'.T,h2,G'.pi,G'.L⟩,e1,rfl,hS'.drop hs h0,hR2⟩
 ·cases x1 with
  | ka=>grind
  | ext id=>exact hQ G' a' hG' hS'
  | ret=>exact hQ G' a' hG' hS'
end
end Go.Sx
namespace Go.Sx
open Go
section
variable {P:Program} {X:Ctx} {N:Nat} {G0:Ga}
def Gu {a b:Code} {e e1 e':Env} {h h1 h':aT} {x:Ex} (ha:mU P N G0 a e h .ka e1 h1) (hb:mU P N G0 b e1 h1 x e' h'):mU P N G0 (.seq a b) e h x e' h' :=
 λG act _ hG hS hQ=>wp_seq (ha G act _ hG hS λG1 a1 hG1 hS1=>hb G1 a1 _ hG1 hS1 hQ)
def DC {a b:Code} {live:List Nat} {e e1 e':Env} {h h1 h':aT} {x:Ex} (ha:mU P N G0 a e h .ka e1 h1) (hb:mU P N G0 b (proj live e1) { h1 with iq:=kX live h1.iq } x e' h'):mU P N G0 (.seq a b) e h x e' h':=by
 intro G act Q hG hS hQ
 refine wp_seq (ha G act _ hG hS λG1 a1 hG1 hS1=>?_)
 subst hG1
 exact hb (G1.jJ (kX live G1.h.iq) (oP live G1.L)) a1 Q rfl (hS1.lM live) hQ
def Dl {a b:Code} {e e':Env} {h h':aT} {x:Ex} (ha:mU P N G0 a e h x e' h') (hx:x≠.ka):mU P N G0 (.seq a b) e h x e' h':=by
 intro G act Q hG hS hQ
 refine wp_seq (ha G act _ hG hS λG1 a1 hG1 hS1=>?_)
 cases x with
 | ka=>grind
 | ext id=>exact hQ G1 a1 hG1 hS1
 | ret=>exact hQ G1 a1 hG1 hS1
def IK {a:Code} {id:Nat} {e e1 e':Env} {h h1 h':aT} {x x1:Ex} (ha:mU P N G0 a e h x1 e1 h1) (he:atEnd id (some (x1,e1,h1))=some (x,e',h')):mU P N G0 (.block id a) e h x e' h':=by
 intro G act Q hG hS hQ
 refine wp_block (ha G act _ hG hS λG1 a1 hG1 hS1=>?_)
 cases x1 with
 | ka=>cases he; exact hQ G1 a1 hG1 hS1
 | ret=>cases he; exact hQ G1 a1 hG1 hS1
 | ext i =>
   simp only [atEnd] at he
   show Exit.inBlock id Q (.exit i) a1 G1.w
   simp only [Exit.inBlock]
   split at he
   ·rename_i hi
    have hi:=Nat.eq_of_beq_eq_true hi
    cases he
    rw [if_pos hi]
    exact hQ G1 a1 hG1 hS1
   ·rename_i hi
    have hi:=Nat.ne_of_beq_eq_false hi
    cases he
    rw [if_neg hi]
    exact hQ G1 a1 hG1 hS1
def xi {k:Env->aT->RC} {r:RC} {x:Ex} {e':Env} {h':aT} (h:andThen k r=some (x,e',h')) :
  (∃ e1 h1,r=some (.ka,e1,h1)/\k e1 h1=some (x,e',h'))\/(r=some (x,e',h')/\x≠.ka):=by
 unfold andThen at h
 grind
def nU (hm:P.follows .mixedOrders=true) (hC:jX P X.C) (hK:nI P X.call) (hI:oA X.call) {n:Nat}:∀ (p:List Bool) (c:Code) (an:lB) (e:Env) (h:aT) (e0:Env) (h0:aT) (x1:Ex) (e1:Env) (h1:aT) (x:Ex) (e':Env) (h':aT),
  codeOk N X.fa.jm c an=true->rH X (kJ n) p c an e h=some (.ka,e0,h0)->mU P N G0 (sk p c an).1 e0 h0 x1 e1 h1->behind X (kJ n) p c an (some (x1,e1,h1))=some (x,e',h')->mU P N G0 c e h x e' h'
 | [],c,an,e,h,e0,h0,x1,e1,h1,x,e',h',_,hu,hr,hb=>by
   simp only [rH,Option.some.injEq,Prod.mk.injEq,true_and] at hu
   obtain ⟨rfl,rfl⟩:=hu
   simp only [behind,Option.some.injEq,Prod.mk.injEq] at hb
   obtain ⟨rfl,rfl,rfl⟩:=hb
   exact hr
 | true::p,c,an,e,h,e0,h0,x1,e1,h1,x,e',h',hok,hu,hr,hb=>by
   cases c<;>try (cases hu; done)
   rename_i a b
   cases an<;>try (cases hu; done)
   ·rename_i live y z
    simp only [rH] at hu
    obtain ⟨e2,h2,k1,k2⟩:=zh hu
    rw [om] at k2
    simp only [codeOk,Bool.and_eq_true] at hok
    exact DC (uU hm hC hK hI k1 hok.1) (nU hm hC hK hI p b z _ _ e0 h0 x1 e1 h1 x e' h' hok.2 k2 hr hb)
   ·rename_i y z
    simp only [rH] at hu
    obtain ⟨e2,h2,k1,k2⟩:=zh hu
    simp only [codeOk,Bool.and_eq_true] at hok
    exact Gu (uU hm hC hK hI k1 hok.1) (nU hm hC hK hI p b z _ _ e0 h0 x1 e1 h1 x e' h' hok.2 k2 hr hb)
 | false::p,c,an,e,h,e0,h0,x1,e1,h1,x,e',h',hok,hu,hr,hb=>by
   cases c<;>try (cases hu; done)
   ·rename_i a b
    cases an<;>try (cases hu; done)
    ·rename_i live y z
     simp only [rH] at hu
     simp only [codeOk,Bool.and_eq_true] at hok
     simp only [behind] at hb
     rcases xi hb with ⟨e2,h2,k1,k2⟩ | ⟨k1,k2⟩
     ·rw [om] at k2
      exact DC (nU hm hC hK hI p a y e h e0 h0 x1 e1 h1 _ _ _ hok.1 hu hr k1) (uU hm hC hK hI k2 hok.2)
     ·exact Dl (nU hm hC hK hI p a y e h e0 h0 x1 e1 h1 _ _ _ hok.1 hu hr k1) k2
    ·rename_i y z
     simp only [rH] at hu
     simp only [codeOk,Bool.and_eq_true] at hok
     simp only [behind] at hb
     rcases xi hb with ⟨e2,h2,k1,k2⟩ | ⟨k1,k2⟩
     ·exact Gu (nU hm hC hK hI p a y e h e0 h0 x1 e1 h1 _ _ _ hok.1 hu hr k1) (uU hm hC hK hI k2 hok.2)
     ·exact Dl (nU hm hC hK hI p a y e h e0 h0 x1 e1 h1 _ _ _ hok.1 hu hr k1) k2
   ·rename_i id a
    have hu:rH X (kJ n) p a an e h=some (.ka,e0,h0):=by cases an<;>exact hu
    have hb:atEnd id (behind X (kJ n) p a an (some (x1,e1,h1)))=some (x,e',h'):=by cases an<;>exact hb
    have hok:codeOk N X.fa.jm a an=true:=by cases an<;>exact hok
    have hr:mU P N G0 (sk p a an).1 e0 h0 x1 e1 h1:=by cases an<;>exact hr
    cases hbb:behind X (kJ n) p a an (some (x1,e1,h1)) with
    | none=>rw [hbb] at hb; cases hb
    | some z =>
      obtain ⟨x2,e2,h2⟩:=z
      rw [hbb] at hb
      exact IK (nU hm hC hK hI p a an e h e0 h0 x1 e1 h1 _ _ _ hok hu hr hbb) hb
end
end Go.Sx
namespace Go.Sx
open Go Go.Proofs
def CG {r:Row Int}:lZ 7 (r.av iP) (r.av iP)=true:=by
 have hc:qy r.c r.c=true:=by cases r.c<;>simp [qy]
 show (mB (mB (lZ 6)) (r.l.map iP) (r.l.map iP)&&qy r.c r.c)=true
 rw [hc,pE]; rfl
 intro x hx
 obtain ⟨n,_,rfl⟩:=List.mem_map.mp hx
 refine pE λy hy=>?_
 simp only [iP,List.mem_singleton] at hy
 subst hy
 exact Sb _ _ _
def E6 {r:Row (Row Int)}:lZ 8 (r.av (kp iP)) (r.av (kp iP))=true:=by
 have hc:qy r.c r.c=true:=by cases r.c<;>simp [qy]
 show (mB (mB (lZ 7)) (r.l.map (kp iP)) (r.l.map (kp iP))&&qy r.c r.c)=true
 rw [hc,pE]; rfl
 intro x hx
 obtain ⟨n,_,rfl⟩:=List.mem_map.mp hx
 refine pE λy hy=>?_
 simp only [kp,List.mem_singleton] at hy
 subst hy
 exact CG
def Ud {n o:Nat} {a:AV} {b:Bool} (h:lZ n a a=true):lZ (n+1) (.ip [a] o b) (.ip [a] o b)=true:=by
 cases b<;>simp [lZ,mB,h,B8]
end Go.Sx
namespace Go.Sx
open Go Go.Proofs
section
variable {C:jH} {F:kP} {Pr:kx} {fa:iA} {e:Env} {H:aT} {all rest:List Oper} {o:Oper} {q:Env->aT->Prop}
def Vb (l:List Int):mQ:=match l with
 | []=>.nil
 | _=>.kb
def SL (l:List Int):E5 l=.sl (l.map iP) (Vb l):=by cases l<;>rfl
def LZ {l:List Int} (h:l.length<=1000000):∃ r:Row Int,r.l=l/\E5 l=r.av iP:=by
 refine ⟨⟨l,Vb l,by unfold rl; omega,by cases l<;>rfl,λhn=>?_⟩,rfl,SL l⟩
 cases l with
 | nil=>rfl
 | cons a t=>cases hn
def sb {f bm i:Nat} {c:Call} {ls:kK} {l:List (Int×Bool)} {L:List jL} {g:Operand} (ho:o.op=.call c) (hw:jg all e o=some true) (hf:c.callee=.value g) (hg:iJ e g=.jN f [] []) (ha:c.args.toList.map (iJ e)=[.hm bm]) (hs:fa.jm.elem f=false)
  (hp:Pr f=some lY) (hS:Sep H L) (hi:L[i]?=some (.map (.hm bm) (jO iK bK l))) (q1:lR l) (q2:l.length<=1000000) (q3:∀ x∈l,mf x.1)
  (next:∀ r:Row Int,r.l=jG (l.map Prod.fst)->ki C F Pr fa all rest q (iS e o (r.av iP)) { H with iq:=ls }):ki C F Pr fa all (o::rest) q e { H with iq:=ls }:=by
 obtain ⟨b,es,c',hb,hv,hg',he,hst⟩:=hS.at hi
 cases hv
 have hk:sA (es.map HW)=some (l.map Prod.fst):=by
  have:es.map HW=ns es:=rfl
  rw [this,he]; exact Ec q3
 have hn:(wI (l.map Prod.fst)&&Nat.ble (l.map Prod.fst).length 1000000)=true:=by
  rw [F6 q1,Bool.true_and,Nat.ble_eq]; simpa using q2
 have hlen:(jG (l.map Prod.fst)).length=l.length:=by rw [(mi _).length_eq,List.length_map]
 obtain ⟨r,hr,hav⟩:=LZ (l:=jG (l.map Prod.fst)) (by omega)
 have hr2:lY false [.hm bm] { H with iq:=[] }=some (r.av iP,{ H with iq:=[] }):=by
  simp only [lY,aT.kR,hg',pg,hk,hn,u5,hav]
 refine vF hw ?_ (next r hr)
 rw [ho]
 refine B7 (p:=[]) (r:=[]) hf hg ha rfl hs ⟨1,λk hk=>?_⟩
 cases k with
 | zero=>omega
 | succ k=>simp only [lT,hp]; exact hr2
end
end Go.Sx
namespace Go.Sx
open Go Go.Proofs
def has_eq {p q:bS} {t:jz} {n:Int} {r s:List Int} (h1:mL r/\∀ y,y∈r↔rm q t n y) (h2:mL s/\∀ y,y∈s↔rm p t n y) (e:q=p):r=s:=by
 subst e
 exact h1.1.ext h2.1 λx=>(h1.2 x).trans (h2.2 x).symm
def ae6 {r:Row Int} {a b c d x M:Int} {k:Nat} {h:k<r.l.length} (hq:r.l[k]=x) (hr:r.l=[a,b,c,d]) (ha:a<=M) (hb:b<=M) (hc:c<=M) (hd:d<=M):x<=M:=by
 have h2:x∈r.l:=hq▸List.getElem_mem h
 rw [hr] at h2
 simp only [List.mem_cons,List.not_mem_nil,or_false] at h2
 omega
end Go.Sx
namespace Go.Sx
open Go
section
variable {P:Program} {X:Ctx} {N:Nat} {G0:Ga}
theorem xO {C : jH} {f : Nat} {fa : iA} (hC : jX P C) {fn : Func} (hfn : P.funcs[f]? = some fn) (hbody : fn.body = some fa.body) (hres : fn.results.toList = fa.res) (hname : (fn.name == "runtime.NumGoroutine") = false) {args args0 : List AV} {x : Ex} {e' : Env} {h' : aT} {v : AV} {h : aT}
  (hr:∀ G0:Ga,G0.h=aT.empty->mU P fn.ntmps G0 fa.body (params 0 args0) aT.empty x e' h') (hv:frozen h (leave C fa.res (some (x,e',h')))=some (v,h)) (hargs:lf h args=some args0):yV P f args h v h:=by
 intro G args' hG hlo hL hW hl hrel
 refine ⟨⟨fn,hfn,by grind,hname⟩,?_⟩
 intro R hR
 subst hG
 obtain ⟨k1,k2⟩:=xq hW hargs hl hrel
 have hW1:=Gs hW
 have main:∀ v0 h1,leave.leave1 C fa.res e' h'=some (v0,h1)->freeze false h1 8 v0=some v->(x=.ka\/x=.ret)->Calls P f args' G.w R:=by
  intro v0 h1 hlv hfz hx
  refine calls_of_wp (w:=(ph G).w) hfn hbody ?_
  have hfr:Fr (ph G) (ph G):=by
   refine ⟨⟨⟨λ_ _ h=>h,λ_ _ _=>rfl,Nat.le_refl _,λ_ _ g z xs h=>⟨g,z,xs,h,Nat.le_refl _,λ_=>⟨rfl,λ_ h=>h⟩⟩,λ_ _ es c h=>⟨es,c,h,λ_ h=>h⟩,λd B h=>(by cases h)⟩,rfl,rfl,rfl,Nat.le_refl _,λ_ _ _ _=>rfl,
    λ_ l h=>.inl ⟨l,h,rfl⟩,λ_ _ h=>(by cases h),λ_ _ h=>.inl h,rfl,λ_ _ _=>rfl,λ_ _ h=>(by cases h),λ_ _ h=>(by cases h),λd c _ hd=>(by cases hd)⟩,λd B h=>(by cases h)⟩
  have hSt:St fn.ntmps (ph G) (ph G) (params 0 args0) { tmps:=args'++Array.replicate (fn.ntmps - args'.size) undef,defers:=[] } :=
   ⟨hfr,hW1,Cd k1 k2 _,rfl,by grind⟩
  refine hr (ph G) rfl (ph G) _ _ rfl hSt ?_
  intro G1 a1 hG1 hS1
  have hpost:∃ u,(results fn a1.tmps).run P G1.w=.ok u G1.w/\R (.returned u) G1.w:=by
   rw [<- hG1,<- hres] at hlv
   obtain ⟨e1,u,e2,e3⟩:=xF hS1.wr hC hS1.er hlv
   refine ⟨u,e2,?_⟩
   have S2:=hS1.fr.S
   have W2:WR (G1.jJ [] λ_=>none):=hS1.wr.C8 (λd B h=>by cases h) (λd B h=>by cases h)
   obtain ⟨S3,W3⟩:=CD hW hL S2 W2
   have hfz2:freeze false (G1.jJ [] λ_=>none).h 8 v0=some v:=by
    refine tp (h:=h1) ?_ _ _ _ hfz
    intro b o hb
    rw [e1] at hb
    exact hb
   exact hR u (sU G (G1.jJ [] λ_=>none)) S3 W3 (λm=>rfl) (λm L=>(Bq S2 W2 hfz2 e3.jJ).jJ.vr)
  rcases hx with rfl | rfl
  ·exact ⟨hS1.df,hpost⟩
  ·exact ⟨hS1.df,hpost⟩
 have fin:∀ v0 h1,leave C fa.res (some (x,e',h'))=some (v0,h1)->freeze false h1 8 v0=some v:=by
  grind [frozen]
 cases x with
 | ka =>
   cases hq:leave C fa.res (some (.ka,e',h')) with
   | none=>rw [hq] at hv; cases hv
   | some y =>
     obtain ⟨v0,h1⟩:=y
     exact main v0 h1 hq (fin v0 h1 hq) (.inl rfl)
 | ret =>
   cases hq:leave C fa.res (some (.ret,e',h')) with
   | none=>rw [hq] at hv; cases hv
   | some y =>
     obtain ⟨v0,h1⟩:=y
     exact main v0 h1 hq (fin v0 h1 hq) (.inr rfl)
 | ext id=>cases hv
theorem zr {h h2:aT} {args nK:List AV} (ha:lf h args=some nK) (E:∀ b o,h.get b=some o->h2.get b=some o):lf h2 args=some nK:=by
 unfold lf at ha ⊢
 split at ha
 ·have:∀ (l l':List AV),ju (freeze true h 8) l=some l'->ju (freeze true h2 8) l=some l':=by
   intro l
   induction l<;>grind [ju,tp]
  grind
 ·grind
def FM (a0:List AV) (v0:AV) (a1:List AV) (v1:AV) (shd:Bool) (args:List AV) (h:aT):R2:=match shd with
 | true=>none
 | false=>match lf h args with
   | some a=>match mB (lZ 12) a0 a with
     | true=>some (v0,h)
     | false=>match mB (lZ 12) a1 a with
       | true=>some (v1,h)
       | false=>none
   | none=>none
def R5 {f:Nat} {a0 a1:List AV} {v0 v1:AV} (h0:∀ args h1,lf h1 args=some a0->yV P f args h1 v0 h1) (h1:∀ args h2,lf h2 args=some a1->yV P f args h2 v1 h2):nF P f (FM a0 v0 a1 v1) where
 call:=by
  intro shd args h v h' hc
  unfold FM at hc
  split at hc
  ·cases hc
  ·split at hc
   ·rename_i a ha
    split at hc
    ·rename_i hq
     cases hc
     have:=mO (oG 12) _ _ hq
     subst this
     exact h0 args h ha
    ·split at hc
     ·rename_i hq
      cases hc
      have:=mO (oG 12) _ _ hq
      subst this
      exact h1 args h ha
     ·cases hc
   ·cases hc
 A5:=by
  intro args h v h' hc
  unfold FM at hc
  split at hc
  ·rename_i hh; cases hh
  ·split at hc
   ·rename_i a ha
    split at hc
    ·rename_i hq
     cases hc
     refine ⟨rfl,λh2 E=>?_⟩
     unfold FM
     simp only [zr ha E,hq]
    ·split at hc
     ·cases hc
      refine ⟨rfl,λh2 E=>?_⟩
      unfold FM
      rw [zr ha E]
      simp_all
     ·cases hc
   ·cases hc
end
end Go.Sx
