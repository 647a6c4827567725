/- Proves rules for the walks and their soundness. -/
import GoSem.ClaimChange
import Derived.Shelf.SlIterI.Nil
import Derived.Shelf.SortM.Plain
import Derived.Shelf.SortM.SortNone
import Derived.Lib.RowBridge
import Derived.Shelf.SlSortCmp.NoneTotal
import Derived.Test.YtmnmenklbegmeaaGreatHaa
import Derived.Test.YtmnmenklbegmeaaGreatHae
set_option linter.all false
namespace Go.Sx
open Go
def mI (n:Int):Prop:=-9223372036854775808<=n/\n<=9223372036854775807
def yq (n:Int):Prop:=0<=n/\n<40
theorem yq.mI {n:Int} (h:yq n):mI n:=⟨by have:=h.1; omega,by have:=h.2; omega⟩
def VE (p:bY) (e:Int):Prop:=0<=e/\e<(p.elems.l.length:Int)
def kn (p:bY) (e:Int):Int:=if e<0 then 0 else match p.elems.l[e.toNat]? with
 | some x=>x.kind
 | none=>0
def vI (k:Int):Int:=if k=1 then 2 else if k=2 then 3 else if k=3 then 4 else if k=4 then 1 else 0
def uq (p:bY) (x:iz):Prop:=VE p x.elem/\0<=x.en/\x.en<vI (kn p x.elem)
def JV (p:bY):Prop:=∀ j∈p.iQ.l,uq p j.a/\uq p j.b
def pC (p:bY) (x:iz):Prop:=yq x.elem/\uq p x
def zf (p:bY) (x:iu):Prop:=VE p x.elem/\1<=x.pos/\x.pos<=2
def nQ (n:Int):Prop:=0<=n/\n<=2
def VL (p:bY) (e:Int):Prop:=VE p e/\kn p e=1
def JD (p:bY):Prop:=(∀ x∈p.lines.l,∀ e∈x.elems.l,VL p e)/\∀ (i j:Nat) (h:j<p.lines.l.length) (hij:i<j),∀ e∈(p.lines.l[i]).elems.l,e∉(p.lines.l[j]).elems.l
def HW (p:bY):Prop:=∀ e∈p.elems.l,(1<=e.kind/\e.kind<=4)/\(e.kind=4->e.len=0)
structure JB (p:bY):Prop where
 jv:JV p
 ln:JD p
 kd:HW p
 ne:0<p.elems.l.length
def JG (p:bY):Prop:=(∀ j∈p.iQ.l,mI j.a.elem/\mI j.b.elem)/\∀ x∈p.lines.l,∀ z∈x.elems.l,mI z
def lD (p:bY):Prop:=p.elems.l.length<=60/\p.iQ.l.length<=120/\p.signals.l.length<=60/\p.lines.l.length<=20/\(∀ x∈p.lines.l,x.elems.l.length<=60)/\(∀ j∈p.iQ.l,mI j.a.elem/\mI j.b.elem)/\∀ x∈p.lines.l,∀ z∈x.elems.l,mI z
theorem lD.elems {p:bY} (h:lD p):p.elems.l.length<=60:=h.1
def lD.iQ {p:bY} (h:lD p):p.iQ.l.length<=120:=h.2.1
theorem lD.signals {p:bY} (h:lD p):p.signals.l.length<=60:=h.2.2.1
def lD.lines {p:bY} (h:lD p):p.lines.l.length<=20:=h.2.2.2.1
def lD.line {p:bY} (h:lD p):∀ x∈p.lines.l,x.elems.l.length<=60:=h.2.2.2.2.1
def od {κ β:Type} [DecidableEq κ] {k : κ} {x : β} {l:List (κ×β)} (h:look k l=some x):(k,x)∈l:=by
 induction l<;>grind [look]
def Hz {κ β:Type} [DecidableEq κ] {k : κ} {x : β} {l:List (κ×β)} {y : κ×β} (h:y∈put k x l):y=(k,x)\/y∈l:=by
 induction l<;>grind [put]
def rk {κ β:Type} [DecidableEq κ] {k : κ} {x : β} {l:List (κ×β)} {P : β->Prop} (hl:∀ y∈l,P y.2) (hx:P x):∀ y∈put k x l,P y.2:=by
 intro y hy
 rcases Hz hy with rfl | hy<;>grind
theorem JY {κ β:Type} [DecidableEq κ] {k : κ} {x : β} {l:List (κ×β)}:(put k x l).length<=l.length+1:=by
 induction l<;>grind [put]
def wC {κ β:Type} (l:List (κ×β)):Prop:=(l.map Prod.fst).Nodup
theorem CO {κ β:Type} [DecidableEq κ] {k : κ} {l:List (κ×β)} (h:look k l=none):k∉l.map Prod.fst:=by
 induction l<;>grind [look]
theorem GV {κ β:Type} [DecidableEq κ] {k : κ} {x : β} {l:List (κ×β)} (h:look k l=none):put k x l=l++[(k,x)]:=by
 induction l<;>grind [look,put]
def Dr {α:Type} [DecidableEq α]:∀ {a b:List α},a.Nodup->(∀ x∈a,x∈b)->a.length<=b.length
 | [],_,_,_=>Nat.zero_le _
 | x::a,b,hn,hs=>by
   have hx:x∈b:=hs x List.mem_cons_self
   have h1:=Dr (a:=a) (b:=b.erase x) (List.nodup_cons.mp hn).2 (by
    grind)
   grind
def Dx {p:bY} {e:Int} (h:e<0\/e>=p.elems.l.length):kn p e=0:=by
 grind [kn]
theorem ur {p:bY} {e:Int} {x:jZ} (h0:0<=e) (hx:e.toNat<p.elems.l.length) (hq:p.elems.l[e.toNat]=x):kn p e=x.kind:=by
 grind [kn]
def lj:List jX->iz->Option iz
 | [],_=>none
 | j::l,x=>if j.a=x then some j.b else if j.b=x then some j.a else lj l x
theorem zK {a b:iz} (h:a.elem=b.elem/\a.en=b.en):a=b:=by
 cases a<;>simp_all
def KX {l:List jX} {y:iz} {k:Nat} {x:jX} (hx:k<l.length) (hq:l[k]=x) (h1:¬(x.a.elem=y.elem/\x.a.en=y.en)) (h2:¬(x.b.elem=y.elem/\x.b.en=y.en)):lj (l.drop (k+1)) y=lj (l.drop k) y:=by
 rw [List.drop_eq_getElem_cons hx,hq,lj,if_neg (by grind),if_neg (by grind)]
def Kh {l:List jX} {y:iz} {k:Nat} {x:jX} (hx:k<l.length) (hq:l[k]=x) (h1:x.a.elem=y.elem/\x.a.en=y.en):lj (l.drop k) y=some x.b:=by
 rw [List.drop_eq_getElem_cons hx,hq,lj,if_pos (zK h1)]
def Kl {l:List jX} {y:iz} {k:Nat} {x:jX} (hx:k<l.length) (hq:l[k]=x) (h1:¬(x.a.elem=y.elem/\x.a.en=y.en)) (h2:x.b.elem=y.elem/\x.b.en=y.en):lj (l.drop k) y=some x.a:=by
 rw [List.drop_eq_getElem_cons hx,hq,lj,if_neg (by grind),if_pos (zK h2)]
def NM {l:List jX} {y:iz} {k:Nat} (hx:l.length<=k):lj (l.drop k) y=none:=by
 rw [List.drop_eq_nil_of_le hx]; rfl
def me (x:iz):Nat->List jY->Option Int
 | _,[]=>none
 | i,s::l=>if s.at_=x then some i else me x (i+1) l
def nK (l:List jY) (x:iz):Option Int:=me x 0 l
def Cw {l:List jY} {y:iz} {k:Nat} {x:jY} (hx:k<l.length) (hq:l[k]=x) (h1:¬(x.at_.elem=y.elem/\x.at_.en=y.en)):me y (k+1) (l.drop (k+1))=me y k (l.drop k):=by
 rw [List.drop_eq_getElem_cons hx,hq,me,if_neg (by grind)]
theorem DB {l:List jY} {y:iz} {k:Nat} {x:jY} (hx:k<l.length) (hq:l[k]=x) (h1:x.at_.elem=y.elem/\x.at_.en=y.en):me y k (l.drop k)=some (k:Int):=by
 rw [List.drop_eq_getElem_cons hx,hq,me,if_pos (zK h1)]
theorem DH {l:List jY} {y:iz} {k:Nat} (hx:l.length<=k):me y k (l.drop k)=none:=by
 rw [List.drop_eq_nil_of_le hx]; rfl
def nr (l:List jY) (i:Int):Option iz:=if i<0 then none else (l[i.toNat]?).map (·.at_)
def MZ {l:List jY} {e:Int} (h:e<0\/e>=l.length):nr l e=none:=by
 grind [nr]
def T4 {l:List jY} {e:Int} {x:jY} (h0:0<=e) (hx:e.toNat<l.length) (hq:l[e.toNat]=x):nr l e=some x.at_:=by
 grind [nr]
def tq:Nat->List (Row jC)->Nat
 | _,[]=>0
 | i,r::l=>r.l.length*(2 ^ (12 - i) - 1)+tq (i+1) l
def Qi (l:List (Row jC)):∃ n,n=tq 0 l:=⟨_,rfl⟩
noncomputable def wt (l:List (Row jC)):Nat:=Classical.choose (Qi l)
theorem yp (l:List (Row jC)):wt l=tq 0 l:=Classical.choose_spec (Qi l)
def Hh (n:Nat):∃ m,m=2 ^ (13 - n) - 1:=⟨_,rfl⟩
noncomputable def uX (n:Nat):Nat:=Classical.choose (Hh n)
theorem xa (n:Nat):uX n=2 ^ (13 - n) - 1:=Classical.choose_spec (Hh n)
theorem WG:wt []=0:=by rw [yp]; rfl
theorem Wd:uX 0=8191:=by rw [xa]
theorem EY (w:Row jC):∀ (l:List (Row jC)) (i:Nat),tq i (l++[w])=tq i l+w.l.length*(2 ^ (12 - (i+l.length)) - 1)
 | [],i=>by simp [tq]
 | r::l,i=>by
   simp only [List.cons_append,tq,EY w l (i+1),List.length_cons]
   rw [show i+1+l.length=i+(l.length+1) from by omega]; omega
def AR {n:Nat} (h:n<=12):1<=uX n:=by
 rw [xa]
 have:2 ^ 1<=2 ^ (13 - n):=Nat.pow_le_pow_right (by omega) (by omega)
 omega
def TH {l:List (Row jC)} {w:Row jC} (hn:l.length<12) (hw:w.l.length<=2):wt (l++[w])+1<=wt l+uX l.length:=by
 rw [yp,yp,xa]
 rw [EY,Nat.zero_add]
 have h1:13 - l.length=(12 - l.length)+1:=by omega
 have h2:1<=2 ^ (12 - l.length):=Nat.one_le_two_pow
 rw [h1,Nat.pow_succ]
 have h3:w.l.length*(2 ^ (12 - l.length) - 1)<=2*(2 ^ (12 - l.length) - 1):=Nat.mul_le_mul_right _ hw
 omega
theorem E2:∀ {l:List (Row jC)} {i k:Nat} (hk:k+1=l.length) (_:(l[k]'(by omega)).l.length=0),tq i (l.take k)=tq i l
 | [],_,_,hk,_=>by simp
 | [r],i,k,hk,h0=>by
   grind [tq]
 | r::s::l,i,k,hk,h0=>by
   obtain ⟨k,rfl⟩:∃ k',k=k'+1:=⟨k - 1,by simp at hk; omega⟩
   simp only [List.getElem_cons_succ] at h0
   rw [List.take_succ_cons,tq,tq,E2 (l:=s::l) (by simpa using hk) h0]
theorem Hd:∀ {l:List (Row jC)} {i k:Nat} {r r':Row jC} (hk:k<l.length) (_:l[k]=r) (_:1<=r.l.length) (_:r'.l.length+1=r.l.length),tq i (l.set k r')+(2 ^ (12 - (i+k)) - 1)=tq i l
 | [],_,_,_,_,hk,_,_,_=>by simp at hk
 | x::l,i,0,r,r',_,hr,h1,h2=>by
   grind [tq]
 | x::l,i,k+1,r,r',hk,hr,h1,h2=>by
   simp only [List.getElem_cons_succ] at hr
   simp only [List.set_cons_succ,tq]
   have:=Hd (l:=l) (i:=i+1) (k:=k) (by simpa using hk) hr h1 h2
   rw [show i+1+k=i+(k+1) from by omega] at this
   omega
theorem Ta {l:List (Row jC)} {k:Nat} {r:Row jC} (hk:k<l.length) (hk1:k+1=l.length) (hr:l[k]=r) (h0:r.l.length=0):wt (l.take k)=wt l:=by grind [yp,E2]
def Wi {l:List (Row jC)} {k:Nat} {r r':Row jC} (hk:k<l.length) (hk1:k+1=l.length) (hr:l[k]=r) (h1:1<=r.l.length) (h2:r'.l.length+1=r.l.length):wt (l.set k r')+uX l.length=wt l:=by
 grind [Hd,yp,xa]
def zA (l:List jX):Prop:=∀ (i:Nat) (h:i<l.length),lj (l.take i) (l[i]).a=none/\lj (l.take i) (l[i]).b=none/\(l[i]).a≠(l[i]).b
def za (l:List jY):Prop:=∀ (i:Nat) (h:i<l.length),∀ y∈l.take i,y.at_≠(l[i]).at_
theorem K7 (l:List jX) (j:jX) (x:iz):lj (l++[j]) x=match lj l x with
  | some y=>some y
  | none=>if j.a=x then some j.b else if j.b=x then some j.a else none:=by
 induction l<;>grind [lj]
theorem Jq {l:List jX} {j:jX} {m:List (iz×iz)} (hD:∀ x,look x m=lj l x) (ha:look j.a m=none) (hb:look j.b m=none) (hne:j.a≠j.b) (x:iz):look x (put j.b j.a (put j.a j.b m))=lj (l++[j]) x:=by
 grind [ma,K7,look]
theorem Aj {l:List jX} {j:jX} {m:List (iz×iz)} {k:Nat} (hk:k<l.length) (hj:l[k]=j) (hD:∀ x,look x m=lj (l.take k) x) (ha:look j.a m=none) (hb:look j.b m=none) (hne:¬(j.a.elem=j.b.elem/\j.a.en=j.b.en)):∀ x,look x (put j.b j.a (put j.a j.b m))=lj (l.take (k+1)) x:=by
 intro x
 have:l.take (k+1)=l.take k++[j]:=by rw [List.take_succ_eq_append_getElem hk,hj]
 grind [Jq]
def FW {l:List jX} {j:jX} {m:List (iz×iz)} {k:Nat} (hk:k<l.length) (hj:l[k]=j) (hD:∀ x,look x m=lj (l.take k) x) (hJ:∀ (i:Nat) (h:i<l.length),i<k->lj (l.take i) (l[i]).a=none/\lj (l.take i) (l[i]).b=none/\(l[i]).a≠(l[i]).b) (ha:look j.a m=none) (hb:look j.b m=none) (hne:¬(j.a.elem=j.b.elem/\j.a.en=j.b.en)) :
  ∀ (i:Nat) (h:i<l.length),i<k+1->lj (l.take i) (l[i]).a=none/\lj (l.take i) (l[i]).b=none/\(l[i]).a≠(l[i]).b:=by
 grind
def L7 {l:List jY} {n k:Nat} (hV:∀ (i:Nat) (h:i<l.length),i<k->0<=(l[i]).at_.elem/\(l[i]).at_.elem<(n:Int)/\0<=(l[i]).at_.en) (hk:l.length<=k):∀ s∈l,0<=s.at_.elem/\s.at_.elem<(n:Int)/\0<=s.at_.en:=by
 intro s hs
 obtain ⟨i,hi,rfl⟩:=List.mem_iff_getElem.mp hs
 grind
def Da {l:List jY} {n k:Nat} {x:jY} {hk:k<l.length} (hq:l[k]=x) (hV:∀ (i:Nat) (h:i<l.length),i<k->0<=(l[i]).at_.elem/\(l[i]).at_.elem<(n:Int)/\0<=(l[i]).at_.en) (hx:0<=x.at_.elem/\x.at_.elem<(n:Int)/\0<=x.at_.en):∀ (i:Nat) (h:i<l.length),i<k+1->0<=(l[i]).at_.elem/\(l[i]).at_.elem<(n:Int)/\0<=(l[i]).at_.en:=by
 grind
def Du {l:List jY} {k:Nat} {x:jY} {m:List (iz×Bool)} (hk:k<l.length) (hq:l[k]=x) (hD:∀ y:iz,(∃ s,s∈l.take k/\s.at_=y)->look y m=some true):∀ y:iz,(∃ s,s∈l.take (k+1)/\s.at_=y)->look y (put x.at_ true m)=some true:=by
 rintro y ⟨s,hs,rfl⟩
 rw [ma]
 split
 ·rfl
 ·rename_i hne
  rw [List.take_succ_eq_append_getElem hk,hq] at hs
  grind
def C8 {l:List jY} {k:Nat} {x:jY} {m:List (iz×Bool)} (hk:k<l.length) (hq:l[k]=x) (hD:∀ y:iz,(∃ s,s∈l.take k/\s.at_=y)->look y m=some true) (hJ:∀ (i:Nat) (h:i<l.length),i<k->∀ y∈l.take i,y.at_≠(l[i]).at_) (hn:look x.at_ m=none):∀ (i:Nat) (h:i<l.length),i<k+1->∀ y∈l.take i,y.at_≠(l[i]).at_:=by
 grind
def zv {α:Type} {P : α->Prop} {l:List α} {k:Nat} {x : α} (hl:∀ y∈l,P y) (hx:P x):∀ y∈l.set k x,P y:=by
 grind
def BL {e:Env} {h:aT} {t d o:Nat} {x y:Operand} {X:Ctx} {dd:Option Nat} {ti:TI} {r:AV} {new cs cs':List AV} (hT:X.C.T t=some ti) (hx:iP e x=.la d o) (hy:iP e y=r) (hnew:cellsOf ti r=some new) (hok:new.all AV.j5=true) (hl:jM h.iq d=some cs) (hsp:nv cs o new=some cs'):jq (.store t x y) X e h dd=some (.undef,{ h with iq:=uH h.iq d cs' }):=by
 simp only [jq,yA,wG,hT,hx,hy,wv,hnew,hok,y4,NY,hl,hsp]
section
variable {C:jE} {F:kJ} {Pr:ko} {fa:iC} {Q:Ex->Env->aT->Prop} {e:Env} {h:aT}
end
section
variable {C:jE} {F:kJ} {Pr:ko} {fa:iC} {Q:Ex->Env->aT->Prop} {e:Env} {h:aT}
def Av {a b:Code} {live:List Nat} {x y:lz} (P:Env->aT->Prop) (K:∀ E Z,P E Z->Wp C F Pr fa b y Q E Z) (w:Wp C F Pr fa a x (vf (λe h=>P (proj live e) { h with iq:=kS live h.iq }) Q) e h):Wp C F Pr fa (.seq a b) (.seq live x y) Q e h:=by
 refine GJ (w.mono ?_)
 intro x1 e1 h1 hx
 cases x1 with
 | j1=>exact K _ _ hx
 | ext id=>exact hx
 | ret=>exact hx
end
def Ln {r:List AV} {l:List (List AV)} (h:r.all AV.zx=true) (hl:sw l=true):sw (r::l)=true:=by
 grind [sw]
def tA (d:iB):Prop:=d.runs.l.length<=8/\∀ r∈d.runs.l,r.iS.l.length<=12/\0<=r.jb/\r.jb<(d.jb.l.length:Int)
def nI {α:Type} {P : α->Prop} {l:List α} {k:Nat} {x : α} {hk:k<l.length} (hq:l[k]=x) (hV:∀ (i:Nat) (h:i<l.length),i<k->P (l[i])) (hx:P x):∀ (i:Nat) (h:i<l.length),i<k+1->P (l[i]):=by
 grind
def oe {α:Type} {P : α->Prop} {l:List α} {x : α} (hl:∀ y∈l,P y) (hx:P x):∀ y∈l++[x],P y:=by
 grind
def Tz {α:Type} {P : α->Prop} {l m:List α} (hl:∀ y∈l,P y) (hm:∀ y∈m,P y):∀ y∈l++m,P y:=by
 grind
def Ox {l:List (Row jC)} {k:Nat} {r:Row jC} (hk:k<l.length) (hk1:k+1=l.length) (hr:l[k]=r) (h0:r.l.length=0):wt (l.take (l.length - 1))=wt l:=by
 rw [show l.length - 1=k from by omega]; grind [Ta]
def Ny {κ β:Type} [DecidableEq κ] {k : κ} {x : β} {l:List (κ×β)} (h:wC l) (hn:look k l=none):wC (put k x l):=by
 grind [wC,GV,CO]
def univ (n:iD):List iz:=⟨0,0⟩::n.next.map Prod.snd
theorem M3 {n:iD} {x y:iz} (h:look x n.next=some y):y∈univ n:=by
 have:=od h
 exact List.mem_cons_of_mem _ (List.mem_map.mpr ⟨_,this,rfl⟩)
def Le {κ β:Type} [DecidableEq κ] {k : κ} {x : β} {l:List (κ×β)} {U:List κ} (h:∀ y∈l.map Prod.fst,y∈U) (hk:k∈U):∀ y∈(put k x l).map Prod.fst,y∈U:=by
 intro y hy
 obtain ⟨z,hz,rfl⟩:=List.mem_map.mp hy
 rcases Hz hz with rfl | hz<;>grind
def uC {n:iD} {x y:iz} {b:Bool} (h:(b=true->look x n.next=some y)/\(b=false->look x n.next=none)/\(b=false->y=⟨0,0⟩)):y∈univ n:=by
 cases b with
 | true=>grind [M3]
 | false=>rw [h.2.2 rfl]; exact List.mem_cons_self
def M8 {l:List jX} {j:jX} {m:List (iz×iz)} {k:Nat} (hk:k<l.length) (hj:l[k]=j) (hJ:zA l) (hD:∀ x,look x m=lj (l.take k) x):∀ x,look x (put j.b j.a (put j.a j.b m))=lj (l.take (k+1)) x:=by
 obtain ⟨h1,h2,h3⟩:=hJ k hk
 grind [Aj,zK]
def NL {κ β:Type} [DecidableEq κ] {a b : κ} {x y : β} {l:List (κ×β)} {k:Nat} (h:l.length<=2*k):(put a x (put b y l)).length<=2*(k+1):=by
 grind [JY,put]
theorem wg (x:iz) (s:jY):∀ (l:List jY) (i:Nat),me x i (l++[s])=match me x i l with
  | some y=>some y
  | none=>if s.at_=x then some ((i+l.length:Nat):Int) else none
 | [],i=>by rfl
 | a::l,i=>by
   simp only [List.cons_append,me]
   split
   ·rfl
   ·rw [wg x s l (i+1)]
    simp only [List.length_cons,show i+1+l.length=i+(l.length+1) from by omega]
theorem wj {x:iz}:∀ {l:List jY} {i:Nat},(∀ s∈l,s.at_≠x)->me x i l=none
 | [],_,_=>rfl
 | a::l,i,h=>by
   simp only [me]
   rw [if_neg (h a List.mem_cons_self)]
   exact wj λs hs=>h s (List.mem_cons_of_mem _ hs)
def Ji {l:List jY} {s:jY} {m:List (iz×Int)} {k:Nat} (hk:k<l.length) (hj:l[k]=s) (hS:za l) (hR:∀ x,look x m=nK (l.take k) x):∀ x,look x (put s.at_ (k:Int) m)=nK (l.take (k+1)) x:=by
 intro x
 have h1:=hS k hk
 rw [hj] at h1
 rw [ma,List.take_succ_eq_append_getElem hk,hj]
 grind [nK,wg,wj,look]
def CF:mV->mV
 | .nil=>.nil
 | _=>.j6
def Row.canon {α:Type} (r:Row α):Row α:=⟨r.l,CF r.c,r.ok,by cases r.c<;>rfl,λh=>r.nl (by cases hc:r.c<;>first | rfl | (rw [hc] at h; cases h))⟩
def ju.canon (x:ju):ju:={ x with elems:=x.elems.canon }
def Row.xl {α β:Type} (f : α->β) (r:Row α):Row β:=⟨r.l.map f,r.c,by rw [List.length_map]; exact r.ok,r.sn,λh=>by rw [r.nl h]; rfl⟩
def bY.canon (p:bY):bY:={ p with elems:=p.elems.canon,iQ:=p.iQ.canon,signals:=p.signals.canon,lines:=(p.lines.xl ju.canon).canon }
theorem Row.U9 {α:Type} {r s:Row α} (h1:r.l=s.l) (h2:r.c=s.c):r=s:=by
 cases r<;>simp_all
theorem C2 (c:mV):CF (CF c)=CF c:=by cases c<;>rfl
theorem Row.wS {α:Type} (r:Row α):r.canon.canon=r.canon:=Row.U9 rfl (C2 _)
theorem ju.wS (x:ju):x.canon.canon=x.canon:=by
 grind [ju.canon,Row.wS]
theorem bY.wS (p:bY):p.canon.canon=p.canon:=by
 simp_all [ju.canon,canon,Row.U9,Row.canon,Row.xl,C2,bY.canon,Row.wS]
def vO {α:Type} (r s:Row α):Prop:=r.l=s.l/\(r.c=.nil↔s.c=.nil)
def sM (x y:ju):Prop:=x.name=y.name/\vO x.elems y.elems
def zQ (m:List (Int×Int×Int)) (p:bY):Prop:=(∀ e y,look e m=some y->∃ (i:Nat) (h:i<p.lines.l.length),y.1=(i:Int)/\e∈(p.lines.l[i]).elems.l)/\∀ (i:Nat) (h:i<p.lines.l.length),∀ e∈(p.lines.l[i]).elems.l,∃ q,look e m=some ((i:Int),q)
def xE (m:List (Int×Int×Int)) (ld:List (Int×Int)):Prop:=∀ e y,look e m=some y->∃ v,look e ld=some v
structure o9 (n:iD) (p:bY):Prop where
 qj:n.p=p.canon
 e40:n.p.elems.l.length<=40
 elems:n.p.elems.l=p.elems.l
 signals:n.p.signals.l=p.signals.l
 Ht:lD n.p
 rg:∀ y∈univ n,pC n.p y
 x:JB p
 QQ:zQ n.line p
 led:xE n.line n.lead
 next:∀ x,look x n.next=lj p.iQ.l x
 reads:∀ x,look x n.reads=nK p.signals.l x
 len:n.next.length<=240
 sigs:za p.signals.l
 ad9:∀ s∈p.signals.l,0<=s.at_.elem/\s.at_.elem<(p.elems.l.length:Int)/\0<=s.at_.en
def ab7 {p:bY} (h:JB p):uq p ⟨0,0⟩:=by
 have hn:=h.ne
 have hk:=(h.kd _ (List.getElem_mem hn)).1
 have e:kn p 0=(p.elems.l[0]).kind:=ur (e:=0) (by omega) hn rfl
 refine ⟨⟨by decide,by show (0:Int) < _; omega⟩,by decide,?_⟩
 show (0:Int)<vI (kn p 0)
 rw [e]
 unfold vI
 repeat' split
 all_goals omega
def Td {p:bY} {y:iz} {k:Int} (h:pC p y) (hk:k=kn p y.elem) (h2:k=2) (h0:¬ y.en=0) {n:Int} (hn:n=IntKind.i64.wrap (3 - y.en):=by rfl):zf p ⟨y.elem,n⟩:=by
 have h3:=h.2.2.2
 have h4:=h.2.2.1
 rw [<- hk,h2] at h3
 have e:vI 2=3:=by decide
 rw [e] at h3
 rw [ug _ (by omega) (by omega)] at hn
 refine ⟨h.2.1,?_,?_⟩<;>simp only<;>omega
def Vx {p:bY} {x:iz} {e:jZ} {r:Int} (h0:0<=x.elem) {hx:x.elem.toNat<p.elems.l.length} (hq:p.elems.l[x.elem.toNat]=e) (h2:0<=x.en) (hr:r=vI e.kind) (h3:x.en<r):uq p x:=by
 refine ⟨⟨h0,by omega⟩,h2,?_⟩
 rw [ur h0 hx hq,<- hr]
 exact h3
def NI {q p:bY} {next:List (iz×iz)} {reads:List (iz×Int)} {line:List (Int×Int×Int)} {lead:List (Int×Int)} {k m:Nat}
  (hq:q.elems.l=p.elems.l/\q.iQ.l=p.iQ.l/\q.signals.l=p.signals.l/\q.lines.l.length=p.lines.l.length/\(∀ x∈q.lines.l,x.elems.l.length<=60)/\q=p.canon) (h1:lD p)
  (hc:zA p.iQ.l/\za p.signals.l/\(∀ s∈p.signals.l,0<=s.at_.elem/\s.at_.elem<(p.elems.l.length:Int)/\0<=s.at_.en)/\p.elems.l.length<=40/\p.signals.l.length<=24/\p.iQ.l.length<=80/\JB p)
  (hD:∀ x,look x next=lj (p.iQ.l.take k) x) (hR:∀ x,look x reads=nK (p.signals.l.take m) x) (hN:next.length<=2*k) (hG:∀ y∈next,pC p y.2) (hk:p.iQ.l.length<=k/\k<=p.iQ.l.length) (hm:p.signals.l.length<=m) (hL:zQ line p) (hE:xE line lead):o9 ⟨q,next,reads,line,lead⟩ p:=by
 obtain ⟨e1,e2,e3,e4,e5,e6⟩:=hq
 obtain ⟨f1,f2,f3,f4,f5,f6,f7⟩:=h1
 have e7:∀ x∈q.lines.l,∀ z∈x.elems.l,mI z:=by
  subst e6
  intro x hx
  simp only [bY.canon,Row.canon,Row.xl,List.mem_map] at hx
  obtain ⟨y,hy,rfl⟩:=hx
  exact f7 y hy
 refine ⟨e6,by grind,e1,e3,⟨by grind,by grind,by grind,by grind,e5,by rw [e2]; exact f6,e7⟩,?_,hc.2.2.2.2.2.2,hL,hE,?_,?_,by grind,hc.2.1,hc.2.2.1⟩
 ·intro y hy
  rcases List.mem_cons.mp hy with rfl | hy
  ·subst e6
   exact ⟨⟨by decide,by decide⟩,(ab7 hc.2.2.2.2.2.2:uq p ⟨0,0⟩)⟩
  ·obtain ⟨z,hz,rfl⟩:=List.mem_map.mp hy
   subst e6
   exact hG z hz
 ·grind
 ·intro x; show look x reads = _; rw [hR,List.take_of_length_le hm]
def tA.Vq {d:iB} (h:tA d):∀ r∈d.runs.l,0<=r.jb/\r.jb<(d.jb.l.length:Int):=λr hr=>(h.2 r hr).2
def lV (p:bY) (r:iG):Prop:=(∀ s∈r.steps.l,pC p ⟨s.elem,s.lN⟩)/\r.my.l.length<=12/\(∀ x∈r.my.l,yq x)/\r.guards.l.length<=1000/\r.holds.l.length<=1000/\(∀ x∈r.jK.l,zf p x)/\∀ x∈r.guards.l,zf p x
def Au {p:bY} {r:iG} {l l2:List iR} {P P2:List Int} (h:r.steps.l=l2) (h2:l2=l) (hS:∀ s∈l,pC p ⟨s.elem,s.lN⟩) (hp:P2=P) (hP:∀ x∈P,nQ x) (hn:∀ x∈r.jK.l,(∃ s∈l2,x.elem=s.elem)/\x.pos∈P2/\¬ x.pos=0) (hz:r.guards.l=[]/\r.my.l=[]/\r.holds.l=[]):lV p r:=by
 obtain ⟨z1,z2,z3⟩:=hz
 refine ⟨by rw [h,h2]; exact hS,by simp [z2],by simp [z2],by simp [z1],by simp [z3],λx hx=>?_,by simp [z1]⟩
 obtain ⟨⟨s,hs,e⟩,h4,h5⟩:=hn x hx
 have h6:=hP _ (hp▸h4)
 rw [h2] at hs
 exact ⟨e▸(hS s hs).2.1,by have:=h6.1; omega,h6.2⟩
def ME {p:bY} {r a:iG} (h:r.steps.l=a.steps.l) (h2:r.jK.l=a.jK.l) (hg:lV p a) (hz:r.my.l.length<=12/\(∀ x∈r.my.l,yq x)/\r.guards.l.length<=1000/\r.holds.l.length<=1000) (hG:∀ x∈r.guards.l,zf p x):lV p r :=
 ⟨by rw [h]; exact hg.1,hz.1,hz.2.1,hz.2.2.1,hz.2.2.2,by rw [h2]; exact hg.2.2.2.2.2.1,hG⟩
def US {p:bY} {l:List iR} {k:Nat} {x x2:iR} (h:∀ s∈l,pC p ⟨s.elem,s.lN⟩) {hk:k<l.length} (hq:l[k]=x) (he:x2.elem=x.elem) (hi:x2.lN=x.lN):∀ s∈l.set k x2,pC p ⟨s.elem,s.lN⟩:=by
 intro s hs
 rcases List.mem_or_eq_of_mem_set hs with hs | rfl
 ·exact h s hs
 ·rw [he,hi,<- hq]; exact h _ (List.getElem_mem _)
end Go.Sx
namespace Go.Sx
open Go
inductive Ty where
 | int | bool | str
 | slice (e:Ty)
 | struct (fs:List Ty)
mutual
def Ty.size:Ty->Nat
 | .struct fs=>Ty.ve fs
 | _=>1
def Ty.ve:List Ty->Nat
 | []=>0
 | t::ts=>t.size+Ty.ve ts
end
mutual
def uv (P:Program):Ty->TypeId->Bool
 | .int,t=>match P.underlying t with
   | some (.int .i64)=>true
   | _=>false
 | .bool,t=>match P.underlying t with
   | some .bool=>true
   | _=>false
 | .str,t=>match P.underlying t with
   | some .string=>true
   | _=>false
 | .slice e,t=>match P.underlying t with
   | some (.slice te)=>uv P e te&&Nat.beq (P.cellsOf te) e.size&&Nat.blt 0 e.size
   | _=>false
 | .struct fs,t=>match P.underlying t with
   | some (.struct fds)=>E7 P fs fds.toList 0&&Nat.beq (P.cellsOf t) (Ty.ve fs)
   | _=>false
def E7 (P:Program):List Ty->List Field->Nat->Bool
 | [],[],_=>true
 | t::ts,f::fs,o=>uv P t f.type&&Nat.beq f.offset o&&Nat.beq (P.cellsOf f.type) t.size&&E7 P ts fs (o+t.size)
 | _,_,_=>false
end
mutual
def Fit:Ty->List AV->Prop
 | .int,cs=>∃ n,cs=[.int .i64 n]/\mI n
 | .bool,cs=>∃ b,cs=[.bool b]
 | .str,cs=>∃ s,cs=[.str s]/\s.length<=rT
 | .slice e,cs=>∃ xs c,cs=[.sl xs c]/\(∀ x∈xs,Fit e x)/\xs.length<=rT/\pU c=false/\(c=.nil->xs=[])
 | .struct fs,cs=>qO fs cs
def qO:List Ty->List AV->Prop
 | [],cs=>cs=[]
 | t::ts,cs=>∃ a b,cs=a++b/\Fit t a/\qO ts b
end
def zI {α β:Type} {f : α->Option β}:∀ {l:List α} {r:List β},l.mapM f=some r->r.length=l.length/\∀ i (h:i<l.length),∃ y,f l[i]=some y/\r[i]?=some y
 | [],r,h=>by
   grind
 | a::l,r,h=>by
   rw [List.mapM_cons] at h
   cases ha:f a with
   | none=>rw [ha] at h; cases h
   | some y =>
     rw [ha] at h
     cases hl:l.mapM f with
     | none=>rw [hl] at h; cases h
     | some r' =>
       rw [hl] at h
       have:r=y::r':=(Option.some.inj h).symm
       subst this
       obtain ⟨h1,h2⟩:=zI hl
       refine ⟨by simp [h1],λi hi=>?_⟩
       cases i with
       | zero=>exact ⟨y,ha,rfl⟩
       | succ i=>exact h2 i (by simpa using hi)
def Al {α:Type} {p:Nat->α->Prop}:∀ (n:Nat),(∀ i,i<n->∃ x,p i x)->∃ l:List α,l.length=n/\∀ i x,l[i]?=some x->p i x
 | 0,_=>⟨[],rfl,λi x h=>by simp at h⟩
 | n+1,h=>by
   obtain ⟨l,hl,hp⟩:=Al n λi hi=>h i (by omega)
   obtain ⟨x,hx⟩:=h n (by omega)
   refine ⟨l++[x],by simp [hl],λi y hy=>?_⟩
   grind
theorem Mj {w:World} {a:Addr} {n:Nat} {cs:List Value} (h:w.cells? 0 a n=some cs):cs.length=n/\∀ j,j<n->∃ v,w.cell? (a.add j)=some v/\cs[j]?=some v:=by
 unfold World.cells? at h
 rw [if_pos (Nat.zero_le _)] at h
 obtain ⟨h1,h2⟩:=zI h
 grind
def Hk {w:World} {a:Addr} {v:Value} (h:w.cell? a=some v):a.spot=none/\∃ c e fr,w.heap[a.block]?=some (.cells c e fr)/\c[a.off]?=some v:=by
 unfold World.cell? at h
 split at h<;>simp_all
section
variable {H:Type} {enc:TypeId×Value->H} {P:Program} {w:World} {spare:Nat->Bool} {held:Bool}
abbrev TW (w:World):Bool->Nat->Prop:=λ_ B=>B<w.heap.size
def Reads (w:World) (ty:Ty) (cs:List Value):Prop:=∃ xs:List AV,xs.length=cs.length/\cs.length=ty.size/\Fit ty xs/\(∀ (i:Nat) (x:AV) (v:Value),xs[i]?=some x->cs[i]?=some v->PR w (TW w) false x v/\v.oneCell'=true)
theorem KA (a:Addr) (i j:Nat) (h:a.spot=none):(a.add i).add j=⟨a.block,a.off+i+j,none⟩:=by
 obtain ⟨b,o,s⟩:=a
 grind [Addr.add]
def rh {ty:Ty} (hs:ty.size=1) {x:AV} {v:Value} (hf:Fit ty [x]) (hp:PR w (TW w) false x v) (h1:v.oneCell'=true):Reads w ty [v]:=by
 refine ⟨[x],rfl,by simp [hs],hf,?_⟩
 grind
def y3 {fuel:Nat} (ih:∀ (ty:Ty) (t:TypeId) (cs:List Value) (r:DataW H×List MemPlace),uv P ty t=true->DataW.trod enc P w 0 spare held fuel t cs=some r->Reads w ty cs) (cs:List Value) :
  ∀ (tys:List Ty) (fds:List Field) (o:Nat),E7 P tys fds o=true->o+Ty.ve tys=cs.length->(∀ f∈fds,∃ r,DataW.trod enc P w 0 spare held fuel f.type ((cs.drop f.offset).take (P.cellsOf f.type))=some r) ->
    ∃ xs:List AV,xs.length=Ty.ve tys/\qO tys xs/\(∀ (i:Nat) (x:AV) (v:Value),xs[i]?=some x->cs[o+i]?=some v->PR w (TW w) false x v/\v.oneCell'=true)
 | [],fds,o,hf,hl,hr=>⟨[],rfl,rfl,λi x v h=>by simp at h⟩
 | t::ts,[],o,hf,hl,hr=>by simp [E7] at hf
 | t::ts,f::fds,o,hf,hl,hr=>by
   simp only [E7,Bool.and_eq_true] at hf
   obtain ⟨⟨⟨h1,h2⟩,h3⟩,h4⟩:=hf
   have h2:=Nat.eq_of_beq_eq_true h2
   have h3:=Nat.eq_of_beq_eq_true h3
   simp only [Ty.ve] at hl
   obtain ⟨r,hr1⟩:=hr f List.mem_cons_self
   obtain ⟨xs,e1,e2,e3,e4⟩:=ih t f.type _ r h1 hr1
   obtain ⟨ys,g1,g2,g3⟩:=y3 ih cs ts fds (o+t.size) h4 (by omega) (λf hf=>hr f (List.mem_cons_of_mem _ hf))
   have hx:xs.length=t.size:=by omega
   refine ⟨xs++ys,by grind [Ty.ve],⟨xs,ys,rfl,e3,g2⟩,?_⟩
   grind
def B1:∀ (fuel:Nat) (ty:Ty) (t:TypeId) (cs:List Value) (r:DataW H×List MemPlace),uv P ty t=true->DataW.trod enc P w 0 spare held fuel t cs=some r->Reads w ty cs:=by
 intro fuel
 induction fuel with
 | zero=>intro ty t cs r _ h; simp [DataW.trod] at h
 | succ fuel ih =>
   intro ty t cs r ht h
   cases ty with
   | int =>
     simp only [uv] at ht
     split at ht
     ·rename_i hU
      rcases cs with _ | ⟨v,_ | ⟨v2,rest⟩⟩
      ·simp [DataW.trod,hU] at h
      ·cases v<;>simp [DataW.trod,hU] at h
       rename_i k n
       obtain ⟨⟨rfl,hwf⟩,_⟩:=h
       simp only [Lit.wf,Bool.and_eq_true,decide_eq_true_eq] at hwf
       exact rh rfl ⟨n,rfl,hwf⟩ (.int _ _ n) rfl
      ·simp [DataW.trod,hU] at h
     grind
   | bool =>
     simp only [uv] at ht
     split at ht
     ·rename_i hU
      rcases cs with _ | ⟨v,_ | ⟨v2,rest⟩⟩
      ·simp [DataW.trod,hU] at h
      ·cases v<;>simp [DataW.trod,hU] at h
       rename_i b
       exact rh rfl ⟨b,rfl⟩ (.bool _ b) rfl
      ·simp [DataW.trod,hU] at h
     grind
   | str =>
     simp only [uv] at ht
     split at ht
     ·rename_i hU
      rcases cs with _ | ⟨v,_ | ⟨v2,rest⟩⟩
      ·simp [DataW.trod,hU] at h
      ·cases v<;>simp [DataW.trod,hU] at h
       rename_i s
       refine rh rfl ⟨s.data.toList,rfl,?_⟩ (.str _ _ s rfl) rfl
       simp_all [maxLen]
      ·simp [DataW.trod,hU] at h
     grind
   | slice e =>
     simp only [uv] at ht
     split at ht
     ·rename_i te hU
      simp only [Bool.and_eq_true] at ht
      obtain ⟨⟨ht,hsz⟩,hpos⟩:=ht
      have hsz:=Nat.eq_of_beq_eq_true hsz
      have hpos:0<e.size:=Nat.ble_eq.mp hpos
      rcases cs with _ | ⟨v,_ | ⟨v2,rest⟩⟩
      ·simp [DataW.trod,hU] at h
      ·cases v<;>try (simp [DataW.trod,hU] at h; done)
       rename_i a len cap
       cases a with
       | none =>
         cases len<;>cases cap<;>try (simp [DataW.trod,hU] at h; done)
         exact rh rfl ⟨[],.nil,rfl,by simp,by simp,rfl,λ_=>rfl⟩ (.slnil _) rfl
       | some a =>
         simp only [DataW.trod,hU] at h
         split at h
         ·rename_i hc
          obtain ⟨_,hlc,hcm⟩:=hc
          have hcb:cap<=rT:=by
           grind [maxLen]
          cases hm:(List.range len).mapM (λi=>(w.cells? 0 (a.add (i*P.cellsOf te)) (P.cellsOf te)).bind (DataW.trod enc P w 0 spare held fuel te)) with
          | none=>grind
          | some elems =>
            obtain ⟨_,hel⟩:=zI hm
            have hat:∀ i,i<len->∃ (xs:List AV) (vs:List Value),xs.length=e.size/\vs.length=e.size/\Fit e xs/\(∀ (j:Nat) (x:AV) (v:Value),xs[j]?=some x->vs[j]?=some v->PR w (TW w) false x v/\v.oneCell'=true) /\
              ∀ j,j<e.size->∃ v,w.cell? ((a.add (i*e.size)).add j)=some v/\vs[j]?=some v:=by
             intro i hi
             obtain ⟨y,hy,_⟩:=hel i (by grind)
             simp only [List.getElem_range] at hy
             cases hcs:w.cells? 0 (a.add (i*P.cellsOf te)) (P.cellsOf te) with
             | none=>grind
             | some vs =>
               rw [hcs] at hy
               obtain ⟨xs,e1,e2,e3,e4⟩:=ih e te vs y ht hy
               grind [Mj]
            cases len with
            | zero=>exact rh rfl ⟨[],.j6,rfl,by simp,by simp,rfl,λh=>by cases h⟩ (.ng _ .j6 a cap (λh=>by cases h) (Nat.zero_le _)) rfl
            | succ len0 =>
              obtain ⟨xs0,vs0,_,_,_,_,hv0⟩:=hat 0 (by omega)
              obtain ⟨v00,hv00,_⟩:=hv0 0 hpos
              obtain ⟨hsp,c,et,fr,hB,_⟩:=Hk hv00
              have hspot:a.spot=none:=by
               grind [Addr.add]
              have hB:w.heap[a.block]?=some (.cells c et fr):=by
               grind [Addr.add]
              obtain ⟨rows,hrl,hrp⟩:=Al (p:=λi xs=>xs.length=e.size/\Fit e xs/\∀ (j:Nat) (x:AV),xs[j]?=some x->∃ v,c[a.off+i*e.size+j]?=some v/\PR w (TW w) false x v/\v.oneCell'=true) (len0+1) (by
               intro i hi
               obtain ⟨xs,vs,q1,q2,q3,q4,q5⟩:=hat i hi
               refine ⟨xs,q1,q3,λj x hx=>?_⟩
               have hj:j<e.size:=by grind
               obtain ⟨v,hv,hvj⟩:=q5 j hj
               obtain ⟨_,c',et',fr',hB',hcv⟩:=Hk hv
               grind [KA])
              have hpr:PR w (TW w) false (.sl rows .j6) (.slice (some ⟨a.block,a.off,none⟩) rows.length cap):=by
               refine .sl false rows .j6 a.block a.off c et fr cap e.size (λi j=>(c[a.off+i*e.size+j]?).getD .nilFunc) (λh=>by cases h) hB ?_ (by rw [hrl]; exact hlc) (by omega) ?_ ?_ ?_ ?_
               ·grind
               ·grind
               ·grind
               ·grind
               ·intro i cs' j x hcs' hx
                obtain ⟨v,hv,hp,_⟩:=(hrp i cs' hcs').2.2 j x hx
                rw [hv]; exact hp
              rw [hrl] at hpr
              have ha:a=⟨a.block,a.off,none⟩:=by obtain ⟨b,o,s⟩:=a; grind
              rw [<- ha] at hpr
              refine rh rfl ⟨rows,.j6,rfl,?_,by omega,rfl,λh=>by cases h⟩ hpr rfl
              intro x hx
              obtain ⟨i,hi⟩:=List.getElem?_of_mem hx
              grind
         ·cases h
      ·simp [DataW.trod,hU] at h
     grind
   | struct fs =>
     simp only [uv] at ht
     split at ht
     ·rename_i fds hU
      simp only [Bool.and_eq_true] at ht
      obtain ⟨hfs,hsz⟩:=ht
      have hsz:=Nat.eq_of_beq_eq_true hsz
      have hcs:cs.length=Ty.ve fs/\∀ f∈fds.toList,∃ r,DataW.trod enc P w 0 spare held fuel f.type ((cs.drop f.offset).take (P.cellsOf f.type))=some r:=by
       have key:(if cs.length=P.cellsOf t then (fds.toList.mapM λf=>DataW.trod enc P w 0 spare held fuel f.type ((cs.drop f.offset).take (P.cellsOf f.type))).map λxs=>(DataW.agg (xs.map (·.1)),xs.flatMap (·.2)) else none)=some r:=by
        rw [<- h]
        conv=>rhs; unfold DataW.trod
        rw [hU]
       split at key
       ·rename_i hl
        refine ⟨by omega,λf hf=>?_⟩
        cases hm:fds.toList.mapM λf=>DataW.trod enc P w 0 spare held fuel f.type ((cs.drop f.offset).take (P.cellsOf f.type)) with
        | none=>grind
        | some l =>
          obtain ⟨_,h2⟩:=zI hm
          obtain ⟨i,hi,rfl⟩:=List.mem_iff_getElem.mp hf
          grind
       grind
      obtain ⟨xs,x1,x2,x3⟩:=y3 ih cs fs fds.toList 0 hfs (by omega) hcs.2
      refine ⟨xs,by omega,hcs.1,x2,?_⟩
      grind
     grind
end
end Go.Sx
namespace Go.Sx
open Go
def zF:Ty:=.struct [.int,.int]
def JE:Ty:=.struct [.str,.int,.int]
def HQ:Ty:=.struct [zF,zF]
def MB:Ty:=.struct [.str,zF,.bool]
def Jp:Ty:=.struct [.str,.slice .int]
def DX:Ty:=.struct [.slice JE,.slice HQ,.slice MB,.slice Jp,.int,.int,.int,.int,.bool]
def Eo:Ty:=.struct [.str,.int,.int,.int,.int]
def Mf:Ty:=.struct [.bool,.int,.int,.int]
def NG:Ty:=.struct [.str,.int,.int,.int,.slice Mf]
def DT:Ty:=.struct [.int,.slice Eo,.slice NG]
def w8 {α:Type} {enc : α->List AV} {Q : α->Prop} {e:Ty} (he:∀ xs,Fit e xs->∃ x : α,xs=enc x/\Q x) {cs:List AV} (h:Fit (.slice e) cs):∃ r:Row α,cs=[r.av enc]/\∀ x∈r.l,Q x:=by
 simp only [Fit] at h
 obtain ⟨xs,c,rfl,h1,h2,h3,h4⟩:=h
 have:∀ xs:List (List AV),(∀ x∈xs,Fit e x)->∃ l:List α,xs=l.map enc/\∀ x∈l,Q x:=by
  intro xs
  induction xs with
  | nil=>exact λ_=>⟨[],rfl,by simp⟩
  | cons a xs ih =>
    intro h
    obtain ⟨y,hy,hq⟩:=he a (h a List.mem_cons_self)
    obtain ⟨l,hl,hl2⟩:=ih λx hx=>h x (List.mem_cons_of_mem _ hx)
    exact ⟨y::l,by grind,by simp_all⟩
 obtain ⟨l,rfl,hQ⟩:=this xs h1
 exact ⟨⟨l,c,by grind,h3,λhc=>by grind⟩,rfl,hQ⟩
def we {α:Type} {enc : α->List AV} {e:Ty} (he:∀ xs,Fit e xs->∃ x : α,xs=enc x) {cs:List AV} (h:Fit (.slice e) cs):∃ r:Row α,cs=[r.av enc]:=by
 obtain ⟨r,hr,_⟩:=w8 (Q:=λ_=>True) (λxs hx=>(he xs hx).imp λ_ h=>⟨h,trivial⟩) h
 exact ⟨r,hr⟩
def wW {cs:List AV} (h:Fit .int cs):∃ n:Int,cs=jL n:=by unfold Fit at h; exact h.imp λ_ h=>h.1
def MI {cs:List AV} (h:Fit .int cs):∃ n:Int,cs=jL n/\mI n:=by unfold Fit at h; exact h
def yY {cs:List AV} (h:Fit zF cs):∃ x:iz,cs=x.af/\mI x.elem:=by
 simp only [zF,Fit,qO] at h
 obtain ⟨_,_,rfl,⟨a,rfl,ha⟩,_,_,rfl,⟨b,rfl,hb⟩,rfl⟩:=h
 exact ⟨⟨a,b⟩,rfl,ha⟩
def Oe {cs:List AV} (h:Fit zF cs):∃ x:iz,cs=x.af:=(yY h).imp λ_ h=>h.1
def Ni {cs:List AV} (h:Fit JE cs):∃ x:jZ,cs=x.af:=by
 simp only [JE,Fit,qO] at h
 obtain ⟨_,_,rfl,⟨s,rfl,hs⟩,_,_,rfl,⟨a,rfl,_⟩,_,_,rfl,⟨b,rfl,_⟩,rfl⟩:=h
 exact ⟨⟨⟨s,hs⟩,a,b⟩,rfl⟩
def MK {cs:List AV} (h:Fit HQ cs):∃ x:jX,cs=x.af/\mI x.a.elem/\mI x.b.elem:=by
 simp only [HQ,qO] at h
 unfold Fit at h
 simp only [qO] at h
 obtain ⟨_,_,rfl,h1,_,_,rfl,h2,rfl⟩:=h
 obtain ⟨x,rfl,hx⟩:=yY h1
 obtain ⟨y,rfl,hy⟩:=yY h2
 exact ⟨⟨x,y⟩,rfl,hx,hy⟩
def T8 {cs:List AV} (h:Fit MB cs):∃ x:jY,cs=x.af:=by
 simp only [MB,Fit,qO] at h
 obtain ⟨_,_,rfl,⟨s,rfl,hs⟩,_,_,rfl,h2,_,_,rfl,⟨b,rfl⟩,rfl⟩:=h
 obtain ⟨y,rfl⟩:=Oe h2
 exact ⟨⟨⟨s,hs⟩,y,b⟩,rfl⟩
def Mz {cs:List AV} (h:Fit Jp cs):∃ x:ju,cs=x.af/\∀ z∈x.elems.l,mI z:=by
 simp only [Jp,qO] at h
 unfold Fit at h
 simp only [qO] at h
 obtain ⟨_,_,rfl,h1,_,_,rfl,h2,rfl⟩:=h
 simp only [Fit] at h1
 obtain ⟨s,rfl,hs⟩:=h1
 obtain ⟨r,rfl,hr⟩:=w8 (λ_=>MI) h2
 exact ⟨⟨⟨s,hs⟩,r⟩,rfl,hr⟩
def KK {cs:List AV} (h:Fit Eo cs):∃ x:jF,cs=x.af:=by
 simp only [Eo,Fit,qO] at h
 obtain ⟨_,_,rfl,⟨s,rfl,hs⟩,_,_,rfl,⟨a,rfl,_⟩,_,_,rfl,⟨b,rfl,_⟩,_,_,rfl,⟨c,rfl,_⟩,_,_,rfl,⟨d,rfl,_⟩,rfl⟩:=h
 exact ⟨⟨⟨s,hs⟩,a,b,c,d⟩,rfl⟩
def Tv {cs:List AV} (h:Fit Mf cs):∃ x:jJ,cs=x.af:=by
 simp only [Mf,Fit,qO] at h
 obtain ⟨_,_,rfl,⟨t,rfl⟩,_,_,rfl,⟨a,rfl,_⟩,_,_,rfl,⟨b,rfl,_⟩,_,_,rfl,⟨c,rfl,_⟩,rfl⟩:=h
 exact ⟨⟨t,a,b,c⟩,rfl⟩
def Tj {cs:List AV} (h:Fit NG cs):∃ x:j7,cs=x.af:=by
 unfold NG Fit at h
 simp only [qO] at h
 obtain ⟨_,_,rfl,h1,_,_,rfl,h2,_,_,rfl,h3,_,_,rfl,h4,_,_,rfl,h5,rfl⟩:=h
 simp only [Fit] at h1 h2 h3 h4
 obtain ⟨s,rfl,hs⟩:=h1
 obtain ⟨a,rfl,_⟩:=h2
 obtain ⟨b,rfl,_⟩:=h3
 obtain ⟨c,rfl,_⟩:=h4
 obtain ⟨r,rfl⟩:=we (λ_=>Tv) h5
 exact ⟨⟨⟨s,hs⟩,a,b,c,r⟩,rfl⟩
def Ns {cs:List AV} (h:Fit DT cs):∃ x:iB,cs=x.af:=by
 unfold DT Fit at h
 simp only [qO] at h
 obtain ⟨_,_,rfl,h1,_,_,rfl,h2,_,_,rfl,h3,rfl⟩:=h
 obtain ⟨a,rfl⟩:=wW h1
 obtain ⟨r,rfl⟩:=we (λ_=>KK) h2
 obtain ⟨s,rfl⟩:=we (λ_=>Tj) h3
 exact ⟨⟨a,r,s⟩,rfl⟩
def Ng {cs:List AV} (h:Fit DX cs):∃ x:bY,cs=x.af/\JG x:=by
 unfold DX Fit at h
 simp only [qO] at h
 obtain ⟨_,_,rfl,h1,_,_,rfl,h2,_,_,rfl,h3,_,_,rfl,h4,_,_,rfl,h5,_,_,rfl,h6,_,_,rfl,h7,_,_,rfl,h8,_,_,rfl,h9,rfl⟩:=h
 obtain ⟨r1,rfl⟩:=we (λ_=>Ni) h1
 obtain ⟨r2,rfl,hj⟩:=w8 (λ_=>MK) h2
 obtain ⟨r3,rfl⟩:=we (λ_=>T8) h3
 obtain ⟨r4,rfl,hl⟩:=w8 (λ_=>Mz) h4
 obtain ⟨a,rfl⟩:=wW h5
 obtain ⟨b,rfl⟩:=wW h6
 obtain ⟨c,rfl⟩:=wW h7
 obtain ⟨d,rfl⟩:=wW h8
 simp only [Fit] at h9
 obtain ⟨t,rfl⟩:=h9
 exact ⟨⟨r1,r2,r3,r4,a,b,c,d,t⟩,rfl,hj,hl⟩
section
variable {w:World}
def C4 {ty:Ty} {v:Value} (h:Reads w ty v.cells.toList) (h2:2<=ty.size):∃ xs,Fit ty xs/\PR w (TW w) false (.agg xs) v:=by
 obtain ⟨xs,h1,hs,hf,hp⟩:=h
 have hsz:2<=v.cells.size:=by
  grind
 cases v with
 | agg cs =>
   refine ⟨xs,hf,.agg false xs cs (by grind [Value.cells]) ?_ ?_⟩
   ·intro i y hy
    have hi:i<xs.length:=by
     grind [Value.cells]
    exact (hp i xs[i] y (by simp [hi]) (by grind [Value.cells])).2
   grind [Value.cells]
 | _=>simp [Value.cells] at hsz
end
end Go.Sx
namespace Go.Sx
open Go Go.Proofs Go.RowKit Go.Maps Go.WideElems Go.WideShapes
def AU (x:Int):List Int->List Int
 | []=>[x]
 | y::l=>if x<=y then x::y::l else y::AU x l
def kx:List Int->List Int
 | []=>[]
 | x::l=>AU x (kx l)
def yw:AV->Option Int
 | .int .i64 n=>if -9223372036854775808<=n/\n<=9223372036854775807 then some n else none
 | _=>none
def xk:List (AV×AV)->Option (List Int)
 | []=>some []
 | p::l=>match yw p.1 with
   | some n=>match xk l with
     | some ks=>some (n::ks)
     | none=>none
   | none=>none
def CH:List Int->Bool
 | []=>true
 | x::l=>!(l.contains x)&&CH l
def NP:List Int->AV
 | []=>.sl [] .nil
 | l=>.sl (l.map λn=>[.int .i64 n]) .j6
def w6 (shd:Bool) (l:List Int) (h:aT):AV×aT:=match shd,l with
 | true,x::l=>(.hs h.size 0 0 (l.length+1),h.push (.iH 0 1 ((x::l).map λn=>[.int .i64 n])))
 | _,l=>(NP l,h)
def pI (shd:Bool) (ks:Option (List Int)) (h:aT):R2:=match ks with
 | some ks=>match CH ks&&Nat.ble ks.length 1000000 with
   | true=>some (w6 shd (kx ks) h)
   | false=>none
 | none=>none
def Xn (p:AV×AV×Nat):AV×AV:=(p.1,p.2.1)
def pW (shd:Bool) (args:List AV) (h:aT):R2:=match args with
 | [.ka]=>some (.sl [] .nil,h)
 | [.fm es _]=>pI shd (xk es) h
 | [.hm b]=>match h.get b with
   | some (.map es _)=>pI shd (xk (es.map Xn)) h
   | _=>none
 | _=>none
def yj (x:Int):∀ l,(AU x l).Perm (x::l)
 | []=>.refl _
 | y::l=>by
   unfold AU
   split
   ·exact .refl _
   ·exact ((yj x l).cons y).trans (.swap x y l)
theorem sN:∀ l,(kx l).Perm l
 | []=>.refl _
 | x::l=>(yj x _).trans ((sN l).cons x)
def An (x:Int):∀ {l:List Int},l.Pairwise (·<=·)->(AU x l).Pairwise (·<=·)
 | [],_=>by simp [AU]
 | y::l,h=>by
   unfold AU
   rw [List.pairwise_cons] at h
   split
   ·rename_i hxy
    refine List.pairwise_cons.2 ⟨λz hz=>?_,List.pairwise_cons.2 h⟩
    rcases List.mem_cons.1 hz with rfl | hz
    ·exact hxy
    ·exact Int.le_trans hxy (h.1 z hz)
   ·refine List.pairwise_cons.2 ⟨λz hz=>?_,An x h.2⟩
    rcases List.mem_cons.1 ((yj x l).mem_iff.1 hz) with rfl | hz
    ·omega
    ·exact h.1 z hz
def xR:∀ l,(kx l).Pairwise (·<=·)
 | []=>.nil
 | x::l=>An x (xR l)
theorem Df {l l':List Int} (h:l.Perm l'):l.mergeSort leI=kx l':=by
 rw [mergeSort_of_perm_i (h.trans (sN l').symm)]
 exact List.mergeSort_of_pairwise ((xR l').imp (by simp [leI]))
theorem vJ {v:AV} {n:Int} (h:yw v=some n):v=.int .i64 n/\-9223372036854775808<=n/\n<=9223372036854775807:=by
 unfold yw at h
 grind
def Cn:∀ {es:List (AV×AV)} {ks:List Int},xk es=some ks->es.map (·.1)=ks.map (AV.int .i64)/\∀ n∈ks,-9223372036854775808<=n/\n<=9223372036854775807
 | [],ks,h=>by simp only [xk,Option.some.injEq] at h; subst h; simp
 | p::l,ks,h=>by
   unfold xk at h
   split at h
   ·rename_i n hn
    split at h
    ·rename_i ks' hk
     obtain ⟨e1,h1⟩:=vJ hn
     obtain ⟨e2,h2⟩:=Cn hk
     simp only [Option.some.injEq] at h
     subst h
     refine ⟨by simp [e1,e2],λm hm=>?_⟩
     rcases List.mem_cons.1 hm with rfl | hm
     ·exact h1
     ·exact h2 m hm
    ·cases h
   ·cases h
def B0:∀ {l:List Int},CH l=true->l.Nodup
 | [],_=>.nil
 | x::l,h=>by
   simp only [CH,Bool.and_eq_true,Bool.not_eq_true',List.contains_eq_mem,decide_eq_false_iff_not] at h
   exact List.nodup_cons.2 ⟨h.1,B0 h.2⟩
def BZ {G:Ga} (hW:WR G) {w':World} (hb:Below G.w.heap.size G.w w') (Tn:Bool->Nat->Prop) (hT:∀ s B,Tn s B->G.w.heap.size<=B/\B<w'.heap.size) :
  let G':Ga:=⟨w',λs B=>G.T s B\/Tn s B,G.h,G.pi,G.L⟩
  Step G G'/\WR G':=by
 intro G'
 have hold:∀ B,B<G.w.heap.size->G'.w.heap[B]?=G.w.heap[B]?:=hb.block
 have E:Ext G G':=⟨λ_ _ h=>.inl h,λs B h=>hold B (hW.nb s B h),Nat.le_refl _,λb _ g z xs h=>⟨g,z,xs,h,Nat.le_refl _,λ_=>⟨rfl,λ_ h=>h⟩⟩,λb _ es c h=>⟨es,c,h,λ_ h=>h⟩,λ_ _ h=>h⟩
 obtain ⟨k1,k2,k3⟩:=hW.keep E hold
 have hs:=hb.size
 refine ⟨⟨E,hb.os,hb.output,⟨hb.tape,λh=>False.elim h⟩,hb.size,λB h _ _=>hold B h,λb l h=>.inl ⟨l,h,rfl⟩,λb l h=>.inl (by show (G.pi b).isSome=true; rw [show G.pi b=some l from h]; rfl),?_,rfl,λ_ _ _=>rfl,λ_ _ h=>.inl h,λd B h=>.inl (by rw [show G.L d=some B from h]; rfl),λ_ _ _ h=>h⟩,k1,k2,k3,?_,hW.mL,?_,hW.oh,?_,hW.oO,?_,?_,hW.lo,hW.lt⟩
 ·rintro s B (h | h)
  ·exact .inl h
  ·exact .inr (hT s B h).1
 ·exact λb l h=>⟨Nat.lt_of_lt_of_le (hW.kC b l h).1 hs,(hW.kC b l h).2⟩
 ·rintro s b l h (ht | ht)
  ·exact hW.p6 s b l h ht
  ·have:=(hW.kC b l h).1; have:=(hT _ _ ht).1; omega
 ·rintro s d B h (ht | ht)
  ·exact hW.LT s d B h ht
  ·have:=(hW.lT d B h).1; have:=(hT _ _ ht).1; omega
 ·exact λd B h=>⟨Nat.lt_of_lt_of_le (hW.lT d B h).1 hs,(hW.lT d B h).2⟩
 ·rintro s B (h | h)
  ·exact Nat.lt_of_lt_of_le (hW.nb s B h) hs
  ·exact (hT s B h).2
section
variable {G:Ga} {w':World}
def TY (hW:WR G) {g cap z:Nat} {xs:List (List AV)} (hb:Below G.w.heap.size G.w w') (hg:G.w.heap.size<=g) (hlt:g<w'.heap.size)
  (hblk:∀ G',Ext G G'->G'.w=w'->ny G' ⟨g,0,cap⟩ z xs) :
  Step G ⟨w',G.T,G.h.push (.iH 0 z xs),mG G.pi G.h.size (some ⟨g,0,cap⟩),G.L⟩/\WR ⟨w',G.T,G.h.push (.iH 0 z xs),mG G.pi G.h.size (some ⟨g,0,cap⟩),G.L⟩:=by
 obtain ⟨s1,hV⟩:=D1 hW (.iH 0 z xs)
 have hp0:G.pi G.h.size=none:=Ck hW (Nat.le_refl _)
 have hget:(G.h.push (.iH 0 z xs)).get G.h.size=some (.iH 0 z xs):=by rw [aT.o5 _ _ _ hW.lo,if_pos rfl]
 have hup:∀ b l,G.pi b=some l->mG G.pi G.h.size (some ⟨g,0,cap⟩) b=some l:=by
  grind [mU]
 have hold:∀ B,B<G.w.heap.size->w'.heap[B]?=G.w.heap[B]?:=hb.block
 have hs:=hb.size
 have E:Ext ⟨G.w,G.T,G.h.push (.iH 0 z xs),G.pi,G.L⟩ ⟨w',G.T,G.h.push (.iH 0 z xs),mG G.pi G.h.size (some ⟨g,0,cap⟩),G.L⟩ :=
  ⟨λ_ _ h=>h,λs B hB=>hold B (hW.nb s B hB),Nat.le_refl _,λb _ g z xs h=>⟨g,z,xs,h,Nat.le_refl _,λ_=>⟨rfl,hup b⟩⟩,λb _ es c h=>⟨es,c,h,hup b⟩,λ_ _ h=>h⟩
 obtain ⟨k1,k2,k3⟩:=hV.keep E (λB hB=>hold B hB)
 have hdom:∀ b l,mG G.pi G.h.size (some ⟨g,0,cap⟩) b=some l->(b=G.h.size/\l=⟨g,0,cap⟩)\/(b≠G.h.size/\G.pi b=some l):=by
  grind [lu,mU]
 have hF:s9 ⟨G.w,G.T,G.h.push (.iH 0 z xs),G.pi,G.L⟩ ⟨w',G.T,G.h.push (.iH 0 z xs),mG G.pi G.h.size (some ⟨g,0,cap⟩),G.L⟩ (·=G.h.size) (λ_=>False):=by
  refine ⟨E,hb.os,hb.output,⟨hb.tape,λh=>False.elim h⟩,hs,λB hB=>hold B hB,?_,?_,rfl,rfl,λ_ _ h=>.inl h,λ_ _ h=>.inl (Option.isSome_iff_exists.2 ⟨_,h⟩)⟩
  ·grind
  ·grind
 refine ⟨s1.fill hF (by omega) (λ_ h=>h.elim),?_⟩
 have hL:=hblk _ (s1.ext.trans E) rfl
 constructor
 ·intro b l g' z' xs' hp hg'
  rcases hdom b l hp with ⟨rfl,rfl⟩ | ⟨_,hp⟩
  ·rw [hget] at hg'
   cases hg'
   exact hL
  ·exact k1 b l g' z' xs' hp hg'
 ·intro b l es c hp hg'
  rcases hdom b l hp with ⟨rfl,rfl⟩ | ⟨_,hp⟩
  ·rw [hget] at hg'; cases hg'
  ·exact k2 b l es c hp hg'
 ·exact k3
 ·intro b l hp
  rcases hdom b l hp with ⟨rfl,rfl⟩ | ⟨_,hp⟩
  ·exact ⟨hlt,hV.lt _ _ hget⟩
  ·have:=hV.kC b l hp
   exact ⟨Nat.lt_of_lt_of_le this.1 hs,this.2⟩
 ·intro b b' l l' hp hp' he
  rcases hdom b l hp with ⟨rfl,rfl⟩ | ⟨_,hq⟩
  ·rcases hdom b' l' hp' with ⟨rfl,rfl⟩ | ⟨_,hq'⟩
   ·rfl
   ·have:=(hW.kC b' l' hq').1
    grind
  ·rcases hdom b' l' hp' with ⟨rfl,rfl⟩ | ⟨_,hq'⟩
   ·have:=(hW.kC b l hq).1
    grind
   ·exact hW.mL b b' l l' hq hq' he
 ·intro s b l hp hT
  rcases hdom b l hp with ⟨rfl,rfl⟩ | ⟨_,hp⟩
  ·have:=hW.nb s _ hT
   grind
  ·exact hW.p6 s b l hp hT
 ·exact hW.oh
 ·exact hW.LT
 ·intro d B b l hd hp
  rcases hdom b l hp with ⟨rfl,rfl⟩ | ⟨_,hp⟩
  ·have:=(hW.lT d B hd).1
   grind
  ·exact hW.oO d B b l hd hp
 ·intro d B hd
  have:=hV.lT d B hd
  exact ⟨Nat.lt_of_lt_of_le this.1 hs,this.2⟩
 ·intro s B hB
  exact Nat.lt_of_lt_of_le (hW.nb s B hB) hs
 ·exact hV.lo
 ·exact hV.lt
end
def Ap {P:Program} {f kt:Nat} (hk:P.underlying kt=some (.int .i64))     (h1:∀ (b nn:Nat) (D0:DataW Unit) (w:World),w.ownsMap P kt (λ_=>some (.nil,[])) b nn D0->Maps.size D0<=maxLen->Maps.size D0*8<=140737488355328->      Calls P f #[.map (some b)] w λe w'=>∃ (v:Value) (ss:List Int),e=.returned v/\ss.Perm (intKeys D0)/\      w'.ownsRow w.heap.size kt 1 v ss.length ((ss.mergeSort leI).map encZ)/\(v=.slice none 0 0↔ss=[])/\Below w.heap.size w w')
  {G:Ga} (hW:WR G) {es:List (AV×AV)} {ks:List Int} (hks:xk es=some ks) (hn:(CH ks&&Nat.ble ks.length 1000000)=true)
  {r:Nat} {ents:Array MapEntry} {clk:Nat} (hB:G.w.heap[r]?=some (.map ents clk)) (hll:es.length=ents.size) (hyo:MJ ents clk)
  (hkk:∀ (i:Nat) (p:AV×AV) (e:MapEntry),es[i]?=some p->ents[i]?=some e->∃ m,PR G.w G.T m p.1 e.key)
  (shd:Bool) {R:Ending->World->Prop} (hR:∀ u G',Step G G'->WR G'->G'.h=(w6 shd (kx ks) G.h).2->(∀ m L,VR (G'.jI m L) (w6 shd (kx ks) G.h).1 u)->R (.returned u) G'.w) :
  Calls P f #[.map (some r)] G.w R:=by
 simp only [Bool.and_eq_true,Nat.ble_eq] at hn
 obtain ⟨hn,hlen⟩:=hn
 have hnd:=B0 hn
 obtain ⟨hmap,hrg⟩:=Cn hks
 have hel:es.length=ks.length:=by simpa using congrArg List.length hmap
 have hkey:ents.toList.map (·.key)=ks.map encZ:=by
  apply List.ext_getElem?
  intro i
  simp only [List.getElem?_map,Array.getElem?_toList]
  cases he:ents[i]? with
  | none =>
    have:ks.length<=i:=by rw [<- hel,hll]; exact Array.getElem?_eq_none_iff.1 he
    rw [List.getElem?_eq_none this]; rfl
  | some e =>
    have hi:i<es.length:=by rw [hll]; exact (Array.getElem?_eq_some_iff.1 he).1
    obtain ⟨m,hp⟩:=hkk i es[i] e (by simp [hi]) he
    have hq:(es.map (·.1))[i]?=some es[i].1:=by simp [hi]
    rw [hmap,List.getElem?_map] at hq
    cases hki:ks[i]? with
    | none=>rw [hki] at hq; cases hq
    | some n =>
      rw [hki] at hq
      simp only [Option.map_some,Option.some.injEq] at hq
      rw [<- hq] at hp
      have hx:e.key=.int .i64 n:=by
       generalize e.key=kv at hp
       cases hp; rfl
      simp [hx]
 have hrd:∀ x∈ents.toList,∃ n∈ks,x.key=encZ n/\rd P kt (λ_=>some ((.nil,[]):DataW Unit×List MemPlace)) x=some (.int .i64 n,.nil):=by
  intro x hx
  have:x.key∈ks.map encZ:=hkey▸List.mem_map_of_mem hx
  obtain ⟨n,hn,he⟩:=List.mem_map.1 this
  refine ⟨n,hn,he.symm,?_⟩
  have hw:(Lit.int .i64 n).wf=true:=by
   have:=hrg n hn
   have e1:IntKind.i64.min = -9223372036854775808:=by decide
   have e2:IntKind.i64.max=9223372036854775807:=by decide
   simp only [Lit.wf,e1,e2,Bool.and_eq_true,decide_eq_true_eq]
   exact this
  unfold rd
  rw [<- he,keyOf_int_mk hk hw]; rfl
 have hsz:ents.size=ks.length:=by omega
 have hown:G.w.ownsMap P kt (λ_=>some (.nil,[])) r ents.size (.map ((ents.toList.map (rg P kt (λ_=>some ((.nil,[]):DataW Unit×List MemPlace)))).foldr DataW.insert [])) :=
  ⟨ents,clk,hB,⟨by rw [hsz]; exact Nat.le_trans hlen (by decide),⟨λx hx=>by obtain ⟨i,hi⟩:=List.getElem?_of_mem hx; exact hyo.1 i x (by simpa using hi),hyo.2,by rw [hkey]; exact List.Pairwise.map _ (λa b hab h=>hab (encZ_inj h)) hnd⟩,λx hx=>by obtain ⟨n,_,_,h⟩:=hrd x hx; exact ⟨_,h⟩⟩,Nat.le_refl _,rfl⟩
 have hik:(intKeys (.map ((ents.toList.map (rg P kt (λ_=>some ((.nil,[]):DataW Unit×List MemPlace)))).foldr DataW.insert []))).Perm ks:=by
  refine ((sorted_perm _).map (λp:Lit×DataW Unit=>intOf p.1)).trans ?_
  rw [List.map_map]
  have:ents.toList.map ((λp:Lit×DataW Unit=>intOf p.1) ∘ rg P kt (λ_=>some ((.nil,[]):DataW Unit×List MemPlace)))=(ents.toList.map (·.key)).map (λv=>match v with | .int _ n=>n | _=>0):=by
   rw [List.map_map]
   refine List.map_congr_left λx hx=>?_
   obtain ⟨n,_,e,h⟩:=hrd x hx
   simp only [Function.comp,rg_of h,e,intOf]
  rw [this,hkey,List.map_map]
  exact .of_eq (by simp [Function.comp_def])
 have hs0:Maps.size (.map ((ents.toList.map (rg P kt (λ_=>some ((.nil,[]):DataW Unit×List MemPlace)))).foldr DataW.insert []))=ks.length:=by
  have:=hik.length_eq
  simpa [intKeys,Maps.size] using this
 refine (h1 r _ _ G.w hown (by rw [hs0]; exact Nat.le_trans hlen (by decide)) (by rw [hs0]; omega)).mono ?_
 rintro e w' ⟨v,ss,rfl,hss,hrow,hnil,hb⟩
 rw [Df (hss.trans hik)] at hrow
 have p7:ss.length=(kx ks).length:=by rw [(hss.trans hik).length_eq,(sN ks).length_eq]
 rcases hrow.2 with ⟨rfl,hz⟩ | ⟨g,cap,cur,rfl,hbase,hgb,r1,r2,r3,r4⟩
 ·obtain ⟨S1,W1⟩:=BZ hW hb (λ_ _=>False) (λ_ _ h=>h.elim)
  have:kx ks=[]:=List.eq_nil_of_length_eq_zero (by omega)
  have hr0:w6 shd (kx ks) G.h=(.sl [] .nil,G.h):=by rw [this]; cases shd<;>rfl
  exact hR _ _ S1 W1 (by rw [hr0]) (λm L=>by rw [hr0]; exact VR.jI (.jm rfl (.slnil _)) rfl)
 ·have hglt:g<w'.heap.size:=(Array.getElem?_eq_some_iff.1 hgb).1
  have hne:kx ks≠[]:=by
   intro h0
   have:ss=[]:=List.eq_nil_of_length_eq_zero (by rw [p7,h0]; rfl)
   cases hnil.2 this
  have hrw:NP (kx ks)=.sl ((kx ks).map λn=>[.int .i64 n]) .j6:=by
   cases hq:kx ks with
   | nil=>exact (hne hq).elim
   | cons a l=>rfl
  have hcell:∀ (i:Nat) (n:Int),(kx ks)[i]?=some n->cur[i]?=some (.int .i64 n):=by
   intro i n hn
   have hi:i<(kx ks).length:=(List.getElem?_eq_some_iff.1 hn).1
   have h2:(cur.toList.take (ss.length*1))[i]?=((kx ks).map encZ)[i]?:=by rw [r4]
   rw [List.getElem?_take_of_lt (by omega),List.getElem?_map,hn] at h2
   simpa using h2
  have hlist:∀ (i:Nat) (cs:List AV),((kx ks).map λn=>([.int .i64 n]:List AV))[i]?=some cs->∃ n,(kx ks)[i]?=some n/\cs=[.int .i64 n]:=by
   intro i cs h
   rw [List.getElem?_map] at h
   cases hq:(kx ks)[i]? with
   | none=>rw [hq] at h; cases h
   | some n=>rw [hq] at h; exact ⟨n,rfl,by simpa using h.symm⟩
  cases shd with
  | false =>
    obtain ⟨S1,W1⟩:=BZ hW hb (λs B=>s=false/\B=g) (λ_ _ h=>by rw [h.2]; exact ⟨hbase,hglt⟩)
    have key:PR w' (λs B=>G.T s B\/s=false/\B=g) true (.sl ((kx ks).map λn=>[.int .i64 n]) .j6) (.slice (some ⟨g,0,none⟩) ((kx ks).map λn=>([.int .i64 n]:List AV)).length cap):=by
     refine .sl _ _ .j6 g 0 cur kt (0,0) cap 1 (λi _=>.int .i64 ((kx ks).getD i 0)) (λh=>by cases h) hgb (.inr ⟨rfl,rfl⟩) ?_ ?_ ?_ ?_ ?_ ?_
     ·show _<=_; rw [List.length_map,<- p7]; exact r1
     ·rw [List.length_map,<- p7]; exact r1
     ·intro i cs h; obtain ⟨n,_,rfl⟩:=hlist i cs h; rfl
     ·intro i cs j x h hj
      obtain ⟨n,hn,rfl⟩:=hlist i cs h
      cases j with
      | zero=>simp only [Nat.zero_add,Nat.mul_one,Nat.add_zero]; rw [hcell i n hn,List.getD_eq_getElem?_getD,hn]; rfl
      | succ j=>cases hj
     ·intro i cs j x _ _; rfl
     ·intro i cs j x h hj
      obtain ⟨n,hn,rfl⟩:=hlist i cs h
      cases j with
      | zero =>
        simp only [List.getElem?_cons_zero,Option.some.injEq] at hj
        subst hj
        rw [List.getD_eq_getElem?_getD,hn]
        exact .int _ _ _
      | succ j=>cases hj
    rw [List.length_map,<- p7] at key
    exact hR _ _ S1 W1 rfl (λm L=>by rw [show w6 false (kx ks) G.h=(NP (kx ks),G.h) from rfl,hrw]; exact VR.jI (.jm rfl key) rfl)
  | true =>
    have hr1:w6 true (kx ks) G.h=(.hs G.h.size 0 0 ss.length,G.h.push (.iH 0 1 ((kx ks).map λn=>[.int .i64 n]))):=by
     rw [p7]
     cases hq:kx ks with
     | nil=>exact (hne hq).elim
     | cons a l=>rfl
    obtain ⟨S1,W1⟩:=TY (cap:=cap) (z:=1) (xs:=(kx ks).map λn=>[.int .i64 n]) hW hb hbase hglt (by
     intro G' E e
     refine ⟨cur,kt,by rw [e]; exact hgb,by rw [List.length_map,<- p7]; exact r1,by show 0+cap*1<=_; omega,?_,?_⟩
     ·intro i cs h; obtain ⟨n,_,rfl⟩:=hlist i cs h; rfl
     ·intro i cs j x h hj
      obtain ⟨n,hn,rfl⟩:=hlist i cs h
      cases j with
      | zero =>
        simp only [List.getElem?_cons_zero,Option.some.injEq] at hj
        subst hj
        refine ⟨.int .i64 n,?_,rfl,⟨.jm rfl (.int _ _ _),rfl⟩⟩
        simp only [Nat.zero_add,Nat.mul_one,Nat.add_zero]
        exact hcell i n hn
      | succ j=>cases hj)
    refine hR _ _ S1 W1 (by rw [hr1]) (λm L=>?_)
    rw [hr1]
    refine VR.jI (.hs _ 0 0 _ _ cap ?_ (λ_ _ _ _=>Nat.zero_le _) r1 ?_) rfl
    ·show G.h.size<(G.h.push _).size
     rw [aT.size_push]
     exact Nat.lt_succ_self _
    ·intro z xs _
     exact ⟨_,lu _ _ _,by simp,λ_=>by simp⟩
def vd {shd:Bool} {ks:Option (List Int)} {h:aT} {v:AV} {h':aT} (hc:pI shd ks h=some (v,h')):∃ l,ks=some l/\(CH l&&Nat.ble l.length 1000000)=true/\w6 shd (kx l) h=(v,h'):=by
 unfold pI at hc
 grind
def Iz:∀ (args:List AV) (h:aT) (v:AV) (h':aT),pW false args h=some (v,h')->h'=h/\∀ h2:aT,(∀ b o,h.get b=some o->h2.get b=some o)->pW false args h2=some (v,h2):=by
 intro args h v h' hc
 unfold pW at hc
 split at hc
 ·cases hc; exact ⟨rfl,λ_ _=>rfl⟩
 ·obtain ⟨ks,hks,hn,hrz⟩:=vd hc
  cases hrz
  exact ⟨rfl,λh2 _=>by simp only [pW,pI,hks,hn]; rfl⟩
 ·split at hc
  ·rename_i hget
   obtain ⟨ks,hks,hn,hrz⟩:=vd hc
   cases hrz
   exact ⟨rfl,λh2 hh=>by simp only [pW,pI,hh _ _ hget,hks,hn]; rfl⟩
  ·cases hc
 ·cases hc
theorem DI {P : Program} {f kt : Nat} (hex : ∃ fn, P.funcs[f]? = some fn ∧ fn.body.isNone = false ∧ (fn.name == "runtime.NumGoroutine") = false)
  (hk:P.underlying kt=some (.int .i64))
  (h1:∀ (b nn:Nat) (D0:DataW Unit) (w:World),w.ownsMap P kt (λ_=>some (.nil,[])) b nn D0->Maps.size D0<=maxLen->Maps.size D0*8<=140737488355328 ->
    Calls P f #[.map (some b)] w λe w'=>∃ (v:Value) (ss:List Int),e=.returned v/\ss.Perm (intKeys D0) /\
    w'.ownsRow w.heap.size kt 1 v ss.length ((ss.mergeSort leI).map encZ)/\(v=.slice none 0 0↔ss=[])/\Below w.heap.size w w')
  (h0:∀ w:World,Calls P f #[.map none] w λe w'=>e=.returned (.slice none 0 0)/\Below w.heap.size w w'):mq P f pW where
 call:=by
  intro shd args h v h' hc G args' hG hlo hL hW hl hr
  refine ⟨hex,?_⟩
  intro R hR
  subst hG
  have one:∀ x:AV,args=[x]->∃ y,args' = #[y]/\VC G x y:=by
   rintro x rfl
   cases args' with | mk l =>
   cases l with
   | nil=>simp at hl
   | cons y l =>
     cases l with
     | nil=>exact ⟨y,rfl,hr 0 x y rfl rfl⟩
     | cons _ _=>simp at hl
  unfold pW at hc
  split at hc
  ·obtain ⟨y,rfl,hy⟩:=one _ rfl
   cases hc
   have hv:=hy.vr
   cases hv with
   | jm _ hp =>
     cases hp
     refine (h0 G.w).mono ?_
     rintro e w' ⟨rfl,hb⟩
     obtain ⟨S1,W1⟩:=BZ hW hb (λ_ _=>False) (λ_ _ h=>h.elim)
     exact hR _ _ S1 W1 (λm=>rfl) (λm L=>VR.jI (.jm rfl (.slnil _)) rfl)
  ·obtain ⟨y,rfl,hy⟩:=one _ rfl
   obtain ⟨ks,hks,hn,hrz⟩:=vd hc
   have hv:=hy.vr
   cases hv with
   | jm _ hp =>
     cases hp with
     | fm _ _ _ r ents clk _ hB hI hll hyo hko hkk hvv =>
       exact Ap hk h1 hW hks hn hB hll hyo (λi p e hp he=>⟨_,hkk i p e hp he⟩) shd (λu G' S W e hv=>hR u G' S W (λm=>by rw [e,hrz]) (by rw [hrz] at hv; exact hv))
  ·obtain ⟨y,rfl,hy⟩:=one _ rfl
   split at hc
   ·rename_i es c hget
    obtain ⟨ks,hks,hn,hrz⟩:=vd hc
    obtain ⟨l,ents,hpi,rfl,hB,hent,hyo⟩:=rW hW hy.vr hget
    have hlen:es.length=ents.size:=by simpa using hent.1
    have he2:∀ (i:Nat) (p:AV×AV×Nat) (e:MapEntry),es[i]?=some p->ents[i]?=some e->p.1.pt=true/\PR G.w G.T false p.1 e.key/\VC G p.2.1 e.val/\p.2.2=e.born:=λi p e hp he=>hent.2 i p e hp (by simpa using he)
    refine Ap hk h1 hW hks hn hB (by simpa using hlen) (hyo.UF hlen λi p e hp he=>(he2 i p e hp he).2.2.2) (λi p e hp he=>?_) shd (λu G' S W e hv=>hR u G' S W (λm=>by rw [e,hrz]) (by rw [hrz] at hv; exact hv))
    rw [List.getElem?_map] at hp
    cases hq:es[i]? with
    | none=>rw [hq] at hp; cases hp
    | some q =>
      rw [hq] at hp
      cases hp
      exact ⟨_,(he2 i q e hq he).2.1⟩
   ·cases hc
  ·cases hc
 wU:=Iz
end Go.Sx
namespace Go.Sx
open Go Go.Proofs Go.RowKit Go.Maps Go.Sort
def Jv:List AV->Option Int
 | [v]=>yw v
 | _=>none
def tG:List (List AV)->Option (List Int)
 | []=>some []
 | c::l=>match Jv c with
   | some n=>match tG l with
     | some ks=>some (n::ks)
     | none=>none
   | none=>none
def putAt (xs:List (List AV)) (o l:Nat) (ys:List (List AV)):List (List AV):=xs.take o++ys++xs.drop (o+l)
def nt (l:List Int):List (List AV):=l.map λn=>[.int .i64 n]
def xv (shd:Bool) (args:List AV) (h:aT):R2:=match args with
 | [.sl [] _]=>some (.je [],h)
 | [.hs b g o l]=>match l with
   | 0=>some (.je [],h)
   | k+1=>match shd with
     | false=>none
     | true=>match h.get b with
       | some (.iH g' z xs)=>match Nat.beq g g'&&(Nat.beq z 1&&(Nat.ble (o+(k+1)) xs.length&&Nat.ble (k+1) 1000000)) with
         | true=>match tG ((xs.drop o).take (k+1)) with
           | some ks=>some (.je [],h.set b (.iH g' z (putAt xs o (k+1) (nt (kx ks)))))
           | none=>none
         | false=>none
       | _=>none
 | _=>none
theorem JP {c:List AV} {n:Int} (h:Jv c=some n):c=[.int .i64 n]:=by
 unfold Jv at h
 split at h
 ·rw [(vJ h).1]
 ·cases h
theorem xm:∀ {l:List (List AV)} {ks:List Int},tG l=some ks->l=nt ks
 | [],ks,h=>by simp only [tG,Option.some.injEq] at h; subst h; rfl
 | c::l,ks,h=>by
   unfold tG at h
   split at h
   ·rename_i n hn
    split at h
    ·rename_i ks' hk
     simp only [Option.some.injEq] at h
     subst h
     rw [JP hn,xm hk]; rfl
    ·cases h
   ·cases h
theorem vi {xs ys:List (List AV)} {o l i:Nat} (hy:ys.length=l) (hl:o+l<=xs.length):(putAt xs o l ys)[i]?=if o<=i/\i<o+l then ys[i - o]? else xs[i]?:=by
 unfold putAt
 rw [List.append_assoc,List.getElem?_append]
 have h1:(xs.take o).length=o:=by rw [List.length_take]; omega
 rw [h1]
 split
 ·rename_i hi
  rw [if_neg (by omega),List.getElem?_take_of_lt hi]
 ·rename_i hi
  rw [List.getElem?_append,hy]
  split
  ·rw [if_pos (by omega)]
  ·rw [if_neg (by omega),List.getElem?_drop]
   congr 1
   omega
theorem Dj {xs ys:List (List AV)} {o l:Nat} (hy:ys.length=l) (hl:o+l<=xs.length):(putAt xs o l ys).length=xs.length:=by
 unfold putAt
 simp only [List.length_append,List.length_take,List.length_drop]
 omega
def Eh {G:Ga} (hW:WR G) {b g z:Nat} {xs xs':List (List AV)} {L:Loc} (hp:G.pi b=some L) (hget:G.h.get b=some (.iH g z xs)) {w1 w':World} {c':Array Value} {e:TypeId}
  (hP:pO G.w w1 L.B (.cells c' e (0,0))) (hb:Below w1.heap.size w1 w') (hblk:∀ G',Ext G G'->G'.w.heap[L.B]?=some (.cells c' e (0,0))->ny G' L z xs') :
  ∃ T',Step G ⟨w',T',G.h.set b (.iH g z xs'),G.pi,G.L⟩/\WR ⟨w',T',G.h.set b (.iH g z xs'),G.pi,G.L⟩:=by
 obtain ⟨s1,W1⟩:=uj (ob:=.iH g z xs') hW hp hP (.inl ⟨g,z,xs,xs',hget,rfl⟩) (by rintro _ _ _ ⟨⟩; exact hblk) (by rintro _ _ ⟨⟩)
 obtain ⟨s2,W2⟩:=BZ W1 hb (λ_ _=>False) (λ_ _ h=>h.elim)
 exact ⟨_,s1.trans s2,W2⟩
theorem C1 {G:Ga} {n:Int} {v:Value} (h:VC G (.int .i64 n) v):v=.int .i64 n:=by
 cases h.vr with
 | jm _ hp=>cases hp; rfl
def C0 {G:Ga} (hW:WR G) {b g o l:Nat} {xs:List (List AV)} (hget:G.h.get b=some (.iH g 1 xs)) (hle:o+l<=xs.length) {ks:List Int} (hks:tG ((xs.drop o).take l)=some ks) {L:Loc} (hp:G.pi b=some L) :
  ks.length=l/\Holds (Value.int .i64) G.w L.B (L.base+o*1) ks.toArray:=by
 obtain ⟨c,e,hB,hcap,hsz,hz,hc⟩:=hW.iH b L g 1 xs hp hget
 have hrow:=xm hks
 have hlen:ks.length=l:=by
  have:=congrArg List.length hrow
  simp only [nt,List.length_map,List.length_take,List.length_drop] at this
  omega
 have hel:∀ (i:Nat) (n:Int),ks[i]?=some n->xs[o+i]?=some [.int .i64 n]:=by
  intro i n hn
  have hi:i<l:=by rw [<- hlen]; exact (List.getElem?_eq_some_iff.1 hn).1
  have h2:((xs.drop o).take l)[i]?=(nt ks)[i]?:=by rw [hrow]
  rw [List.getElem?_take_of_lt hi,List.getElem?_drop,nt,List.getElem?_map,hn] at h2
  exact h2
 have hcell:∀ (i:Nat) (n:Int),ks[i]?=some n->c[L.base+o*1+i]?=some (.int .i64 n):=by
  intro i n hn
  obtain ⟨v,hv,_,hvc⟩:=hc (o+i) _ 0 _ (hel i n hn) rfl
  rw [C1 hvc] at hv
  rw [<- hv]
  congr 1
  omega
 refine ⟨hlen,λj hj=>?_⟩
 have hj:j<ks.length:=by simpa using hj
 refine ⟨?_,?_⟩
 ·have:=hcell j ks[j] (by simp [hj])
  simp only [World.cell?,hB]
  rw [this]
  simp [hj]
 ·simp [World.frozen?,hB]
def GG {G:Ga} (hW:WR G) {b g o l:Nat} {xs:List (List AV)} (hget:G.h.get b=some (.iH g 1 xs)) (hle:o+l<=xs.length) {L:Loc} (hp:G.pi b=some L) (ys:List Int) (p7:ys.length=l) (n:Nat) (os:Array Obj) :
  ∃ T',Step G ⟨grow (putRow (Value.int .i64) (Sort.ahead G.w n) L.B (L.base+o*1) ys.toArray) os,T',G.h.set b (.iH g 1 (putAt xs o l (nt ys))),G.pi,G.L⟩ /\
    WR ⟨grow (putRow (Value.int .i64) (Sort.ahead G.w n) L.B (L.base+o*1) ys.toArray) os,T',G.h.set b (.iH g 1 (putAt xs o l (nt ys))),G.pi,G.L⟩:=by
 obtain ⟨c,e,hB,hcap,hsz,hz,hc⟩:=hW.iH b L g 1 xs hp hget
 have hcs:(nt ys).length=l:=by simp [nt,p7]
 have hP:pO G.w (putRow (Value.int .i64) (Sort.ahead G.w n) L.B (L.base+o*1) ys.toArray) L.B (.cells (putCells (Value.int .i64) (L.base+o*1) ys.toArray c) e (0,0)):=by
  refine ⟨?_,λk hk=>?_,by simp,rfl,rfl,⟨rfl,λh=>False.elim h⟩⟩
  ·simp [putRow,mapBlock,Array.getElem?_modify,hB,onCells]
  ·simp [putRow,mapBlock,Array.getElem?_modify,Ne.symm hk]
 have hbl:Below (putRow (Value.int .i64) (Sort.ahead G.w n) L.B (L.base+o*1) ys.toArray).heap.size (putRow (Value.int .i64) (Sort.ahead G.w n) L.B (L.base+o*1) ys.toArray) (grow (putRow (Value.int .i64) (Sort.ahead G.w n) L.B (L.base+o*1) ys.toArray) os) :=
  ⟨rfl,rfl,rfl,by simp,λk hk=>heap_grow_old _ _ hk⟩
 refine Eh (xs':=putAt xs o l (nt ys)) hW hp hget hP hbl ?_
 intro G' E hw
 refine ⟨_,_,hw,by rw [Dj hcs hle]; exact hcap,by simp only [putCells,Array.size_mapIdx]; exact hsz,?_,?_⟩
 ·intro i cs h
  rw [vi hcs hle] at h
  split at h
  ·simp only [nt,List.getElem?_map,Option.map_eq_some_iff] at h
   obtain ⟨m,_,rfl⟩:=h; rfl
  ·exact hz i cs h
 ·intro i cs j x h hj
  rw [vi hcs hle] at h
  split at h
  ·rename_i hi
   simp only [nt,List.getElem?_map,Option.map_eq_some_iff] at h
   obtain ⟨m,hm,rfl⟩:=h
   cases j with
   | succ j=>cases hj
   | zero =>
     simp only [List.getElem?_cons_zero,Option.some.injEq] at hj
     subst hj
     have hcs2:L.base+i*1+0<c.size:=by
      have:=Nat.mul_le_mul_right 1 hcap
      omega
     refine ⟨.int .i64 m,?_,rfl,⟨.jm rfl (.int _ _ _),rfl⟩⟩
     simp only [putCells,Array.getElem?_mapIdx,Array.getElem?_eq_getElem hcs2,Option.map_some,List.size_toArray,p7]
     rw [if_pos ⟨by omega,by omega⟩,show L.base+i*1+0 - (L.base+o*1)=i - o by omega]
     have hm2:=List.getElem?_eq_some_iff.1 hm
     obtain ⟨hm3,hm4⟩:=hm2
     simp [hm3,hm4]
  ·rename_i hi
   have hz1:=hz i cs h
   have hj0:j=0:=by
    have:=(List.getElem?_eq_some_iff.1 hj).1
    omega
   subst hj0
   obtain ⟨v,hv,ho,hvc⟩:=hc i cs 0 x h hj
   refine ⟨v,?_,ho,hvc.mono E⟩
   simp only [putCells,Array.getElem?_mapIdx,hv,Option.map_some,List.size_toArray,p7]
   rw [if_neg (by omega)]
def KQ {P:Program} {f:Nat}
  (h1:∀ (iH off cap:Nat) (zs:List Int) (w:World),Holds (Value.int .i64) w iH off zs.toArray->iH<w.heap.size->zs.length<4611686018427387904 ->
    Calls P f #[.slice (some ⟨iH,off,none⟩) zs.length cap] w λe w'=>e=.returned (.tuple #[])/\∃ n os,w'=grow (putRow (Value.int .i64) (Sort.ahead w n) iH off (zs.mergeSort λx y=>decide (x<=y)).toArray) os)
  {G:Ga} (hW:WR G) {b g o l:Nat} {xs:List (List AV)} (hget:G.h.get b=some (.iH g 1 xs)) (hle:o+l<=xs.length) (hl:l<=1000000) {ks:List Int} (hks:tG ((xs.drop o).take l)=some ks) {L:Loc} (hp:G.pi b=some L) {cap':Nat}
  {R:Ending->World->Prop} (hR:∀ G',Step G G'->WR G'->G'.h=G.h.set b (.iH g 1 (putAt xs o l (nt (kx ks))))->R (.returned (.tuple #[])) G'.w) :
  Calls P f #[.slice (some ⟨L.B,L.base+o*1,none⟩) l cap'] G.w R:=by
 obtain ⟨hlen,hH⟩:=C0 hW hget hle hks hp
 have hlt:L.B<G.w.heap.size:=(hW.kC b L hp).1
 rw [<- hlen]
 refine (h1 L.B (L.base+o*1) cap' ks G.w hH hlt (by omega)).mono ?_
 rintro e' w' ⟨rfl,n,os,rfl⟩
 have hso:(ks.mergeSort λx y=>decide (x<=y))=kx ks:=Df (.refl _)
 have p7:(kx ks).length=l:=by rw [(sN ks).length_eq,hlen]
 rw [hso]
 obtain ⟨T',S1,W1⟩:=GG hW hget hle hp (kx ks) p7 n os
 exact hR _ S1 W1 rfl
def BF (ks:List Int):List Int:=Lib.compact ks++List.replicate (ks.length - (Lib.compact ks).length) 0
theorem KT (ks:List Int):(BF ks).length=ks.length:=by
 have:=Lib.compact_length_le ks
 simp only [BF,List.length_append,List.length_replicate]
 omega
def Lw {P:Program} {f:Nat}
  (h1:∀ (iH off cap:Nat) (zs:List Int) (w:World),Holds (Value.int .i64) w iH off zs.toArray->zs.length<=9223372036854775807->zs.length<=cap ->
    Calls P f #[.slice (some ⟨iH,off,none⟩) zs.length cap] w λe w'=>e=.returned (.slice (some ⟨iH,off,none⟩) (Lib.compact zs).length cap)/\∃ q,w'=putRow (Value.int .i64) (Sort.ahead w q) iH off (Lib.compact zs++List.replicate (zs.length - (Lib.compact zs).length) 0).toArray)
  {G:Ga} (hW:WR G) {b g o l:Nat} {xs:List (List AV)} (hget:G.h.get b=some (.iH g 1 xs)) (hle:o+l<=xs.length) (hl:l<=1000000) {ks:List Int} (hks:tG ((xs.drop o).take l)=some ks) {L:Loc} (hp:G.pi b=some L) {cap':Nat} (hcl:l<=cap')
  {R:Ending->World->Prop} (hR:∀ G',Step G G'->WR G'->G'.pi=G.pi->G'.h=G.h.set b (.iH g 1 (putAt xs o l (nt (BF ks))))->R (.returned (.slice (some ⟨L.B,L.base+o*1,none⟩) (Lib.compact ks).length cap')) G'.w) :
  Calls P f #[.slice (some ⟨L.B,L.base+o*1,none⟩) l cap'] G.w R:=by
 obtain ⟨hlen,hH⟩:=C0 hW hget hle hks hp
 rw [<- hlen]
 refine (h1 L.B (L.base+o*1) cap' ks G.w hH (by omega) (by omega)).mono ?_
 rintro e' w' ⟨rfl,n,rfl⟩
 obtain ⟨T',S1,W1⟩:=GG hW hget hle hp (BF ks) (by rw [KT,hlen]) n #[]
 rw [grow_empty] at S1 W1
 exact hR _ S1 W1 rfl rfl
def xy (shd:Bool) (args:List AV) (h:aT):R2:=match args with
 | [.sl [] c]=>some (.sl [] c,h)
 | [.hs b g o l]=>match l with
   | 0=>some (.hs b g o 0,h)
   | k+1=>match shd with
     | false=>none
     | true=>match h.get b with
       | some (.iH g' z xs)=>match Nat.beq g g'&&(Nat.beq z 1&&(Nat.ble (o+(k+1)) xs.length&&Nat.ble (k+1) 1000000)) with
         | true=>match tG ((xs.drop o).take (k+1)) with
           | some ks=>some (.hs b g o (Lib.compact ks).length,h.set b (.iH g' z (putAt xs o (k+1) (nt (BF ks)))))
           | none=>none
         | false=>none
       | _=>none
 | _=>none
def M1:∀ (args:List AV) (h:aT) (v:AV) (h':aT),xy false args h=some (v,h')->h'=h/\∀ h2:aT,(∀ b o,h.get b=some o->h2.get b=some o)->xy false args h2=some (v,h2):=by
 intro args h v h' hc
 unfold xy at hc
 split at hc
 ·cases hc; exact ⟨rfl,λ_ _=>rfl⟩
 ·split at hc
  ·cases hc; exact ⟨rfl,λ_ _=>rfl⟩
  ·cases hc
 ·cases hc
theorem Ge {P : Program} {f : Nat} (hex : ∃ fn, P.funcs[f]? = some fn ∧ fn.body.isNone = false ∧ (fn.name == "runtime.NumGoroutine") = false)
  (h1:∀ (iH off cap:Nat) (zs:List Int) (w:World),Holds (Value.int .i64) w iH off zs.toArray->zs.length<=9223372036854775807->zs.length<=cap ->
    Calls P f #[.slice (some ⟨iH,off,none⟩) zs.length cap] w λe w'=>e=.returned (.slice (some ⟨iH,off,none⟩) (Lib.compact zs).length cap)/\∃ q,w'=putRow (Value.int .i64) (Sort.ahead w q) iH off (Lib.compact zs++List.replicate (zs.length - (Lib.compact zs).length) 0).toArray)
  (h0:∀ (p:Option Addr) (cap:Nat) (w:World),Calls P f #[.slice p 0 cap] w λe w'=>e=.returned (.slice p 0 cap)/\w'=w):mq P f xy where
 call:=by
  intro shd args h v h' hc G args' hG hlo hL hW hl hr
  refine ⟨hex,?_⟩
  intro R hR
  subst hG
  have one:∀ x:AV,args=[x]->∃ y,args' = #[y]/\VC G x y:=by
   rintro x rfl
   cases args' with | mk l =>
   cases l with
   | nil=>simp at hl
   | cons y l =>
     cases l with
     | nil=>exact ⟨y,rfl,hr 0 x y rfl rfl⟩
     | cons _ _=>simp at hl
  unfold xy at hc
  split at hc
  ·obtain ⟨y,rfl,hy⟩:=one _ rfl
   cases hc
   have hv:=hy.vr
   cases hv with
   | jm hi hp =>
     have key:∃ p cap,y=.slice p 0 cap:=by cases hp<;>exact ⟨_,_,rfl⟩
     obtain ⟨p,cap,rfl⟩:=key
     refine (h0 _ _ G.w).mono ?_
     rintro e w' ⟨rfl,rfl⟩
     exact hR _ _ (Step.refl G) hW (λm=>rfl) (λm L=>VR.jI (.jm hi hp) rfl)
  ·obtain ⟨y,rfl,hy⟩:=one _ rfl
   rename_i b g o l
   have hv:=hy.vr
   split at hc
   ·cases hc
    have key:∃ p cap,y=.slice p 0 cap:=by
     cases hv with
     | jm hi _=>cases hi
     | hs=>exact ⟨_,_,rfl⟩
    obtain ⟨p,cap,rfl⟩:=key
    refine (h0 _ _ G.w).mono ?_
    rintro e w' ⟨rfl,rfl⟩
    exact hR _ _ (Step.refl G) hW (λm=>rfl) (λm L=>VR.jI hv rfl)
   ·rename_i k
    split at hc
    ·cases hc
    ·split at hc
     ·rename_i g' z xs hget
      split at hc
      ·rename_i hq
       simp only [Bool.and_eq_true,Nat.ble_eq] at hq
       obtain ⟨q1,q2,q3,q5⟩:=hq
       obtain rfl:=Nat.eq_of_beq_eq_true q1
       obtain rfl:=Nat.eq_of_beq_eq_true q2
       split at hc
       ·rename_i ks hks
        cases hc
        have hlen:=(xm hks)
        have hlen:ks.length=k+1:=by
         have:=congrArg List.length hlen
         simp only [nt,List.length_map,List.length_take,List.length_drop] at this
         omega
        have hcl:=Lib.compact_length_le ks
        cases hv with
        | jm hi _=>cases hi
        | hs _ _ _ _ a cap' hb hg hle hh =>
        obtain ⟨L,hp,hcap,ha⟩:=hh _ _ hget
        rw [ha (by omega)]
        refine Lw h1 hW hget q3 q5 hks hp hle (λG' S W epi e=>hR _ _ S W (λm=>by rw [e]) (λm L0=>VR.jI ?_ rfl))
        refine .hs b g o _ _ cap' (by rw [e]; simpa using hb) ?_ (by omega) ?_
        ·intro g0 z xs' hx
         rw [e,aT.lb] at hx
         split at hx
         ·cases hx; exact Nat.le_refl _
         ·exact hg _ _ _ hx
        ·intro z xs' hx
         rw [e,aT.lb] at hx
         split at hx
         ·cases hx
          exact ⟨L,by rw [epi]; exact hp,hcap,λ_=>rfl⟩
         ·rename_i hne
          exact (hne ⟨rfl,aT.mQ hget⟩).elim
       ·cases hc
      ·cases hc
     ·cases hc
  ·cases hc
 wU:=M1
def Nu:∀ (args:List AV) (h:aT) (v:AV) (h':aT),xv false args h=some (v,h')->h'=h/\∀ h2:aT,(∀ b o,h.get b=some o->h2.get b=some o)->xv false args h2=some (v,h2):=by
 intro args h v h' hc
 unfold xv at hc
 split at hc
 ·cases hc; exact ⟨rfl,λ_ _=>rfl⟩
 ·split at hc
  ·cases hc; exact ⟨rfl,λ_ _=>rfl⟩
  ·cases hc
 ·cases hc
theorem Gj {P : Program} {f : Nat} (hex : ∃ fn, P.funcs[f]? = some fn ∧ fn.body.isNone = false ∧ (fn.name == "runtime.NumGoroutine") = false)
  (h1:∀ (iH off cap:Nat) (zs:List Int) (w:World),Holds (Value.int .i64) w iH off zs.toArray->iH<w.heap.size->zs.length<4611686018427387904 ->
    Calls P f #[.slice (some ⟨iH,off,none⟩) zs.length cap] w λe w'=>e=.returned (.tuple #[])/\∃ n os,w'=grow (putRow (Value.int .i64) (Sort.ahead w n) iH off (zs.mergeSort λx y=>decide (x<=y)).toArray) os)
  (h0:∀ (p:Option Addr) (cap:Nat) (w:World),Calls P f #[.slice p 0 cap] w λe w'=>e=.returned (.tuple #[])/\w'=w):mq P f xv where
 call:=by
  intro shd args h v h' hc G args' hG hlo hL hW hl hr
  refine ⟨hex,?_⟩
  intro R hR
  subst hG
  have one:∀ x:AV,args=[x]->∃ y,args' = #[y]/\VC G x y:=by
   rintro x rfl
   cases args' with | mk l =>
   cases l with
   | nil=>simp at hl
   | cons y l =>
     cases l with
     | nil=>exact ⟨y,rfl,hr 0 x y rfl rfl⟩
     | cons _ _=>simp at hl
  unfold xv at hc
  split at hc
  ·obtain ⟨y,rfl,hy⟩:=one _ rfl
   cases hc
   have hv:=hy.vr
   cases hv with
   | jm _ hp =>
     have key:∃ p cap,y=.slice p 0 cap:=by cases hp<;>exact ⟨_,_,rfl⟩
     obtain ⟨p,cap,rfl⟩:=key
     refine (h0 _ _ G.w).mono ?_
     rintro e w' ⟨rfl,rfl⟩
     exact hR _ _ (Step.refl G) hW (λm=>rfl) (λm L=>.je [] #[] rfl (by simp))
  ·obtain ⟨y,rfl,hy⟩:=one _ rfl
   rename_i b g o l
   have hv:=hy.vr
   cases hv with
   | jm hi _=>cases hi
   | hs _ _ _ _ a cap' hb hg hle hh =>
   split at hc
   ·cases hc
    refine (h0 _ _ G.w).mono ?_
    rintro e w' ⟨rfl,rfl⟩
    exact hR _ _ (Step.refl G) hW (λm=>rfl) (λm L=>.je [] #[] rfl (by simp))
   ·rename_i k
    split at hc
    ·cases hc
    ·split at hc
     ·rename_i g' z xs hget
      split at hc
      ·rename_i hq
       simp only [Bool.and_eq_true,Nat.ble_eq] at hq
       obtain ⟨q1,q2,q3,q5⟩:=hq
       obtain rfl:=Nat.eq_of_beq_eq_true q1
       obtain rfl:=Nat.eq_of_beq_eq_true q2
       split at hc
       ·rename_i ks hks
        cases hc
        obtain ⟨L,hp,hcap,ha⟩:=hh _ _ hget
        rw [ha (by omega)]
        exact KQ h1 hW hget q3 q5 hks hp (λG' S W e=>hR _ _ S W (λm=>by rw [e]) (λm L=>.je [] #[] rfl (by simp)))
       ·cases hc
      ·cases hc
     ·cases hc
  ·cases hc
 wU:=Nu
end Go.Sx
namespace Go.Sx
open Go Go.Proofs Go.RowKit Go.Maps Go.Sort
def yZ:List AV->Option (Int×Int)
 | [a,b]=>match yw a with
   | some m=>match yw b with
     | some n=>some (m,n)
     | none=>none
   | none=>none
 | _=>none
def sG:List (List AV)->Option (List (Int×Int))
 | []=>some []
 | c::l=>match yZ c with
   | some n=>match sG l with
     | some ks=>some (n::ks)
     | none=>none
   | none=>none
def lf (p:Int×Int):List AV:=[.int .i64 p.1,.int .i64 p.2]
def lB (p:Int×Int):List Value:=[.int .i64 p.1,.int .i64 p.2]
theorem Gg {c:List AV} {p:Int×Int} (h:yZ c=some p):c=lf p:=by
 unfold yZ at h
 split at h
 ·split at h
  ·rename_i m hm
   split at h
   ·rename_i n hn
    cases h
    rw [(vJ hm).1,(vJ hn).1]; rfl
   ·cases h
  ·cases h
 ·cases h
theorem Bx:∀ {l:List (List AV)} {ks:List (Int×Int)},sG l=some ks->l=ks.map lf
 | [],ks,h=>by simp only [sG,Option.some.injEq] at h; subst h; rfl
 | c::l,ks,h=>by
   unfold sG at h
   split at h
   ·rename_i n hn
    split at h
    ·rename_i ks' hk
     simp only [Option.some.injEq] at h
     subst h
     rw [Gg hn,Bx hk]; rfl
    ·cases h
   ·cases h
theorem Fm {d:List (Int×Int)} {i j:Nat} {p:Int×Int} (hi:d[i]?=some p) (hj:j<2):(flatK lB 2 d.toArray)[i*2+j]! = (lB p)[j]!:=by
 have hl:=(List.getElem?_eq_some_iff.1 hi).1
 have he:=(List.getElem?_eq_some_iff.1 hi).2
 rw [get_flatK _ _ _ _ (by simp; omega),show (i*2+j) / 2=i by omega,show (i*2+j) % 2=j by omega]
 congr 2
 rw [getElem!_pos _ i (by simpa using hl)]
 simpa using he
def Fk {p:Int×Int} {j:Nat} {x:AV} (h:(lf p)[j]?=some x):∃ n:Int,x=.int .i64 n/\(lB p)[j]! = .int .i64 n/\j<2:=by
 match j,h with
 | 0,h=>simp only [lf,List.getElem?_cons_zero,Option.some.injEq] at h; exact ⟨p.1,h.symm,rfl,by omega⟩
 | 1,h=>simp only [lf,List.getElem?_cons_succ,List.getElem?_cons_zero,Option.some.injEq] at h; exact ⟨p.2,h.symm,rfl,by omega⟩
 | j+2,h=>simp [lf] at h
def II {G:Ga} (hW:WR G) {b g o l:Nat} {xs:List (List AV)} (hget:G.h.get b=some (.iH g 2 xs)) (hle:o+l<=xs.length) {ks:List (Int×Int)} (hks:sG ((xs.drop o).take l)=some ks) {L:Loc} (hp:G.pi b=some L) :
  ks.length=l/\HoldsK lB 2 G.w L.B (L.base+o*2) ks.toArray:=by
 obtain ⟨c,e,hB,hcap,hsz,hz,hc⟩:=hW.iH b L g 2 xs hp hget
 have hrow:=Bx hks
 have hlen:ks.length=l:=by
  have:=congrArg List.length hrow
  simp only [List.length_map,List.length_take,List.length_drop] at this
  omega
 have hel:∀ (i:Nat) (p:Int×Int),ks[i]?=some p->xs[o+i]?=some (lf p):=by
  intro i n hn
  have hi:i<l:=by rw [<- hlen]; exact (List.getElem?_eq_some_iff.1 hn).1
  have h2:((xs.drop o).take l)[i]?=(ks.map lf)[i]?:=by rw [hrow]
  rw [List.getElem?_take_of_lt hi,List.getElem?_drop,List.getElem?_map,hn] at h2
  exact h2
 refine ⟨hlen,λt ht=>?_⟩
 have ht:t<ks.length*2:=by simpa using ht
 have hi:t / 2<ks.length:=by omega
 have hq:ks[t / 2]?=some ks[t / 2]:=by simp [hi]
 have hj:t % 2<2:=Nat.mod_lt _ (by omega)
 obtain ⟨x,hx⟩:∃ x,(lf ks[t / 2])[t % 2]?=some x:=⟨_,List.getElem?_eq_getElem (show t % 2<2 from hj)⟩
 obtain ⟨n,rfl,hn,_⟩:=Fk hx
 obtain ⟨v,hv,_,hvc⟩:=hc (o+t / 2) _ (t % 2) _ (hel _ _ hq) hx
 rw [C1 hvc] at hv
 have hflat:=Fm hq hj
 rw [show t / 2*2+t % 2=t by omega,hn] at hflat
 refine ⟨?_,?_⟩
 ·simp only [World.cell?,hB]
  rw [hflat,show L.base+o*2+t=L.base+(o+t / 2)*2+t % 2 by omega,hv]
  rfl
 ·simp [World.frozen?,hB]
def L9 {G:Ga} (hW:WR G) {b g o l:Nat} {xs:List (List AV)} (hget:G.h.get b=some (.iH g 2 xs)) (hle:o+l<=xs.length) {L:Loc} (hp:G.pi b=some L) (ys:List (Int×Int)) (p7:ys.length=l) (n:Nat) (os:Array Obj) :
  ∃ T',Step G ⟨sortWorldK lB 2 G.w L.B (L.base+o*2) n ys.toArray os,T',G.h.set b (.iH g 2 (putAt xs o l (ys.map lf))),G.pi,G.L⟩ /\
    WR ⟨sortWorldK lB 2 G.w L.B (L.base+o*2) n ys.toArray os,T',G.h.set b (.iH g 2 (putAt xs o l (ys.map lf))),G.pi,G.L⟩:=by
 obtain ⟨c,e,hB,hcap,hsz,hz,hc⟩:=hW.iH b L g 2 xs hp hget
 have hcs:(ys.map lf).length=l:=by simp [p7]
 have hfs:(flatK lB 2 ys.toArray).size=l*2:=by simp [p7]
 have hP:pO G.w (putRowK lB 2 (Sort.ahead G.w n) L.B (L.base+o*2) ys.toArray) L.B (.cells (putCells id (L.base+o*2) (flatK lB 2 ys.toArray) c) e (0,0)):=by
  refine ⟨?_,λk hk=>?_,by simp [putRowK],rfl,rfl,⟨rfl,λh=>False.elim h⟩⟩
  ·simp [putRowK,putRow,mapBlock,Array.getElem?_modify,hB,onCells]
  ·simp [putRowK,putRow,mapBlock,Array.getElem?_modify,Ne.symm hk]
 have hbl:Below (putRowK lB 2 (Sort.ahead G.w n) L.B (L.base+o*2) ys.toArray).heap.size (putRowK lB 2 (Sort.ahead G.w n) L.B (L.base+o*2) ys.toArray) (sortWorldK lB 2 G.w L.B (L.base+o*2) n ys.toArray os) :=
  ⟨rfl,rfl,rfl,by simp [sortWorldK],λk hk=>heap_grow_old _ _ hk⟩
 refine Eh (xs':=putAt xs o l (ys.map lf)) hW hp hget hP hbl ?_
 intro G' E hw
 refine ⟨_,_,hw,by rw [Dj hcs hle]; exact hcap,by simp only [putCells,Array.size_mapIdx]; exact hsz,?_,?_⟩
 ·intro i cs h
  rw [vi hcs hle] at h
  split at h
  ·simp only [List.getElem?_map,Option.map_eq_some_iff] at h
   obtain ⟨m,_,rfl⟩:=h; rfl
  ·exact hz i cs h
 ·intro i cs j x h hj
  have hcap2:=Nat.mul_le_mul_right 2 hcap
  rw [vi hcs hle] at h
  split at h
  ·rename_i hi
   simp only [List.getElem?_map,Option.map_eq_some_iff] at h
   obtain ⟨m,hm,rfl⟩:=h
   obtain ⟨n,rfl,hn,hj2⟩:=Fk hj
   have hcs2:L.base+i*2+j<c.size:=by omega
   refine ⟨.int .i64 n,?_,rfl,⟨.jm rfl (.int _ _ _),rfl⟩⟩
   simp only [putCells,Array.getElem?_mapIdx,Array.getElem?_eq_getElem hcs2,Option.map_some,hfs]
   rw [if_pos ⟨by omega,by omega⟩,show L.base+i*2+j - (L.base+o*2)=(i - o)*2+j by omega,Fm hm hj2,hn]
   rfl
  ·rename_i hi
   have hz1:=hz i cs h
   have hj2:j<2:=by
    have:=(List.getElem?_eq_some_iff.1 hj).1
    omega
   obtain ⟨v,hv,ho,hvc⟩:=hc i cs j x h hj
   refine ⟨v,?_,ho,hvc.mono E⟩
   simp only [putCells,Array.getElem?_mapIdx,hv,Option.map_some,hfs]
   rw [if_neg (by omega)]
def mS {α:Type} [Inhabited α] (cf : α->α->Int) (ks:List α):List α:=(pdq (ltOf cf) ks.toArray 0 ks.length (Lib.bitLen ks.length) true true).toList
theorem yG {α:Type} [Inhabited α] {cf : α->α->Int} (hO:SWO (ltOf cf)) (ks:List α):(mS cf ks).Perm ks/\(∀ i j:Nat,i<j->j<ks.length->ltOf cf ((mS cf ks).toArray[j]!) ((mS cf ks).toArray[i]!)=false):=by
 have h:=pdq_sorts (ltOf cf) hO ks.toArray 0 ks.toArray.size (Lib.bitLen ks.toArray.size) true true (Nat.zero_le _) (Nat.le_refl _) (Or.inl rfl)
 obtain ⟨⟨hs,_,hp⟩,hso⟩:=h
 simp only [List.size_toArray] at hs hp hso
 refine ⟨?_,λi j hij hj=>?_⟩
 ·unfold mS
  have e1:∀ a:Array α,a.size=ks.length->(a.extract 0 ks.length).toList=a.toList:=by
   intro a ha
   rw [<- ha]; simp
  rw [e1 _ hs,e1 _ (by simp)] at hp
  simpa using hp
 ·have:=hso i j (Nat.zero_le _) hij hj
  simpa [mS] using this
theorem Dd {α:Type} [Inhabited α] (tp : α->Int×Int) (d:Array α):flatK (λa=>lB (tp a)) 2 d=flatK lB 2 (d.map tp):=by
 unfold flatK
 rw [Array.size_map]
 apply Array.map_congr_left
 intro t ht
 have ht:t<d.size*2:=by simpa using ht
 have h2:t / 2<d.size:=by omega
 rw [getElem!_pos d _ h2,getElem!_pos (d.map tp) _ (by simpa using h2)]
 simp
def vX {α:Type} (dec:Int×Int->Option α):List (Int×Int)->Option (List α)
 | []=>some []
 | p::l=>match dec p with
   | some a=>match vX dec l with
     | some r=>some (a::r)
     | none=>none
   | none=>none
theorem CY {α:Type} {dec:Int×Int->Option α} {tp : α->Int×Int} (hd:∀ p a,dec p=some a->tp a=p):∀ {ks:List (Int×Int)} {ds:List α},vX dec ks=some ds->ks=ds.map tp
 | [],ds,h=>by simp only [vX,Option.some.injEq] at h; subst h; rfl
 | p::l,ds,h=>by
   unfold vX at h
   split at h
   ·rename_i a ha
    split at h
    ·rename_i r hr
     simp only [Option.some.injEq] at h
     subst h
     rw [CY hd hr,List.map_cons,hd p a ha]
    ·cases h
   ·cases h
def IT {P:Program} {f g:Nat} {α:Type} [Inhabited α] {tp : α->Int×Int} {cf : α->α->Int} (hO:SWO (ltOf cf))
  (h1:∀ (iH off cap:Nat) (d:Array α) (w:World),HoldsK (λa=>lB (tp a)) 2 w iH off d->iH<w.heap.size->d.size<4611686018427387904 ->
    Calls P f #[.slice (some ⟨iH,off,none⟩) d.size cap,.func (.func g) #[] #[]] w λe w'=>e=.returned (.tuple #[])/\∃ n os,w'=sortWorldK (λa=>lB (tp a)) 2 w iH off n (pdq (ltOf cf) d 0 d.size (Lib.bitLen d.size) true true) os)
  {G:Ga} (hW:WR G) {b gg o l:Nat} {xs:List (List AV)} (hget:G.h.get b=some (.iH gg 2 xs)) (hle:o+l<=xs.length) (hl:l<=1000000) {ds:List α} (hks:sG ((xs.drop o).take l)=some (ds.map tp)) {L:Loc} (hp:G.pi b=some L) {cap':Nat}
  {R:Ending->World->Prop} (hR:∀ G',Step G G'->WR G'->G'.h=G.h.set b (.iH gg 2 (putAt xs o l (((mS cf ds).map tp).map lf)))->R (.returned (.tuple #[])) G'.w) :
  Calls P f #[.slice (some ⟨L.B,L.base+o*2,none⟩) l cap',.func (.func g) #[] #[]] G.w R:=by
 obtain ⟨hlen,hH⟩:=II hW hget hle hks hp
 rw [List.length_map] at hlen
 have hlt:L.B<G.w.heap.size:=(hW.kC b L hp).1
 have hH2:HoldsK (λa=>lB (tp a)) 2 G.w L.B (L.base+o*2) ds.toArray:=by
  unfold HoldsK at hH ⊢
  rw [Dd,List.map_toArray]
  exact hH
 rw [<- hlen]
 refine (h1 L.B (L.base+o*2) cap' ds.toArray G.w hH2 hlt (by simp; omega)).mono ?_
 rintro e' w' ⟨rfl,n,os,rfl⟩
 obtain ⟨T',S1,W1⟩:=L9 hW hget hle hp ((mS cf ds).map tp) (by rw [List.length_map,(yG hO ds).1.length_eq,hlen]) n os
 have e:sortWorldK (λa=>lB (tp a)) 2 G.w L.B (L.base+o*2) n (pdq (ltOf cf) ds.toArray 0 ds.toArray.size (Lib.bitLen ds.toArray.size) true true) os=sortWorldK lB 2 G.w L.B (L.base+o*2) n ((mS cf ds).map tp).toArray os:=by
  unfold sortWorldK putRowK
  rw [Dd,<- List.map_toArray]
  simp [mS]
 rw [<- e] at S1 W1
 exact hR _ S1 W1 rfl
def kV {α:Type} [Inhabited α] (tp : α->Int×Int) (dec:Int×Int->Option α) (g:Nat) (cf : α->α->Int) (shd:Bool) (args:List AV) (h:aT):R2:=match args with
 | [.sl [] _,.jz g' [] []]=>match Nat.beq g' g with
   | true=>some (.je [],h)
   | false=>none
 | [.hs b gg o l,.jz g' [] []]=>match Nat.beq g' g with
   | false=>none
   | true=>match l with
     | 0=>some (.je [],h)
     | k+1=>match shd with
       | false=>none
       | true=>match h.get b with
         | some (.iH gg' z xs)=>match Nat.beq gg gg'&&(Nat.beq z 2&&(Nat.ble (o+(k+1)) xs.length&&Nat.ble (k+1) 1000000)) with
           | true=>match sG ((xs.drop o).take (k+1)) with
             | some ks=>match vX dec ks with
               | some ds=>some (.je [],h.set b (.iH gg' z (putAt xs o (k+1) (((mS cf ds).map tp).map lf))))
               | none=>none
             | none=>none
           | false=>none
         | _=>none
 | _=>none
def u1 {α:Type} [Inhabited α] (tp : α->Int×Int) (dec:Int×Int->Option α) (g:Nat) (cf : α->α->Int):∀ (args:List AV) (h:aT) (v:AV) (h':aT),kV tp dec g cf false args h=some (v,h')->h'=h/\∀ h2:aT,(∀ b o,h.get b=some o->h2.get b=some o)->kV tp dec g cf false args h2=some (v,h2):=by
 intro args h v h' hc
 unfold kV at hc
 split at hc
 ·split at hc
  ·rename_i hq
   cases hc
   exact ⟨rfl,λ_ _=>by simp only [kV,hq]⟩
  ·cases hc
 ·split at hc
  ·cases hc
  ·rename_i hq
   split at hc
   ·cases hc
    exact ⟨rfl,λ_ _=>by simp only [kV,hq]⟩
   ·cases hc
 ·cases hc
def Uv {G:Ga} {g:Nat} {v:Value} (h:VC G (.jz g [] []) v):v=.func (.func g) #[] #[]:=by
 cases h.vr with
 | jm hi _=>cases hi
 | jz _ _ _ a' c' ha hc =>
   have h1:a' = #[]:=Array.eq_empty_of_size_eq_zero ha.symm
   have h2:c' = #[]:=Array.eq_empty_of_size_eq_zero hc.symm
   rw [h1,h2]
theorem ux {P : Program} {f g : Nat} {α : Type} [Inhabited α] {tp : α → Int × Int} {dec : Int × Int → Option α} (hd : ∀ p a, dec p = some a → tp a = p) {cf : α → α → Int} (hO : SWO (ltOf cf)) (hex : ∃ fn, P.funcs[f]? = some fn ∧ fn.body.isNone = false ∧ (fn.name == "runtime.NumGoroutine") = false)
  (h1:∀ (iH off cap:Nat) (d:Array α) (w:World),HoldsK (λa=>lB (tp a)) 2 w iH off d->iH<w.heap.size->d.size<4611686018427387904 ->
    Calls P f #[.slice (some ⟨iH,off,none⟩) d.size cap,.func (.func g) #[] #[]] w λe w'=>e=.returned (.tuple #[])/\∃ n os,w'=sortWorldK (λa=>lB (tp a)) 2 w iH off n (pdq (ltOf cf) d 0 d.size (Lib.bitLen d.size) true true) os)
  (h0:∀ (p:Option Addr) (cap:Nat) (w:World),Calls P f #[.slice p 0 cap,.func (.func g) #[] #[]] w λe w'=>e=.returned (.tuple #[])/\w'=w):mq P f (kV tp dec g cf) where
 call:=by
  intro shd args h v h' hc G args' hG hlo hL hW hl hr
  refine ⟨hex,?_⟩
  intro R hR
  subst hG
  have two:∀ x z:AV,args=[x,z]->∃ y u,args' = #[y,u]/\VC G x y/\VC G z u:=by
   rintro x z rfl
   cases args' with | mk l =>
   match l,hl with
   | [y,u],_=>exact ⟨y,u,rfl,hr 0 x y rfl rfl,hr 1 z u rfl rfl⟩
  unfold kV at hc
  split at hc
  ·obtain ⟨y,u,rfl,hy,hu⟩:=two _ _ rfl
   split at hc
   ·rename_i hq
    obtain rfl:=Nat.eq_of_beq_eq_true hq
    cases hc
    obtain rfl:=Uv hu
    have hv:=hy.vr
    cases hv with
    | jm _ hp =>
      have key:∃ p cap,y=.slice p 0 cap:=by cases hp<;>exact ⟨_,_,rfl⟩
      obtain ⟨p,cap,rfl⟩:=key
      refine (h0 _ _ G.w).mono ?_
      rintro e w' ⟨rfl,rfl⟩
      exact hR _ G (Step.refl G) hW (λm=>rfl) (λm L=>.je [] #[] rfl (by simp))
   ·cases hc
  ·obtain ⟨y,u,rfl,hy,hu⟩:=two _ _ rfl
   split at hc
   ·cases hc
   ·rename_i hq
    obtain rfl:=Nat.eq_of_beq_eq_true hq
    obtain rfl:=Uv hu
    have hv:=hy.vr
    cases hv with
    | jm hi _=>cases hi
    | hs _ _ _ _ a cap' hb hg hle hh =>
    split at hc
    ·cases hc
     refine (h0 _ _ G.w).mono ?_
     rintro e w' ⟨rfl,rfl⟩
     exact hR _ G (Step.refl G) hW (λm=>rfl) (λm L=>.je [] #[] rfl (by simp))
    ·split at hc
     ·cases hc
     ·split at hc
      ·rename_i hget
       split at hc
       ·rename_i hq
        simp only [Bool.and_eq_true,Nat.ble_eq] at hq
        obtain ⟨q1,q2,q3,q5⟩:=hq
        obtain rfl:=Nat.eq_of_beq_eq_true q1
        obtain rfl:=Nat.eq_of_beq_eq_true q2
        split at hc
        ·rename_i ks hks
         split at hc
         ·rename_i ds hds
          cases hc
          obtain ⟨L,hp,hcap,ha⟩:=hh _ _ hget
          rw [ha (by omega)]
          rw [CY hd hds] at hks
          exact IT hO h1 hW hget q3 q5 hks hp (λG' S W e=>hR _ _ S W (λm=>by rw [e]) (λm L=>.je [] #[] rfl (by simp)))
         ·cases hc
        ·cases hc
       ·cases hc
      ·cases hc
  ·cases hc
 wU:=u1 tp dec g cf
def pg (g1:Nat) (p1 p2:Bool->List AV->aT->R2) (shd:Bool) (args:List AV) (h:aT):R2:=match args with
 | [a,.jz g x y]=>match Nat.beq g g1 with
   | true=>p1 shd [a,.jz g x y] h
   | false=>p2 shd [a,.jz g x y] h
 | _=>none
def De {g1:Nat} {p1 p2:Bool->List AV->aT->R2} (i1:∀ (args:List AV) (h:aT) (v:AV) (h':aT),p1 false args h=some (v,h')->h'=h/\∀ h2:aT,(∀ b o,h.get b=some o->h2.get b=some o)->p1 false args h2=some (v,h2)) (i2:∀ (args:List AV) (h:aT) (v:AV) (h':aT),p2 false args h=some (v,h')->h'=h/\∀ h2:aT,(∀ b o,h.get b=some o->h2.get b=some o)->p2 false args h2=some (v,h2)):∀ (args:List AV) (h:aT) (v:AV) (h':aT),pg g1 p1 p2 false args h=some (v,h')->h'=h/\∀ h2:aT,(∀ b o,h.get b=some o->h2.get b=some o)->pg g1 p1 p2 false args h2=some (v,h2):=by
 intro args h v h' hc
 unfold pg at hc
 split at hc
 ·split at hc
  ·rename_i hq
   obtain ⟨e,k⟩:=i1 _ h v h' hc
   exact ⟨e,λh2 E=>by simp only [pg,hq]; exact k h2 E⟩
  ·rename_i hq
   obtain ⟨e,k⟩:=i2 _ h v h' hc
   exact ⟨e,λh2 E=>by simp only [pg,hq]; exact k h2 E⟩
 ·cases hc
def Ea {P:Program} {f g1:Nat} {p1 p2:Bool->List AV->aT->R2} (h1:mq P f p1) (h2:mq P f p2):mq P f (pg g1 p1 p2) where
 call:=by
  intro shd args h v h' hc
  unfold pg at hc
  split at hc
  ·split at hc
   ·exact h1.call shd _ h v h' hc
   ·exact h2.call shd _ h v h' hc
  ·cases hc
 wU:=De h1.wU h2.wU
end Go.Sx
set_option maxRecDepth 100000
namespace Go.Sx
open Go Go.Proofs Go.RowKit Go.Sort
def grown_of {w w':World} (h1:w'.os=w.os) (h2:w'.output=w.output) (h3:w'.tape=w.tape) (h4:w.drawn<=w'.drawn) (h5:w.heap.size<=w'.heap.size) (h6:∀ B,B<w.heap.size->w'.heap[B]?=w.heap[B]?):∃ q os',w'=grow (w.drewN q) os':=by
 refine ⟨w'.drawn - w.drawn,w'.heap.extract w.heap.size w'.heap.size,?_⟩
 have hh:w'.heap=w.heap++w'.heap.extract w.heap.size w'.heap.size:=by
  apply Array.ext_getElem?
  intro i
  by_cases hi:i<w.heap.size
  ·rw [h6 i hi,Array.getElem?_append_left hi]
  ·rw [Array.getElem?_append_right (by omega),Array.getElem?_extract]
   by_cases hi2:i<w'.heap.size
   ·rw [if_pos (by omega),show w.heap.size+(i - w.heap.size)=i by omega]
   ·rw [if_neg (by omega),Array.getElem?_eq_none (by omega)]
 have hd:w.drawn+(w'.drawn - w.drawn)=w'.drawn:=by omega
 cases w; cases w'
 simp only [grow,World.drewN] at *
 subst h1 h2 h3
 rw [<- hh,hd]
def Vc (W:World):Ga:=⟨W,TW W,aT.empty,λ_=>none,λ_=>none⟩
def wr0 (W:World):WR (Vc W):=by
 constructor
 ·intro b l g z xs h; cases h
 ·intro b l es c h; cases h
 ·intro d B cs h; cases h
 ·intro b l h; cases h
 ·intro b b' l l' h; cases h
 ·intro s b l h; cases h
 ·intro d d' B h; cases h
 ·intro s d B h; cases h
 ·intro d B b l h; cases h
 ·intro d B h; cases h
 ·intro s B h; exact h
 ·exact Nat.le_refl _
 ·intro b o h
  have:aT.empty.get b=none:=by
   unfold aT.get aT.empty
   cases Nat.ble 0 b<;>rfl
  rw [show (Vc W).h=aT.empty from rfl,this] at h; cases h
def Hr {W:World} (p:Int×Int):PR W (TW W) false (.agg (lf p)) (.agg (lB p).toArray):=by
 refine .agg false _ _ (by simp [lf,lB]) ?_ ?_
 ·intro i y h
  match i,h with
  | 0,h=>simp [lB] at h; subst h; rfl
  | 1,h=>simp [lB] at h; subst h; rfl
  | i+2,h=>simp [lB] at h
 ·intro i x y hx hy
  match i,hx,hy with
  | 0,hx,hy=>simp [lf,lB] at hx hy; subst hx hy; exact .int _ _ _
  | 1,hx,hy=>simp [lf,lB] at hx hy; subst hx hy; exact .int _ _ _
  | i+2,hx,hy=>simp [lf] at hx
def UQ {P:Program} {C:jE} {F:kJ} (T : @pf ⟨True⟩ P C F (λ_=>none)) {g:Nat} {cf:Int×Int->Int×Int->Int}
  (hc:∀ x y:Int×Int,∃ v,iZ C F (λ_=>none) false g [.agg (lf x),.agg (lf y)] aT.empty v aT.empty/\v=.int .i64 (cf x y)) (x y:Int×Int) (w:World) :
  Calls P g #[.agg (lB x).toArray,.agg (lB y).toArray] w λe w'=>e=.returned (.int .i64 (cf x y))/\∃ q os',w'=grow (w.drewN q) os':=by
 obtain ⟨v,⟨m,hm⟩,rfl⟩:=hc x y
 have hk:=@nG ⟨True⟩ P C F _ T m false g _ _ _ _ (hm m (Nat.le_refl _)) (Vc w) #[.agg (lB x).toArray,.agg (lB y).toArray] rfl rfl (λ_=>rfl) (wr0 w) rfl (by
  intro i a b ha hb
  match i,ha,hb with
  | 0,ha,hb=>simp at ha hb; subst ha hb; exact (Hr x).vR
  | 1,ha,hb=>simp at ha hb; subst ha hb; exact (Hr y).vR
  | i+2,ha,hb=>simp at ha)
 refine hk.2 _ ?_
 intro u G' hS _ _ hv
 obtain ⟨_,hos,hou,hta,hsz,hfr,_⟩:=hS
 refine ⟨?_,grown_of hos hou hta.1 (hta.2 trivial) hsz λB hB=>hfr B hB (λb l h=>by cases h) (λd B h=>by cases h)⟩
 have h1:=hv [] (λ_=>none)
 cases h1 with
 | jm hp h=>cases h; rfl
end Go.Sx
namespace Go.Sx
open Go
section
variable {C:jE} {F:kJ} {Pr:ko} {fa:iC} {Q:Ex->Env->aT->Prop} {e:Env} {h h1:aT} {all rest:List Oper} {o:Oper} {q:Env->aT->Prop} {v:AV} {sch:List (Nat×List Nat)} {i:Nat} {a b:Code} {x y an:lz} {live:List Nat}
def oV (w:kh C F Pr fa all rest q (iW e o v) h1) (hw:jg all e o=some true:=by rfl) (hop:∀ call,jq o.op ⟨C,fa,call⟩ e h o.dst=some (v,h1):=by exact λ_=>rfl):kh C F Pr fa all (o::rest) q e h:=iI hw hop w
def rV (w:ky C F Pr fa all sch q (iW e o v) h1) (ho:all[i]?=some o:=by rfl) (hw:jg all e o=some true:=by rfl) (hop:∀ call,jq o.op ⟨C,fa,call⟩ e h o.dst=some (v,h1):=by exact λ_=>rfl):ky C F Pr fa all ((i,[])::sch) q e h:=iU ho hw hop w
def oS (w:kh C F Pr fa all rest q (iW e o (.je [])) h) (hw:jg all e o=some false:=by rfl):kh C F Pr fa all (o::rest) q e h:=Oi hw w
def rS (w:ky C F Pr fa all sch q (iW e o (.je [])) h) (ho:all[i]?=some o:=by rfl) (hw:jg all e o=some false:=by rfl):ky C F Pr fa all ((i,[])::sch) q e h:=Ot ho hw w
def oN (w:q e h):kh C F Pr fa all [] q e h:=Ts w
def rN (w:q e h):ky C F Pr fa all [] q e h:=TD w
def qq (w:Wp C F Pr fa a x (vf (Wp C F Pr fa b y Q) Q) e h):Wp C F Pr fa (.seq a b) (.sq x y) Q e h:=WC w
def qs (w:Wp C F Pr fa a x (vf (λe h=>Wp C F Pr fa b y Q (proj live e) { h with iq:=kS live h.iq }) Q) e h):Wp C F Pr fa (.seq a b) (.seq live x y) Q e h:=GJ w
def qk (w:Q .j1 e h):Wp C F Pr fa .skip an Q e h:=Oo w
def ql {l:Nat} (w:Q .j1 e h):Wp C F Pr fa (.label l) an Q e h:=Kv w
def qe {id:Nat} (w:Q (.ext id) e h):Wp C F Pr fa (.exit id) an Q e h:=Nl w
def qr (w:Q .ret e h):Wp C F Pr fa .ret an Q e h:=T9 w
def qb {id:Nat} (w:Wp C F Pr fa a an (HT id Q) e h):Wp C F Pr fa (.block id a) an Q e h:=LH w
def qg {id:Nat} {ops:Array Oper} (w:kh C F Pr fa ops.toList ops.toList (Q .j1) e h):Wp C F Pr fa (.region id ops false) an Q e h:=HI w
def qd {id:Nat} {ops:Array Oper} (w:ky C F Pr fa ops.toList sch (Q .j1) e h):Wp C F Pr fa (.region id ops true) (.pV sch) Q e h:=L3 w
def qT {c:Operand} (w:Wp C F Pr fa a x Q e h) (hc:iP e c=.bool true:=by rfl):Wp C F Pr fa (.cond c a b) (.two x y) Q e h:=EI hc (λ_=>w) (λh=>by cases h)
def qF {c:Operand} (w:Wp C F Pr fa b y Q e h) (hc:iP e c=.bool false:=by rfl):Wp C F Pr fa (.cond c a b) (.two x y) Q e h:=EI hc (λh=>by cases h) (λ_=>w)
def iX {a b:Int} (w1:a<b->kh C F Pr fa all rest q (iW e o (.bool true)) h) (w2:¬ (a<b)->kh C F Pr fa all rest q (iW e o (.bool false)) h) {t u:Nat} {x y:Operand} {k k':IntKind} (ho:o.op=.binOp .lss t x y u:=by rfl) (hw:jg all e o=some true:=by rfl) (hx:iP e x=.int k a:=by rfl) (hy:iP e y=.int k' b:=by rfl) (hk:oA k k'=true:=by rfl):kh C F Pr fa all (o::rest) q e h:=oJ hw (λ_=>by rw [ho]; exact kj hx hy hk (GH _ a b)) w1 w2
def rr {a b:Int} (w1:a<b->ky C F Pr fa all sch q (iW e o (.bool true)) h) (w2:¬ (a<b)->ky C F Pr fa all sch q (iW e o (.bool false)) h) {t u:Nat} {x y:Operand} {k k':IntKind} (hi:all[i]?=some o:=by rfl) (ho:o.op=.binOp .lss t x y u:=by rfl) (hw:jg all e o=some true:=by rfl) (hx:iP e x=.int k a:=by rfl) (hy:iP e y=.int k' b:=by rfl) (hk:oA k k'=true:=by rfl):ky C F Pr fa all ((i,[])::sch) q e h:=mC hi hw (λ_=>by rw [ho]; exact kj hx hy hk (GH _ a b)) w1 w2
def tc {a b:Int} (w1:a<=b->kh C F Pr fa all rest q (iW e o (.bool true)) h) (w2:¬ (a<=b)->kh C F Pr fa all rest q (iW e o (.bool false)) h) {t u:Nat} {x y:Operand} {k k':IntKind} (ho:o.op=.binOp .leq t x y u:=by rfl) (hw:jg all e o=some true:=by rfl) (hx:iP e x=.int k a:=by rfl) (hy:iP e y=.int k' b:=by rfl) (hk:oA k k'=true:=by rfl):kh C F Pr fa all (o::rest) q e h:=oJ hw (λ_=>by rw [ho]; exact kj hx hy hk (T3 _ a b)) w1 w2
def ki {a b:Int} (w1:a > b->kh C F Pr fa all rest q (iW e o (.bool true)) h) (w2:¬ (a > b)->kh C F Pr fa all rest q (iW e o (.bool false)) h) {t u:Nat} {x y:Operand} {k k':IntKind} (ho:o.op=.binOp .gtr t x y u:=by rfl) (hw:jg all e o=some true:=by rfl) (hx:iP e x=.int k a:=by rfl) (hy:iP e y=.int k' b:=by rfl) (hk:oA k k'=true:=by rfl):kh C F Pr fa all (o::rest) q e h:=oJ hw (λ_=>by rw [ho]; exact kj hx hy hk (Hm _ a b)) w1 w2
def agC {a b:Int} (w1:a > b->ky C F Pr fa all sch q (iW e o (.bool true)) h) (w2:¬ (a > b)->ky C F Pr fa all sch q (iW e o (.bool false)) h) {t u:Nat} {x y:Operand} {k k':IntKind} (hi:all[i]?=some o:=by rfl) (ho:o.op=.binOp .gtr t x y u:=by rfl) (hw:jg all e o=some true:=by rfl) (hx:iP e x=.int k a:=by rfl) (hy:iP e y=.int k' b:=by rfl) (hk:oA k k'=true:=by rfl):ky C F Pr fa all ((i,[])::sch) q e h:=mC hi hw (λ_=>by rw [ho]; exact kj hx hy hk (Hm _ a b)) w1 w2
def lI {a b:Int} (w1:a>=b->kh C F Pr fa all rest q (iW e o (.bool true)) h) (w2:¬ (a>=b)->kh C F Pr fa all rest q (iW e o (.bool false)) h) {t u:Nat} {x y:Operand} {k k':IntKind} (ho:o.op=.binOp .geq t x y u:=by rfl) (hw:jg all e o=some true:=by rfl) (hx:iP e x=.int k a:=by rfl) (hy:iP e y=.int k' b:=by rfl) (hk:oA k k'=true:=by rfl):kh C F Pr fa all (o::rest) q e h:=oJ hw (λ_=>by rw [ho]; exact kj hx hy hk (GS _ a b)) w1 w2
def xJ {a b:Int} (w1:a>=b->ky C F Pr fa all sch q (iW e o (.bool true)) h) (w2:¬ (a>=b)->ky C F Pr fa all sch q (iW e o (.bool false)) h) {t u:Nat} {x y:Operand} {k k':IntKind} (hi:all[i]?=some o:=by rfl) (ho:o.op=.binOp .geq t x y u:=by rfl) (hw:jg all e o=some true:=by rfl) (hx:iP e x=.int k a:=by rfl) (hy:iP e y=.int k' b:=by rfl) (hk:oA k k'=true:=by rfl):ky C F Pr fa all ((i,[])::sch) q e h:=mC hi hw (λ_=>by rw [ho]; exact kj hx hy hk (GS _ a b)) w1 w2
def jG {a b:Int} (w1:a=b->kh C F Pr fa all rest q (iW e o (.bool true)) h) (w2:¬ (a=b)->kh C F Pr fa all rest q (iW e o (.bool false)) h) {t u:Nat} {x y:Operand} {k k':IntKind} (ho:o.op=.binOp .eql t x y u:=by rfl) (hw:jg all e o=some true:=by rfl) (hx:iP e x=.int k a:=by rfl) (hy:iP e y=.int k' b:=by rfl) (hk:oA k k'=true:=by rfl):kh C F Pr fa all (o::rest) q e h:=oJ hw (λ_=>by rw [ho]; exact kj hx hy hk (Hw _ a b)) w1 w2
def CU {a b:Int} (w1:a=b->ky C F Pr fa all sch q (iW e o (.bool true)) h) (w2:¬ (a=b)->ky C F Pr fa all sch q (iW e o (.bool false)) h) {t u:Nat} {x y:Operand} {k k':IntKind} (hi:all[i]?=some o:=by rfl) (ho:o.op=.binOp .eql t x y u:=by rfl) (hw:jg all e o=some true:=by rfl) (hx:iP e x=.int k a:=by rfl) (hy:iP e y=.int k' b:=by rfl) (hk:oA k k'=true:=by rfl):ky C F Pr fa all ((i,[])::sch) q e h:=mC hi hw (λ_=>by rw [ho]; exact kj hx hy hk (Hw _ a b)) w1 w2
def lg {a b:Int} (w1:a≠b->kh C F Pr fa all rest q (iW e o (.bool true)) h) (w2:¬ (a≠b)->kh C F Pr fa all rest q (iW e o (.bool false)) h) {t u:Nat} {x y:Operand} {k k':IntKind} (ho:o.op=.binOp .neq t x y u:=by rfl) (hw:jg all e o=some true:=by rfl) (hx:iP e x=.int k a:=by rfl) (hy:iP e y=.int k' b:=by rfl) (hk:oA k k'=true:=by rfl):kh C F Pr fa all (o::rest) q e h:=oJ hw (λ_=>by rw [ho]; exact kj hx hy hk (GX _ a b)) w1 w2
def Aw {a b:Int} (w1:a≠b->ky C F Pr fa all sch q (iW e o (.bool true)) h) (w2:¬ (a≠b)->ky C F Pr fa all sch q (iW e o (.bool false)) h) {t u:Nat} {x y:Operand} {k k':IntKind} (hi:all[i]?=some o:=by rfl) (ho:o.op=.binOp .neq t x y u:=by rfl) (hw:jg all e o=some true:=by rfl) (hx:iP e x=.int k a:=by rfl) (hy:iP e y=.int k' b:=by rfl) (hk:oA k k'=true:=by rfl):ky C F Pr fa all ((i,[])::sch) q e h:=mC hi hw (λ_=>by rw [ho]; exact kj hx hy hk (GX _ a b)) w1 w2
def oC {f:Nat} {args:List AV} {R:AV->Prop} (w:∀ h:aT,∃ v,iZ C F Pr false f args h v h/\R v) (next:∀ v,R v->kh C F Pr fa all rest q (iW e o v) h) {g:Operand} {c:Call} (ho:o.op=.call c:=by rfl) (hw:jg all e o=some true:=by rfl) (hf:c.callee=.value g:=by rfl) (hg:iP e g=.jz f [] []:=by rfl) (ha:c.args.toList.map (iP e)=args:=by rfl) (hok:args.all AV.nA=true:=by rfl) (hs:fa.jl.elem f=false:=by rfl):kh C F Pr fa all (o::rest) q e h:=MR ho hw hf hg ha hok hs w next
def rC {f:Nat} {args:List AV} {R:AV->Prop} (w:∀ h:aT,∃ v,iZ C F Pr false f args h v h/\R v) (next:∀ v,R v->ky C F Pr fa all sch q (iW e o v) h) {g:Operand} {c:Call} (hi:all[i]?=some o:=by rfl) (ho:o.op=.call c:=by rfl) (hw:jg all e o=some true:=by rfl) (hf:c.callee=.value g:=by rfl) (hg:iP e g=.jz f [] []:=by rfl) (ha:c.args.toList.map (iP e)=args:=by rfl) (hok:args.all AV.nA=true:=by rfl) (hs:fa.jl.elem f=false:=by rfl):ky C F Pr fa all ((i,[])::sch) q e h:=MD hi hw ho hf hg ha hok hs w next
end
def Row.lk {α:Type} (r:Row α):r.l.length<=9223372036854775807:=r.ok
def jn.lk {α:Type} (r:jn α):r.l.length<=9223372036854775807:=r.ok
def nu.lk (r:nu):r.l.length<=9223372036854775807:=r.ok
abbrev iv (n:Int):AV:=.int .i64 n
theorem FZ:(∀ sn hp n k a,freeze sn hp (n+1) (.int k a)=some (.int k a))/\(∀ sn hp n b,freeze sn hp (n+1) (.bool b)=some (.bool b))/\(∀ sn hp n s,freeze sn hp (n+1) (.str s)=some (.str s)) /\
  (∀ (α:Type) (enc : α->List AV) hp n r,freeze true hp (n+1) (jn.av enc r)=some (jn.av enc r))/\(∀ (α:Type) (enc : α->List AV) sn hp n r,freeze sn hp (n+1) (Row.av enc r)=some (Row.av enc r)) /\
  (∀ hp n c o s,freeze true hp (n+1) (.ip c o s)=some (.ip c o s))/\(∀ sn hp n c o,freeze sn hp (n+1) (.ip c o false)=some (.ip c o false))/\(∀ hp n c s,freeze true hp (n+1) (.fm c s)=some (.fm c s))/\(∀ sn hp n c,freeze sn hp (n+1) (.fm c false)=some (.fm c false)) /\
  (∀ sn hp n,freeze sn hp (n+1) (.sl [] .nil)=some (.sl [] .nil))/\(∀ sn hp n,freeze sn hp (n+1) .jV=some .jV)/\(∀ sn hp n,freeze sn hp (n+1) .ka=some .ka)/\(∀ sn hp n m xs,freeze sn hp (n+1) (.sl xs (.exact m))=some (.sl xs (.exact m))) /\
  (∀ sn hp n l,freeze sn hp (n+1) (.agg l)=(match js (freeze sn hp n) l with
    | some l=>some (.agg l)
    | none=>none))/\(∀ sn hp n l,freeze sn hp (n+1) (.je l)=(match js (freeze sn hp n) l with
    | some l=>some (.je l)
    | none=>none))/\(∀ x:iz,x.af=[.int .i64 x.elem,.int .i64 x.en])/\(∀ x:iu,x.af=[.int .i64 x.elem,.int .i64 x.pos])/\(∀ x:jC,x.af=[.int .i64 x.out,.int .i64 x.pos])/\(∀ x:iR,x.af=[.int .i64 x.elem,.int .i64 x.lN,.int .i64 x.out])/\(∀ x:jZ,x.af=[.str x.name.l,.int .i64 x.kind,.int .i64 x.len])/\(∀ x:jJ,x.af=[.bool x.Ax,.int .i64 x.at_,.int .i64 x.end_,.int .i64 x.to]) /\
  (∀ x:iG,x.af=[.int .i64 x.from_,.int .i64 x.to,.int .i64 x.end_,x.steps.av iR.af,x.jK.av iu.af,x.guards.av iu.af,x.my.av jL,x.holds.av jL,.bool x.bare])/\(∀ x:sZ,x.af=[.int .i64 x.from_,.int .i64 x.to,.int .i64 x.end_,x.steps.av iR.af,x.jK.av iu.af,x.guards.av iu.af,x.my.av jL,x.holds.av jL,.bool x.bare]) /\
  (∀ x:nw,x.af=[.int .i64 x.u2,x.steps.av iR.af,x.pos.av jL,x.left.av (lh jC.af)])/\(∀ p:bY,p.af=[p.elems.av jZ.af,p.iQ.av jX.af,p.signals.av jY.af,p.lines.av ju.af,.int .i64 p.top,.int .i64 p.jT,.int .i64 p.jS,.int .i64 p.j4,.bool p.j9])/\(∀ x:jh,x.af=x.qj.af++[x.roads.av iG.af]) /\
  (∀ x:nS,x.af=[.int .i64 x.mode,x.Bg.av iz.af,.int .i64 x.left,.int .i64 x.yF,.int .i64 x.v])/\(∀ x:kU,x.af=[.str x.name.l,.int .i64 x.jb,.int .i64 x.at_.elem,.int .i64 x.at_.en,.int .i64 x.left])/\(∀ x:ju,x.af=[.str x.name.l,x.elems.av jL])/\(∀ x:j7,x.af=[.str x.name.l,.int .i64 x.jb,.int .i64 x.from_,.int .i64 x.left,x.iS.av jJ.af])/\(∀ x:iB,x.af=[.int .i64 x.yb,x.jb.av jF.af,x.runs.av j7.af]) /\
  (∀ (f:AV->Option AV),js f []=some [])/\(∀ (f:AV->Option AV) v l,js f (v::l)=(match f v with
    | none=>none
    | some w=>match js f l with
      | none=>none
      | some l'=>some (w::l')))/\(∀ (a b:List AV) v,(v::a)++b=v::(a++b))/\(∀ b:List AV,[]++b=b):=by
 refine ⟨λ_ _ _ _ _=>rfl,λ_ _ _ _=>rfl,λ_ _ _ _=>rfl,λ_ _ _ _ r=>Fh r,λ_ _ _ _ _ r=>sB r,λ_ _ _ _ _=>GU _ _ _,λ_ _ _ _ _=>TA _ _,λ_ _ _ _=>HE _ _,λ_ _ _ _=>Te _,λ_ _ _=>rfl,λ_ _ _=>rfl,λ_ _ _=>rfl,λ_ _ _ _ _=>rfl,λ_ _ _ _=>rfl,λ_ _ _ _=>rfl,?_⟩
 exact ⟨λ_=>rfl,λ_=>rfl,λ_=>rfl,λ_=>rfl,λ_=>rfl,λ_=>rfl,λ_=>rfl,λ_=>rfl,λ_=>rfl,λ_=>rfl,λ_=>rfl,λ_=>rfl,λ_=>rfl,λ_=>rfl,λ_=>rfl,λ_=>rfl,λ_=>rfl,λ_ _ _=>rfl,λ_ _ _=>rfl,λ_=>rfl⟩
end Go.Sx
namespace Go.Sx
open Go
def Kz (amb:Bool) (a b:Option iz) (to:Int):Option iz:=match a,b with
 | some _,none=>some ⟨to,1⟩
 | none,some _=>some ⟨to,0⟩
 | _,_=>if amb=true then some ⟨to,-1⟩ else none
def o8 (amb:Bool) (A:Int->Option iz) (N:iz->Option iz) (l:jJ):Option iz:=if l.end_=1 then A l.to else if l.end_=3 then Kz amb (N ⟨l.to,0⟩) (N ⟨l.to,1⟩) l.to else none
def wQ (amb:Bool) (A:Int->Option iz) (N:iz->Option iz) (r:j7) (leg:Int):Option iz:=if leg=0 then A r.from_ else match r.iS.l[(leg - 1).toNat]? with
 | none=>none
 | some l=>o8 amb A N l
def kN (amb:Bool) (A:Int->Option iz) (N:iz->Option iz) (d:iB) (run leg:Int):Option iz:=if run<0 then none else match d.runs.l[run.toNat]? with
 | none=>none
 | some r=>if leg<0\/leg > r.iS.l.length then none else wQ amb A N r leg
section
variable {amb:Bool} {A:Int->Option iz} {N:iz->Option iz} {d:iB} {run leg:Int} {x:j7} {y:jJ}
theorem tQ (h:run<0\/run>=d.runs.l.length):kN amb A N d run leg=none:=by
 grind [kN]
theorem yc (h0:0<=run) (hx:run.toNat<d.runs.l.length) (hq:d.runs.l[run.toNat]=x):kN amb A N d run leg=if leg<0\/leg > x.iS.l.length then none else wQ amb A N x leg:=by
 grind [kN]
theorem tK (h0:0<=run) (hx:run.toNat<d.runs.l.length) (hq:d.runs.l[run.toNat]=x) (h:leg<0\/leg > x.iS.l.length):kN amb A N d run leg=none:=by
 grind [yc]
def Tg {hx:run.toNat<d.runs.l.length} (hq:d.runs.l[run.toNat]=x) (h:leg<(x.iS.l.length:Int)):∀ h:run.toNat<d.runs.l.length,leg<((d.runs.l[run.toNat]).iS.l.length:Int):=by
 grind
def Db (h:leg<0):kN amb A N d run leg=none:=by
 grind [kN]
theorem EP (h0:0<=run) (hx:run.toNat<d.runs.l.length) (hq:d.runs.l[run.toNat]=x) (h:leg=0):kN amb A N d run leg=A x.from_:=by
 rw [yc h0 hx hq,if_neg (by omega),wQ,if_pos h]
theorem FO (h0:0<=run) (hx:run.toNat<d.runs.l.length) (hq:d.runs.l[run.toNat]=x) (h1:0<leg) (h2:leg<=x.iS.l.length) (hy:(leg - 1).toNat<x.iS.l.length) (hz:x.iS.l[(leg - 1).toNat]=y):kN amb A N d run leg=o8 amb A N y:=by
 rw [yc h0 hx hq,if_neg (by omega),wQ,if_neg (by omega),List.getElem?_eq_getElem hy,hz]
theorem zj (h:y.end_=1):o8 amb A N y=A y.to:=by grind [o8]
theorem zy (h:¬ y.end_=1) (h3:y.end_=3):o8 amb A N y=Kz amb (N ⟨y.to,0⟩) (N ⟨y.to,1⟩) y.to:=by grind [o8]
theorem CD (h:¬ y.end_=1) (h3:¬ y.end_=3):o8 amb A N y=none:=by grind [o8]
end
def D2 (amb:Bool) (K:Int->Int) (R:iz->Int) (h:iz) (l:jJ):Int:=if l.Ax=true then if K h.elem=1 then R ⟨h.elem,IntKind.i64.wrap (1 - h.en)⟩ else -1 else R h
def nk (amb:Bool) (A:Int->Option iz) (N:iz->Option iz) (K:Int->Int) (R:iz->Int) (d:iB) (run leg:Int):Int:=match kN amb A N d run leg with
 | none=>-1
 | some h=>if amb=true/\h.en<0 then -1 else match d.runs.l[run.toNat]? with
   | none=>-1
   | some r=>match r.iS.l[leg.toNat]? with
     | none=>-1
     | some l=>D2 amb K R h l
def Co (d:iB) (run leg:Int):Prop:=run<0\/run>=d.runs.l.length\/leg<0\/∃ h:run.toNat<d.runs.l.length,leg > ((d.runs.l[run.toNat]).iS.l.length:Int)
section
variable {amb:Bool} {A:Int->Option iz} {N:iz->Option iz} {K:Int->Int} {R:iz->Int} {d:iB} {run leg:Int} {x:j7} {y:jJ} {h:iz}
theorem o7 (hh:kN amb A N d run leg=none):nk amb A N K R d run leg = -1:=by rw [nk,hh]
def Ly (hl:Co d run leg):kN amb A N d run leg=none:=by
 by_cases h0:run<0\/run>=d.runs.l.length
 ·exact tQ h0
 ·have hx:run.toNat<d.runs.l.length:=by omega
  refine tK (by omega) hx rfl ?_
  rcases hl with hl | hl | hl | ⟨_,hl⟩<;>grind
theorem Dn (hh:kN true A N d run leg=some h) (hn:h.en<0):nk true A N K R d run leg = -1:=by grind [nk]
def Dh (hx:run.toNat<d.runs.l.length) (hq:d.runs.l[run.toNat]=x) (hl:leg>=x.iS.l.length):nk amb A N K R d run leg = -1:=by
 grind [nk]
theorem B8 (hh:kN amb A N d run leg=some h) (hn:amb=false\/¬ h.en<0) (hx:run.toNat<d.runs.l.length) (hq:d.runs.l[run.toNat]=x) (hy:leg.toNat<x.iS.l.length) (hz:x.iS.l[leg.toNat]=y):nk amb A N K R d run leg=D2 amb K R h y:=by
 grind [nk]
theorem Mv (hA:∀ i h,A i=some h->0<=h.en):nk false A N K R d run leg=nk true A N K R d run leg:=by
 have hl:∀ l:jJ,(o8 false A N l=none/\o8 true A N l=none)\/(∃ h,o8 false A N l=none/\o8 true A N l=some h/\h.en<0)\/∃ h,o8 false A N l=some h/\o8 true A N l=some h/\0<=h.en:=by
  intro l
  by_cases h1:l.end_=1
  ·rw [zj h1,zj h1]
   cases h:A l.to<;>grind
  ·by_cases h3:l.end_=3
   ·rw [zy h1 h3,zy h1 h3]
    cases N ⟨l.to,0⟩<;>cases N ⟨l.to,1⟩<;>simp [Kz]
   grind [CD]
 have hg:(kN false A N d run leg=none/\kN true A N d run leg=none)\/(∃ h,kN false A N d run leg=none/\kN true A N d run leg=some h/\h.en<0)\/∃ h,kN false A N d run leg=some h/\kN true A N d run leg=some h/\0<=h.en:=by
  unfold kN
  split
  ·simp
  ·cases d.runs.l[run.toNat]? with
   | none=>simp
   | some r =>
     simp only
     split
     ·simp
     ·unfold wQ
      split
      ·cases h:A r.from_<;>grind
      ·cases r.iS.l[(leg - 1).toNat]?<;>grind
 rcases hg with ⟨h1,h2⟩ | ⟨h,h1,h2,h3⟩ | ⟨h,h1,h2,h3⟩
 ·grind [o7]
 ·grind [o7,Dn]
 ·simp only [nk,h1,h2,Bool.false_eq_true,false_and,true_and,if_false]
  rw [if_neg (by omega)]
  rfl
end
def TE {p:bY} (h:∀ s∈p.signals.l,0<=s.at_.elem/\s.at_.elem<(p.elems.l.length:Int)/\0<=s.at_.en):∀ i x,nr p.signals.l i=some x->0<=x.en:=by
 grind [nr]
end Go.Sx
