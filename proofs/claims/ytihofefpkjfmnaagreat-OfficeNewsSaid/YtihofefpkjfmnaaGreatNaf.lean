/- Proves rules for the walks and their soundness. -/
import GoSem.ClaimChange
import Derived.Shelf.SlIterI.Nil
import Derived.Shelf.SortM.Plain
import Derived.Shelf.SortM.SortNone
import Derived.Test.YtihofefpkjfmnaaGreatNaa
import Derived.Test.YtihofefpkjfmnaaGreatNae
set_option linter.all false
namespace Go.Sx
open Go
def oM (n:Int):Prop:=-9223372036854775808<=n/\n<=9223372036854775807
def pN (n:Int):Prop:=0<=n/\n<40
theorem pN.oM {n:Int} (h:pN n):oM n:=⟨by have:=h.1; omega,by have:=h.2; omega⟩
def VE (p:bY) (e:Int):Prop:=0<=e/\e<(p.elems.l.length:Int)
def JV (p:bY):Prop:=∀ j∈p.kB.l,VE p j.a.elem/\VE p j.b.elem
def zX (p:bY):Prop:=(∀ x∈p.lines.l,∀ e∈x.elems.l,VE p e)/\∀ (i j:Nat) (h:j<p.lines.l.length) (hij:i<j),∀ e∈(p.lines.l[i]).elems.l,e∉(p.lines.l[j]).elems.l
def Et (p:bY):Prop:=∀ e∈p.elems.l,(1<=e.kind/\e.kind<=4)/\(e.kind=4->e.len=0)
structure Oe (p:bY):Prop where
 jv:JV p
 ln:zX p
 kd:Et p
def JG (p:bY):Prop:=(∀ j∈p.kB.l,oM j.a.elem/\oM j.b.elem)/\∀ x∈p.lines.l,∀ z∈x.elems.l,oM z
def mU (p:bY):Prop:=p.elems.l.length<=60/\p.kB.l.length<=120/\p.signals.l.length<=60/\p.lines.l.length<=20/\(∀ x∈p.lines.l,x.elems.l.length<=60)/\(∀ j∈p.kB.l,oM j.a.elem/\oM j.b.elem)/\∀ x∈p.lines.l,∀ z∈x.elems.l,oM z
theorem mU.elems {p:bY} (h:mU p):p.elems.l.length<=60:=h.1
def mU.kB {p:bY} (h:mU p):p.kB.l.length<=120:=h.2.1
theorem mU.signals {p:bY} (h:mU p):p.signals.l.length<=60:=h.2.2.1
def mU.lines {p:bY} (h:mU p):p.lines.l.length<=20:=h.2.2.2.1
def mU.line {p:bY} (h:mU p):∀ x∈p.lines.l,x.elems.l.length<=60:=h.2.2.2.2.1
def mU.XL {p:bY} (h:mU p):∀ x∈p.lines.l,∀ z∈x.elems.l,oM z:=h.2.2.2.2.2.2
def pJ {κ β:Type} [DecidableEq κ] {k : κ} {x : β} {l:List (κ×β)} (h:look k l=some x):(k,x)∈l:=by
 induction l<;>grind [look]
def CW {κ β:Type} [DecidableEq κ] {k : κ} {x : β} {l:List (κ×β)} {y : κ×β} (h:y∈put k x l):y=(k,x)\/y∈l:=by
 induction l<;>grind [put]
def sW {κ β:Type} [DecidableEq κ] {k : κ} {x : β} {l:List (κ×β)} {P : β->Prop} (hl:∀ y∈l,P y.2) (hx:P x):∀ y∈put k x l,P y.2:=by
 intro y hy
 rcases CW hy with rfl | hy<;>grind
theorem JZ {κ β:Type} [DecidableEq κ] {k : κ} {x : β} {l:List (κ×β)}:(put k x l).length<=l.length+1:=by
 induction l<;>grind [put]
def nc {κ β:Type} (l:List (κ×β)):Prop:=(l.map Prod.fst).Nodup
theorem C5 {κ β:Type} [DecidableEq κ] {k : κ} {l:List (κ×β)} (h:look k l=none):k∉l.map Prod.fst:=by
 induction l<;>grind [look]
theorem Hs {κ β:Type} [DecidableEq κ] {k : κ} {x : β} {l:List (κ×β)} (h:look k l=none):put k x l=l++[(k,x)]:=by
 induction l<;>grind [look,put]
def Dg {α:Type} [DecidableEq α]:∀ {a b:List α},a.Nodup->(∀ x∈a,x∈b)->a.length<=b.length
 | [],_,_,_=>Nat.zero_le _
 | x::a,b,hn,hs=>by
   have hx:x∈b:=hs x List.mem_cons_self
   have h1:=Dg (a:=a) (b:=b.erase x) (List.nodup_cons.mp hn).2 (by
    grind)
   grind
def lR (p:bY) (e:Int):Int:=if e<0 then 0 else match p.elems.l[e.toNat]? with
 | some x=>x.kind
 | none=>0
theorem s8 {p:bY} {e:Int} (h:e<0\/e>=p.elems.l.length):lR p e=0:=by
 grind [lR]
def Bb {p:bY} {e:Int} {x:my} (h0:0<=e) (hx:e.toNat<p.elems.l.length) (hq:p.elems.l[e.toNat]=x):lR p e=x.kind:=by
 grind [lR]
def np:List mr->j7->Option j7
 | [],_=>none
 | j::l,x=>if j.a=x then some j.b else if j.b=x then some j.a else np l x
theorem As {a b:j7} (h:a.elem=b.elem/\a.en=b.en):a=b:=by
 cases a<;>simp_all
def KS {l:List mr} {y:j7} {k:Nat} {x:mr} (hx:k<l.length) (hq:l[k]=x) (h1:¬(x.a.elem=y.elem/\x.a.en=y.en)) (h2:¬(x.b.elem=y.elem/\x.b.en=y.en)):np (l.drop (k+1)) y=np (l.drop k) y:=by
 rw [List.drop_eq_getElem_cons hx,hq,np,if_neg (by grind),if_neg (by grind)]
def Mh {l:List mr} {y:j7} {k:Nat} {x:mr} (hx:k<l.length) (hq:l[k]=x) (h1:x.a.elem=y.elem/\x.a.en=y.en):np (l.drop k) y=some x.b:=by
 rw [List.drop_eq_getElem_cons hx,hq,np,if_pos (As h1)]
def LM {l:List mr} {y:j7} {k:Nat} {x:mr} (hx:k<l.length) (hq:l[k]=x) (h1:¬(x.a.elem=y.elem/\x.a.en=y.en)) (h2:x.b.elem=y.elem/\x.b.en=y.en):np (l.drop k) y=some x.a:=by
 rw [List.drop_eq_getElem_cons hx,hq,np,if_neg (by grind),if_pos (As h2)]
def O9 {l:List mr} {y:j7} {k:Nat} (hx:l.length<=k):np (l.drop k) y=none:=by
 rw [List.drop_eq_nil_of_le hx]; rfl
def nX (x:j7):Nat->List lY->Option Int
 | _,[]=>none
 | i,s::l=>if s.at_=x then some i else nX x (i+1) l
def pZ (l:List lY) (x:j7):Option Int:=nX x 0 l
def CV {l:List lY} {y:j7} {k:Nat} {x:lY} (hx:k<l.length) (hq:l[k]=x) (h1:¬(x.at_.elem=y.elem/\x.at_.en=y.en)):nX y (k+1) (l.drop (k+1))=nX y k (l.drop k):=by
 rw [List.drop_eq_getElem_cons hx,hq,nX,if_neg (by grind)]
theorem DJ {l:List lY} {y:j7} {k:Nat} {x:lY} (hx:k<l.length) (hq:l[k]=x) (h1:x.at_.elem=y.elem/\x.at_.en=y.en):nX y k (l.drop k)=some (k:Int):=by
 rw [List.drop_eq_getElem_cons hx,hq,nX,if_pos (As h1)]
theorem DH {l:List lY} {y:j7} {k:Nat} (hx:l.length<=k):nX y k (l.drop k)=none:=by
 rw [List.drop_eq_nil_of_le hx]; rfl
def pe (l:List lY) (i:Int):Option j7:=if i<0 then none else (l[i.toNat]?).map (·.at_)
def Pl {l:List lY} {e:Int} (h:e<0\/e>=l.length):pe l e=none:=by
 grind [pe]
def Ry {l:List lY} {e:Int} {x:lY} (h0:0<=e) (hx:e.toNat<l.length) (hq:l[e.toNat]=x):pe l e=some x.at_:=by
 grind [pe]
def uR:Nat->List (Row lV)->Nat
 | _,[]=>0
 | i,r::l=>r.l.length*(2 ^ (12 - i) - 1)+uR (i+1) l
def Q8 (l:List (Row lV)):∃ n,n=uR 0 l:=⟨_,rfl⟩
noncomputable def wt (l:List (Row lV)):Nat:=Classical.choose (Q8 l)
theorem zl (l:List (Row lV)):wt l=uR 0 l:=Classical.choose_spec (Q8 l)
def Ha (n:Nat):∃ m,m=2 ^ (13 - n) - 1:=⟨_,rfl⟩
noncomputable def vM (n:Nat):Nat:=Classical.choose (Ha n)
theorem yJ (n:Nat):vM n=2 ^ (13 - n) - 1:=Classical.choose_spec (Ha n)
theorem Uf:wt []=0:=by rw [zl]; rfl
theorem Sn:vM 0=8191:=by rw [yJ]
theorem FO (w:Row lV):∀ (l:List (Row lV)) (i:Nat),uR i (l++[w])=uR i l+w.l.length*(2 ^ (12 - (i+l.length)) - 1)
 | [],i=>by simp [uR]
 | r::l,i=>by
   simp only [List.cons_append,uR,FO w l (i+1),List.length_cons]
   rw [show i+1+l.length=i+(l.length+1) from by omega]; omega
def A5 {n:Nat} (h:n<=12):1<=vM n:=by
 rw [yJ]
 have:2 ^ 1<=2 ^ (13 - n):=Nat.pow_le_pow_right (by omega) (by omega)
 omega
def Rs {l:List (Row lV)} {w:Row lV} (hn:l.length<12) (hw:w.l.length<=2):wt (l++[w])+1<=wt l+vM l.length:=by
 rw [zl,zl,yJ]
 rw [FO,Nat.zero_add]
 have h1:13 - l.length=(12 - l.length)+1:=by omega
 have h2:1<=2 ^ (12 - l.length):=Nat.one_le_two_pow
 rw [h1,Nat.pow_succ]
 have h3:w.l.length*(2 ^ (12 - l.length) - 1)<=2*(2 ^ (12 - l.length) - 1):=Nat.mul_le_mul_right _ hw
 omega
theorem Fg:∀ {l:List (Row lV)} {i k:Nat} (hk:k+1=l.length) (_:(l[k]'(by omega)).l.length=0),uR i (l.take k)=uR i l
 | [],_,_,hk,_=>by simp
 | [r],i,k,hk,h0=>by
   grind [uR]
 | r::s::l,i,k,hk,h0=>by
   obtain ⟨k,rfl⟩:∃ k',k=k'+1:=⟨k - 1,by simp at hk; omega⟩
   simp only [List.getElem_cons_succ] at h0
   rw [List.take_succ_cons,uR,uR,Fg (l:=s::l) (by simpa using hk) h0]
theorem GU:∀ {l:List (Row lV)} {i k:Nat} {r r':Row lV} (hk:k<l.length) (_:l[k]=r) (_:1<=r.l.length) (_:r'.l.length+1=r.l.length),uR i (l.set k r')+(2 ^ (12 - (i+k)) - 1)=uR i l
 | [],_,_,_,_,hk,_,_,_=>by simp at hk
 | x::l,i,0,r,r',_,hr,h1,h2=>by
   grind [uR]
 | x::l,i,k+1,r,r',hk,hr,h1,h2=>by
   simp only [List.getElem_cons_succ] at hr
   simp only [List.set_cons_succ,uR]
   have:=GU (l:=l) (i:=i+1) (k:=k) (by simpa using hk) hr h1 h2
   rw [show i+1+k=i+(k+1) from by omega] at this
   omega
theorem RJ {l:List (Row lV)} {k:Nat} {r:Row lV} (hk:k<l.length) (hk1:k+1=l.length) (hr:l[k]=r) (h0:r.l.length=0):wt (l.take k)=wt l:=by grind [zl,Fg]
def SA {l:List (Row lV)} {k:Nat} {r r':Row lV} (hk:k<l.length) (hk1:k+1=l.length) (hr:l[k]=r) (h1:1<=r.l.length) (h2:r'.l.length+1=r.l.length):wt (l.set k r')+vM l.length=wt l:=by
 grind [GU,zl,yJ]
def Am (l:List mr):Prop:=∀ (i:Nat) (h:i<l.length),np (l.take i) (l[i]).a=none/\np (l.take i) (l[i]).b=none/\(l[i]).a≠(l[i]).b
def y7 (l:List lY):Prop:=∀ (i:Nat) (h:i<l.length),∀ y∈l.take i,y.at_≠(l[i]).at_
theorem KM (l:List mr) (j:mr) (x:j7):np (l++[j]) x=match np l x with
  | some y=>some y
  | none=>if j.a=x then some j.b else if j.b=x then some j.a else none:=by
 induction l<;>grind [np]
theorem JO {l:List mr} {j:mr} {m:List (j7×j7)} (hD:∀ x,look x m=np l x) (ha:look j.a m=none) (hb:look j.b m=none) (hne:j.a≠j.b) (x:j7):look x (put j.b j.a (put j.a j.b m))=np (l++[j]) x:=by
 grind [nQ,KM,look]
theorem AR {l:List mr} {j:mr} {m:List (j7×j7)} {k:Nat} (hk:k<l.length) (hj:l[k]=j) (hD:∀ x,look x m=np (l.take k) x) (ha:look j.a m=none) (hb:look j.b m=none) (hne:¬(j.a.elem=j.b.elem/\j.a.en=j.b.en)):∀ x,look x (put j.b j.a (put j.a j.b m))=np (l.take (k+1)) x:=by
 intro x
 have:l.take (k+1)=l.take k++[j]:=by rw [List.take_succ_eq_append_getElem hk,hj]
 grind [JO]
def E4 {l:List mr} {j:mr} {m:List (j7×j7)} {k:Nat} (hk:k<l.length) (hj:l[k]=j) (hD:∀ x,look x m=np (l.take k) x) (hJ:∀ (i:Nat) (h:i<l.length),i<k->np (l.take i) (l[i]).a=none/\np (l.take i) (l[i]).b=none/\(l[i]).a≠(l[i]).b) (ha:look j.a m=none) (hb:look j.b m=none) (hne:¬(j.a.elem=j.b.elem/\j.a.en=j.b.en)) :
  ∀ (i:Nat) (h:i<l.length),i<k+1->np (l.take i) (l[i]).a=none/\np (l.take i) (l[i]).b=none/\(l[i]).a≠(l[i]).b:=by
 grind
def On {l:List lY} {n k:Nat} (hV:∀ (i:Nat) (h:i<l.length),i<k->0<=(l[i]).at_.elem/\(l[i]).at_.elem<(n:Int)/\0<=(l[i]).at_.en) (hk:l.length<=k):∀ s∈l,0<=s.at_.elem/\s.at_.elem<(n:Int)/\0<=s.at_.en:=by
 intro s hs
 obtain ⟨i,hi,rfl⟩:=List.mem_iff_getElem.mp hs
 grind
def Dj {l:List lY} {n k:Nat} {x:lY} {hk:k<l.length} (hq:l[k]=x) (hV:∀ (i:Nat) (h:i<l.length),i<k->0<=(l[i]).at_.elem/\(l[i]).at_.elem<(n:Int)/\0<=(l[i]).at_.en) (hx:0<=x.at_.elem/\x.at_.elem<(n:Int)/\0<=x.at_.en):∀ (i:Nat) (h:i<l.length),i<k+1->0<=(l[i]).at_.elem/\(l[i]).at_.elem<(n:Int)/\0<=(l[i]).at_.en:=by
 grind
def Dz {l:List lY} {k:Nat} {x:lY} {m:List (j7×Bool)} (hk:k<l.length) (hq:l[k]=x) (hD:∀ y:j7,(∃ s,s∈l.take k/\s.at_=y)->look y m=some true):∀ y:j7,(∃ s,s∈l.take (k+1)/\s.at_=y)->look y (put x.at_ true m)=some true:=by
 rintro y ⟨s,hs,rfl⟩
 rw [nQ]
 split
 ·rfl
 ·rename_i hne
  rw [List.take_succ_eq_append_getElem hk,hq] at hs
  grind
def Dv {l:List lY} {k:Nat} {x:lY} {m:List (j7×Bool)} (hk:k<l.length) (hq:l[k]=x) (hD:∀ y:j7,(∃ s,s∈l.take k/\s.at_=y)->look y m=some true) (hJ:∀ (i:Nat) (h:i<l.length),i<k->∀ y∈l.take i,y.at_≠(l[i]).at_) (hn:look x.at_ m=none):∀ (i:Nat) (h:i<l.length),i<k+1->∀ y∈l.take i,y.at_≠(l[i]).at_:=by
 grind
def AG {α:Type} {P : α->Prop} {l:List α} {k:Nat} {x : α} (hl:∀ y∈l,P y) (hx:P x):∀ y∈l.set k x,P y:=by
 grind
def pd {e:Env} {h:bV} {t d o:Nat} {x y:Operand} {X:Ctx} {dd:Option Nat} {ti:TI} {r:AV} {new cs cs':List AV} (hT:X.C.T t=some ti) (hx:kz e x=.la d o) (hy:kz e y=r) (hnew:cellsOf ti r=some new) (hok:new.all AV.mE=true) (hl:lT h.cT d=some cs) (hsp:pg cs o new=some cs'):lu (.store t x y) X e h dd=some (.undef,{ h with cT:=uF h.cT d cs' }):=by
 simp only [lu,zv,xR,hT,hx,hy,xv,hnew,hok,ze,Ob,hl,hsp]
section
variable {C:lS} {F:m0} {Pr:mM} {fa:kp} {Q:Ex->Env->bV->Prop} {e:Env} {h:bV}
end
section
variable {C:lS} {F:m0} {Pr:mM} {fa:kp} {Q:Ex->Env->bV->Prop} {e:Env} {h:bV}
def A7 {a b:Code} {live:List Nat} {x y:od} (P:Env->bV->Prop) (K:∀ E Z,P E Z->Wp C F Pr fa b y Q E Z) (w:Wp C F Pr fa a x (wm (λe h=>P (proj live e) { h with cT:=nr live h.cT }) Q) e h):Wp C F Pr fa (.seq a b) (.seq live x y) Q e h:=by
 refine G8 (w.mono ?_)
 intro x1 e1 h1 hx
 cases x1 with
 | nf=>exact K _ _ hx
 | ext id=>exact hx
 | ret=>exact hx
end
def yU {r:List AV} {l:List (List AV)} (h:r.all AV.Ah=true) (hl:tJ l=true):tJ (r::l)=true:=by
 grind [tJ]
def ug (d:dO):Prop:=d.runs.l.length<=8/\∀ r∈d.runs.l,r.kr.l.length<=12/\0<=r.ko/\r.ko<(d.ko.l.length:Int)
def ng {α:Type} {P : α->Prop} {l:List α} {k:Nat} {x : α} {hk:k<l.length} (hq:l[k]=x) (hV:∀ (i:Nat) (h:i<l.length),i<k->P (l[i])) (hx:P x):∀ (i:Nat) (h:i<l.length),i<k+1->P (l[i]):=by
 grind
def qx {α:Type} {P : α->Prop} {l:List α} {x : α} (hl:∀ y∈l,P y) (hx:P x):∀ y∈l++[x],P y:=by
 grind
def RY {α:Type} {P : α->Prop} {l m:List α} (hl:∀ y∈l,P y) (hm:∀ y∈m,P y):∀ y∈l++m,P y:=by
 grind
def Pm {l:List (Row lV)} {k:Nat} {r:Row lV} (hk:k<l.length) (hk1:k+1=l.length) (hr:l[k]=r) (h0:r.l.length=0):wt (l.take (l.length - 1))=wt l:=by
 rw [show l.length - 1=k from by omega]; grind [RJ]
def Gk {κ β:Type} [DecidableEq κ] {k : κ} {x : β} {l:List (κ×β)} (h:nc l) (hn:look k l=none):nc (put k x l):=by
 grind [nc,Hs,C5]
def univ (n:kb):List j7:=⟨0,0⟩::n.next.map Prod.snd
theorem O5 {n:kb} {x y:j7} (h:look x n.next=some y):y∈univ n:=by
 have:=pJ h
 exact List.mem_cons_of_mem _ (List.mem_map.mpr ⟨_,this,rfl⟩)
def LU {κ β:Type} [DecidableEq κ] {k : κ} {x : β} {l:List (κ×β)} {U:List κ} (h:∀ y∈l.map Prod.fst,y∈U) (hk:k∈U):∀ y∈(put k x l).map Prod.fst,y∈U:=by
 intro y hy
 obtain ⟨z,hz,rfl⟩:=List.mem_map.mp hy
 rcases CW hz with rfl | hz<;>grind
def vI {n:kb} {x y:j7} {b:Bool} (h:(b=true->look x n.next=some y)/\(b=false->look x n.next=none)/\(b=false->y=⟨0,0⟩)):y∈univ n:=by
 cases b with
 | true=>grind [O5]
 | false=>rw [h.2.2 rfl]; exact List.mem_cons_self
def M1 {l:List mr} {j:mr} {m:List (j7×j7)} {k:Nat} (hk:k<l.length) (hj:l[k]=j) (hJ:Am l) (hD:∀ x,look x m=np (l.take k) x):∀ x,look x (put j.b j.a (put j.a j.b m))=np (l.take (k+1)) x:=by
 obtain ⟨h1,h2,h3⟩:=hJ k hk
 grind [AR,As]
def Pa {κ β:Type} [DecidableEq κ] {a b : κ} {x y : β} {l:List (κ×β)} {k:Nat} (h:l.length<=2*k):(put a x (put b y l)).length<=2*(k+1):=by
 grind [JZ,put]
theorem xr (x:j7) (s:lY):∀ (l:List lY) (i:Nat),nX x i (l++[s])=match nX x i l with
  | some y=>some y
  | none=>if s.at_=x then some ((i+l.length:Nat):Int) else none
 | [],i=>by rfl
 | a::l,i=>by
   simp only [List.cons_append,nX]
   split
   ·rfl
   ·rw [xr x s l (i+1)]
    simp only [List.length_cons,show i+1+l.length=i+(l.length+1) from by omega]
theorem xm {x:j7}:∀ {l:List lY} {i:Nat},(∀ s∈l,s.at_≠x)->nX x i l=none
 | [],_,_=>rfl
 | a::l,i,h=>by
   simp only [nX]
   rw [if_neg (h a List.mem_cons_self)]
   exact xm λs hs=>h s (List.mem_cons_of_mem _ hs)
def Il {l:List lY} {s:lY} {m:List (j7×Int)} {k:Nat} (hk:k<l.length) (hj:l[k]=s) (hS:y7 l) (hR:∀ x,look x m=pZ (l.take k) x):∀ x,look x (put s.at_ (k:Int) m)=pZ (l.take (k+1)) x:=by
 intro x
 have h1:=hS k hk
 rw [hj] at h1
 rw [nQ,List.take_succ_eq_append_getElem hk,hj]
 grind [pZ,xr,xm,look]
def CF:oW->oW
 | .nil=>.nil
 | _=>.oh
def Row.canon {α:Type} (r:Row α):Row α:=⟨r.l,CF r.c,r.ok,by cases r.c<;>rfl,λh=>r.nl (by cases hc:r.c<;>first | rfl | (rw [hc] at h; cases h))⟩
def lq.canon (x:lq):lq:={ x with elems:=x.elems.canon }
def Row.yg {α β:Type} (f : α->β) (r:Row α):Row β:=⟨r.l.map f,r.c,by rw [List.length_map]; exact r.ok,r.sn,λh=>by rw [r.nl h]; rfl⟩
def bY.canon (p:bY):bY:={ p with elems:=p.elems.canon,kB:=p.kB.canon,signals:=p.signals.canon,lines:=(p.lines.yg lq.canon).canon }
theorem Row.Td {α:Type} {r s:Row α} (h1:r.l=s.l) (h2:r.c=s.c):r=s:=by
 cases r<;>simp_all
theorem DC (c:oW):CF (CF c)=CF c:=by cases c<;>rfl
theorem Row.xN {α:Type} (r:Row α):r.canon.canon=r.canon:=Row.Td rfl (DC _)
theorem lq.xN (x:lq):x.canon.canon=x.canon:=by
 grind [lq.canon,Row.xN]
theorem bY.xN (p:bY):p.canon.canon=p.canon:=by
 simp_all [lq.canon,canon,Row.Td,Row.canon,Row.yg,DC,bY.canon,Row.xN]
def w8 {α:Type} (r s:Row α):Prop:=r.l=s.l/\(r.c=.nil↔s.c=.nil)
def ui (x y:lq):Prop:=x.name=y.name/\w8 x.elems y.elems
def wH (m:List (Int×Int×Int)) (p:bY):Prop:=(∀ e y,look e m=some y->∃ (i:Nat) (h:i<p.lines.l.length),y.1=(i:Int)/\e∈(p.lines.l[i]).elems.l)/\∀ (i:Nat) (h:i<p.lines.l.length),∀ e∈(p.lines.l[i]).elems.l,∃ q,look e m=some ((i:Int),q)
structure qo (n:kb) (p:bY):Prop where
 kH:n.p=p.canon
 Zl:n.p.elems.l.length<=40
 elems:n.p.elems.l=p.elems.l
 signals:n.p.signals.l=p.signals.l
 Dm:mU n.p
 rg:∀ y∈univ n,pN y.elem
 x:Oe p
 Si:wH n.line p
 next:∀ x,look x n.next=np p.kB.l x
 reads:∀ x,look x n.reads=pZ p.signals.l x
 len:n.next.length<=240
 sigs:y7 p.signals.l
 Ur:∀ s∈p.signals.l,0<=s.at_.elem/\s.at_.elem<(p.elems.l.length:Int)/\0<=s.at_.en
def Ov {q p:bY} {next:List (j7×j7)} {reads:List (j7×Int)} {line:List (Int×Int×Int)} {lead:List (Int×Int)} {k m:Nat}
  (hq:q.elems.l=p.elems.l/\q.kB.l=p.kB.l/\q.signals.l=p.signals.l/\q.lines.l.length=p.lines.l.length/\(∀ x∈q.lines.l,x.elems.l.length<=60)/\q=p.canon) (h1:mU p)
  (hc:Am p.kB.l/\y7 p.signals.l/\(∀ s∈p.signals.l,0<=s.at_.elem/\s.at_.elem<(p.elems.l.length:Int)/\0<=s.at_.en)/\p.elems.l.length<=40/\p.signals.l.length<=24/\p.kB.l.length<=80/\Oe p)
  (hD:∀ x,look x next=np (p.kB.l.take k) x) (hR:∀ x,look x reads=pZ (p.signals.l.take m) x) (hN:next.length<=2*k) (hG:∀ y∈next,pN y.2.elem) (hk:p.kB.l.length<=k/\k<=p.kB.l.length) (hm:p.signals.l.length<=m) (hL:wH line p):qo ⟨q,next,reads,line,lead⟩ p:=by
 obtain ⟨e1,e2,e3,e4,e5,e6⟩:=hq
 obtain ⟨f1,f2,f3,f4,f5,f6,f7⟩:=h1
 have e7:∀ x∈q.lines.l,∀ z∈x.elems.l,oM z:=by
  subst e6
  intro x hx
  simp only [bY.canon,Row.canon,Row.yg,List.mem_map] at hx
  obtain ⟨y,hy,rfl⟩:=hx
  exact f7 y hy
 refine ⟨e6,by grind,e1,e3,⟨by grind,by grind,by grind,by grind,e5,by rw [e2]; exact f6,e7⟩,?_,hc.2.2.2.2.2.2,hL,?_,?_,by grind,hc.2.1,hc.2.2.1⟩
 ·intro y hy
  rcases List.mem_cons.mp hy with rfl | hy
  ·exact ⟨by decide,by decide⟩
  ·obtain ⟨z,hz,rfl⟩:=List.mem_map.mp hy
   exact hG z hz
 ·grind
 ·intro x; show look x reads = _; rw [hR,List.take_of_length_le hm]
def ug.QP {d:dO} (h:ug d):∀ r∈d.runs.l,0<=r.ko/\r.ko<(d.ko.l.length:Int):=λr hr=>(h.2 r hr).2
def pT (r:kq):Prop:=(∀ s∈r.steps.l,pN s.elem)/\r.mf.l.length<=12/\(∀ x∈r.mf.l,pN x)/\r.guards.l.length<=1000/\r.holds.l.length<=1000
def A6 {r:kq} {l l2:List kL} (h:r.steps.l=l2) (h2:l2=l) (hS:∀ s∈l,pN s.elem) (hz:r.guards.l=[]/\r.mf.l=[]/\r.holds.l=[]):pT r:=by
 obtain ⟨z1,z2,z3⟩:=hz
 refine ⟨by rw [h,h2]; exact hS,?_,?_,?_,?_⟩<;>simp [z1,z2,z3]
def MP {r a:kq} (h:r.steps.l=a.steps.l) (hg:pT a) (hz:r.mf.l.length<=12/\(∀ x∈r.mf.l,pN x)/\r.guards.l.length<=1000/\r.holds.l.length<=1000):pT r :=
 ⟨by rw [h]; exact hg.1,hz.1,hz.2.1,hz.2.2.1,hz.2.2.2⟩
def SL {l:List kL} {k:Nat} {x x2:kL} (h:∀ s∈l,pN s.elem) {hk:k<l.length} (hq:l[k]=x) (he:x2.elem=x.elem):∀ s∈l.set k x2,pN s.elem:=by
 intro s hs
 rcases List.mem_or_eq_of_mem_set hs with hs | rfl
 ·exact h s hs
 ·rw [he,<- hq]; exact h _ (List.getElem_mem _)
end Go.Sx
namespace Go.Sx
open Go
inductive Ty where
 | int | bool | str
 | slice (e:Ty)
 | struct (fs:List Ty)
mutual
def Ty.size:Ty->Nat
 | .struct fs=>Ty.wA fs
 | _=>1
def Ty.wA:List Ty->Nat
 | []=>0
 | t::ts=>t.size+Ty.wA ts
end
mutual
def vS (P:Program):Ty->TypeId->Bool
 | .int,t=>match P.underlying t with
   | some (.int .i64)=>true
   | _=>false
 | .bool,t=>match P.underlying t with
   | some .bool=>true
   | _=>false
 | .str,t=>match P.underlying t with
   | some .string=>true
   | _=>false
 | .slice e,t=>match P.underlying t with
   | some (.slice te)=>vS P e te&&Nat.beq (P.cellsOf te) e.size&&Nat.blt 0 e.size
   | _=>false
 | .struct fs,t=>match P.underlying t with
   | some (.struct fds)=>En P fs fds.toList 0&&Nat.beq (P.cellsOf t) (Ty.wA fs)
   | _=>false
def En (P:Program):List Ty->List Field->Nat->Bool
 | [],[],_=>true
 | t::ts,f::fs,o=>vS P t f.type&&Nat.beq f.offset o&&Nat.beq (P.cellsOf f.type) t.size&&En P ts fs (o+t.size)
 | _,_,_=>false
end
mutual
def Fit:Ty->List AV->Prop
 | .int,cs=>∃ n,cs=[.int .i64 n]/\oM n
 | .bool,cs=>∃ b,cs=[.bool b]
 | .str,cs=>∃ s,cs=[.str s]/\s.length<=s9
 | .slice e,cs=>∃ xs c,cs=[.sl xs c]/\(∀ x∈xs,Fit e x)/\xs.length<=s9/\rp c=false/\(c=.nil->xs=[])
 | .struct fs,cs=>sN fs cs
def sN:List Ty->List AV->Prop
 | [],cs=>cs=[]
 | t::ts,cs=>∃ a b,cs=a++b/\Fit t a/\sN ts b
end
def Ao {α β:Type} {f : α->Option β}:∀ {l:List α} {r:List β},l.mapM f=some r->r.length=l.length/\∀ i (h:i<l.length),∃ y,f l[i]=some y/\r[i]?=some y
 | [],r,h=>by
   grind
 | a::l,r,h=>by
   rw [List.mapM_cons] at h
   cases ha:f a with
   | none=>rw [ha] at h; cases h
   | some y =>
     rw [ha] at h
     cases hl:l.mapM f with
     | none=>rw [hl] at h; cases h
     | some r' =>
       rw [hl] at h
       have:r=y::r':=(Option.some.inj h).symm
       subst this
       obtain ⟨h1,h2⟩:=Ao hl
       refine ⟨by simp [h1],λi hi=>?_⟩
       cases i with
       | zero=>exact ⟨y,ha,rfl⟩
       | succ i=>exact h2 i (by simpa using hi)
def A1 {α:Type} {p:Nat->α->Prop}:∀ (n:Nat),(∀ i,i<n->∃ x,p i x)->∃ l:List α,l.length=n/\∀ i x,l[i]?=some x->p i x
 | 0,_=>⟨[],rfl,λi x h=>by simp at h⟩
 | n+1,h=>by
   obtain ⟨l,hl,hp⟩:=A1 n λi hi=>h i (by omega)
   obtain ⟨x,hx⟩:=h n (by omega)
   refine ⟨l++[x],by simp [hl],λi y hy=>?_⟩
   grind
theorem OQ {w:World} {a:Addr} {n:Nat} {cs:List Value} (h:w.cells? 0 a n=some cs):cs.length=n/\∀ j,j<n->∃ v,w.cell? (a.add j)=some v/\cs[j]?=some v:=by
 unfold World.cells? at h
 rw [if_pos (Nat.zero_le _)] at h
 obtain ⟨h1,h2⟩:=Ao h
 grind
def GP {w:World} {a:Addr} {v:Value} (h:w.cell? a=some v):a.spot=none/\∃ c e fr,w.heap[a.block]?=some (.cells c e fr)/\c[a.off]?=some v:=by
 unfold World.cell? at h
 split at h<;>simp_all
section
variable {H:Type} {enc:TypeId×Value->H} {P:Program} {w:World} {spare:Nat->Bool} {held:Bool}
abbrev TW (w:World):Bool->Nat->Prop:=λ_ B=>B<w.heap.size
def Reads (w:World) (ty:Ty) (cs:List Value):Prop:=∃ xs:List AV,xs.length=cs.length/\cs.length=ty.size/\Fit ty xs/\(∀ (i:Nat) (x:AV) (v:Value),xs[i]?=some x->cs[i]?=some v->PR w (TW w) false x v/\v.oneCell'=true)
theorem KU (a:Addr) (i j:Nat) (h:a.spot=none):(a.add i).add j=⟨a.block,a.off+i+j,none⟩:=by
 obtain ⟨b,o,s⟩:=a
 grind [Addr.add]
def s6 {ty:Ty} (hs:ty.size=1) {x:AV} {v:Value} (hf:Fit ty [x]) (hp:PR w (TW w) false x v) (h1:v.oneCell'=true):Reads w ty [v]:=by
 refine ⟨[x],rfl,by simp [hs],hf,?_⟩
 grind
def zW {fuel:Nat} (ih:∀ (ty:Ty) (t:TypeId) (cs:List Value) (r:DataW H×List MemPlace),vS P ty t=true->DataW.trod enc P w 0 spare held fuel t cs=some r->Reads w ty cs) (cs:List Value) :
  ∀ (tys:List Ty) (fds:List Field) (o:Nat),En P tys fds o=true->o+Ty.wA tys=cs.length->(∀ f∈fds,∃ r,DataW.trod enc P w 0 spare held fuel f.type ((cs.drop f.offset).take (P.cellsOf f.type))=some r) ->
    ∃ xs:List AV,xs.length=Ty.wA tys/\sN tys xs/\(∀ (i:Nat) (x:AV) (v:Value),xs[i]?=some x->cs[o+i]?=some v->PR w (TW w) false x v/\v.oneCell'=true)
 | [],fds,o,hf,hl,hr=>⟨[],rfl,rfl,λi x v h=>by simp at h⟩
 | t::ts,[],o,hf,hl,hr=>by simp [En] at hf
 | t::ts,f::fds,o,hf,hl,hr=>by
   simp only [En,Bool.and_eq_true] at hf
   obtain ⟨⟨⟨h1,h2⟩,h3⟩,h4⟩:=hf
   have h2:=Nat.eq_of_beq_eq_true h2
   have h3:=Nat.eq_of_beq_eq_true h3
   simp only [Ty.wA] at hl
   obtain ⟨r,hr1⟩:=hr f List.mem_cons_self
   obtain ⟨xs,e1,e2,e3,e4⟩:=ih t f.type _ r h1 hr1
   obtain ⟨ys,g1,g2,g3⟩:=zW ih cs ts fds (o+t.size) h4 (by omega) (λf hf=>hr f (List.mem_cons_of_mem _ hf))
   have hx:xs.length=t.size:=by omega
   refine ⟨xs++ys,by grind [Ty.wA],⟨xs,ys,rfl,e3,g2⟩,?_⟩
   grind
def B8:∀ (fuel:Nat) (ty:Ty) (t:TypeId) (cs:List Value) (r:DataW H×List MemPlace),vS P ty t=true->DataW.trod enc P w 0 spare held fuel t cs=some r->Reads w ty cs:=by
 intro fuel
 induction fuel with
 | zero=>intro ty t cs r _ h; simp [DataW.trod] at h
 | succ fuel ih =>
   intro ty t cs r ht h
   cases ty with
   | int =>
     simp only [vS] at ht
     split at ht
     ·rename_i hU
      rcases cs with _ | ⟨v,_ | ⟨v2,rest⟩⟩
      ·simp [DataW.trod,hU] at h
      ·cases v<;>simp [DataW.trod,hU] at h
       rename_i k n
       obtain ⟨⟨rfl,hwf⟩,_⟩:=h
       simp only [Lit.wf,Bool.and_eq_true,decide_eq_true_eq] at hwf
       exact s6 rfl ⟨n,rfl,hwf⟩ (.int _ _ n) rfl
      ·simp [DataW.trod,hU] at h
     grind
   | bool =>
     simp only [vS] at ht
     split at ht
     ·rename_i hU
      rcases cs with _ | ⟨v,_ | ⟨v2,rest⟩⟩
      ·simp [DataW.trod,hU] at h
      ·cases v<;>simp [DataW.trod,hU] at h
       rename_i b
       exact s6 rfl ⟨b,rfl⟩ (.bool _ b) rfl
      ·simp [DataW.trod,hU] at h
     grind
   | str =>
     simp only [vS] at ht
     split at ht
     ·rename_i hU
      rcases cs with _ | ⟨v,_ | ⟨v2,rest⟩⟩
      ·simp [DataW.trod,hU] at h
      ·cases v<;>simp [DataW.trod,hU] at h
       rename_i s
       refine s6 rfl ⟨s.data.toList,rfl,?_⟩ (.str _ _ s rfl) rfl
       simp_all [maxLen]
      ·simp [DataW.trod,hU] at h
     grind
   | slice e =>
     simp only [vS] at ht
     split at ht
     ·rename_i te hU
      simp only [Bool.and_eq_true] at ht
      obtain ⟨⟨ht,hsz⟩,hpos⟩:=ht
      have hsz:=Nat.eq_of_beq_eq_true hsz
      have hpos:0<e.size:=Nat.ble_eq.mp hpos
      rcases cs with _ | ⟨v,_ | ⟨v2,rest⟩⟩
      ·simp [DataW.trod,hU] at h
      ·cases v<;>try (simp [DataW.trod,hU] at h; done)
       rename_i a len cap
       cases a with
       | none =>
         cases len<;>cases cap<;>try (simp [DataW.trod,hU] at h; done)
         exact s6 rfl ⟨[],.nil,rfl,by simp,by simp,rfl,λ_=>rfl⟩ (.slnil _) rfl
       | some a =>
         simp only [DataW.trod,hU] at h
         split at h
         ·rename_i hc
          obtain ⟨_,hlc,hcm⟩:=hc
          have hcb:cap<=s9:=by
           grind [maxLen]
          cases hm:(List.range len).mapM (λi=>(w.cells? 0 (a.add (i*P.cellsOf te)) (P.cellsOf te)).bind (DataW.trod enc P w 0 spare held fuel te)) with
          | none=>grind
          | some elems =>
            obtain ⟨_,hel⟩:=Ao hm
            have hat:∀ i,i<len->∃ (xs:List AV) (vs:List Value),xs.length=e.size/\vs.length=e.size/\Fit e xs/\(∀ (j:Nat) (x:AV) (v:Value),xs[j]?=some x->vs[j]?=some v->PR w (TW w) false x v/\v.oneCell'=true) /\
              ∀ j,j<e.size->∃ v,w.cell? ((a.add (i*e.size)).add j)=some v/\vs[j]?=some v:=by
             intro i hi
             obtain ⟨y,hy,_⟩:=hel i (by grind)
             simp only [List.getElem_range] at hy
             cases hcs:w.cells? 0 (a.add (i*P.cellsOf te)) (P.cellsOf te) with
             | none=>grind
             | some vs =>
               rw [hcs] at hy
               obtain ⟨xs,e1,e2,e3,e4⟩:=ih e te vs y ht hy
               grind [OQ]
            cases len with
            | zero=>exact s6 rfl ⟨[],.oh,rfl,by simp,by simp,rfl,λh=>by cases h⟩ (.po _ .oh a cap (λh=>by cases h) (Nat.zero_le _)) rfl
            | succ OG =>
              obtain ⟨xs0,vs0,_,_,_,_,hv0⟩:=hat 0 (by omega)
              obtain ⟨v00,hv00,_⟩:=hv0 0 hpos
              obtain ⟨hsp,c,et,fr,hB,_⟩:=GP hv00
              have hspot:a.spot=none:=by
               grind [Addr.add]
              have hB:w.heap[a.block]?=some (.cells c et fr):=by
               grind [Addr.add]
              obtain ⟨rows,hrl,hrp⟩:=A1 (p:=λi xs=>xs.length=e.size/\Fit e xs/\∀ (j:Nat) (x:AV),xs[j]?=some x->∃ v,c[a.off+i*e.size+j]?=some v/\PR w (TW w) false x v/\v.oneCell'=true) (OG+1) (by
               intro i hi
               obtain ⟨xs,vs,q1,q2,q3,q4,q5⟩:=hat i hi
               refine ⟨xs,q1,q3,λj x hx=>?_⟩
               have hj:j<e.size:=by grind
               obtain ⟨v,hv,hvj⟩:=q5 j hj
               obtain ⟨_,c',et',fr',hB',hcv⟩:=GP hv
               grind [KU])
              have hpr:PR w (TW w) false (.sl rows .oh) (.slice (some ⟨a.block,a.off,none⟩) rows.length cap):=by
               refine .sl false rows .oh a.block a.off c et fr cap e.size (λi j=>(c[a.off+i*e.size+j]?).getD .nilFunc) (λh=>by cases h) hB ?_ (by rw [hrl]; exact hlc) (by omega) ?_ ?_ ?_ ?_
               ·grind
               ·grind
               ·grind
               ·grind
               ·intro i cs' j x hcs' hx
                obtain ⟨v,hv,hp,_⟩:=(hrp i cs' hcs').2.2 j x hx
                rw [hv]; exact hp
              rw [hrl] at hpr
              have ha:a=⟨a.block,a.off,none⟩:=by obtain ⟨b,o,s⟩:=a; grind
              rw [<- ha] at hpr
              refine s6 rfl ⟨rows,.oh,rfl,?_,by omega,rfl,λh=>by cases h⟩ hpr rfl
              intro x hx
              obtain ⟨i,hi⟩:=List.getElem?_of_mem hx
              grind
         ·cases h
      ·simp [DataW.trod,hU] at h
     grind
   | struct fs =>
     simp only [vS] at ht
     split at ht
     ·rename_i fds hU
      simp only [Bool.and_eq_true] at ht
      obtain ⟨hfs,hsz⟩:=ht
      have hsz:=Nat.eq_of_beq_eq_true hsz
      have hcs:cs.length=Ty.wA fs/\∀ f∈fds.toList,∃ r,DataW.trod enc P w 0 spare held fuel f.type ((cs.drop f.offset).take (P.cellsOf f.type))=some r:=by
       have key:(if cs.length=P.cellsOf t then (fds.toList.mapM λf=>DataW.trod enc P w 0 spare held fuel f.type ((cs.drop f.offset).take (P.cellsOf f.type))).map λxs=>(DataW.agg (xs.map (·.1)),xs.flatMap (·.2)) else none)=some r:=by
        rw [<- h]
        conv=>rhs; unfold DataW.trod
        rw [hU]
       split at key
       ·rename_i hl
        refine ⟨by omega,λf hf=>?_⟩
        cases hm:fds.toList.mapM λf=>DataW.trod enc P w 0 spare held fuel f.type ((cs.drop f.offset).take (P.cellsOf f.type)) with
        | none=>grind
        | some l =>
          obtain ⟨_,h2⟩:=Ao hm
          obtain ⟨i,hi,rfl⟩:=List.mem_iff_getElem.mp hf
          grind
       grind
      obtain ⟨xs,x1,x2,x3⟩:=zW ih cs fs fds.toList 0 hfs (by omega) hcs.2
      refine ⟨xs,by omega,hcs.1,x2,?_⟩
      grind
     grind
end
end Go.Sx
namespace Go.Sx
open Go
def Aj:Ty:=.struct [.int,.int]
def J1:Ty:=.struct [.str,.int,.int]
def Jf:Ty:=.struct [Aj,Aj]
def N9:Ty:=.struct [.str,Aj,.bool]
def IC:Ty:=.struct [.str,.slice .int]
def D2:Ty:=.struct [.slice J1,.slice Jf,.slice N9,.slice IC,.int,.int,.int,.int,.bool]
def Fw:Ty:=.struct [.str,.int,.int,.int,.int]
def Oa:Ty:=.struct [.bool,.int,.int,.int]
def MK:Ty:=.struct [.str,.int,.int,.int,.slice Oa]
def DT:Ty:=.struct [.int,.slice Fw,.slice MK]
def ye {α:Type} {enc : α->List AV} {Q : α->Prop} {e:Ty} (he:∀ xs,Fit e xs->∃ x : α,xs=enc x/\Q x) {cs:List AV} (h:Fit (.slice e) cs):∃ r:Row α,cs=[r.av enc]/\∀ x∈r.l,Q x:=by
 simp only [Fit] at h
 obtain ⟨xs,c,rfl,h1,h2,h3,h4⟩:=h
 have:∀ xs:List (List AV),(∀ x∈xs,Fit e x)->∃ l:List α,xs=l.map enc/\∀ x∈l,Q x:=by
  intro xs
  induction xs with
  | nil=>exact λ_=>⟨[],rfl,by simp⟩
  | cons a xs ih =>
    intro h
    obtain ⟨y,hy,hq⟩:=he a (h a List.mem_cons_self)
    obtain ⟨l,hl,hl2⟩:=ih λx hx=>h x (List.mem_cons_of_mem _ hx)
    exact ⟨y::l,by grind,by simp_all⟩
 obtain ⟨l,rfl,hQ⟩:=this xs h1
 exact ⟨⟨l,c,by grind,h3,λhc=>by grind⟩,rfl,hQ⟩
def xE {α:Type} {enc : α->List AV} {e:Ty} (he:∀ xs,Fit e xs->∃ x : α,xs=enc x) {cs:List AV} (h:Fit (.slice e) cs):∃ r:Row α,cs=[r.av enc]:=by
 obtain ⟨r,hr,_⟩:=ye (Q:=λ_=>True) (λxs hx=>(he xs hx).imp λ_ h=>⟨h,trivial⟩) h
 exact ⟨r,hr⟩
def xF {cs:List AV} (h:Fit .int cs):∃ n:Int,cs=kX n:=by unfold Fit at h; exact h.imp λ_ h=>h.1
def O7 {cs:List AV} (h:Fit .int cs):∃ n:Int,cs=kX n/\oM n:=by unfold Fit at h; exact h
def zw {cs:List AV} (h:Fit Aj cs):∃ x:j7,cs=x.af/\oM x.elem:=by
 simp only [Aj,Fit,sN] at h
 obtain ⟨_,_,rfl,⟨a,rfl,ha⟩,_,_,rfl,⟨b,rfl,hb⟩,rfl⟩:=h
 exact ⟨⟨a,b⟩,rfl,ha⟩
def OL {cs:List AV} (h:Fit Aj cs):∃ x:j7,cs=x.af:=(zw h).imp λ_ h=>h.1
def Nm {cs:List AV} (h:Fit J1 cs):∃ x:my,cs=x.af:=by
 simp only [J1,Fit,sN] at h
 obtain ⟨_,_,rfl,⟨s,rfl,hs⟩,_,_,rfl,⟨a,rfl,_⟩,_,_,rfl,⟨b,rfl,_⟩,rfl⟩:=h
 exact ⟨⟨⟨s,hs⟩,a,b⟩,rfl⟩
def Oo {cs:List AV} (h:Fit Jf cs):∃ x:mr,cs=x.af/\oM x.a.elem/\oM x.b.elem:=by
 simp only [Jf,sN] at h
 unfold Fit at h
 simp only [sN] at h
 obtain ⟨_,_,rfl,h1,_,_,rfl,h2,rfl⟩:=h
 obtain ⟨x,rfl,hx⟩:=zw h1
 obtain ⟨y,rfl,hy⟩:=zw h2
 exact ⟨⟨x,y⟩,rfl,hx,hy⟩
def Rw {cs:List AV} (h:Fit N9 cs):∃ x:lY,cs=x.af:=by
 simp only [N9,Fit,sN] at h
 obtain ⟨_,_,rfl,⟨s,rfl,hs⟩,_,_,rfl,h2,_,_,rfl,⟨b,rfl⟩,rfl⟩:=h
 obtain ⟨y,rfl⟩:=OL h2
 exact ⟨⟨⟨s,hs⟩,y,b⟩,rfl⟩
def Nd {cs:List AV} (h:Fit IC cs):∃ x:lq,cs=x.af/\∀ z∈x.elems.l,oM z:=by
 simp only [IC,sN] at h
 unfold Fit at h
 simp only [sN] at h
 obtain ⟨_,_,rfl,h1,_,_,rfl,h2,rfl⟩:=h
 simp only [Fit] at h1
 obtain ⟨s,rfl,hs⟩:=h1
 obtain ⟨r,rfl,hr⟩:=ye (λ_=>O7) h2
 exact ⟨⟨⟨s,hs⟩,r⟩,rfl,hr⟩
def Me {cs:List AV} (h:Fit Fw cs):∃ x:kR,cs=x.af:=by
 simp only [Fw,Fit,sN] at h
 obtain ⟨_,_,rfl,⟨s,rfl,hs⟩,_,_,rfl,⟨a,rfl,_⟩,_,_,rfl,⟨b,rfl,_⟩,_,_,rfl,⟨c,rfl,_⟩,_,_,rfl,⟨d,rfl,_⟩,rfl⟩:=h
 exact ⟨⟨⟨s,hs⟩,a,b,c,d⟩,rfl⟩
def RH {cs:List AV} (h:Fit Oa cs):∃ x:lD,cs=x.af:=by
 simp only [Oa,Fit,sN] at h
 obtain ⟨_,_,rfl,⟨t,rfl⟩,_,_,rfl,⟨a,rfl,_⟩,_,_,rfl,⟨b,rfl,_⟩,_,_,rfl,⟨c,rfl,_⟩,rfl⟩:=h
 exact ⟨⟨t,a,b,c⟩,rfl⟩
def RA {cs:List AV} (h:Fit MK cs):∃ x:kS,cs=x.af:=by
 unfold MK Fit at h
 simp only [sN] at h
 obtain ⟨_,_,rfl,h1,_,_,rfl,h2,_,_,rfl,h3,_,_,rfl,h4,_,_,rfl,h5,rfl⟩:=h
 simp only [Fit] at h1 h2 h3 h4
 obtain ⟨s,rfl,hs⟩:=h1
 obtain ⟨a,rfl,_⟩:=h2
 obtain ⟨b,rfl,_⟩:=h3
 obtain ⟨c,rfl,_⟩:=h4
 obtain ⟨r,rfl⟩:=xE (λ_=>RH) h5
 exact ⟨⟨⟨s,hs⟩,a,b,c,r⟩,rfl⟩
def Nf {cs:List AV} (h:Fit DT cs):∃ x:dO,cs=x.af:=by
 unfold DT Fit at h
 simp only [sN] at h
 obtain ⟨_,_,rfl,h1,_,_,rfl,h2,_,_,rfl,h3,rfl⟩:=h
 obtain ⟨a,rfl⟩:=xF h1
 obtain ⟨r,rfl⟩:=xE (λ_=>Me) h2
 obtain ⟨s,rfl⟩:=xE (λ_=>RA) h3
 exact ⟨⟨a,r,s⟩,rfl⟩
def Oq {cs:List AV} (h:Fit D2 cs):∃ x:bY,cs=x.af/\JG x:=by
 unfold D2 Fit at h
 simp only [sN] at h
 obtain ⟨_,_,rfl,h1,_,_,rfl,h2,_,_,rfl,h3,_,_,rfl,h4,_,_,rfl,h5,_,_,rfl,h6,_,_,rfl,h7,_,_,rfl,h8,_,_,rfl,h9,rfl⟩:=h
 obtain ⟨r1,rfl⟩:=xE (λ_=>Nm) h1
 obtain ⟨r2,rfl,hj⟩:=ye (λ_=>Oo) h2
 obtain ⟨r3,rfl⟩:=xE (λ_=>Rw) h3
 obtain ⟨r4,rfl,hl⟩:=ye (λ_=>Nd) h4
 obtain ⟨a,rfl⟩:=xF h5
 obtain ⟨b,rfl⟩:=xF h6
 obtain ⟨c,rfl⟩:=xF h7
 obtain ⟨d,rfl⟩:=xF h8
 simp only [Fit] at h9
 obtain ⟨t,rfl⟩:=h9
 exact ⟨⟨r1,r2,r3,r4,a,b,c,d,t⟩,rfl,hj,hl⟩
section
variable {w:World}
def Dk {ty:Ty} {v:Value} (h:Reads w ty v.cells.toList) (h2:2<=ty.size):∃ xs,Fit ty xs/\PR w (TW w) false (.agg xs) v:=by
 obtain ⟨xs,h1,hs,hf,hp⟩:=h
 have hsz:2<=v.cells.size:=by
  grind
 cases v with
 | agg cs =>
   refine ⟨xs,hf,.agg false xs cs (by grind [Value.cells]) ?_ ?_⟩
   ·intro i y hy
    have hi:i<xs.length:=by
     grind [Value.cells]
    exact (hp i xs[i] y (by simp [hi]) (by grind [Value.cells])).2
   grind [Value.cells]
 | _=>simp [Value.cells] at hsz
end
end Go.Sx
namespace Go.Sx
open Go Go.Proofs Go.RowKit Go.Maps Go.WideElems Go.WideShapes
def A3 (x:Int):List Int->List Int
 | []=>[x]
 | y::l=>if x<=y then x::y::l else y::A3 x l
def mv:List Int->List Int
 | []=>[]
 | x::l=>A3 x (mv l)
def HG:AV->Option Int
 | .int .i64 n=>if -9223372036854775808<=n/\n<=9223372036854775807 then some n else none
 | _=>none
def tY:List (AV×AV)->Option (List Int)
 | []=>some []
 | p::l=>match HG p.1 with
   | some n=>match tY l with
     | some ks=>some (n::ks)
     | none=>none
   | none=>none
def yD:List Int->Bool
 | []=>true
 | x::l=>!(l.contains x)&&yD l
def OU:List Int->AV
 | []=>.sl [] .nil
 | l=>.sl (l.map λn=>[.int .i64 n]) .oh
def ua (shd:Bool) (l:List Int) (h:bV):AV×bV:=match shd,l with
 | true,x::l=>(.hs h.size 0 0 (l.length+1),h.push (.lM 0 1 ((x::l).map λn=>[.int .i64 n])))
 | _,l=>(OU l,h)
def ry (shd:Bool) (ks:Option (List Int)) (h:bV):R2:=match ks with
 | some ks=>match yD ks&&Nat.ble ks.length 1000000 with
   | true=>some (ua shd (mv ks) h)
   | false=>none
 | none=>none
def D3 (p:AV×AV×Nat):AV×AV:=(p.1,p.2.1)
def px (shd:Bool) (args:List AV) (h:bV):R2:=match args with
 | [.mC]=>some (.sl [] .nil,h)
 | [.fm es _]=>ry shd (tY es) h
 | [.hm b]=>match h.get b with
   | some (.map es _)=>ry shd (tY (es.map D3)) h
   | _=>none
 | _=>none
def zF (x:Int):∀ l,(A3 x l).Perm (x::l)
 | []=>.refl _
 | y::l=>by
   unfold A3
   split
   ·exact .refl _
   ·exact ((zF x l).cons y).trans (.swap x y l)
theorem qz:∀ l,(mv l).Perm l
 | []=>.refl _
 | x::l=>(zF x _).trans ((qz l).cons x)
def AT (x:Int):∀ {l:List Int},l.Pairwise (·<=·)->(A3 x l).Pairwise (·<=·)
 | [],_=>by simp [A3]
 | y::l,h=>by
   unfold A3
   rw [List.pairwise_cons] at h
   split
   ·rename_i hxy
    refine List.pairwise_cons.2 ⟨λz hz=>?_,List.pairwise_cons.2 h⟩
    rcases List.mem_cons.1 hz with rfl | hz
    ·exact hxy
    ·exact Int.le_trans hxy (h.1 z hz)
   ·refine List.pairwise_cons.2 ⟨λz hz=>?_,AT x h.2⟩
    rcases List.mem_cons.1 ((zF x l).mem_iff.1 hz) with rfl | hz
    ·omega
    ·exact h.1 z hz
def uL:∀ l,(mv l).Pairwise (·<=·)
 | []=>.nil
 | x::l=>AT x (uL l)
theorem K7 {l l':List Int} (h:l.Perm l'):l.mergeSort leI=mv l':=by
 rw [mergeSort_of_perm_i (h.trans (qz l').symm)]
 exact List.mergeSort_of_pairwise ((uL l').imp (by simp [leI]))
def KN {v:AV} {n:Int} (h:HG v=some n):v=.int .i64 n/\-9223372036854775808<=n/\n<=9223372036854775807:=by
 unfold HG at h
 grind
def BZ:∀ {es:List (AV×AV)} {ks:List Int},tY es=some ks->es.map (·.1)=ks.map (AV.int .i64)/\∀ n∈ks,-9223372036854775808<=n/\n<=9223372036854775807
 | [],ks,h=>by simp only [tY,Option.some.injEq] at h; subst h; simp
 | p::l,ks,h=>by
   unfold tY at h
   split at h
   ·rename_i n hn
    split at h
    ·rename_i ks' hk
     obtain ⟨e1,h1⟩:=KN hn
     obtain ⟨e2,h2⟩:=BZ hk
     simp only [Option.some.injEq] at h
     subst h
     refine ⟨by simp [e1,e2],λm hm=>?_⟩
     rcases List.mem_cons.1 hm with rfl | hm
     ·exact h1
     ·exact h2 m hm
    ·cases h
   ·cases h
def B6:∀ {l:List Int},yD l=true->l.Nodup
 | [],_=>.nil
 | x::l,h=>by
   simp only [yD,Bool.and_eq_true,Bool.not_eq_true',List.contains_eq_mem,decide_eq_false_iff_not] at h
   exact List.nodup_cons.2 ⟨h.1,B6 h.2⟩
def Fq {G:Ga} (hW:WR G) {w':World} (hb:Below G.w.heap.size G.w w') (Tn:Bool->Nat->Prop) (hT:∀ s B,Tn s B->G.w.heap.size<=B/\B<w'.heap.size) :
  let G':Ga:=⟨w',λs B=>G.T s B\/Tn s B,G.h,G.pi,G.L⟩
  Step G G'/\WR G':=by
 intro G'
 have hold:∀ B,B<G.w.heap.size->G'.w.heap[B]?=G.w.heap[B]?:=hb.block
 have E:Ext G G':=⟨λ_ _ h=>.inl h,λs B h=>hold B (hW.pb s B h),Nat.le_refl _,λb _ g z xs h=>⟨g,z,xs,h,Nat.le_refl _,λ_=>⟨rfl,λ_ h=>h⟩⟩,λb _ es c h=>⟨es,c,h,λ_ h=>h⟩,λ_ _ h=>h⟩
 obtain ⟨k1,k2,k3⟩:=hW.mj E hold
 have hs:=hb.size
 refine ⟨⟨E,hb.os,hb.output,hb.tape,hb.size,λB h _ _=>hold B h,λb l h=>.inl ⟨l,h,rfl⟩,λb l h=>.inl (by show (G.pi b).isSome=true; rw [show G.pi b=some l from h]; rfl),?_,rfl,λ_ _ _=>rfl,λ_ _ h=>.inl h,λd B h=>.inl (by rw [show G.L d=some B from h]; rfl),λ_ _ _ h=>h⟩,k1,k2,k3,?_,hW.oI,?_,hW.qt,?_,hW.qU,?_,?_,hW.lo,hW.lt⟩
 ·rintro s B (h | h)
  ·exact .inl h
  ·exact .inr (hT s B h).1
 ·exact λb l h=>⟨Nat.lt_of_lt_of_le (hW.mQ b l h).1 hs,(hW.mQ b l h).2⟩
 ·rintro s b l h (ht | ht)
  ·exact hW.sf s b l h ht
  ·have:=(hW.mQ b l h).1; have:=(hT _ _ ht).1; omega
 ·rintro s d B h (ht | ht)
  ·exact hW.LT s d B h ht
  ·have:=(hW.nL d B h).1; have:=(hT _ _ ht).1; omega
 ·exact λd B h=>⟨Nat.lt_of_lt_of_le (hW.nL d B h).1 hs,(hW.nL d B h).2⟩
 ·rintro s B (h | h)
  ·exact Nat.lt_of_lt_of_le (hW.pb s B h) hs
  ·exact (hT s B h).2
section
variable {G:Ga} {w':World}
def Rm (hW:WR G) {g cap z:Nat} {xs:List (List AV)} (hb:Below G.w.heap.size G.w w') (hg:G.w.heap.size<=g) (hlt:g<w'.heap.size)
  (hblk:∀ G',Ext G G'->G'.w=w'->p6 G' ⟨g,0,cap⟩ z xs) :
  Step G ⟨w',G.T,G.h.push (.lM 0 z xs),ou G.pi G.h.size (some ⟨g,0,cap⟩),G.L⟩/\WR ⟨w',G.T,G.h.push (.lM 0 z xs),ou G.pi G.h.size (some ⟨g,0,cap⟩),G.L⟩:=by
 obtain ⟨s1,hV⟩:=DR hW (.lM 0 z xs)
 have hp0:G.pi G.h.size=none:=BI hW (Nat.le_refl _)
 have hget:(G.h.push (.lM 0 z xs)).get G.h.size=some (.lM 0 z xs):=by rw [bV.pH _ _ _ hW.lo,if_pos rfl]
 have hup:∀ b l,G.pi b=some l->ou G.pi G.h.size (some ⟨g,0,cap⟩) b=some l:=by
  grind [oU]
 have hold:∀ B,B<G.w.heap.size->w'.heap[B]?=G.w.heap[B]?:=hb.block
 have hs:=hb.size
 have E:Ext ⟨G.w,G.T,G.h.push (.lM 0 z xs),G.pi,G.L⟩ ⟨w',G.T,G.h.push (.lM 0 z xs),ou G.pi G.h.size (some ⟨g,0,cap⟩),G.L⟩ :=
  ⟨λ_ _ h=>h,λs B hB=>hold B (hW.pb s B hB),Nat.le_refl _,λb _ g z xs h=>⟨g,z,xs,h,Nat.le_refl _,λ_=>⟨rfl,hup b⟩⟩,λb _ es c h=>⟨es,c,h,hup b⟩,λ_ _ h=>h⟩
 obtain ⟨k1,k2,k3⟩:=hV.mj E (λB hB=>hold B hB)
 have hdom:∀ b l,ou G.pi G.h.size (some ⟨g,0,cap⟩) b=some l->(b=G.h.size/\l=⟨g,0,cap⟩)\/(b≠G.h.size/\G.pi b=some l):=by
  grind [nj,oU]
 have hF:uJ ⟨G.w,G.T,G.h.push (.lM 0 z xs),G.pi,G.L⟩ ⟨w',G.T,G.h.push (.lM 0 z xs),ou G.pi G.h.size (some ⟨g,0,cap⟩),G.L⟩ (·=G.h.size) (λ_=>False):=by
  refine ⟨E,hb.os,hb.output,hb.tape,hs,λB hB=>hold B hB,?_,?_,rfl,rfl,λ_ _ h=>.inl h,λ_ _ h=>.inl (Option.isSome_iff_exists.2 ⟨_,h⟩)⟩
  ·grind
  ·grind
 refine ⟨s1.fill hF (by omega) (λ_ h=>h.elim),?_⟩
 have hL:=hblk _ (s1.ext.trans E) rfl
 constructor
 ·intro b l g' z' xs' hp hg'
  rcases hdom b l hp with ⟨rfl,rfl⟩ | ⟨_,hp⟩
  ·rw [hget] at hg'
   cases hg'
   exact hL
  ·exact k1 b l g' z' xs' hp hg'
 ·intro b l es c hp hg'
  rcases hdom b l hp with ⟨rfl,rfl⟩ | ⟨_,hp⟩
  ·rw [hget] at hg'; cases hg'
  ·exact k2 b l es c hp hg'
 ·exact k3
 ·intro b l hp
  rcases hdom b l hp with ⟨rfl,rfl⟩ | ⟨_,hp⟩
  ·exact ⟨hlt,hV.lt _ _ hget⟩
  ·have:=hV.mQ b l hp
   exact ⟨Nat.lt_of_lt_of_le this.1 hs,this.2⟩
 ·intro b b' l l' hp hp' he
  rcases hdom b l hp with ⟨rfl,rfl⟩ | ⟨_,hq⟩
  ·rcases hdom b' l' hp' with ⟨rfl,rfl⟩ | ⟨_,hq'⟩
   ·rfl
   ·have:=(hW.mQ b' l' hq').1
    grind
  ·rcases hdom b' l' hp' with ⟨rfl,rfl⟩ | ⟨_,hq'⟩
   ·have:=(hW.mQ b l hq).1
    grind
   ·exact hW.oI b b' l l' hq hq' he
 ·intro s b l hp hT
  rcases hdom b l hp with ⟨rfl,rfl⟩ | ⟨_,hp⟩
  ·have:=hW.pb s _ hT
   grind
  ·exact hW.sf s b l hp hT
 ·exact hW.qt
 ·exact hW.LT
 ·intro d B b l hd hp
  rcases hdom b l hp with ⟨rfl,rfl⟩ | ⟨_,hp⟩
  ·have:=(hW.nL d B hd).1
   grind
  ·exact hW.qU d B b l hd hp
 ·intro d B hd
  have:=hV.nL d B hd
  exact ⟨Nat.lt_of_lt_of_le this.1 hs,this.2⟩
 ·intro s B hB
  exact Nat.lt_of_lt_of_le (hW.pb s B hB) hs
 ·exact hV.lo
 ·exact hV.lt
end
def AJ {P:Program} {f kt:Nat} (hk:P.underlying kt=some (.int .i64))     (h1:∀ (b nn:Nat) (D0:DataW Unit) (w:World),w.ownsMap P kt (λ_=>some (.nil,[])) b nn D0->Maps.size D0<=maxLen->Maps.size D0*8<=140737488355328->      Calls P f #[.map (some b)] w λe w'=>∃ (v:Value) (ss:List Int),e=.returned v/\ss.Perm (intKeys D0)/\      w'.ownsRow w.heap.size kt 1 v ss.length ((ss.mergeSort leI).map encZ)/\(v=.slice none 0 0↔ss=[])/\Below w.heap.size w w')
  {G:Ga} (hW:WR G) {es:List (AV×AV)} {ks:List Int} (hks:tY es=some ks) (hn:(yD ks&&Nat.ble ks.length 1000000)=true)
  {r:Nat} {ents:Array MapEntry} {clk:Nat} (hB:G.w.heap[r]?=some (.map ents clk)) (hll:es.length=ents.size) (hyo:OD ents clk)
  (hkk:∀ (i:Nat) (p:AV×AV) (e:MapEntry),es[i]?=some p->ents[i]?=some e->∃ m,PR G.w G.T m p.1 e.key)
  (shd:Bool) {R:Ending->World->Prop} (hR:∀ u G',Step G G'->WR G'->G'.h=(ua shd (mv ks) G.h).2->(∀ m L,VR (G'.me m L) (ua shd (mv ks) G.h).1 u)->R (.returned u) G'.w) :
  Calls P f #[.map (some r)] G.w R:=by
 simp only [Bool.and_eq_true,Nat.ble_eq] at hn
 obtain ⟨hn,hlen⟩:=hn
 have hnd:=B6 hn
 obtain ⟨hmap,hrg⟩:=BZ hks
 have hel:es.length=ks.length:=by simpa using congrArg List.length hmap
 have hkey:ents.toList.map (·.key)=ks.map encZ:=by
  apply List.ext_getElem?
  intro i
  simp only [List.getElem?_map,Array.getElem?_toList]
  cases he:ents[i]? with
  | none =>
    have:ks.length<=i:=by rw [<- hel,hll]; exact Array.getElem?_eq_none_iff.1 he
    rw [List.getElem?_eq_none this]; rfl
  | some e =>
    have hi:i<es.length:=by rw [hll]; exact (Array.getElem?_eq_some_iff.1 he).1
    obtain ⟨m,hp⟩:=hkk i es[i] e (by simp [hi]) he
    have hq:(es.map (·.1))[i]?=some es[i].1:=by simp [hi]
    rw [hmap,List.getElem?_map] at hq
    cases hki:ks[i]? with
    | none=>rw [hki] at hq; cases hq
    | some n =>
      rw [hki] at hq
      simp only [Option.map_some,Option.some.injEq] at hq
      rw [<- hq] at hp
      have hx:e.key=.int .i64 n:=by
       generalize e.key=kv at hp
       cases hp; rfl
      simp [hx]
 have hrd:∀ x∈ents.toList,∃ n∈ks,x.key=encZ n/\rd P kt (λ_=>some ((.nil,[]):DataW Unit×List MemPlace)) x=some (.int .i64 n,.nil):=by
  intro x hx
  have:x.key∈ks.map encZ:=hkey▸List.mem_map_of_mem hx
  obtain ⟨n,hn,he⟩:=List.mem_map.1 this
  refine ⟨n,hn,he.symm,?_⟩
  have hw:(Lit.int .i64 n).wf=true:=by
   have:=hrg n hn
   have e1:IntKind.i64.min = -9223372036854775808:=by decide
   have e2:IntKind.i64.max=9223372036854775807:=by decide
   simp only [Lit.wf,e1,e2,Bool.and_eq_true,decide_eq_true_eq]
   exact this
  unfold rd
  rw [<- he,keyOf_int_mk hk hw]; rfl
 have hsz:ents.size=ks.length:=by omega
 have hown:G.w.ownsMap P kt (λ_=>some (.nil,[])) r ents.size (.map ((ents.toList.map (rg P kt (λ_=>some ((.nil,[]):DataW Unit×List MemPlace)))).foldr DataW.insert [])) :=
  ⟨ents,clk,hB,⟨by rw [hsz]; exact Nat.le_trans hlen (by decide),⟨λx hx=>by obtain ⟨i,hi⟩:=List.getElem?_of_mem hx; exact hyo.1 i x (by simpa using hi),hyo.2,by rw [hkey]; exact List.Pairwise.map _ (λa b hab h=>hab (encZ_inj h)) hnd⟩,λx hx=>by obtain ⟨n,_,_,h⟩:=hrd x hx; exact ⟨_,h⟩⟩,Nat.le_refl _,rfl⟩
 have hik:(intKeys (.map ((ents.toList.map (rg P kt (λ_=>some ((.nil,[]):DataW Unit×List MemPlace)))).foldr DataW.insert []))).Perm ks:=by
  refine ((sorted_perm _).map (λp:Lit×DataW Unit=>intOf p.1)).trans ?_
  rw [List.map_map]
  have:ents.toList.map ((λp:Lit×DataW Unit=>intOf p.1) ∘ rg P kt (λ_=>some ((.nil,[]):DataW Unit×List MemPlace)))=(ents.toList.map (·.key)).map (λv=>match v with | .int _ n=>n | _=>0):=by
   rw [List.map_map]
   refine List.map_congr_left λx hx=>?_
   obtain ⟨n,_,e,h⟩:=hrd x hx
   simp only [Function.comp,rg_of h,e,intOf]
  rw [this,hkey,List.map_map]
  exact .of_eq (by simp [Function.comp_def])
 have hs0:Maps.size (.map ((ents.toList.map (rg P kt (λ_=>some ((.nil,[]):DataW Unit×List MemPlace)))).foldr DataW.insert []))=ks.length:=by
  have:=hik.length_eq
  simpa [intKeys,Maps.size] using this
 refine (h1 r _ _ G.w hown (by rw [hs0]; exact Nat.le_trans hlen (by decide)) (by rw [hs0]; omega)).mono ?_
 rintro e w' ⟨v,ss,rfl,hss,hrow,hnil,hb⟩
 rw [K7 (hss.trans hik)] at hrow
 have zf:ss.length=(mv ks).length:=by rw [(hss.trans hik).length_eq,(qz ks).length_eq]
 rcases hrow.2 with ⟨rfl,hz⟩ | ⟨g,cap,cur,rfl,hbase,hgb,r1,r2,r3,r4⟩
 ·obtain ⟨S1,W1⟩:=Fq hW hb (λ_ _=>False) (λ_ _ h=>h.elim)
  have:mv ks=[]:=List.eq_nil_of_length_eq_zero (by omega)
  have hr0:ua shd (mv ks) G.h=(.sl [] .nil,G.h):=by rw [this]; cases shd<;>rfl
  exact hR _ _ S1 W1 (by rw [hr0]) (λm L=>by rw [hr0]; exact VR.me (.lA rfl (.slnil _)) rfl)
 ·have hglt:g<w'.heap.size:=(Array.getElem?_eq_some_iff.1 hgb).1
  have hne:mv ks≠[]:=by
   intro h0
   have:ss=[]:=List.eq_nil_of_length_eq_zero (by rw [zf,h0]; rfl)
   cases hnil.2 this
  have hrw:OU (mv ks)=.sl ((mv ks).map λn=>[.int .i64 n]) .oh:=by
   cases hq:mv ks with
   | nil=>exact (hne hq).elim
   | cons a l=>rfl
  have hcell:∀ (i:Nat) (n:Int),(mv ks)[i]?=some n->cur[i]?=some (.int .i64 n):=by
   intro i n hn
   have hi:i<(mv ks).length:=(List.getElem?_eq_some_iff.1 hn).1
   have h2:(cur.toList.take (ss.length*1))[i]?=((mv ks).map encZ)[i]?:=by rw [r4]
   rw [List.getElem?_take_of_lt (by omega),List.getElem?_map,hn] at h2
   simpa using h2
  have hlist:∀ (i:Nat) (cs:List AV),((mv ks).map λn=>([.int .i64 n]:List AV))[i]?=some cs->∃ n,(mv ks)[i]?=some n/\cs=[.int .i64 n]:=by
   intro i cs h
   rw [List.getElem?_map] at h
   cases hq:(mv ks)[i]? with
   | none=>rw [hq] at h; cases h
   | some n=>rw [hq] at h; exact ⟨n,rfl,by simpa using h.symm⟩
  cases shd with
  | false =>
    obtain ⟨S1,W1⟩:=Fq hW hb (λs B=>s=false/\B=g) (λ_ _ h=>by rw [h.2]; exact ⟨hbase,hglt⟩)
    have key:PR w' (λs B=>G.T s B\/s=false/\B=g) true (.sl ((mv ks).map λn=>[.int .i64 n]) .oh) (.slice (some ⟨g,0,none⟩) ((mv ks).map λn=>([.int .i64 n]:List AV)).length cap):=by
     refine .sl _ _ .oh g 0 cur kt (0,0) cap 1 (λi _=>.int .i64 ((mv ks).getD i 0)) (λh=>by cases h) hgb (.inr ⟨rfl,rfl⟩) ?_ ?_ ?_ ?_ ?_ ?_
     ·show _<=_; rw [List.length_map,<- zf]; exact r1
     ·rw [List.length_map,<- zf]; exact r1
     ·intro i cs h; obtain ⟨n,_,rfl⟩:=hlist i cs h; rfl
     ·intro i cs j x h hj
      obtain ⟨n,hn,rfl⟩:=hlist i cs h
      cases j with
      | zero=>simp only [Nat.zero_add,Nat.mul_one,Nat.add_zero]; rw [hcell i n hn,List.getD_eq_getElem?_getD,hn]; rfl
      | succ j=>cases hj
     ·intro i cs j x _ _; rfl
     ·intro i cs j x h hj
      obtain ⟨n,hn,rfl⟩:=hlist i cs h
      cases j with
      | zero =>
        simp only [List.getElem?_cons_zero,Option.some.injEq] at hj
        subst hj
        rw [List.getD_eq_getElem?_getD,hn]
        exact .int _ _ _
      | succ j=>cases hj
    rw [List.length_map,<- zf] at key
    exact hR _ _ S1 W1 rfl (λm L=>by rw [show ua false (mv ks) G.h=(OU (mv ks),G.h) from rfl,hrw]; exact VR.me (.lA rfl key) rfl)
  | true =>
    have hr1:ua true (mv ks) G.h=(.hs G.h.size 0 0 ss.length,G.h.push (.lM 0 1 ((mv ks).map λn=>[.int .i64 n]))):=by
     rw [zf]
     cases hq:mv ks with
     | nil=>exact (hne hq).elim
     | cons a l=>rfl
    obtain ⟨S1,W1⟩:=Rm (cap:=cap) (z:=1) (xs:=(mv ks).map λn=>[.int .i64 n]) hW hb hbase hglt (by
     intro G' E e
     refine ⟨cur,kt,by rw [e]; exact hgb,by rw [List.length_map,<- zf]; exact r1,by show 0+cap*1<=_; omega,?_,?_⟩
     ·intro i cs h; obtain ⟨n,_,rfl⟩:=hlist i cs h; rfl
     ·intro i cs j x h hj
      obtain ⟨n,hn,rfl⟩:=hlist i cs h
      cases j with
      | zero =>
        simp only [List.getElem?_cons_zero,Option.some.injEq] at hj
        subst hj
        refine ⟨.int .i64 n,?_,rfl,⟨.lA rfl (.int _ _ _),rfl⟩⟩
        simp only [Nat.zero_add,Nat.mul_one,Nat.add_zero]
        exact hcell i n hn
      | succ j=>cases hj)
    refine hR _ _ S1 W1 (by rw [hr1]) (λm L=>?_)
    rw [hr1]
    refine VR.me (.hs _ 0 0 _ _ cap ?_ (λ_ _ _ _=>Nat.zero_le _) r1 ?_) rfl
    ·show G.h.size<(G.h.push _).size
     rw [bV.size_push]
     exact Nat.lt_succ_self _
    ·intro z xs _
     exact ⟨_,nj _ _ _,by simp,λ_=>by simp⟩
def wT {shd:Bool} {ks:Option (List Int)} {h:bV} {v:AV} {h':bV} (hc:ry shd ks h=some (v,h')):∃ l,ks=some l/\(yD l&&Nat.ble l.length 1000000)=true/\ua shd (mv l) h=(v,h'):=by
 unfold ry at hc
 grind
def Cs:∀ (args:List AV) (h:bV) (v:AV) (h':bV),px false args h=some (v,h')->h'=h/\∀ h2:bV,(∀ b o,h.get b=some o->h2.get b=some o)->px false args h2=some (v,h2):=by
 intro args h v h' hc
 unfold px at hc
 split at hc
 ·cases hc; exact ⟨rfl,λ_ _=>rfl⟩
 ·obtain ⟨ks,hks,hn,hrz⟩:=wT hc
  cases hrz
  exact ⟨rfl,λh2 _=>by simp only [px,ry,hks,hn]; rfl⟩
 ·split at hc
  ·rename_i hget
   obtain ⟨ks,hks,hn,hrz⟩:=wT hc
   cases hrz
   exact ⟨rfl,λh2 hh=>by simp only [px,ry,hh _ _ hget,hks,hn]; rfl⟩
  ·cases hc
 ·cases hc
theorem DI {P : Program} {f kt : Nat} (hex : ∃ fn, P.funcs[f]? = some fn ∧ fn.body.isNone = false ∧ (fn.name == "runtime.NumGoroutine") = false)
  (hk:P.underlying kt=some (.int .i64))
  (h1:∀ (b nn:Nat) (D0:DataW Unit) (w:World),w.ownsMap P kt (λ_=>some (.nil,[])) b nn D0->Maps.size D0<=maxLen->Maps.size D0*8<=140737488355328 ->
    Calls P f #[.map (some b)] w λe w'=>∃ (v:Value) (ss:List Int),e=.returned v/\ss.Perm (intKeys D0) /\
    w'.ownsRow w.heap.size kt 1 v ss.length ((ss.mergeSort leI).map encZ)/\(v=.slice none 0 0↔ss=[])/\Below w.heap.size w w')
  (h0:∀ w:World,Calls P f #[.map none] w λe w'=>e=.returned (.slice none 0 0)/\Below w.heap.size w w'):tD P f px where
 call:=by
  intro shd args h v h' hc G args' hG hlo hL hW hl hr
  refine ⟨hex,?_⟩
  intro R hR
  subst hG
  have one:∀ x:AV,args=[x]->∃ y,args' = #[y]/\VC G x y:=by
   rintro x rfl
   cases args' with | mk l =>
   cases l with
   | nil=>simp at hl
   | cons y l =>
     cases l with
     | nil=>exact ⟨y,rfl,hr 0 x y rfl rfl⟩
     | cons _ _=>simp at hl
  unfold px at hc
  split at hc
  ·obtain ⟨y,rfl,hy⟩:=one _ rfl
   cases hc
   have hv:=hy.vr
   cases hv with
   | lA _ hp =>
     cases hp
     refine (h0 G.w).mono ?_
     rintro e w' ⟨rfl,hb⟩
     obtain ⟨S1,W1⟩:=Fq hW hb (λ_ _=>False) (λ_ _ h=>h.elim)
     exact hR _ _ S1 W1 (λm=>rfl) (λm L=>VR.me (.lA rfl (.slnil _)) rfl)
  ·obtain ⟨y,rfl,hy⟩:=one _ rfl
   obtain ⟨ks,hks,hn,hrz⟩:=wT hc
   have hv:=hy.vr
   cases hv with
   | lA _ hp =>
     cases hp with
     | fm _ _ _ r ents clk _ hB hI hll hyo hko hkk hvv =>
       exact AJ hk h1 hW hks hn hB hll hyo (λi p e hp he=>⟨_,hkk i p e hp he⟩) shd (λu G' S W e hv=>hR u G' S W (λm=>by rw [e,hrz]) (by rw [hrz] at hv; exact hv))
  ·obtain ⟨y,rfl,hy⟩:=one _ rfl
   split at hc
   ·rename_i es c hget
    obtain ⟨ks,hks,hn,hrz⟩:=wT hc
    obtain ⟨l,ents,hpi,rfl,hB,hent,hyo⟩:=tq hW hy.vr hget
    have hlen:es.length=ents.size:=by simpa using hent.1
    have he2:∀ (i:Nat) (p:AV×AV×Nat) (e:MapEntry),es[i]?=some p->ents[i]?=some e->p.1.rI=true/\PR G.w G.T false p.1 e.key/\VC G p.2.1 e.val/\p.2.2=e.born:=λi p e hp he=>hent.2 i p e hp (by simpa using he)
    refine AJ hk h1 hW hks hn hB (by simpa using hlen) (hyo.SM hlen λi p e hp he=>(he2 i p e hp he).2.2.2) (λi p e hp he=>?_) shd (λu G' S W e hv=>hR u G' S W (λm=>by rw [e,hrz]) (by rw [hrz] at hv; exact hv))
    rw [List.getElem?_map] at hp
    cases hq:es[i]? with
    | none=>rw [hq] at hp; cases hp
    | some q =>
      rw [hq] at hp
      cases hp
      exact ⟨_,(he2 i q e hq he).2.1⟩
   ·cases hc
  ·cases hc
 G3:=Cs
end Go.Sx
namespace Go.Sx
open Go
section
variable (X:Ctx) (lp:AH)
end
section
variable {X:Ctx} {lp:AH}
def DW:Nat->(Env->bV->RC)->Env->bV->RC
 | 0,_,e,h=>some (.nf,e,h)
 | n+1,f,e,h=>match f e h with
   | some (.nf,e,h)=>DW n f e h
   | r=>r
end
def va (args0:List AV) (v0:AV) (shd:Bool) (args:List AV) (h:bV):R2:=match shd,rj (qI 12) args0 args with
 | false,true=>some (v0,h)
 | _,_=>none
def AN {P:Program} {C:lS} {F:m0} {Pr:mM} (T:tl P C F Pr) {f n:Nat} {args0:List AV} {v0:AV} {h0:bV} (h:nH C F Pr n false f args0 bV.empty=some (v0,h0)):tD P f (va args0 v0) where
 call:=by
  intro shd args h1 v h' hc
  unfold va at hc
  split at hc
  ·rename_i _ ha
   cases hc
   have:=pz (sb 12) _ _ ha
   subst this
   obtain ⟨_,k⟩:=za T n f args0 bV.empty v0 h0 h
   exact w4 T n false f args0 h1 v0 h1 (k h1 (λb o hb=>by grind [DA]))
  grind
 G3:=by
  grind [va]
end Go.Sx
namespace Go.Sx
open Go
def Ck:Tr oE->(Nat->Nat)->bV->Bool
 | .leaf,_,_=>true
 | .node l v r,f,h=>(match v with
   | some (.lM g z xs)=>match h.get (f 0) with
     | some (.lM g' z' xs')=>Nat.beq g g'&&Nat.beq z z'&&rj (rj (qI 12)) xs xs'
     | _=>false
   | some (.map es c)=>match h.get (f 0) with
     | some (.map es' c')=>Nat.beq c c'&&rj (λp q=>qI 12 p.1 q.1&&qI 12 p.2.1 q.2.1&&Nat.beq p.2.2 q.2.2) es es'
     | _=>false
   | none=>true)&&Ck l (λn=>f (2*n+1)) h&&Ck r (λn=>f (2*n+2)) h
def CZ (h2 h1:bV):Bool:=Nat.beq h2.size h1.size&&Nat.beq h2.lo h1.lo&&Nat.beq h2.lo 0&&rj (λp q=>Nat.beq p.1 q.1&&rj (qI 12) p.2 q.2) h2.cT h1.cT&&Ck h2.tr id h1
structure Sub (h2 h1:bV):Prop where
 size:h2.size=h1.size
 lo:h2.lo=h1.lo
 cT:h2.cT=h1.cT
 get:∀ b o,h2.get b=some o->h1.get b=some o
theorem zS:∀ (t:Tr oE) (f:Nat->Nat) (h:bV),Ck t f h=true->∀ (n:Nat) (o:oE),t.get n=some o->h.get (f n)=some o
 | .leaf,_,_,_,n,o,h=>by simp [Tr.get] at h
 | .node l v r,f,h,ha,n,o,hg=>by
   simp only [Ck,Bool.and_eq_true] at ha
   obtain ⟨⟨h1,h2⟩,h3⟩:=ha
   cases n with
   | zero =>
     simp only [Tr.get] at hg
     subst hg
     cases o with
     | lM g z xs =>
       simp only at h1
       split at h1
       ·rename_i g' z' xs' hget
        simp only [Bool.and_eq_true] at h1
        rw [hget,Nat.eq_of_beq_eq_true h1.1.1,Nat.eq_of_beq_eq_true h1.1.2,pz (λ_ _=>pz (sb 12) _ _) _ _ h1.2]
       ·cases h1
     | map es c =>
       simp only at h1
       split at h1
       ·rename_i es' c' hget
        simp only [Bool.and_eq_true] at h1
        have:es=es':=pz (λp q hpq=>by
         simp only [Bool.and_eq_true] at hpq
         exact Prod.ext (sb 12 _ _ hpq.1.1) (Prod.ext (sb 12 _ _ hpq.1.2) (Nat.eq_of_beq_eq_true hpq.2))) _ _ h1.2
        rw [hget,Nat.eq_of_beq_eq_true h1.1,this]
       ·cases h1
   | succ m =>
     simp only [Tr.get] at hg
     split at hg
     ·rename_i hm
      have hm:=Nat.eq_of_beq_eq_true hm
      have:=zS l _ h h2 (m / 2) o hg
      rw [show 2*(m / 2)+1=m+1 by omega] at this
      exact this
     ·rename_i hm
      have hm:m % 2≠0:=Nat.ne_of_beq_eq_false hm
      have:=zS r _ h h3 (m / 2) o hg
      rw [show 2*(m / 2)+2=m+1 by omega] at this
      exact this
def Kw {h2 h1:bV} (h:CZ h2 h1=true):Sub h2 h1:=by
 simp only [CZ,Bool.and_eq_true] at h
 obtain ⟨⟨⟨⟨a1,a2⟩,a3⟩,a4⟩,a5⟩:=h
 refine ⟨Nat.eq_of_beq_eq_true a1,Nat.eq_of_beq_eq_true a2,pz (λp q hpq=>by
  simp only [Bool.and_eq_true] at hpq
  exact Prod.ext (Nat.eq_of_beq_eq_true hpq.1) (pz (sb 12) _ _ hpq.2)) _ _ a4,?_⟩
 grind [bV.get,zS]
section
variable {P:Program} {X:Ctx} {N:Nat} {G0:Ga}
theorem St.drop {G:Ga} {e:Env} {a:Act} {h2:bV} (hS:St N G0 G e a) (hs:Sub h2 G.h) (h0:G0.h.size=0):St N G0 ⟨G.w,G.T,h2,G.pi,G.L⟩ e a:=by
 have E:Ext G ⟨G.w,G.T,h2,G.pi,G.L⟩:=⟨λ_ _ h=>h,λ_ _ _=>rfl,by rw [hs.size]; omega,λb _ g z xs h=>⟨g,z,xs,hs.get b _ h,Nat.le_refl _,λ_=>⟨rfl,λ_ h=>h⟩⟩,λb _ es c h=>⟨es,c,hs.get b _ h,λ_ h=>h⟩,λ_ _ h=>h⟩
 refine ⟨⟨?_,hS.fr.L⟩,?_,hS.er.mono E,hS.df,hS.sz⟩
 ·have S:=hS.fr.S
  refine ⟨⟨S.ext.T,S.ext.mj,by omega,λb hb=>by omega,λb hb=>by omega,S.ext.cT⟩,S.os,S.output,S.tape,S.m4,S.frame,S.oR,S.pR,S.th,?_,λb hb=>by omega,S.sm,S.tE,S.tQ⟩
  exact hs.lo.trans S.lo
 ·have W:=hS.wr
  refine ⟨λb l g z xs hp hg=>(W.lM b l g z xs hp (hs.get b _ hg)).mono E rfl,λb l es c hp hg=>(W.map b l es c hp (hs.get b _ hg)).mono E rfl,?_,?_,W.oI,W.sf,W.qt,W.LT,W.qU,?_,W.pb,?_,?_⟩
  ·intro d B cs hd hcs
   have hcs:lT h2.cT d=some cs:=hcs
   rw [hs.cT] at hcs
   exact (W.loc d B cs hd hcs).mono E rfl
  ·intro b l h
   refine ⟨(W.mQ b l h).1,?_⟩
   show b<h2.size
   rw [hs.size]; exact (W.mQ b l h).2
  ·intro d B h
   refine ⟨(W.nL d B h).1,?_⟩
   show (lT h2.cT d).isSome=true
   rw [hs.cT]; exact (W.nL d B h).2
  ·show h2.lo<=h2.size
   rw [hs.lo,hs.size]; exact W.lo
  ·intro b o h
   show b<h2.size
   rw [hs.size]; exact W.lt b o (hs.get b o h)
inductive Au (f:Env->bV->RC):Env->bV->Ex->Env->bV->Prop
 | last {e h x e' h'} (k:Nat):DW k f e h=some (x,e',h')->x≠.nf->Au f e h x e' h'
 | step {e h e1 h1 h2 x e' h'} (k:Nat):DW (k+1) f e h=some (.nf,e1,h1)->Sub h2 h1->Au f e1 h2 x e' h'->Au f e h x e' h'
def KJ (k:Nat) (f:Env->bV->RC) (e:Env) (h:bV) (e1:Env) (h2:bV):Bool:=match DW (k+1) f e h with
 | some (.nf,e',h')=>rj (λp q=>Nat.beq p.1 q.1&&qI 12 p.2 q.2) e1 e'&&CZ h2 h'
 | _=>false
def Au.piece {f:Env->bV->RC} {e:Env} {h:bV} {e1:Env} {h2:bV} {x:Ex} {e':Env} {h':bV} (k:Nat) (hp:KJ k f e h e1 h2=true) (hc:Au f e1 h2 x e' h'):Au f e h x e' h':=by
 unfold KJ at hp
 split at hp
 ·rename_i e0 h0 hi
  simp only [Bool.and_eq_true] at hp
  have:e1=e0:=pz (λp q hpq=>by
   simp only [Bool.and_eq_true] at hpq
   exact Prod.ext (Nat.eq_of_beq_eq_true hpq.1) (sb 12 _ _ hpq.2)) _ _ hp.1
  subst this
  exact .step k hi (Kw hp.2) hc
 grind
end
end Go.Sx
namespace Go.Sx
open Go
section
variable {P:Program} {X:Ctx} {N:Nat} {G0:Ga}
end
end Go.Sx
namespace Go.Sx
open Go
section
variable {C:lS} {F:m0} {Pr:mM} {fa:kp} {Q:Ex->Env->bV->Prop} {e:Env} {h h1:bV} {all rest:List Oper} {o:Oper} {q:Env->bV->Prop} {v:AV} {sch:List (Nat×List Nat)} {i:Nat} {a b:Code} {x y an:od} {live:List Nat}
def oV (w:mG C F Pr fa all rest q (kN e o v) h1) (hw:kT all e o=some true:=by rfl) (hop:∀ call,lu o.op ⟨C,fa,call⟩ e h o.dst=some (v,h1):=by exact λ_=>rfl):mG C F Pr fa all (o::rest) q e h:=iS hw hop w
def rV (w:mI C F Pr fa all sch q (kN e o v) h1) (ho:all[i]?=some o:=by rfl) (hw:kT all e o=some true:=by rfl) (hop:∀ call,lu o.op ⟨C,fa,call⟩ e h o.dst=some (v,h1):=by exact λ_=>rfl):mI C F Pr fa all ((i,[])::sch) q e h:=kG ho hw hop w
def oS (w:mG C F Pr fa all rest q (kN e o (.kO [])) h) (hw:kT all e o=some false:=by rfl):mG C F Pr fa all (o::rest) q e h:=Mk hw w
def rS (w:mI C F Pr fa all sch q (kN e o (.kO [])) h) (ho:all[i]?=some o:=by rfl) (hw:kT all e o=some false:=by rfl):mI C F Pr fa all ((i,[])::sch) q e h:=O2 ho hw w
def oN (w:q e h):mG C F Pr fa all [] q e h:=Re w
def rN (w:q e h):mI C F Pr fa all [] q e h:=Rx w
def qq (w:Wp C F Pr fa a x (wm (Wp C F Pr fa b y Q) Q) e h):Wp C F Pr fa (.seq a b) (.sq x y) Q e h:=Ua w
def qs (w:Wp C F Pr fa a x (wm (λe h=>Wp C F Pr fa b y Q (proj live e) { h with cT:=nr live h.cT }) Q) e h):Wp C F Pr fa (.seq a b) (.seq live x y) Q e h:=G8 w
def qk (w:Q .nf e h):Wp C F Pr fa .skip an Q e h:=ME w
def ql {l:Nat} (w:Q .nf e h):Wp C F Pr fa (.label l) an Q e h:=KW w
def qe {id:Nat} (w:Q (.ext id) e h):Wp C F Pr fa (.exit id) an Q e h:=M6 w
def qr (w:Q .ret e h):Wp C F Pr fa .ret an Q e h:=Rp w
def qb {id:Nat} (w:Wp C F Pr fa a an (Ks id Q) e h):Wp C F Pr fa (.block id a) an Q e h:=La w
def qg {id:Nat} {ops:Array Oper} (w:mG C F Pr fa ops.toList ops.toList (Q .nf) e h):Wp C F Pr fa (.region id ops false) an Q e h:=IF w
def qd {id:Nat} {ops:Array Oper} (w:mI C F Pr fa ops.toList sch (Q .nf) e h):Wp C F Pr fa (.region id ops true) (.tG sch) Q e h:=Ln w
def qT {c:Operand} (w:Wp C F Pr fa a x Q e h) (hc:kz e c=.bool true:=by rfl):Wp C F Pr fa (.cond c a b) (.two x y) Q e h:=EC hc (λ_=>w) (λh=>by cases h)
def qF {c:Operand} (w:Wp C F Pr fa b y Q e h) (hc:kz e c=.bool false:=by rfl):Wp C F Pr fa (.cond c a b) (.two x y) Q e h:=EC hc (λh=>by cases h) (λ_=>w)
def kE {a b:Int} (w1:a<b->mG C F Pr fa all rest q (kN e o (.bool true)) h) (w2:¬ (a<b)->mG C F Pr fa all rest q (kN e o (.bool false)) h) {t u:Nat} {x y:Operand} {k k':IntKind} (ho:o.op=.binOp .lss t x y u:=by rfl) (hw:kT all e o=some true:=by rfl) (hx:kz e x=.int k a:=by rfl) (hy:kz e y=.int k' b:=by rfl) (hk:qN k k'=true:=by rfl):mG C F Pr fa all (o::rest) q e h:=qf hw (λ_=>by rw [ho]; exact ml hx hy hk (G9 _ a b)) w1 w2
def si {a b:Int} (w1:a<b->mI C F Pr fa all sch q (kN e o (.bool true)) h) (w2:¬ (a<b)->mI C F Pr fa all sch q (kN e o (.bool false)) h) {t u:Nat} {x y:Operand} {k k':IntKind} (hi:all[i]?=some o:=by rfl) (ho:o.op=.binOp .lss t x y u:=by rfl) (hw:kT all e o=some true:=by rfl) (hx:kz e x=.int k a:=by rfl) (hy:kz e y=.int k' b:=by rfl) (hk:qN k k'=true:=by rfl):mI C F Pr fa all ((i,[])::sch) q e h:=qJ hi hw (λ_=>by rw [ho]; exact ml hx hy hk (G9 _ a b)) w1 w2
def tX {a b:Int} (w1:a<=b->mG C F Pr fa all rest q (kN e o (.bool true)) h) (w2:¬ (a<=b)->mG C F Pr fa all rest q (kN e o (.bool false)) h) {t u:Nat} {x y:Operand} {k k':IntKind} (ho:o.op=.binOp .leq t x y u:=by rfl) (hw:kT all e o=some true:=by rfl) (hx:kz e x=.int k a:=by rfl) (hy:kz e y=.int k' b:=by rfl) (hk:qN k k'=true:=by rfl):mG C F Pr fa all (o::rest) q e h:=qf hw (λ_=>by rw [ho]; exact ml hx hy hk (RS _ a b)) w1 w2
def mc {a b:Int} (w1:a > b->mG C F Pr fa all rest q (kN e o (.bool true)) h) (w2:¬ (a > b)->mG C F Pr fa all rest q (kN e o (.bool false)) h) {t u:Nat} {x y:Operand} {k k':IntKind} (ho:o.op=.binOp .gtr t x y u:=by rfl) (hw:kT all e o=some true:=by rfl) (hx:kz e x=.int k a:=by rfl) (hy:kz e y=.int k' b:=by rfl) (hk:qN k k'=true:=by rfl):mG C F Pr fa all (o::rest) q e h:=qf hw (λ_=>by rw [ho]; exact ml hx hy hk (Hl _ a b)) w1 w2
def adC {a b:Int} (w1:a > b->mI C F Pr fa all sch q (kN e o (.bool true)) h) (w2:¬ (a > b)->mI C F Pr fa all sch q (kN e o (.bool false)) h) {t u:Nat} {x y:Operand} {k k':IntKind} (hi:all[i]?=some o:=by rfl) (ho:o.op=.binOp .gtr t x y u:=by rfl) (hw:kT all e o=some true:=by rfl) (hx:kz e x=.int k a:=by rfl) (hy:kz e y=.int k' b:=by rfl) (hk:qN k k'=true:=by rfl):mI C F Pr fa all ((i,[])::sch) q e h:=qJ hi hw (λ_=>by rw [ho]; exact ml hx hy hk (Hl _ a b)) w1 w2
def mW {a b:Int} (w1:a>=b->mG C F Pr fa all rest q (kN e o (.bool true)) h) (w2:¬ (a>=b)->mG C F Pr fa all rest q (kN e o (.bool false)) h) {t u:Nat} {x y:Operand} {k k':IntKind} (ho:o.op=.binOp .geq t x y u:=by rfl) (hw:kT all e o=some true:=by rfl) (hx:kz e x=.int k a:=by rfl) (hy:kz e y=.int k' b:=by rfl) (hk:qN k k'=true:=by rfl):mG C F Pr fa all (o::rest) q e h:=qf hw (λ_=>by rw [ho]; exact ml hx hy hk (G5 _ a b)) w1 w2
def xa {a b:Int} (w1:a>=b->mI C F Pr fa all sch q (kN e o (.bool true)) h) (w2:¬ (a>=b)->mI C F Pr fa all sch q (kN e o (.bool false)) h) {t u:Nat} {x y:Operand} {k k':IntKind} (hi:all[i]?=some o:=by rfl) (ho:o.op=.binOp .geq t x y u:=by rfl) (hw:kT all e o=some true:=by rfl) (hx:kz e x=.int k a:=by rfl) (hy:kz e y=.int k' b:=by rfl) (hk:qN k k'=true:=by rfl):mI C F Pr fa all ((i,[])::sch) q e h:=qJ hi hw (λ_=>by rw [ho]; exact ml hx hy hk (G5 _ a b)) w1 w2
def kZ {a b:Int} (w1:a=b->mG C F Pr fa all rest q (kN e o (.bool true)) h) (w2:¬ (a=b)->mG C F Pr fa all rest q (kN e o (.bool false)) h) {t u:Nat} {x y:Operand} {k k':IntKind} (ho:o.op=.binOp .eql t x y u:=by rfl) (hw:kT all e o=some true:=by rfl) (hx:kz e x=.int k a:=by rfl) (hy:kz e y=.int k' b:=by rfl) (hk:qN k k'=true:=by rfl):mG C F Pr fa all (o::rest) q e h:=qf hw (λ_=>by rw [ho]; exact ml hx hy hk (Hg _ a b)) w1 w2
def w9 {a b:Int} (w1:a=b->mI C F Pr fa all sch q (kN e o (.bool true)) h) (w2:¬ (a=b)->mI C F Pr fa all sch q (kN e o (.bool false)) h) {t u:Nat} {x y:Operand} {k k':IntKind} (hi:all[i]?=some o:=by rfl) (ho:o.op=.binOp .eql t x y u:=by rfl) (hw:kT all e o=some true:=by rfl) (hx:kz e x=.int k a:=by rfl) (hy:kz e y=.int k' b:=by rfl) (hk:qN k k'=true:=by rfl):mI C F Pr fa all ((i,[])::sch) q e h:=qJ hi hw (λ_=>by rw [ho]; exact ml hx hy hk (Hg _ a b)) w1 w2
def mg {a b:Int} (w1:a≠b->mG C F Pr fa all rest q (kN e o (.bool true)) h) (w2:¬ (a≠b)->mG C F Pr fa all rest q (kN e o (.bool false)) h) {t u:Nat} {x y:Operand} {k k':IntKind} (ho:o.op=.binOp .neq t x y u:=by rfl) (hw:kT all e o=some true:=by rfl) (hx:kz e x=.int k a:=by rfl) (hy:kz e y=.int k' b:=by rfl) (hk:qN k k'=true:=by rfl):mG C F Pr fa all (o::rest) q e h:=qf hw (λ_=>by rw [ho]; exact ml hx hy hk (GZ _ a b)) w1 w2
def w5 {a b:Int} (w1:a≠b->mI C F Pr fa all sch q (kN e o (.bool true)) h) (w2:¬ (a≠b)->mI C F Pr fa all sch q (kN e o (.bool false)) h) {t u:Nat} {x y:Operand} {k k':IntKind} (hi:all[i]?=some o:=by rfl) (ho:o.op=.binOp .neq t x y u:=by rfl) (hw:kT all e o=some true:=by rfl) (hx:kz e x=.int k a:=by rfl) (hy:kz e y=.int k' b:=by rfl) (hk:qN k k'=true:=by rfl):mI C F Pr fa all ((i,[])::sch) q e h:=qJ hi hw (λ_=>by rw [ho]; exact ml hx hy hk (GZ _ a b)) w1 w2
def oC {f:Nat} {args:List AV} {R:AV->Prop} (w:∀ h:bV,∃ v,kC C F Pr false f args h v h/\R v) (next:∀ v,R v->mG C F Pr fa all rest q (kN e o v) h) {g:Operand} {c:Call} (ho:o.op=.call c:=by rfl) (hw:kT all e o=some true:=by rfl) (hf:c.callee=.value g:=by rfl) (hg:kz e g=.ly f [] []:=by rfl) (ha:c.args.toList.map (kz e)=args:=by rfl) (hok:args.all AV.py=true:=by rfl) (hs:fa.lr.elem f=false:=by rfl):mG C F Pr fa all (o::rest) q e h:=N5 ho hw hf hg ha hok hs w next
def rC {f:Nat} {args:List AV} {R:AV->Prop} (w:∀ h:bV,∃ v,kC C F Pr false f args h v h/\R v) (next:∀ v,R v->mI C F Pr fa all sch q (kN e o v) h) {g:Operand} {c:Call} (hi:all[i]?=some o:=by rfl) (ho:o.op=.call c:=by rfl) (hw:kT all e o=some true:=by rfl) (hf:c.callee=.value g:=by rfl) (hg:kz e g=.ly f [] []:=by rfl) (ha:c.args.toList.map (kz e)=args:=by rfl) (hok:args.all AV.py=true:=by rfl) (hs:fa.lr.elem f=false:=by rfl):mI C F Pr fa all ((i,[])::sch) q e h:=OT hi hw ho hf hg ha hok hs w next
end
def Row.lk {α:Type} (r:Row α):r.l.length<=9223372036854775807:=r.ok
def ka.lk {α:Type} (r:ka α):r.l.length<=9223372036854775807:=r.ok
def pL.lk (r:pL):r.l.length<=9223372036854775807:=r.ok
abbrev iv (n:Int):AV:=.int .i64 n
theorem FZ:(∀ sn hp n k a,freeze sn hp (n+1) (.int k a)=some (.int k a))/\(∀ sn hp n b,freeze sn hp (n+1) (.bool b)=some (.bool b))/\(∀ sn hp n s,freeze sn hp (n+1) (.str s)=some (.str s)) /\
  (∀ (α:Type) (enc : α->List AV) hp n r,freeze true hp (n+1) (ka.av enc r)=some (ka.av enc r))/\(∀ (α:Type) (enc : α->List AV) sn hp n r,freeze sn hp (n+1) (Row.av enc r)=some (Row.av enc r)) /\
  (∀ hp n c o s,freeze true hp (n+1) (.ip c o s)=some (.ip c o s))/\(∀ sn hp n c o,freeze sn hp (n+1) (.ip c o false)=some (.ip c o false))/\(∀ hp n c s,freeze true hp (n+1) (.fm c s)=some (.fm c s))/\(∀ sn hp n c,freeze sn hp (n+1) (.fm c false)=some (.fm c false)) /\
  (∀ sn hp n,freeze sn hp (n+1) (.sl [] .nil)=some (.sl [] .nil))/\(∀ sn hp n,freeze sn hp (n+1) .l3=some .l3)/\(∀ sn hp n,freeze sn hp (n+1) .mC=some .mC)/\(∀ sn hp n m xs,freeze sn hp (n+1) (.sl xs (.exact m))=some (.sl xs (.exact m))) /\
  (∀ sn hp n l,freeze sn hp (n+1) (.agg l)=(match kP (freeze sn hp n) l with
    | some l=>some (.agg l)
    | none=>none))/\(∀ sn hp n l,freeze sn hp (n+1) (.kO l)=(match kP (freeze sn hp n) l with
    | some l=>some (.kO l)
    | none=>none))/\(∀ x:j7,x.af=[.int .i64 x.elem,.int .i64 x.en])/\(∀ x:lI,x.af=[.int .i64 x.elem,.int .i64 x.pos])/\(∀ x:lV,x.af=[.int .i64 x.out,.int .i64 x.pos])/\(∀ x:kL,x.af=[.int .i64 x.elem,.int .i64 x.p9,.int .i64 x.out])/\(∀ x:my,x.af=[.str x.name.l,.int .i64 x.kind,.int .i64 x.len])/\(∀ x:lD,x.af=[.bool x.Bo,.int .i64 x.at_,.int .i64 x.end_,.int .i64 x.to]) /\
  (∀ x:kq,x.af=[.int .i64 x.from_,.int .i64 x.to,.int .i64 x.end_,x.steps.av kL.af,x.nq.av lI.af,x.guards.av lI.af,x.mf.av kX,x.holds.av kX,.bool x.bare])/\(∀ x:uA,x.af=[.int .i64 x.from_,.int .i64 x.to,.int .i64 x.end_,x.steps.av kL.af,x.nq.av lI.af,x.guards.av lI.af,x.mf.av kX,x.holds.av kX,.bool x.bare]) /\
  (∀ x:pQ,x.af=[.int .i64 x.wO,x.steps.av kL.af,x.pos.av kX,x.left.av (nW lV.af)])/\(∀ p:bY,p.af=[p.elems.av my.af,p.kB.av mr.af,p.signals.av lY.af,p.lines.av lq.af,.int .i64 p.top,.int .i64 p.lC,.int .i64 p.lN,.int .i64 p.lU,.bool p.lZ])/\(∀ x:kV,x.af=x.kH.af++[x.roads.av kq.af]) /\
  (∀ x:nh,x.af=[.int .i64 x.mode,x.oP.av j7.af,.int .i64 x.left,.int .i64 x.zR,.int .i64 x.v])/\(∀ x:mA,x.af=[.str x.name.l,.int .i64 x.ko,.int .i64 x.at_.elem,.int .i64 x.at_.en,.int .i64 x.left])/\(∀ x:lq,x.af=[.str x.name.l,x.elems.av kX])/\(∀ x:kS,x.af=[.str x.name.l,.int .i64 x.ko,.int .i64 x.from_,.int .i64 x.left,x.kr.av lD.af])/\(∀ x:dO,x.af=[.int .i64 x.nP,x.ko.av kR.af,x.runs.av kS.af]) /\
  (∀ (f:AV->Option AV),kP f []=some [])/\(∀ (f:AV->Option AV) v l,kP f (v::l)=(match f v with
    | none=>none
    | some w=>match kP f l with
      | none=>none
      | some l'=>some (w::l')))/\(∀ (a b:List AV) v,(v::a)++b=v::(a++b))/\(∀ b:List AV,[]++b=b):=by
 refine ⟨λ_ _ _ _ _=>rfl,λ_ _ _ _=>rfl,λ_ _ _ _=>rfl,λ_ _ _ _ r=>EI r,λ_ _ _ _ _ r=>oZ r,λ_ _ _ _ _=>Hh _ _ _,λ_ _ _ _ _=>Sc _ _,λ_ _ _ _=>G4 _ _,λ_ _ _ _=>R0 _,λ_ _ _=>rfl,λ_ _ _=>rfl,λ_ _ _=>rfl,λ_ _ _ _ _=>rfl,λ_ _ _ _=>rfl,λ_ _ _ _=>rfl,?_⟩
 exact ⟨λ_=>rfl,λ_=>rfl,λ_=>rfl,λ_=>rfl,λ_=>rfl,λ_=>rfl,λ_=>rfl,λ_=>rfl,λ_=>rfl,λ_=>rfl,λ_=>rfl,λ_=>rfl,λ_=>rfl,λ_=>rfl,λ_=>rfl,λ_=>rfl,λ_=>rfl,λ_ _ _=>rfl,λ_ _ _=>rfl,λ_=>rfl⟩
end Go.Sx
namespace Go.Sx
open Go
def Lf (amb:Bool) (a b:Option j7) (to:Int):Option j7:=match a,b with
 | some _,none=>some ⟨to,1⟩
 | none,some _=>some ⟨to,0⟩
 | _,_=>if amb=true then some ⟨to,-1⟩ else none
def ra (amb:Bool) (A:Int->Option j7) (N:j7->Option j7) (l:lD):Option j7:=if l.end_=1 then A l.to else if l.end_=3 then Lf amb (N ⟨l.to,0⟩) (N ⟨l.to,1⟩) l.to else none
def vW (amb:Bool) (A:Int->Option j7) (N:j7->Option j7) (r:kS) (leg:Int):Option j7:=if leg=0 then A r.from_ else match r.kr.l[(leg - 1).toNat]? with
 | none=>none
 | some l=>ra amb A N l
def mT (amb:Bool) (A:Int->Option j7) (N:j7->Option j7) (d:dO) (run leg:Int):Option j7:=if run<0 then none else match d.runs.l[run.toNat]? with
 | none=>none
 | some r=>if leg<0\/leg > r.kr.l.length then none else vW amb A N r leg
section
variable {amb:Bool} {A:Int->Option j7} {N:j7->Option j7} {d:dO} {run leg:Int} {x:kS} {y:lD}
theorem u3 (h:run<0\/run>=d.runs.l.length):mT amb A N d run leg=none:=by
 grind [mT]
theorem zh (h0:0<=run) (hx:run.toNat<d.runs.l.length) (hq:d.runs.l[run.toNat]=x):mT amb A N d run leg=if leg<0\/leg > x.kr.l.length then none else vW amb A N x leg:=by
 grind [mT]
theorem u6 (h0:0<=run) (hx:run.toNat<d.runs.l.length) (hq:d.runs.l[run.toNat]=x) (h:leg<0\/leg > x.kr.l.length):mT amb A N d run leg=none:=by
 grind [zh]
def RK {hx:run.toNat<d.runs.l.length} (hq:d.runs.l[run.toNat]=x) (h:leg<(x.kr.l.length:Int)):∀ h:run.toNat<d.runs.l.length,leg<((d.runs.l[run.toNat]).kr.l.length:Int):=by
 grind
def Dy (h:leg<0):mT amb A N d run leg=none:=by
 grind [mT]
theorem Ec (h0:0<=run) (hx:run.toNat<d.runs.l.length) (hq:d.runs.l[run.toNat]=x) (h:leg=0):mT amb A N d run leg=A x.from_:=by
 rw [zh h0 hx hq,if_neg (by omega),vW,if_pos h]
theorem Gb (h0:0<=run) (hx:run.toNat<d.runs.l.length) (hq:d.runs.l[run.toNat]=x) (h1:0<leg) (h2:leg<=x.kr.l.length) (hy:(leg - 1).toNat<x.kr.l.length) (hz:x.kr.l[(leg - 1).toNat]=y):mT amb A N d run leg=ra amb A N y:=by
 rw [zh h0 hx hq,if_neg (by omega),vW,if_neg (by omega),List.getElem?_eq_getElem hy,hz]
theorem AF (h:y.end_=1):ra amb A N y=A y.to:=by grind [ra]
theorem Ai (h:¬ y.end_=1) (h3:y.end_=3):ra amb A N y=Lf amb (N ⟨y.to,0⟩) (N ⟨y.to,1⟩) y.to:=by grind [ra]
theorem C7 (h:¬ y.end_=1) (h3:¬ y.end_=3):ra amb A N y=none:=by grind [ra]
end
def DV (amb:Bool) (K:Int->Int) (R:j7->Int) (h:j7) (l:lD):Int:=if l.Bo=true then if K h.elem=1 then R ⟨h.elem,IntKind.i64.wrap (1 - h.en)⟩ else -1 else R h
def oQ (amb:Bool) (A:Int->Option j7) (N:j7->Option j7) (K:Int->Int) (R:j7->Int) (d:dO) (run leg:Int):Int:=match mT amb A N d run leg with
 | none=>-1
 | some h=>if amb=true/\h.en<0 then -1 else match d.runs.l[run.toNat]? with
   | none=>-1
   | some r=>match r.kr.l[leg.toNat]? with
     | none=>-1
     | some l=>DV amb K R h l
def AE (d:dO) (run leg:Int):Prop:=run<0\/run>=d.runs.l.length\/leg<0\/∃ h:run.toNat<d.runs.l.length,leg > ((d.runs.l[run.toNat]).kr.l.length:Int)
section
variable {amb:Bool} {A:Int->Option j7} {N:j7->Option j7} {K:Int->Int} {R:j7->Int} {d:dO} {run leg:Int} {x:kS} {y:lD} {h:j7}
theorem rb (hh:mT amb A N d run leg=none):oQ amb A N K R d run leg = -1:=by rw [oQ,hh]
def K5 (hl:AE d run leg):mT amb A N d run leg=none:=by
 by_cases h0:run<0\/run>=d.runs.l.length
 ·exact u3 h0
 ·have hx:run.toNat<d.runs.l.length:=by omega
  refine u6 (by omega) hx rfl ?_
  rcases hl with hl | hl | hl | ⟨_,hl⟩<;>grind
theorem Di (hh:mT true A N d run leg=some h) (hn:h.en<0):oQ true A N K R d run leg = -1:=by grind [oQ]
def Du (hx:run.toNat<d.runs.l.length) (hq:d.runs.l[run.toNat]=x) (hl:leg>=x.kr.l.length):oQ amb A N K R d run leg = -1:=by
 grind [oQ]
theorem CC (hh:mT amb A N d run leg=some h) (hn:amb=false\/¬ h.en<0) (hx:run.toNat<d.runs.l.length) (hq:d.runs.l[run.toNat]=x) (hy:leg.toNat<x.kr.l.length) (hz:x.kr.l[leg.toNat]=y):oQ amb A N K R d run leg=DV amb K R h y:=by
 grind [oQ]
theorem OI (hA:∀ i h,A i=some h->0<=h.en):oQ false A N K R d run leg=oQ true A N K R d run leg:=by
 have hl:∀ l:lD,(ra false A N l=none/\ra true A N l=none)\/(∃ h,ra false A N l=none/\ra true A N l=some h/\h.en<0)\/∃ h,ra false A N l=some h/\ra true A N l=some h/\0<=h.en:=by
  intro l
  by_cases h1:l.end_=1
  ·rw [AF h1,AF h1]
   cases h:A l.to<;>grind
  ·by_cases h3:l.end_=3
   ·rw [Ai h1 h3,Ai h1 h3]
    cases N ⟨l.to,0⟩<;>cases N ⟨l.to,1⟩<;>simp [Lf]
   grind [C7]
 have hg:(mT false A N d run leg=none/\mT true A N d run leg=none)\/(∃ h,mT false A N d run leg=none/\mT true A N d run leg=some h/\h.en<0)\/∃ h,mT false A N d run leg=some h/\mT true A N d run leg=some h/\0<=h.en:=by
  unfold mT
  split
  ·simp
  ·cases d.runs.l[run.toNat]? with
   | none=>simp
   | some r =>
     simp only
     split
     ·simp
     ·unfold vW
      split
      ·cases h:A r.from_<;>grind
      ·cases r.kr.l[(leg - 1).toNat]?<;>grind
 rcases hg with ⟨h1,h2⟩ | ⟨h,h1,h2,h3⟩ | ⟨h,h1,h2,h3⟩
 ·grind [rb]
 ·grind [rb,Di]
 ·simp only [oQ,h1,h2,Bool.false_eq_true,false_and,true_and,if_false]
  rw [if_neg (by omega)]
  rfl
end
def RV {p:bY} (h:∀ s∈p.signals.l,0<=s.at_.elem/\s.at_.elem<(p.elems.l.length:Int)/\0<=s.at_.en):∀ i x,pe p.signals.l i=some x->0<=x.en:=by
 grind [pe]
end Go.Sx
namespace Go.Sx
open Go
section
variable {C:lS} {F:m0} {Pr:mM}
theorem kC.uu {shd:Bool} {f:Nat} {args:List AV} {h h1 h2:bV} {v1 v2:AV} (a:kC C F Pr shd f args h v1 h1) (b:kC C F Pr shd f args h v2 h2):v1=v2/\h1=h2:=by
 obtain ⟨m,ha⟩:=a
 obtain ⟨n,hb⟩:=b
 have:=(ha (m+n) (by omega)).symm.trans (hb (m+n) (by omega))
 grind
def zb (Pr:mM):Prop:=∀ f p,Pr f=some p->∀ (args:List AV) (h:bV) (v:AV) (h':bV),p false args h=some (v,h')->h'=h/\∀ h2:bV,(∀ b o,h.get b=some o->h2.get b=some o)->p false args h2=some (v,h2)
def Cp (T:zb Pr) (n:Nat):rK (nH C F Pr n):=by
 intro f args h v h' hc
 cases n with
 | zero=>cases hc
 | succ n =>
   simp only [nH] at hc
   cases hp:Pr f with
   | some p =>
     rw [hp] at hc
     obtain ⟨k1,k2⟩:=T f p hp _ _ _ _ hc
     grind [nH]
   | none =>
     grind [Dt,nH]
open Classical in
noncomputable def res (C:lS) (F:m0) (Pr:mM) (f:Nat) (args:List AV):AV :=
 if H:∃ v,kC C F Pr false f args bV.empty v bV.empty then Classical.choose H else .undef
theorem kC.at (T:zb Pr) {f:Nat} {args:List AV} {v:AV} (h:bV) (hc:kC C F Pr false f args bV.empty v bV.empty):kC C F Pr false f args h v h:=by
 obtain ⟨m,hm⟩:=hc
 refine ⟨m,λk hk=>(Cp T k f args bV.empty v _ (hm k hk)).2 h ?_⟩
 intro b o hb
 have:bV.empty.get b=none:=by
  rfl
 grind
def T4 (T:zb Pr) {f:Nat} {args:List AV} {R:AV->Prop} (w:∀ h:bV,∃ v,kC C F Pr false f args h v h/\R v) {h:bV} {v:AV} (hc:kC C F Pr false f args h v h):res C F Pr f args=v:=by
 obtain ⟨v0,h0,_⟩:=w bV.empty
 have H:∃ v,kC C F Pr false f args bV.empty v bV.empty:=⟨v0,h0⟩
 have e:res C F Pr f args=Classical.choose H:=dif_pos H
 rw [e]
 exact ((Classical.choose_spec H).at T h).uu hc |>.1
def pa (T:zb Pr) {f:Nat} {args:List AV} {R:AV->Prop} (w:∀ h:bV,∃ v,kC C F Pr false f args h v h/\R v) (h:bV):∃ v,kC C F Pr false f args h v h/\R v/\res C F Pr f args=v:=by
 obtain ⟨v,hc,hR⟩:=w h
 exact ⟨v,hc,hR,T4 T w hc⟩
end
def zB:oW->oW
 | .exact _=>.oh
 | c=>c
mutual
def uQ:AV->AV
 | .sl xs c=>.sl (uH xs) (zB c)
 | .agg l=>.agg (uP l)
 | v=>v
def uP:List AV->List AV
 | []=>[]
 | v::l=>uQ v::uP l
def uH:List (List AV)->List (List AV)
 | []=>[]
 | x::l=>uP x::uH l
end
theorem xS:∀ (l:List AV) (i:Nat),(uP l)[i]?=(l[i]?).map uQ
 | [],i=>by rfl
 | v::l,0=>by rfl
 | v::l,i+1=>by simp [uP,xS l i]
theorem AI:∀ (l:List AV),(uP l).length=l.length
 | []=>rfl
 | v::l=>by simp [uP,AI l]
theorem FE:∀ (l:List (List AV)) (i:Nat),(uH l)[i]?=(l[i]?).map uP
 | [],i=>by rfl
 | v::l,0=>by rfl
 | v::l,i+1=>by simp [uH,FE l i]
theorem yC:∀ (l:List (List AV)),(uH l).length=l.length
 | []=>rfl
 | v::l=>by simp [uH,yC l]
theorem Ht {c:oW} {n m:Nat} (h:qm c n m) (hle:n<=m):qm (zB c) n m:=by
 cases c<;>first | exact h | exact hle
def PR.wk {w:World} {T:Bool->Nat->Prop} {m:Bool} {v:AV} {u:Value} (h:PR w T m v u):PR w T m (uQ v) u:=by
 induction h with
 | undef m v h=>exact .undef m v h
 | bool m b=>exact .bool m b
 | int m k n=>exact .int m k n
 | str m s b h=>exact .str m s b h
 | l3 m=>exact .l3 m
 | ip m cells off sn B base c e fr f hm hB hI hc h1 hr=>exact .ip m cells off sn B base c e fr f hm hB hI hc h1 hr
 | slnil m=>exact .slnil m
 | po m cap a c hm h=>exact .po m (zB cap) a c (by rw [show rz (zB cap)=rz cap from by cases cap<;>rfl]; exact hm) (Ht h (Nat.zero_le _))
 | sl m xs cap B base c e fr cap' esz f hm hB hI hcap hle hz hc h1 hr ih =>
   have hs:rz (zB cap)=rz cap:=by cases cap<;>rfl
   have ex:∀ (i:Nat) (cs:List AV),(uH xs)[i]?=some cs->∃ cs0,xs[i]?=some cs0/\cs=uP cs0:=by
    grind [FE]
   have ex2:∀ (cs0:List AV) (j:Nat) (x:AV),(uP cs0)[j]?=some x->∃ x0,cs0[j]?=some x0/\x=uQ x0:=by
    grind [xS]
   have key:=PR.sl (w:=w) (T:=T) m (uH xs) (zB cap) B base c e fr cap' esz f (by grind) hB (by grind) (by grind [yC,Ht]) (by grind [yC])
    (by grind [AI])
    (by grind)
    (by grind)
    (by grind)
   rw [yC] at key
   exact key
 | mC m=>exact .mC m
 | fm m es sn r ents clk hm hB hI hl hy hko hk hv=>exact .fm m es sn r ents clk hm hB hI hl hy hko hk hv
 | ny m=>exact .ny m
 | ly m g a c a' c' ha hc hra hrc=>exact .ly m g a c a' c' ha hc hra hrc
 | agg m l vs hl h1 hr ih =>
   refine .agg m (uP l) vs (by grind [AI]) h1 ?_
   grind [xS]
def Ro {v:AV} (h:v.mF=true):(uQ v).mF=true:=by
 cases v<;>first | exact h | (simp [AV.mF] at h)
def VR.wk {G:Ga} {v:AV} {u:Value} (h:VR G v u):VR G (uQ v) u:=by
 induction h with
 | undef v=>exact .undef v
 | lA hp h=>exact .lA (Ro hp) h.wk
 | ptr b g i o a hb hg h=>exact .ptr b g i o a hb hg h
 | hs b g off len a cap' hb hg hle h=>exact .hs b g off len a cap' hb hg hle h
 | hm b r hb h=>exact .hm b r hb h
 | la d o B hd=>exact .la d o B hd
 | ly g a c a' c' ha hc hna hnc hra hrc=>exact .ly g a c a' c' ha hc hna hnc hra hrc
 | agg l vs hl hn h1 hr ih =>
   refine .agg (uP l) vs (by grind [AI]) ?_ h1 ?_
   ·intro x hx
    obtain ⟨i,hi⟩:=List.getElem?_of_mem hx
    rw [xS] at hi
    obtain ⟨x0,g1,rfl⟩:=Option.map_eq_some_iff.mp hi
    have:=hn x0 (List.mem_of_getElem? g1)
    cases x0<;>first | exact this | rfl
   grind [xS]
 | kO l vs hl hr=>exact .kO l vs hl hr
open Classical in
noncomputable def ue (C:lS) (F:m0) (Pr:mM) (f:Nat) (shd:Bool) (args:List AV) (h:bV):Option (AV×bV):=match shd with
 | true=>none
 | false=>if H:∃ v,kC C F Pr false f args h v h then some (uQ (Classical.choose H),h) else none
theorem yx {C:lS} {F:m0} {Pr:mM} {f:Nat} {args:List AV} {h:bV} {v:AV} (hc:kC C F Pr false f args h v h):ue C F Pr f false args h=some (uQ v,h):=by
 have H:∃ v,kC C F Pr false f args h v h:=⟨v,hc⟩
 have e:ue C F Pr f false args h=some (uQ (Classical.choose H),h):=dif_pos H
 rw [e,((Classical.choose_spec H).uu hc).1]
def F3 {C:lS} {F:m0} {Pr:mM} (T:zb Pr) (f:Nat):∀ (args:List AV) (h:bV) (v:AV) (h':bV),ue C F Pr f false args h=some (v,h')->h'=h/\∀ h2:bV,(∀ b o,h.get b=some o->h2.get b=some o)->ue C F Pr f false args h2=some (v,h2):=by
 intro args h v h' hc
 by_cases H:∃ v,kC C F Pr false f args h v h
 ·obtain ⟨v0,hv0⟩:=H
  rw [yx hv0] at hc
  cases hc
  refine ⟨rfl,λh2 E=>?_⟩
  obtain ⟨m,hm⟩:=hv0
  have:kC C F Pr false f args h2 v0 h2:=⟨m,λk hk=>(Cp T k f args h v0 h (hm k hk)).2 h2 E⟩
  exact yx this
 grind [ue]
def LV (args0:List AV) (v0:AV):∀ (args:List AV) (h:bV) (v:AV) (h':bV),va args0 v0 false args h=some (v,h')->h'=h/\∀ h2:bV,(∀ b o,h.get b=some o->h2.get b=some o)->va args0 v0 false args h2=some (v,h2):=by
 grind [va]
def RG {P:Program} {C:lS} {F:m0} {Pr:mM} (T:tl P C F Pr):zb Pr:=λf p hp=>(T.D6 f p hp).G3
def GI {P:Program} {C:lS} {F:m0} {Pr:mM} (T:tl P C F Pr) (f:Nat):tD P f (ue C F Pr f) where
 call:=by
  intro shd args h v h' hc
  cases shd with
  | true=>cases hc
  | false =>
    by_cases H:∃ v,kC C F Pr false f args h v h
    ·obtain ⟨v0,hv0⟩:=H
     rw [yx hv0] at hc
     cases hc
     obtain ⟨m,hm⟩:=hv0
     have hk:=w4 T m false f args h v0 h (hm m (Nat.le_refl _))
     intro G args' e1 e2 e3 e4 e5 e6
     obtain ⟨k1,k2⟩:=hk G args' e1 e2 e3 e4 e5 e6
     exact ⟨k1,λR hR=>k2 R λu G' s1 s2 s3 s4=>hR u G' s1 s2 s3 λm L=>(s4 m L).wk⟩
    grind [ue]
 G3:=F3 (RG T) f
def LO {n:Nat} {h h':bV} {s v':AV} {ys:List (List AV)} (ha:append n h s ys=some (v',h')) (hs:s≠.sl [] .nil):v'≠.sl [] .nil:=by
 unfold append at ha
 split at ha
 ·grind
 ·split at ha
  ·cases ha
  ·split at ha<;>grind [tg,pc,Bw]
section
variable {C:lS} {F:m0} {Pr:mM} {fa:kp} {e:Env} {α:Type} {enc : α->List AV} {H:bV} {L:List lF} {i:Nat} {w tt:Bool} {v:AV} {n:Nat} {l:List α} {ls:mR}
def vV {cl:Call} {s x:Operand} {t u:Nat} {ti:TI} {d:Option Nat} (ys:List α) (hS:Sep H L) (hi:L[i]?=some (.sl w tt v n (l.map enc))) (hc:cl.callee=.builtin .append) (ha:cl.args.toList=[s,x]) (hts:cl.argTypes.toList=[t,u]) (hT:sM C [t,u]=some ti) (hSr:Fx C [t,u]=true) (hn:ti.size=n)
  (hs:kz e s=v) (hx:rM { H with cT:=ls } (kz e x)=some (ys.map enc)) (hok:∀ y,(enc y).all AV.mE=true) (ht:tt=true\/ys.length=1) (hm:l.length+ys.length<=tV) (henc:∀ x,(enc x).length=n) :
  ∃ v' H',(∀ call,lu (.call cl) ⟨C,fa,call⟩ e { H with cT:=ls } d=some (v',{ H' with cT:=ls }))/\Sep H' (L.set i (.sl w tt v' n ((l++ys).map enc)))/\(v≠.sl [] .nil->v'≠.sl [] .nil):=by
 obtain ⟨v',H',h1,h2⟩:=EU (ls:=ls) (ys:=ys.map enc) hS hi (by grind) (by grind) (by grind)
 refine ⟨v',H',λcall=>?_,by grind,LO h1⟩
 have hall:Aa (ys.map enc)=true:=by
  grind [Aa]
 simp only [lu,qC,p8,hc,ha,hts,nU,Bm,tK,List.map_cons,List.map_nil,hT,hSr,hn,hs,hx,hall,h1]
def vX (hS:Sep H L) (hi:L[i]?=some (.sl w tt v n (l.map enc))) (hl:l.length<=s9):∃ r:Row α,r.l=l/\(r.c=.nil↔v=.sl [] .nil)/\∀ ls m,(∀ x,kP (freeze false { H with cT:=ls } m) (enc x)=some (enc x))->freeze false { H with cT:=ls } (m+1) v=some (r.av enc):=by
 obtain ⟨hxl,⟨h0,rfl⟩ | ⟨_,rfl⟩ | ⟨b,g,j,hb,rfl,hg,htj⟩⟩:=hS.at hi
 ·have:l=[]:=List.map_eq_nil_iff.mp h0
  subst this
  exact ⟨⟨[],.nil,Nat.zero_le _,rfl,λ_=>rfl⟩,rfl,⟨λ_=>rfl,λ_=>rfl⟩,λ_ _ _=>rfl⟩
 ·exact ⟨⟨l,.exact (l.map enc).length,hl,rfl,λh=>by cases h⟩,rfl,⟨λh=>(by cases h),λh=>(AV.sl.inj h).2⟩,λ_ _ _=>rfl⟩
 ·refine ⟨⟨l,.oh,hl,rfl,λh=>by cases h⟩,rfl,⟨λh=>(by cases h),λh=>(by cases h)⟩,λls m hm=>?_⟩
  have h2:Nat.ble (0+(l.map enc).length) (l.map enc++j).length=true:=Nat.ble_eq.mpr (by simp)
  have h3:((l.map enc++j).drop 0).take (l.map enc).length=l.map enc:=by simp
  have h5:∀ ys:List (List AV),(∀ x∈ys,kP (freeze false { H with cT:=ls } m) x=some x)->pF (freeze false { H with cT:=ls } m) ys=some ys:=by
   intro ys
   induction ys<;>grind [pF]
  simp only [freeze,bV.mV,hg,Nat.beq_refl,h2,Bool.and_self,h3,h5 (l.map enc) (by grind),BN]
  rfl
end
def ka.Ay {α:Type} {r:ka α}:r.isNil=true↔r.c=.nil:=by
 grind [ka.isNil]
theorem w8.trans {α:Type} {a b c:Row α} (h:w8 a b) (g:w8 b c):w8 a c:=⟨h.1.trans g.1,h.2.trans g.2⟩
theorem ui.trans {a b c:lq} (h:ui a b) (g:ui b c):ui a c:=⟨h.1.trans g.1,h.2.trans g.2⟩
def Lq {l m:List lq} (h:∀ (i:Nat) (h:i<l.length) (h2:i<m.length),ui l[i] m[i]) {k:Nat} {x x':lq} (hk:k<l.length) (hq:l[k]=x) (hx:ui x' x) :
  ∀ (i:Nat) (h:i<(l.set k x').length) (h2:i<m.length),ui (l.set k x')[i] m[i]:=by
 intro i hi h2
 rw [List.getElem_set]
 split
 ·rename_i e
  subst e
  exact hx.trans (by grind)
 grind
def JY (r p:bY):Prop:=w8 r.elems p.elems/\w8 r.kB p.kB/\w8 r.signals p.signals/\(r.lines.c=.nil↔p.lines.c=.nil)/\r.lines.l.length=p.lines.l.length/\(∀ (i:Nat) (h:i<r.lines.l.length) (h2:i<p.lines.l.length),ui r.lines.l[i] p.lines.l[i])/\r.top=p.top/\r.lC=p.lC/\r.lN=p.lN/\r.lU=p.lU/\r.lZ=p.lZ
theorem LS {α:Type} {r s:Row α} (h:r.c=.nil↔s.c=.nil):zB r.c=CF s.c:=by
 have h1:=r.sn
 cases hr:r.c<;>cases hs:s.c<;>simp_all [zB,CF,rp]
theorem ES {α:Type} {enc : α->List AV} (h:∀ x : α,uP (enc x)=enc x):∀ l:List α,uH (l.map enc)=l.map enc
 | []=>rfl
 | x::l=>by simp only [List.map_cons,uH,h,ES h l]
theorem BG {α:Type} {enc : α->List AV} {r s:Row α} (h:w8 r s) (he:∀ x : α,uP (enc x)=enc x):uQ (r.av enc)=s.canon.av enc:=by
 simp only [Row.av,uQ,Row.canon,ES he,h.1,LS h.2]
theorem Bx:∀ {l m:List lq},l.length=m.length->(∀ (i:Nat) (h:i<l.length) (h2:i<m.length),ui l[i] m[i])->uH (l.map lq.af)=(m.map lq.canon).map lq.af
 | [],[],_,_=>rfl
 | [],_::_,h,_=>by simp at h
 | _::_,[],h,_=>by simp at h
 | x::l,y::m,hl,h=>by
   obtain ⟨h1,h2⟩:=h 0 (by simp) (by simp)
   simp only [List.getElem_cons_zero] at h1 h2
   have ih:=Bx (l:=l) (m:=m) (by simpa using hl) λi h3 h4=>by
    have:=h (i+1) (by simpa using h3) (by simpa using h4)
    simpa using this
   simp only [List.map_cons,uH,ih]
   congr 1
   simp only [lq.af,lq.canon,uP,BG h2 (enc:=kX) (λx=>rfl),h1]
   rfl
theorem HB {r p:bY} (h:JY r p):uQ (.agg r.af)=.agg p.canon.af:=by
 obtain ⟨h1,h2,h3,h4,h5,h6,h7,h8,h9,h10,h11⟩:=h
 have hl:uQ (r.lines.av lq.af)=(p.lines.yg lq.canon).canon.av lq.af:=by
  simp only [Row.av,uQ,Bx h5 h6,Row.canon,Row.yg,LS h4]
 simp only [bY.af,uQ,uP,bY.canon,BG h1 (enc:=my.af) (λx=>rfl),BG h2 (enc:=mr.af) (λx=>rfl),BG h3 (enc:=lY.af) (λx=>rfl),hl,h7,h8,h9,h10,h11]
def Ig {C:lS} {F:m0} {Pr Pr2:mM} {f:Nat} {args:List AV} {h:bV} {v:AV} (hp:Pr2 f=some (ue C F Pr f)) (hc:kC C F Pr false f args h v h):kC C F Pr2 false f args h (uQ v) h:=by
 refine ⟨1,λk hk=>?_⟩
 cases k<;>grind [nH,yx]
section
variable {amb:Bool} {A:Int->Option j7} {N:j7->Option j7} {K:Int->Int} {R:j7->Int} {d:dO} {run leg:Int}
def Lc (hz:0<=oQ amb A N K R d run leg):0<=run/\run<(d.runs.l.length:Int)/\0<=leg/\∀ h:run.toNat<d.runs.l.length,leg<((d.runs.l[run.toNat]).kr.l.length:Int):=by
 by_cases h0:run<0\/run>=d.runs.l.length
 ·grind [rb,u3]
 ·have hx:run.toNat<d.runs.l.length:=by omega
  by_cases h1:leg<0\/leg > (d.runs.l[run.toNat]).kr.l.length<;>grind [rb,u6,oQ]
def Jp {r:Int} (h:r=oQ amb A N K R d run leg):(0<=r->0<=run/\run<(d.runs.l.length:Int)/\0<=leg/\∀ h:run.toNat<d.runs.l.length,leg<((d.runs.l[run.toNat]).kr.l.length:Int))/\r=oQ amb A N K R d run leg:=⟨λhz=>Lc (h▸hz),h⟩
end
def p7 (p:bY) (t:List j7):List Int:=(t.filter λh=>lR p h.elem≠4).map (·.elem)
theorem Hw {α β:Type} {l:List α} {k:Nat} {x : α} (hk:k<l.length) (hq:l[k]=x) (p : α->Bool) (f : α->β):((l.take (k+1)).filter p).map f=((l.take k).filter p).map f++if p x then [f x] else []:=by
 rw [List.take_add_one,List.getElem?_eq_getElem hk,hq]
 grind
def M4 {p:bY} {t:List j7} {l:List Int} {k:Nat} {x:j7} {n:Int} (hk:k<t.length) (hq:t[k]=x) (h:l=p7 p (t.take k)) (hK:n=lR p x.elem) (hn:n≠4):l++[x.elem]=p7 p (t.take (k+1)):=by
 subst hK
 unfold p7 at h ⊢
 rw [Hw hk hq,<- h,if_pos (by grind)]
def RF {p:bY} {t:List j7} {l:List Int} {k:Nat} {x:j7} {n:Int} (hk:k<t.length) (hq:t[k]=x) (h:l=p7 p (t.take k)) (hK:n=lR p x.elem) (hn:¬ n≠4):l=p7 p (t.take (k+1)):=by
 subst hK
 unfold p7 at h ⊢
 rw [Hw hk hq,<- h,if_neg (by grind),List.append_nil]
def Nv (p:bY) (t:List j7):(p7 p t).length<=t.length:=by
 grind [p7]
def TG {X:Ctx} {e:Env} {h:bV} {d:Option Nat} {s t:Nat} {x:Operand} {ti ti2:TI} {n:Int} (hx:kz e x=.int .i64 n) (hS:X.C.T s=some ti) (hT:X.C.T t=some ti2) (hk:ti2.kind=.int .u64) (h0:0<=n) (h1:n<=9223372036854775807):lu (.convert s t x) X e h d=some (.int .u64 n,h):=by
 have hw:sL .u64 n=n:=by
  rw [rO]
  show (if (false&&decide (n % (2 ^ 64:Int)>=(2 ^ 63:Int)))=true then n % (2 ^ 64:Int) - (2 ^ 64:Int) else n % (2 ^ 64:Int))=n
  grind
 simp_all [lu,yE,vP,AV.int?,tZ,pU,mD]
def Ej {l:List kS} {k:Nat} {x:kS} {hk:k<l.length} (hq:l[k]=x) (h:∀ (i j:Nat) (h:j<l.length) (hij:i<j),j<k->(l[i]).name.l≠(l[j]).name.l) (hx:∀ y∈l.take k,¬ y.name.l=x.name.l) :
  ∀ (i j:Nat) (h:j<l.length) (hij:i<j),j<k+1->(l[i]).name.l≠(l[j]).name.l:=by
 intro i j hj hij h2
 rcases Nat.lt_succ_iff_lt_or_eq.mp h2 with h3 | h3
 ·grind
 ·subst h3
  rw [hq]
  exact hx _ (List.mem_take_iff_getElem.mpr ⟨i,by omega,rfl⟩)
def m6 {α:Type} {P : α->Prop} {l:List α} {k:Nat} (h:∀ (i:Nat) (h:i<l.length),i<k->P (l[i])) (hk:l.length<=k):∀ x∈l,P x:=by
 intro x hx
 obtain ⟨i,hi,rfl⟩:=List.mem_iff_getElem.mp hx
 grind
def nC (p:bY) (d:dO) (i:Nat):mA:=match d.runs.l[i]? with
 | none=>⟨⟨[],by decide⟩,0,⟨0,0⟩,0⟩
 | some r =>
   let a:=(pe p.signals.l r.from_).getD ⟨0,0⟩
   ⟨r.name,r.ko,a,if lR p a.elem=4 then 0 else r.left⟩
def K9 {p:bY} {d:dO} {i:Int} {r:kS} {a:j7} {m:Int} (hi:i.toNat<d.runs.l.length) (hq:d.runs.l[i.toNat]=r) (ha:a=(pe p.signals.l r.from_).getD ⟨0,0⟩) (hm:m=if lR p a.elem=4 then 0 else r.left):(⟨r.name,r.ko,a,m⟩:mA)=nC p d i.toNat:=by
 grind [nC]
structure Tk (L:Nat->List Int) (k:Nat) (m:List (Int×Bool)) (e:Int):Prop where
 look:∀ i,i<k->∀ x∈L i,look x m=some true
 val:∀ y∈m,y.2=true
 Ds:e=0->∀ i j,i<j->j<k->∀ x∈L i,x∉L j
structure vJ (L:Nat->List Int) (k:Nat) (r:List Int) (m:List (Int×Bool)) (e:Int):Prop where
 tk:Tk L k m e
 I9:∀ x∈r,Go.Sx.look x m=some true
 Tz:e=0->∀ i,i<k->∀ x∈L i,x∉r
def Tk.zero (L:Nat->List Int):Tk L 0 [] 0:=⟨λi h=>by omega,by simp,λ_ i j h1 h2=>by omega⟩
def Tk.start {L:Nat->List Int} {k:Nat} {m:List (Int×Bool)} {e:Int} (h:Tk L k m e) (r:List Int):vJ L k (r.take 0) m e:=⟨h,by simp,λ_ _ _ _ _=>by simp⟩
theorem pf {α:Type} {r:List α} {j:Nat} {x : α} (hj:j<r.length) (hq:r[j]=x):r.take (j+1)=r.take j++[x]:=by
 rw [List.take_add_one,List.getElem?_eq_getElem hj,hq]; rfl
def um {m:List (Int×Bool)} {x y:Int} (h:look y m=some true):look y (put x true m)=some true:=by
 grind [nQ]
def vJ.KY {L:Nat->List Int} {k:Nat} {r:List Int} {m:List (Int×Bool)} {e e':Int} {j:Nat} {x:Int} (h:vJ L k (r.take j) m e) (hj:j<r.length) (hq:r[j]=x) (he:e'≠0):vJ L k (r.take (j+1)) (put x true m) e':=by
 refine ⟨⟨λi hi y hy=>um (h.tk.look i hi y hy),sW (P:=λy:Bool=>y=true) h.tk.val rfl,λh0=>absurd h0 he⟩,?_,λh0=>absurd h0 he⟩
 rw [pf hj hq]
 intro y hy
 rcases List.mem_append.mp hy with hy | hy
 ·exact um (h.I9 y hy)
 grind [nQ]
def vJ.Ow {L:Nat->List Int} {k:Nat} {r:List Int} {m:List (Int×Bool)} {e:Int} {j:Nat} {x:Int} (h:vJ L k (r.take j) m e) (hj:j<r.length) (hq:r[j]=x) (hn:look x m=none):vJ L k (r.take (j+1)) (put x true m) e:=by
 refine ⟨⟨λi hi y hy=>um (h.tk.look i hi y hy),sW (P:=λy:Bool=>y=true) h.tk.val rfl,h.tk.Ds⟩,?_,?_⟩
 ·rw [pf hj hq]
  intro y hy
  rcases List.mem_append.mp hy with hy | hy
  ·exact um (h.I9 y hy)
  grind [nQ]
 ·intro h0 i hi y hy hm
  rw [pf hj hq] at hm
  rcases List.mem_append.mp hm with hm | hm
  ·exact h.Tz h0 i hi y hy hm
  ·simp at hm; subst hm
   rw [h.tk.look i hi y hy] at hn; cases hn
def vJ.done {L:Nat->List Int} {k:Nat} {r:List Int} {m:List (Int×Bool)} {e:Int} {j:Nat} (h:vJ L k (r.take j) m e) (hj:r.length<=j) (hr:r=L k):Tk L (k+1) m e:=by
 rw [List.take_of_length_le hj,hr] at h
 refine ⟨λi hi x hx=>?_,h.tk.val,λh0 i j2 hij hj2 x hx=>?_⟩
 ·rcases Nat.lt_succ_iff_lt_or_eq.mp hi with h1 | h1
  ·exact h.tk.look i h1 x hx
  ·subst h1; exact h.I9 x hx
 ·rcases Nat.lt_succ_iff_lt_or_eq.mp hj2 with h1 | h1
  ·exact h.tk.Ds h0 i j2 hij h1 x hx
  ·subst h1; exact h.Tz h0 i hij x hx
def vR (d:dO) (i:Nat):Int:=match d.runs.l[i]? with
 | none=>0
 | some r=>match d.ko.l[r.ko.toNat]? with
   | none=>0
   | some s=>s.len
def AD {d:dO} {k:Nat} {x:kS} {y:kR} (hk:k<d.runs.l.length) (hq:d.runs.l[k]=x) (hs:x.ko.toNat<d.ko.l.length) (hqs:d.ko.l[x.ko.toNat]=y):y.len=vR d k:=by
 grind [vR]
def xj {Q:Nat->Prop} {k:Nat} (h:∀ i,i<k->Q i) (hk:Q k):∀ i,i<k+1->Q i:=by
 grind
def stQ {f:List AV->AV} {n:AV} {p:bY} {d:dO} {k:Nat} {len e:Int} {t:mA} {b:nh} (hs:f [n,.int .i64 len,.agg t.af]=.kO [.agg b.af,.int .i64 e]) (hl:len=vR d k) (ht:t=nC p d k) (he:¬ e≠0):∃ b:nh,f [n,.int .i64 (vR d k),.agg (nC p d k).af]=.kO [.agg b.af,.int .i64 0]:=by
 grind
structure D1 where
 state:Int
 front:Int
 off:Bool
 seen:Row Bool
def D1.af (x:D1):List AV:=[.int .i64 x.state,.int .i64 x.front,.bool x.off,x.seen.av rE]
def Sep.CP {H:bV} {L:List lF} {n k:Nat} {α:Type} {enc : α->List AV} {z : α} {w t:Bool} {v:AV} {c:List AV} (h:Sep H (.sl w t v n (List.replicate k c)::L)) (hz:c=enc z):Sep H (.sl w t v n (List.map enc (List.replicate k z))::L):=by
 simp_all
def Q3 (cs:List AV):Prop:=∀ c∈cs,∀ (hp:bV) (n:Nat),freeze false hp (n+2) c=some c
def Zp:AV->Bool
 | .int _ _ | .bool _ | .ip _ _ false=>true
 | _=>false
def Q3.of {cs:List AV} (h:cs.all Zp=true):Q3 cs:=by
 intro c hc hp n
 have:=List.all_eq_true.mp h c hc
 unfold Zp at this
 grind [freeze]
def LT (tr:List mA) (p:bY) (i:Nat):List Int:=match tr[i]? with
 | none=>[]
 | some t=>p7 p [t.at_]
def Mt (L:Nat->List Int) (k:Nat) (r:List Int) (m:List Bool):Prop:=∀ (x:Nat) (h:x<m.length),m[x]=true->(∃ i,i<k/\(x:Int)∈L i)\/(x:Int)∈r
def Mt.zero (L:Nat->List Int) (n:Nat):Mt L 0 [] (List.replicate n false):=by
 intro x h hx
 simp at hx
theorem Mt.set {L:Nat->List Int} {k j:Nat} {r:List Int} {m:List Bool} {x:Int} (h:Mt L k (r.take j) m) (hj:j<r.length) (hq:r[j]=x) (h0:0<=x):Mt L k (r.take (j+1)) (m.set x.toNat true):=by
 intro y hy ht
 rw [List.getElem_set] at ht
 rw [pf hj hq]
 split at ht
 ·grind
 ·rcases h y (by simpa using hy) ht with h1 | h1<;>grind
def Mt.done {L:Nat->List Int} {k j:Nat} {r:List Int} {m:List Bool} (h:Mt L k (r.take j) m) (hj:r.length<=j) (hr:r=L k):Mt L (k+1) [] m:=by
 intro y hy ht
 rw [List.take_of_length_le hj] at h
 rcases h y hy ht with ⟨i,hi,h1⟩ | h1<;>grind
def Cx (tr:List mA) (ks sl:List kR) (k:Nat):Prop:=sl.length=k/\∀ (i:Nat) (x:mA) (y:kR),tr[i]?=some x->sl[i]?=some y->ks[x.ko.toNat]?=some y
def Cx.zero (tr:List mA) (ks:List kR):Cx tr ks [] 0:=⟨rfl,λi x y _ h=>by simp at h⟩
def Cx.snoc {tr:List mA} {ks sl:List kR} {k:Nat} {x:mA} {y:kR} (h:Cx tr ks sl k) {hk:k<tr.length} (hq:tr[k]=x) {hs:x.ko.toNat<ks.length} (hy:ks[x.ko.toNat]=y):Cx tr ks (sl++[y]) (k+1):=by
 refine ⟨by simp [h.1],λi a b ha hb=>?_⟩
 rcases Nat.lt_or_ge i sl.length with h3 | h3
 ·rw [List.getElem?_append_left h3] at hb; exact h.2 i a b ha hb
 ·have hi:i=k:=by
   have:=(List.getElem?_eq_some_iff.mp hb).1
   simp at this; have:=h.1; omega
  grind
end Go.Sx
set_option maxHeartbeats 0
namespace Go.Sx
open Go
def ka.take {α:Type} (r:ka α) (k:Nat):ka α:=⟨r.l.take k,r.c,by have:=r.ok; rw [List.length_take]; omega,λh=>by rw [r.nl h]; simp⟩
structure lL where
 free:Row Int
 end_:Int
def lL.af (x:lL):List AV:=[x.free.av kX,.int .i64 x.end_]
structure kn where
 at_:Row Int
 kr:Row lL
def kn.af (x:kn):List AV:=[x.at_.av kX,x.kr.av lL.af]
theorem vj (k:IntKind) (n:Int):fI n (pU k)=some (.int k n):=by simp [tZ,pU]
def T8 (k:IntKind) (x y:Int):∃ z,mw .and k x y=some (.int k z):=⟨_,vj k _⟩
def I2 (k:IntKind) (x y:Int):∃ z,mw .or k x y=some (.int k z):=⟨_,vj k _⟩
def T2 {k:IntKind} {x y:Int} (h:0<=y):∃ z,mw .shl k x y=some (.int k z):=by
 refine ⟨sL k (x*2 ^ (min y.toNat k.bits)),?_⟩
 simp only [mw,Kx,if_neg (Int.not_lt.mpr h)]
 exact vj k _
def Tf {e:Env} {h:bV} {t u:Nat} {x y:Operand} {k k':IntKind} {a b:Int} {c:BinOp} {X:Ctx} {d:Option Nat} {v:AV} (hx:kz e x=.int k a) (hy:kz e y=.int k' b) (hk:tU c=true) (hv:mw c k a b=some v):lu (.binOp c t x y u) X e h d=some (v,h):=by
 simp_all [lu,zL,binOp,AV.int?,Cf,mD]
def Ol {α:Type} {enc : α->List AV} {e:Env} {h:bV} {X:Ctx} {d:Option Nat} {t el:Nat} {x y:Operand} {ti te:TI} {r:ka α} {k:IntKind} {n:Int} (hT:X.C.T t=some ti) (hk:ti.kind=.slice el) (hE:X.C.T el=some te) (hx:kz e x=r.av enc) (hi:kz e y=.int k n) (h0:0<=n)
  (hn:n.toNat<r.l.length) (hl:(enc r.l[n.toNat]).length=te.size):lu (.indexAddr t x y) X e h d=some (.ip (enc r.l[n.toNat]) 0 (rp r.c),h):=by
 have:n=(n.toNat:Int):=by omega
 rw [this] at hi
 exact m8 hT hk hE hx hi hn hl
def yS {κ β:Type} [DecidableEq κ] {ek : κ->AV} {ev : β->AV} (hk:∀ a b,ni (ek a) (ek b)=some (decide (a=b))) (k : κ):∀ (l:List (κ×β)) (es:List (AV×AV×Nat)),oc es=lP ek ev l->∀ (i j:Nat) (x:AV),findKey (ek k) es i=some (some (j,x))->i<=j/\∃ y,l[j - i]?=some (k,y)
 | [],[],_,i,j,x,h=>by simp [findKey] at h
 | [],_::_,he,_,_,_,_=>by simp [oc,lP] at he
 | _::_,[],he,_,_,_,_=>by simp [oc,lP] at he
 | p::l,e::es,he,i,j,x,h=>by
   obtain ⟨k',v,c⟩:=e
   simp only [oc,lP,List.map_cons,List.cons.injEq] at he
   have h1:k'=ek p.1:=by have:=congrArg Prod.fst he.1; simpa [D3] using this
   unfold findKey at h
   split at h
   ·rename_i hq
    cases h
    rw [h1,hk] at hq
    have:k=p.1\/p.1=k:=by simp at hq; first | exact .inl hq | exact .inr hq
    have e2:p.1=k:=by rcases this with h | h<;>simp [h]
    exact ⟨Nat.le_refl _,p.2,by simp [<- e2]⟩
   ·obtain ⟨h2,y,h3⟩:=yS hk k l es he.2 (i+1) j x h
    refine ⟨by omega,y,?_⟩
    rw [show j - i=(j - (i+1))+1 by omega,List.getElem?_cons_succ]
    exact h3
   ·cases h
def FN {κ β:Type} [DecidableEq κ] (key : κ) (l l':List (κ×β)):Prop:=(look key l=none/\l'=l)\/∃ j y,l[j]?=some (key,y)/\l'=l.eraseIdx j
def wq.erase {es:List (AV×AV×Nat)} {c:Nat} (h:wq es c) (i:Nat):wq (es.eraseIdx i) c :=
 ⟨λx hx=>h.1 x ((List.eraseIdx_sublist es i).mem hx),h.2.sublist (List.eraseIdx_sublist es i)⟩
theorem wD {α β:Type} (f : α->β):∀ (l:List α) (j:Nat),(l.eraseIdx j).map f=(l.map f).eraseIdx j
 | [],_=>rfl
 | _::_,0=>rfl
 | _::l,j+1=>congrArg (_::·) (wD f l j)
section
variable {C:lS} {fa:kp} {e:Env} {H:bV} {L:List lF} {ls:mR} {i n:Nat} {v:AV} {w tt:Bool}
def R9 {κ β:Type} [DecidableEq κ] {ek : κ->AV} {ev : β->AV} {cl:Call} {t u:Nat} {m k:Operand} {d:Option Nat} {l:List (κ×β)} (key : κ) (hS:Sep H L) (hi:L[i]?=some (.map v (lP ek ev l))) (hc:cl.callee=.builtin .delete) (ha:cl.args.toList=[m,k]) (hts:cl.argTypes.toList=[t,u]) (hm:kz e m=v) (hk:kz e k=ek key) (hK:mapKey C t (ek key)=true) (hke:∀ a b,ni (ek a) (ek b)=some (decide (a=b))) :
  ∃ w H',(∀ call,lu (.call cl) ⟨C,fa,call⟩ e { H with cT:=ls } d=some (w,{ H' with cT:=ls }))/\w=.kO []/\∃ l':List (κ×β),(l'.Sublist l/\FN key l l')/\Sep H' (L.set i (.map v (lP ek ev l'))):=by
 obtain ⟨b,es,c,hb,rfl,hg,he,hst⟩:=hS.at hi
 obtain ⟨f1,f2,f3⟩:=uh (ek:=ek) (ev:=ev) hke key l es he 0
 have fin:∀ es' (l':List (κ×β)),(l'.Sublist l/\FN key l l')->xt (ek key) es=some es'->oc es'=lP ek ev l'->wq es' c->∃ w H',(∀ call,lu (.call cl) ⟨C,fa,call⟩ e { H with cT:=ls } d=some (w,{ H' with cT:=ls }))/\w=.kO []/\∃ l':List (κ×β),(l'.Sublist l/\FN key l l')/\Sep H' (L.set i (.map (.hm b) (lP ek ev l'))):=by
  intro es' l' hsub hd hun hst'
  refine ⟨.kO [],H.set b (.map es' c),λcall=>?_,rfl,l',hsub,?_⟩
  ·simp only [lu,qC,p8,hc,ha,hts,nU,El,ve,List.map_cons,List.map_nil,hm,hk,xP,hK,bV.mV,bV.qy,hg,hd]
  ·refine hS.ou hi (by simpa using hS.lo) (by simp) ⟨b,es',c,by simp_all,rfl,?_,hun,hst'⟩ ?_ ?_
   ·grind [bV.nv,bV.pq]
   ·intro b' hb' hne
    rw [bV.nv,if_neg (by rintro ⟨rfl,_⟩; exact hne rfl)]
   ·intro b' hb'; exact .inl hb'
 cases hl:look key l with
 | none=>exact fin es l ⟨List.Sublist.refl _,.inl ⟨hl,rfl⟩⟩ (by simp only [xt,f1 hl]) he hst
 | some x0 =>
   obtain ⟨j,hj,hjl,hjm⟩:=f2 x0 hl
   refine fin (es.eraseIdx j) (l.eraseIdx j) ⟨List.eraseIdx_sublist l j,.inr ⟨j,by obtain ⟨_,y,hy⟩:=yS hke key l es he 0 (0+j) _ hj; exact ⟨y,by simpa using hy,rfl⟩⟩⟩ (by simp only [xt,hj,Nat.zero_add]) ?_ (hst.erase j)
   unfold oc lP at he ⊢
   rw [wD,he,wD]
def T9 (v:AV) (k m:Nat) (v2:AV):Prop:=∃ b g,v=.hs b g 0 m/\v2=.hs b g k (m - k)
def NX {t el k:Nat} {x y:Operand} {ti te:TI} {kd:IntKind} {d:Option Nat} {xs:List (List AV)} (hS:Sep H L) (hi:L[i]?=some (.sl true tt v n xs)) (hT:C.T t=some ti) (hk:ti.kind=.slice el) (hE:C.T el=some te) (hn:te.size=n) (hx:kz e x=v) (hy:kz e y=.int kd (k:Int)) (hkl:k<xs.length) :
  ∃ v',(∀ call,lu (.slice t x (some y) none none) ⟨C,fa,call⟩ e { H with cT:=ls } d=some (v',{ H with cT:=ls }))/\T9 v k xs.length v':=by
 obtain ⟨hxl,⟨h0,rfl⟩ | ⟨h0 | h0,rfl⟩ | ⟨b,g,j,hb,rfl,hg,htj⟩⟩:=hS.at hi
 ·subst h0; simp at hkl
 ·cases h0
 ·subst h0; simp at hkl
 ·have hai:qD (.int kd (k:Int))=some k:=rfl
  have h0:Nat.ble k xs.length=true:=Nat.ble_eq.mpr (by omega)
  have h1:Nat.ble xs.length (xs++j).length=true:=Nat.ble_eq.mpr (by simp)
  have h2:Nat.ble 0 (xs++j).length=true:=Nat.ble_eq.mpr (by simp)
  refine ⟨.hs b g k (xs.length - k),λcall=>?_,b,g,rfl,rfl⟩
  simp only [lu,rm,qR,hT,hk,hE,hx,hy,slice,C4,bV.mV,hg,hn,Nat.beq_refl,Bool.and_self,pt,bound,hai,rF,Option.getD_none,h0,h1,h2,Bool.and_true,Bool.true_and,B4,pc,mD,Nat.zero_add]
def RL {α:Type} {enc : α->List AV} {cl:Call} {t k:Nat} {y:Operand} {ti:TI} {d:Option Nat} {l:List α} {z : α} {v':AV} (hS:Sep H L) (hi:L[i]?=some (.sl true tt v n (l.map enc))) (ht:T9 v k (l.map enc).length v') (hc:cl.callee=.builtin .clear) (ha:cl.args.toList=[y]) (hts:cl.argTypes.toList=[t]) (hT:sM C [t]=some ti) (hn:ti.size=n) (hy:kz e y=v') (hz:enc z=ti.zero) (hzl:(enc z).length=n) (hkl:k<l.length) :
  ∃ w H',(∀ call,lu (.call cl) ⟨C,fa,call⟩ e { H with cT:=ls } d=some (w,{ H' with cT:=ls }))/\w=.kO []/\Sep H' (L.set i (.sl true tt v n ((l.take k++List.replicate (l.length - k) z).map enc))):=by
 obtain ⟨b0,g0,rfl,rfl⟩:=ht
 obtain ⟨hxl,⟨h0,h9⟩ | ⟨h0,h9⟩ | ⟨b,g,j,hb,h9,hg,htj⟩⟩:=hS.at hi
 ·cases h9
 ·cases h9
 ·cases h9
  simp only [List.length_map] at hy ⊢
  have hlen:k+(l.length - k)=l.length:=by omega
  have h1:Nat.ble (k+(l.length - k)) (l.map enc++j).length=true:=Nat.ble_eq.mpr (by simp; omega)
  have ho:overwrite (l.map enc++j) k (List.replicate (l.length - k) (enc z))=(l.take k++List.replicate (l.length - k) z).map enc++j:=by
   unfold overwrite
   rw [List.length_replicate,hlen,List.take_append_of_le_length (by simp; omega),List.map_append,List.map_take,List.map_replicate]
   congr 1
   rw [List.drop_append_of_le_length (by simp),List.drop_of_length_le (by simp),List.nil_append]
  refine ⟨.kO [],H.set b0 (.lM g0 n ((l.take k++List.replicate (l.length - k) z).map enc++j)),λcall=>?_,rfl,?_⟩
  ·simp only [lu,qC,p8,hc,ha,hts,nU,GR,xV,List.map_cons,List.map_nil,hT,hn,hy,E6,bV.mV,hg,Nat.beq_refl,h1,Bool.and_self,<- hz,ho,bV.qy]
  ·refine hS.ou hi (by simpa using hS.lo) (by simp) ⟨?_,.inr (.inr ⟨b0,g0,j,by simp_all,by simp; omega,?_,htj⟩)⟩ ?_ ?_
   ·intro x hx
    obtain ⟨y',hy',rfl⟩:=List.mem_map.mp hx
    rcases List.mem_append.mp hy' with h | h
    ·exact hxl _ (List.mem_map_of_mem (List.mem_of_mem_take h))
    ·rw [(List.mem_replicate.mp h).2]; exact hzl
   ·grind [bV.nv,bV.pq]
   ·intro b' hb' hne
    rw [bV.nv,if_neg (by rintro ⟨rfl,_⟩; exact hne rfl)]
   ·intro b' hb'; exact .inl hb'
end
section
variable {H:bV} {L:List lF} {i:Nat} {v:AV} {tt:Bool} {n:Nat} {α:Type} {enc : α->List AV} {l:List α}
end
def FR:∀ {l:List (Int×Bool)},(∀ x∈l,oM x.1)->tY (lP iK bK l)=some (l.map Prod.fst)
 | [],_=>rfl
 | x::l,h=>by
   have h1:=h x (by simp)
   have h2:=FR (l:=l) λy hy=>h y (List.mem_cons_of_mem _ hy)
   simp only [oM] at h1
   simp only [lP,List.map_cons,tY,HG,iK,h1,and_self,if_true] at h2 ⊢
   rw [h2]
theorem Hn:∀ {l:List Int},l.Nodup->yD l=true
 | [],_=>rfl
 | x::l,h=>by
   rw [List.nodup_cons] at h
   simp [yD,h.1,Hn h.2]
def NH {C:lS} {F0:m0} {Pr:mM} {f:Nat} (hp:Pr f=some px) {H:bV} {bm:Nat} {l:List (Int×Bool)} {F:List lF} (hS:Sep H (.map (.hm bm) (lP iK bK l)::F)) (q1:nc l) (q2:l.length<=1000000) (q3:∀ x∈l,oM x.1) :
  ∃ v H',kC C F0 Pr true f [.hm bm] { H with cT:=[] } v H'/\∃ lo:List Int,lo=mv (l.map Prod.fst)/\Sep H' (.sl true true v 1 (lo.map kX)::.map (.hm bm) (lP iK bK l)::F):=by
 obtain ⟨b,es,c,hb,hv,hg,he,hst⟩:=hS.at (i:=0) rfl
 cases hv
 have hk:tY (es.map D3)=some (l.map Prod.fst):=by
  have:es.map D3=oc es:=rfl
  rw [this,he]; exact FR q3
 have hn:(yD (l.map Prod.fst)&&Nat.ble (l.map Prod.fst).length 1000000)=true:=by
  rw [Hn q1,Bool.true_and,Nat.ble_eq]; simpa using q2
 have hlen:(mv (l.map Prod.fst)).length=l.length:=by rw [(qz _).length_eq,List.length_map]
 have hr:px true [.hm bm] { H with cT:=[] }=some (ua true (mv (l.map Prod.fst)) { H with cT:=[] }):=by
  simp only [px,bV.mV,hg,ry,hk,hn]
 have hlo:=hS.lo
 have hcall:∀ (v:AV) (H':bV),ua true (mv (l.map Prod.fst)) { H with cT:=[] }=(v,{ H' with cT:=[] })->kC C F0 Pr true f [.hm bm] { H with cT:=[] } v { H' with cT:=[] }:=by
  intro v H' h
  refine ⟨1,λk hk=>?_⟩
  cases k with
  | zero=>omega
  | succ k=>simp only [nH,hp]; rw [hr,h]
 cases hq:mv (l.map Prod.fst) with
 | nil =>
   rw [hq] at hlen
   refine ⟨.sl [] .nil,{ H with cT:=[] },hcall _ H (by rw [hq]; rfl),[],rfl,?_⟩
   exact (hS.m3 1).cT _
 | cons x t =>
   rw [hq] at hlen
   refine ⟨.hs H.size 0 0 (t.length+1),{ H.push (.lM 0 1 ((x::t).map kX)) with cT:=[] },hcall _ _ (by rw [hq]; simp only [ua,bV.uz]; rfl),x::t,rfl,Sep.cT ?_ _⟩
   refine hS.new (by simp; omega) (by simp) ⟨by intro y hy; obtain ⟨z,_,rfl⟩:=List.mem_map.mp hy; rfl,.inr (.inr ⟨H.size,0,[],by simp,by simp,?_,λ_=>rfl⟩)⟩ ?_ ?_
   ·rw [bV.pH _ _ _ hlo]; simp
   ·intro b hb; rw [bV.pH _ _ _ hlo,if_neg (by omega)]
   ·intro b hb; simp [nb,lF.v] at hb; omega
def RQ {l:List Bool} {i k:Nat} (h:l.count true=k) {hi:i<l.length} (hq:l[i]=false):(l.set i true).count true=k+1:=by
 subst h
 rw [List.count_set (h:=hi)]
 simp [hq]
def Up {l:List Bool} {r:Int} {k:Nat} (h:r<0->∀ x∈l,x=true) (hc:l.count true=k) (hk:k<l.length):0<=r:=by
 by_cases hr:r<0
 ·have:=List.count_eq_length.mpr λx hx=>(h hr x hx).symm
  omega
 ·omega
end Go.Sx
