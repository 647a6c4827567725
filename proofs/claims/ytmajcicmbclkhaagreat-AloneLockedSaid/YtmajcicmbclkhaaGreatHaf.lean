/- Proves rules for the walks and their soundness. -/
import GoSem.ClaimChange
import Derived.Shelf.SlIterI.Nil
import Derived.Shelf.SortM.Plain
import Derived.Shelf.SortM.SortNone
import Derived.Lib.RowBridge
import Derived.Shelf.SlSortCmp.NoneTotal
import Derived.Test.YtmajcicmbclkhaaGreatHae
set_option linter.all false
namespace Go.Sx
open Go
def ky (n:Int):Prop:=-9223372036854775808<=n/\n<=9223372036854775807
def z8 (n:Int):Prop:=0<=n/\n<40
theorem z8.ky {n:Int} (h:z8 n):ky n:=⟨by have:=h.1; omega,by have:=h.2; omega⟩
def VE (p:bY) (e:Int):Prop:=0<=e/\e<(p.elems.l.length:Int)
def kp (p:bY) (e:Int):Int:=if e<0 then 0 else match p.elems.l[e.toNat]? with
 | some x=>x.kind
 | none=>0
def xC (k:Int):Int:=if k=1 then 2 else if k=2 then 3 else if k=3 then 4 else if k=4 then 1 else 0
def uT (p:bY) (x:eU):Prop:=VE p x.elem/\0<=x.en/\x.en<xC (kp p x.elem)
def JV (p:bY):Prop:=∀ j∈p.fj.l,uT p j.a/\uT p j.b
def pc (p:bY) (x:eU):Prop:=z8 x.elem/\uT p x
def Dw (p:bY) (x:bm):Prop:=VE p x.elem/\1<=x.pos/\x.pos<=2
def nq (n:Int):Prop:=0<=n/\n<=2
def VL (p:bY) (e:Int):Prop:=VE p e/\kp p e=1
def Jr (p:bY):Prop:=(∀ x∈p.lines.l,∀ e∈x.elems.l,VL p e)/\∀ (i j:Nat) (h:j<p.lines.l.length) (hij:i<j),∀ e∈(p.lines.l[i]).elems.l,e∉(p.lines.l[j]).elems.l
def MF (p:bY):Prop:=∀ e∈p.elems.l,(1<=e.kind/\e.kind<=4)/\(e.kind=4->e.len=0)
structure IQ (p:bY):Prop where
 jv:JV p
 ln:Jr p
 kd:MF p
 ne:0<p.elems.l.length
 lr:∀ e∈p.elems.l,¬ e.kind=4->1<=e.len/\e.len<=4000
def JG (p:bY):Prop:=(∀ j∈p.fj.l,ky j.a.elem/\ky j.b.elem)/\∀ x∈p.lines.l,∀ z∈x.elems.l,ky z
def j1 (p:bY):Prop:=p.elems.l.length<=60/\p.fj.l.length<=120/\p.signals.l.length<=60/\p.lines.l.length<=20/\(∀ x∈p.lines.l,x.elems.l.length<=60)/\(∀ j∈p.fj.l,ky j.a.elem/\ky j.b.elem)/\∀ x∈p.lines.l,∀ z∈x.elems.l,ky z
theorem j1.elems {p:bY} (h:j1 p):p.elems.l.length<=60:=h.1
def j1.fj {p:bY} (h:j1 p):p.fj.l.length<=120:=h.2.1
def j1.signals {p:bY} (h:j1 p):p.signals.l.length<=60:=h.2.2.1
def j1.lines {p:bY} (h:j1 p):p.lines.l.length<=20:=h.2.2.2.1
def j1.line {p:bY} (h:j1 p):∀ x∈p.lines.l,x.elems.l.length<=60:=h.2.2.2.2.1
def jt {κ β:Type} [DecidableEq κ] {k : κ} {x : β} {l:List (κ×β)} (h:look k l=some x):(k,x)∈l:=by
 induction l<;>grind [look]
def qK {κ β:Type} [DecidableEq κ] {k : κ} {x : β} {l:List (κ×β)} {y : κ×β} (h:y∈put k x l):y=(k,x)\/y∈l:=by
 induction l<;>grind [put]
def qL {κ β:Type} [DecidableEq κ] {k : κ} {x : β} {l:List (κ×β)} {P : β->Prop} (hl:∀ y∈l,P y.2) (hx:P x):∀ y∈put k x l,P y.2:=by
 intro y hy
 rcases qK hy with rfl | hy<;>grind
theorem Jg {κ β:Type} [DecidableEq κ] {k : κ} {x : β} {l:List (κ×β)}:(put k x l).length<=l.length+1:=by
 induction l<;>grind [put]
def wO {κ β:Type} (l:List (κ×β)):Prop:=(l.map Prod.fst).Nodup
theorem Dg {κ β:Type} [DecidableEq κ] {k : κ} {l:List (κ×β)} (h:look k l=none):k∉l.map Prod.fst:=by
 induction l<;>grind [look]
theorem IE {κ β:Type} [DecidableEq κ] {k : κ} {x : β} {l:List (κ×β)} (h:look k l=none):put k x l=l++[(k,x)]:=by
 induction l<;>grind [look,put]
def Ag {α:Type} [DecidableEq α]:∀ {a b:List α},a.Nodup->(∀ x∈a,x∈b)->a.length<=b.length
 | [],_,_,_=>Nat.zero_le _
 | x::a,b,hn,hs=>by
   have hx:x∈b:=hs x List.mem_cons_self
   have h1:=Ag (a:=a) (b:=b.erase x) (List.nodup_cons.mp hn).2 (by
    grind)
   grind
def Eg {p:bY} {e:Int} (h:e<0\/e>=p.elems.l.length):kp p e=0:=by
 grind [kp]
theorem uu {p:bY} {e:Int} {x:jl} (h0:0<=e) (hx:e.toNat<p.elems.l.length) (hq:p.elems.l[e.toNat]=x):kp p e=x.kind:=by
 grind [kp]
def j8:List ig->eU->Option eU
 | [],_=>none
 | j::l,x=>if j.a=x then some j.b else if j.b=x then some j.a else j8 l x
theorem AH {a b:eU} (h:a.elem=b.elem/\a.en=b.en):a=b:=by
 cases a<;>simp_all
def KI {l:List ig} {y:eU} {k:Nat} {x:ig} (hx:k<l.length) (hq:l[k]=x) (h1:¬(x.a.elem=y.elem/\x.a.en=y.en)) (h2:¬(x.b.elem=y.elem/\x.b.en=y.en)):j8 (l.drop (k+1)) y=j8 (l.drop k) y:=by
 rw [List.drop_eq_getElem_cons hx,hq,j8,if_neg (by grind),if_neg (by grind)]
def Ky {l:List ig} {y:eU} {k:Nat} {x:ig} (hx:k<l.length) (hq:l[k]=x) (h1:x.a.elem=y.elem/\x.a.en=y.en):j8 (l.drop k) y=some x.b:=by
 rw [List.drop_eq_getElem_cons hx,hq,j8,if_pos (AH h1)]
def KX {l:List ig} {y:eU} {k:Nat} {x:ig} (hx:k<l.length) (hq:l[k]=x) (h1:¬(x.a.elem=y.elem/\x.a.en=y.en)) (h2:x.b.elem=y.elem/\x.b.en=y.en):j8 (l.drop k) y=some x.a:=by
 rw [List.drop_eq_getElem_cons hx,hq,j8,if_neg (by grind),if_pos (AH h2)]
def NH {l:List ig} {y:eU} {k:Nat} (hx:l.length<=k):j8 (l.drop k) y=none:=by
 rw [List.drop_eq_nil_of_le hx]; rfl
def kY (x:eU):Nat->List iD->Option Int
 | _,[]=>none
 | i,s::l=>if s.at_=x then some i else kY x (i+1) l
def nC (l:List iD) (x:eU):Option Int:=kY x 0 l
def DG {l:List iD} {y:eU} {k:Nat} {x:iD} (hx:k<l.length) (hq:l[k]=x) (h1:¬(x.at_.elem=y.elem/\x.at_.en=y.en)):kY y (k+1) (l.drop (k+1))=kY y k (l.drop k):=by
 rw [List.drop_eq_getElem_cons hx,hq,kY,if_neg (by grind)]
theorem Eo {l:List iD} {y:eU} {k:Nat} {x:iD} (hx:k<l.length) (hq:l[k]=x) (h1:x.at_.elem=y.elem/\x.at_.en=y.en):kY y k (l.drop k)=some (k:Int):=by
 rw [List.drop_eq_getElem_cons hx,hq,kY,if_pos (AH h1)]
theorem En {l:List iD} {y:eU} {k:Nat} (hx:l.length<=k):kY y k (l.drop k)=none:=by
 rw [List.drop_eq_nil_of_le hx]; rfl
def tq (l:List iD) (i:Int):Option eU:=if i<0 then none else (l[i.toNat]?).map (·.at_)
theorem Fs {l:List iD} {e:Int} (h:e<0\/e>=l.length):tq l e=none:=by
 grind [tq]
def Rb {l:List iD} {e:Int} {x:iD} (h0:0<=e) (hx:e.toNat<l.length) (hq:l[e.toNat]=x):tq l e=some x.at_:=by
 grind [tq]
def tC:Nat->List (Row gI)->Nat
 | _,[]=>0
 | i,r::l=>r.l.length*(2 ^ (12 - i) - 1)+tC (i+1) l
def OO (l:List (Row gI)):∃ n,n=tC 0 l:=⟨_,rfl⟩
noncomputable def wt (l:List (Row gI)):Nat:=Classical.choose (OO l)
theorem zw (l:List (Row gI)):wt l=tC 0 l:=Classical.choose_spec (OO l)
def HX (n:Nat):∃ m,m=2 ^ (13 - n) - 1:=⟨_,rfl⟩
noncomputable def uq (n:Nat):Nat:=Classical.choose (HX n)
theorem xU (n:Nat):uq n=2 ^ (13 - n) - 1:=Classical.choose_spec (HX n)
theorem R4:wt []=0:=by rw [zw]; rfl
theorem RX:uq 0=8191:=by rw [xU]
theorem Fl (w:Row gI):∀ (l:List (Row gI)) (i:Nat),tC i (l++[w])=tC i l+w.l.length*(2 ^ (12 - (i+l.length)) - 1)
 | [],i=>by simp [tC]
 | r::l,i=>by
   simp only [List.cons_append,tC,Fl w l (i+1),List.length_cons]
   rw [show i+1+l.length=i+(l.length+1) from by omega]; omega
def Bw {n:Nat} (h:n<=12):1<=uq n:=by
 rw [xU]
 have:2 ^ 1<=2 ^ (13 - n):=Nat.pow_le_pow_right (by omega) (by omega)
 omega
def QU {l:List (Row gI)} {w:Row gI} (hn:l.length<12) (hw:w.l.length<=2):wt (l++[w])+1<=wt l+uq l.length:=by
 rw [zw,zw,xU]
 rw [Fl,Nat.zero_add]
 have h1:13 - l.length=(12 - l.length)+1:=by omega
 have h2:1<=2 ^ (12 - l.length):=Nat.one_le_two_pow
 rw [h1,Nat.pow_succ]
 have h3:w.l.length*(2 ^ (12 - l.length) - 1)<=2*(2 ^ (12 - l.length) - 1):=Nat.mul_le_mul_right _ hw
 omega
theorem Fw:∀ {l:List (Row gI)} {i k:Nat} (hk:k+1=l.length) (_:(l[k]'(by omega)).l.length=0),tC i (l.take k)=tC i l
 | [],_,_,hk,_=>by simp
 | [r],i,k,hk,h0=>by
   grind [tC]
 | r::s::l,i,k,hk,h0=>by
   obtain ⟨k,rfl⟩:∃ k',k=k'+1:=⟨k - 1,by simp at hk; omega⟩
   simp only [List.getElem_cons_succ] at h0
   rw [List.take_succ_cons,tC,tC,Fw (l:=s::l) (by simpa using hk) h0]
theorem IM:∀ {l:List (Row gI)} {i k:Nat} {r r':Row gI} (hk:k<l.length) (_:l[k]=r) (_:1<=r.l.length) (_:r'.l.length+1=r.l.length),tC i (l.set k r')+(2 ^ (12 - (i+k)) - 1)=tC i l
 | [],_,_,_,_,hk,_,_,_=>by simp at hk
 | x::l,i,0,r,r',_,hr,h1,h2=>by
   grind [tC]
 | x::l,i,k+1,r,r',hk,hr,h1,h2=>by
   simp only [List.getElem_cons_succ] at hr
   simp only [List.set_cons_succ,tC]
   have:=IM (l:=l) (i:=i+1) (k:=k) (by simpa using hk) hr h1 h2
   rw [show i+1+k=i+(k+1) from by omega] at this
   omega
theorem QO {l:List (Row gI)} {k:Nat} {r:Row gI} (hk:k<l.length) (hk1:k+1=l.length) (hr:l[k]=r) (h0:r.l.length=0):wt (l.take k)=wt l:=by grind [zw,Fw]
def Ug {l:List (Row gI)} {k:Nat} {r r':Row gI} (hk:k<l.length) (hk1:k+1=l.length) (hr:l[k]=r) (h1:1<=r.l.length) (h2:r'.l.length+1=r.l.length):wt (l.set k r')+uq l.length=wt l:=by
 grind [IM,zw,xU]
def As (l:List ig):Prop:=∀ (i:Nat) (h:i<l.length),j8 (l.take i) (l[i]).a=none/\j8 (l.take i) (l[i]).b=none/\(l[i]).a≠(l[i]).b
def zL (l:List iD):Prop:=∀ (i:Nat) (h:i<l.length),∀ y∈l.take i,y.at_≠(l[i]).at_
theorem LJ (l:List ig) (j:ig) (x:eU):j8 (l++[j]) x=match j8 l x with
  | some y=>some y
  | none=>if j.a=x then some j.b else if j.b=x then some j.a else none:=by
 induction l<;>grind [j8]
theorem IT {l:List ig} {j:ig} {m:List (eU×eU)} (hD:∀ x,look x m=j8 l x) (ha:look j.a m=none) (hb:look j.b m=none) (hne:j.a≠j.b) (x:eU):look x (put j.b j.a (put j.a j.b m))=j8 (l++[j]) x:=by
 grind [j6,LJ,look]
theorem Bf {l:List ig} {j:ig} {m:List (eU×eU)} {k:Nat} (hk:k<l.length) (hj:l[k]=j) (hD:∀ x,look x m=j8 (l.take k) x) (ha:look j.a m=none) (hb:look j.b m=none) (hne:¬(j.a.elem=j.b.elem/\j.a.en=j.b.en)):∀ x,look x (put j.b j.a (put j.a j.b m))=j8 (l.take (k+1)) x:=by
 intro x
 have:l.take (k+1)=l.take k++[j]:=by rw [List.take_succ_eq_append_getElem hk,hj]
 grind [IT]
def E8 {l:List ig} {j:ig} {m:List (eU×eU)} {k:Nat} (hk:k<l.length) (hj:l[k]=j) (hD:∀ x,look x m=j8 (l.take k) x) (hJ:∀ (i:Nat) (h:i<l.length),i<k->j8 (l.take i) (l[i]).a=none/\j8 (l.take i) (l[i]).b=none/\(l[i]).a≠(l[i]).b) (ha:look j.a m=none) (hb:look j.b m=none) (hne:¬(j.a.elem=j.b.elem/\j.a.en=j.b.en)) :
  ∀ (i:Nat) (h:i<l.length),i<k+1->j8 (l.take i) (l[i]).a=none/\j8 (l.take i) (l[i]).b=none/\(l[i]).a≠(l[i]).b:=by
 grind
def MO {l:List iD} {n k:Nat} (hV:∀ (i:Nat) (h:i<l.length),i<k->0<=(l[i]).at_.elem/\(l[i]).at_.elem<(n:Int)/\0<=(l[i]).at_.en) (hk:l.length<=k):∀ s∈l,0<=s.at_.elem/\s.at_.elem<(n:Int)/\0<=s.at_.en:=by
 intro s hs
 obtain ⟨i,hi,rfl⟩:=List.mem_iff_getElem.mp hs
 grind
def El {l:List iD} {n k:Nat} {x:iD} {hk:k<l.length} (hq:l[k]=x) (hV:∀ (i:Nat) (h:i<l.length),i<k->0<=(l[i]).at_.elem/\(l[i]).at_.elem<(n:Int)/\0<=(l[i]).at_.en) (hx:0<=x.at_.elem/\x.at_.elem<(n:Int)/\0<=x.at_.en):∀ (i:Nat) (h:i<l.length),i<k+1->0<=(l[i]).at_.elem/\(l[i]).at_.elem<(n:Int)/\0<=(l[i]).at_.en:=by
 grind
def DT {l:List iD} {k:Nat} {x:iD} {m:List (eU×Bool)} (hk:k<l.length) (hq:l[k]=x) (hD:∀ y:eU,(∃ s,s∈l.take k/\s.at_=y)->look y m=some true):∀ y:eU,(∃ s,s∈l.take (k+1)/\s.at_=y)->look y (put x.at_ true m)=some true:=by
 rintro y ⟨s,hs,rfl⟩
 rw [j6]
 split
 ·rfl
 ·rename_i hne
  rw [List.take_succ_eq_append_getElem hk,hq] at hs
  grind
def KW {l:List iD} {k:Nat} {x:iD} {m:List (eU×Bool)} (hk:k<l.length) (hq:l[k]=x) (hD:∀ y:eU,(∃ s,s∈l.take k/\s.at_=y)->look y m=some true) (hJ:∀ (i:Nat) (h:i<l.length),i<k->∀ y∈l.take i,y.at_≠(l[i]).at_) (hn:look x.at_ m=none):∀ (i:Nat) (h:i<l.length),i<k+1->∀ y∈l.take i,y.at_≠(l[i]).at_:=by
 grind
def uk {α:Type} {P : α->Prop} {l:List α} {k:Nat} {x : α} (hl:∀ y∈l,P y) (hx:P x):∀ y∈l.set k x,P y:=by
 grind
def pf {e:Env} {h:au} {t d o:Nat} {x y:Operand} {X:Ctx} {dd:Option Nat} {ti:TI} {r:AV} {new cs cs':List AV} (hT:X.C.T t=some ti) (hx:fg e x=.la d o) (hy:fg e y=r) (hnew:cellsOf ti r=some new) (hok:new.all AV.gY=true) (hl:gM h.aT d=some cs) (hsp:lS cs o new=some cs'):gd (.store t x y) X e h dd=some (.undef,{ h with aT:=tu h.aT d cs' }):=by
 simp only [gd,Aa,xj,hT,hx,hy,xi,hnew,hok,zM,Mz,hl,hsp]
section
variable {C:gv} {F:gX} {Pr:gQ} {fa:eY} {Q:Ex->Env->au->Prop} {e:Env} {h:au}
end
section
variable {C:gv} {F:gX} {Pr:gQ} {fa:eY} {Q:Ex->Env->au->Prop} {e:Env} {h:au}
def BC {a b:Code} {live:List Nat} {x y:ga} (P:Env->au->Prop) (K:∀ E Z,P E Z->Wp C F Pr fa b y Q E Z) (w:Wp C F Pr fa a x (su (λe h=>P (proj live e) { h with aT:=iu live h.aT }) Q) e h):Wp C F Pr fa (.seq a b) (.seq live x y) Q e h:=by
 refine Iw (w.mono ?_)
 intro x1 e1 h1 hx
 cases x1 with
 | gH=>exact K _ _ hx
 | ext id=>exact hx
 | ret=>exact hx
end
def DX {r:List AV} {l:List (List AV)} (h:r.all AV.AM=true) (hl:rP l=true):rP (r::l)=true:=by
 grind [rP]
def IS (d:ib):Prop:=d.runs.l.length<=8/\∀ r∈d.runs.l,r.nc.l.length<=12/\0<=r.kJ/\r.kJ<(d.kJ.l.length:Int)
def vy {α:Type} {P : α->Prop} {l:List α} {k:Nat} {x : α} {hk:k<l.length} (hq:l[k]=x) (hV:∀ (i:Nat) (h:i<l.length),i<k->P (l[i])) (hx:P x):∀ (i:Nat) (h:i<l.length),i<k+1->P (l[i]):=by
 grind
def pL {α:Type} {P : α->Prop} {l:List α} {x : α} (hl:∀ y∈l,P y) (hx:P x):∀ y∈l++[x],P y:=by
 grind
def QA {α:Type} {P : α->Prop} {l m:List α} (hl:∀ y∈l,P y) (hm:∀ y∈m,P y):∀ y∈l++m,P y:=by
 grind
def NU {l:List (Row gI)} {k:Nat} {r:Row gI} (hk:k<l.length) (hk1:k+1=l.length) (hr:l[k]=r) (h0:r.l.length=0):wt (l.take (l.length - 1))=wt l:=by
 rw [show l.length - 1=k from by omega]; grind [QO]
def Mi {κ β:Type} [DecidableEq κ] {k : κ} {x : β} {l:List (κ×β)} (h:wO l) (hn:look k l=none):wO (put k x l):=by
 grind [wO,IE,Dg]
def univ (n:fw):List eU:=⟨0,0⟩::n.next.map Prod.snd
theorem Nr {n:fw} {x y:eU} (h:look x n.next=some y):y∈univ n:=by
 have:=jt h
 exact List.mem_cons_of_mem _ (List.mem_map.mpr ⟨_,this,rfl⟩)
def K7 {κ β:Type} [DecidableEq κ] {k : κ} {x : β} {l:List (κ×β)} {U:List κ} (h:∀ y∈l.map Prod.fst,y∈U) (hk:k∈U):∀ y∈(put k x l).map Prod.fst,y∈U:=by
 intro y hy
 obtain ⟨z,hz,rfl⟩:=List.mem_map.mp hy
 rcases qK hz with rfl | hz<;>grind
def xx {n:fw} {x y:eU} {b:Bool} (h:(b=true->look x n.next=some y)/\(b=false->look x n.next=none)/\(b=false->y=⟨0,0⟩)):y∈univ n:=by
 cases b with
 | true=>grind [Nr]
 | false=>rw [h.2.2 rfl]; exact List.mem_cons_self
def Nu {l:List ig} {j:ig} {m:List (eU×eU)} {k:Nat} (hk:k<l.length) (hj:l[k]=j) (hJ:As l) (hD:∀ x,look x m=j8 (l.take k) x):∀ x,look x (put j.b j.a (put j.a j.b m))=j8 (l.take (k+1)) x:=by
 obtain ⟨h1,h2,h3⟩:=hJ k hk
 grind [Bf,AH]
def Nw {κ β:Type} [DecidableEq κ] {a b : κ} {x y : β} {l:List (κ×β)} {k:Nat} (h:l.length<=2*k):(put a x (put b y l)).length<=2*(k+1):=by
 grind [Jg,put]
theorem w6 (x:eU) (s:iD):∀ (l:List iD) (i:Nat),kY x i (l++[s])=match kY x i l with
  | some y=>some y
  | none=>if s.at_=x then some ((i+l.length:Nat):Int) else none
 | [],i=>by rfl
 | a::l,i=>by
   simp only [List.cons_append,kY]
   split
   ·rfl
   ·rw [w6 x s l (i+1)]
    simp only [List.length_cons,show i+1+l.length=i+(l.length+1) from by omega]
theorem wW {x:eU}:∀ {l:List iD} {i:Nat},(∀ s∈l,s.at_≠x)->kY x i l=none
 | [],_,_=>rfl
 | a::l,i,h=>by
   simp only [kY]
   rw [if_neg (h a List.mem_cons_self)]
   exact wW λs hs=>h s (List.mem_cons_of_mem _ hs)
def I3 {l:List iD} {s:iD} {m:List (eU×Int)} {k:Nat} (hk:k<l.length) (hj:l[k]=s) (hS:zL l) (hR:∀ x,look x m=nC (l.take k) x):∀ x,look x (put s.at_ (k:Int) m)=nC (l.take (k+1)) x:=by
 intro x
 have h1:=hS k hk
 rw [hj] at h1
 rw [j6,List.take_succ_eq_append_getElem hk,hj]
 grind [nC,w6,wW,look]
def Dh:ml->ml
 | .nil=>.nil
 | _=>.iB
def Row.canon {α:Type} (r:Row α):Row α:=⟨r.l,Dh r.c,r.ok,by cases r.c<;>rfl,λh=>r.nl (by cases hc:r.c<;>first | rfl | (rw [hc] at h; cases h))⟩
def gp.canon (x:gp):gp:={ x with elems:=x.elems.canon }
def Row.yx {α β:Type} (f : α->β) (r:Row α):Row β:=⟨r.l.map f,r.c,by rw [List.length_map]; exact r.ok,r.sn,λh=>by rw [r.nl h]; rfl⟩
def bY.canon (p:bY):bY:={ p with elems:=p.elems.canon,fj:=p.fj.canon,signals:=p.signals.canon,lines:=(p.lines.yx gp.canon).canon }
theorem Row.TA {α:Type} {r s:Row α} (h1:r.l=s.l) (h2:r.c=s.c):r=s:=by
 cases r<;>simp_all
theorem D7 (c:ml):Dh (Dh c)=Dh c:=by cases c<;>rfl
theorem Row.xh {α:Type} (r:Row α):r.canon.canon=r.canon:=Row.TA rfl (D7 _)
theorem gp.xh (x:gp):x.canon.canon=x.canon:=by
 grind [gp.canon,Row.xh]
theorem bY.xh (p:bY):p.canon.canon=p.canon:=by
 simp_all [gp.canon,canon,Row.TA,Row.canon,Row.yx,D7,bY.canon,Row.xh]
def wA {α:Type} (r s:Row α):Prop:=r.l=s.l/\(r.c=.nil↔s.c=.nil)
def sD (x y:gp):Prop:=x.name=y.name/\wA x.elems y.elems
def Eu (m:List (Int×Int×Int)) (p:bY):Prop:=(∀ e y,look e m=some y->∃ (i:Nat) (h:i<p.lines.l.length),y.1=(i:Int)/\e∈(p.lines.l[i]).elems.l)/\∀ (i:Nat) (h:i<p.lines.l.length),∀ e∈(p.lines.l[i]).elems.l,∃ q,look e m=some ((i:Int),q)
def xM (m:List (Int×Int×Int)) (ld:List (Int×Int)):Prop:=∀ e y,look e m=some y->∃ v,look e ld=some v
structure sA (n:fw) (p:bY):Prop where
 cB:n.p=p.canon
 e40:n.p.elems.l.length<=40
 elems:n.p.elems.l=p.elems.l
 signals:n.p.signals.l=p.signals.l
 Cz:j1 n.p
 rg:∀ y∈univ n,pc n.p y
 x:IQ p
 YT:Eu n.line p
 led:xM n.line n.lead
 next:∀ x,look x n.next=j8 p.fj.l x
 reads:∀ x,look x n.reads=nC p.signals.l x
 len:n.next.length<=240
 sigs:zL p.signals.l
 abn:∀ s∈p.signals.l,0<=s.at_.elem/\s.at_.elem<(p.elems.l.length:Int)/\0<=s.at_.en
def Vb {p:bY} (h:IQ p):uT p ⟨0,0⟩:=by
 have hn:=h.ne
 have hk:=(h.kd _ (List.getElem_mem hn)).1
 have e:kp p 0=(p.elems.l[0]).kind:=uu (e:=0) (by omega) hn rfl
 refine ⟨⟨by decide,by show (0:Int) < _; omega⟩,by decide,?_⟩
 show (0:Int)<xC (kp p 0)
 rw [e]
 unfold xC
 repeat' split
 all_goals omega
def QY {p:bY} {y:eU} {k:Int} (h:pc p y) (hk:k=kp p y.elem) (h2:k=2) (h0:¬ y.en=0) {n:Int} (hn:n=IntKind.i64.wrap (3 - y.en):=by rfl):Dw p ⟨y.elem,n⟩:=by
 have h3:=h.2.2.2
 have h4:=h.2.2.1
 rw [<- hk,h2] at h3
 have e:xC 2=3:=by decide
 rw [e] at h3
 rw [uj _ (by omega) (by omega)] at hn
 refine ⟨h.2.1,?_,?_⟩<;>simp only<;>omega
def S7 {p:bY} {x:eU} {e:jl} {r:Int} (h0:0<=x.elem) {hx:x.elem.toNat<p.elems.l.length} (hq:p.elems.l[x.elem.toNat]=e) (h2:0<=x.en) (hr:r=xC e.kind) (h3:x.en<r):uT p x:=by
 refine ⟨⟨h0,by omega⟩,h2,?_⟩
 rw [uu h0 hx hq,<- hr]
 exact h3
def NG {q p:bY} {next:List (eU×eU)} {reads:List (eU×Int)} {line:List (Int×Int×Int)} {lead:List (Int×Int)} {k m:Nat}
  (hq:q.elems.l=p.elems.l/\q.fj.l=p.fj.l/\q.signals.l=p.signals.l/\q.lines.l.length=p.lines.l.length/\(∀ x∈q.lines.l,x.elems.l.length<=60)/\q=p.canon) (h1:j1 p)
  (hc:As p.fj.l/\zL p.signals.l/\(∀ s∈p.signals.l,0<=s.at_.elem/\s.at_.elem<(p.elems.l.length:Int)/\0<=s.at_.en)/\p.elems.l.length<=40/\p.signals.l.length<=24/\p.fj.l.length<=80/\IQ p)
  (hD:∀ x,look x next=j8 (p.fj.l.take k) x) (hR:∀ x,look x reads=nC (p.signals.l.take m) x) (hN:next.length<=2*k) (hG:∀ y∈next,pc p y.2) (hk:p.fj.l.length<=k/\k<=p.fj.l.length) (hm:p.signals.l.length<=m) (hL:Eu line p) (hE:xM line lead):sA ⟨q,next,reads,line,lead⟩ p:=by
 obtain ⟨e1,e2,e3,e4,e5,e6⟩:=hq
 obtain ⟨f1,f2,f3,f4,f5,f6,f7⟩:=h1
 have e7:∀ x∈q.lines.l,∀ z∈x.elems.l,ky z:=by
  subst e6
  intro x hx
  simp only [bY.canon,Row.canon,Row.yx,List.mem_map] at hx
  obtain ⟨y,hy,rfl⟩:=hx
  exact f7 y hy
 refine ⟨e6,by grind,e1,e3,⟨by grind,by grind,by grind,by grind,e5,by rw [e2]; exact f6,e7⟩,?_,hc.2.2.2.2.2.2,hL,hE,?_,?_,by grind,hc.2.1,hc.2.2.1⟩
 ·intro y hy
  rcases List.mem_cons.mp hy with rfl | hy
  ·subst e6
   exact ⟨⟨by decide,by decide⟩,(Vb hc.2.2.2.2.2.2:uT p ⟨0,0⟩)⟩
  ·obtain ⟨z,hz,rfl⟩:=List.mem_map.mp hy
   subst e6
   exact hG z hz
 ·grind
 ·intro x; show look x reads = _; rw [hR,List.take_of_length_le hm]
def IS.stk {d:ib} (h:IS d):∀ r∈d.runs.l,0<=r.kJ/\r.kJ<(d.kJ.l.length:Int):=λr hr=>(h.2 r hr).2
def ns (p:bY) (r:fe):Prop:=(∀ s∈r.steps.l,pc p ⟨s.elem,s.kH⟩)/\r.gB.l.length<=12/\(∀ x∈r.gB.l,z8 x)/\r.guards.l.length<=1000/\(r.holds.l.length<=1000/\0<=r.from_/\r.from_<(p.signals.l.length:Int))/\(∀ x∈r.fX.l,Dw p x)/\∀ x∈r.guards.l,Dw p x
def Bp {p:bY} {r:fe} {l l2:List fi} {P P2:List Int} (h:r.steps.l=l2) (h2:l2=l) (hS:∀ s∈l,pc p ⟨s.elem,s.kH⟩) (hp:P2=P) (hP:∀ x∈P,nq x) (hn:∀ x∈r.fX.l,(∃ s∈l2,x.elem=s.elem)/\x.pos∈P2/\¬ x.pos=0) (hz:r.guards.l=[]/\r.gB.l=[]/\r.holds.l=[]) (hf:0<=r.from_/\r.from_<(p.signals.l.length:Int)):ns p r:=by
 obtain ⟨z1,z2,z3⟩:=hz
 refine ⟨by rw [h,h2]; exact hS,by simp [z2],by simp [z2],by simp [z1],⟨by simp [z3],hf⟩,λx hx=>?_,by simp [z1]⟩
 obtain ⟨⟨s,hs,e⟩,h4,h5⟩:=hn x hx
 have h6:=hP _ (hp▸h4)
 rw [h2] at hs
 exact ⟨e▸(hS s hs).2.1,by have:=h6.1; omega,h6.2⟩
def Mr {p:bY} {r a:fe} (h:r.steps.l=a.steps.l) (h2:r.fX.l=a.fX.l) (hg:ns p a) (hz:r.gB.l.length<=12/\(∀ x∈r.gB.l,z8 x)/\r.guards.l.length<=1000/\r.holds.l.length<=1000) (hG:∀ x∈r.guards.l,Dw p x) (hf:r.from_=a.from_):ns p r :=
 ⟨by rw [h]; exact hg.1,hz.1,hz.2.1,hz.2.2.1,⟨hz.2.2.2,hf▸hg.2.2.2.2.1.2⟩,by rw [h2]; exact hg.2.2.2.2.2.1,hG⟩
def Ui {p:bY} {l:List fi} {k:Nat} {x x2:fi} (h:∀ s∈l,pc p ⟨s.elem,s.kH⟩) {hk:k<l.length} (hq:l[k]=x) (he:x2.elem=x.elem) (hi:x2.kH=x.kH):∀ s∈l.set k x2,pc p ⟨s.elem,s.kH⟩:=by
 intro s hs
 rcases List.mem_or_eq_of_mem_set hs with hs | rfl
 ·exact h s hs
 ·rw [he,hi,<- hq]; exact h _ (List.getElem_mem _)
inductive Ty where
 | int | bool | str
 | slice (e:Ty)
 | struct (fs:List Ty)
mutual
def Ty.size:Ty->Nat
 | .struct fs=>Ty.vH fs
 | _=>1
def Ty.vH:List Ty->Nat
 | []=>0
 | t::ts=>t.size+Ty.vH ts
end
mutual
def uV (P:Program):Ty->TypeId->Bool
 | .int,t=>match P.underlying t with
   | some (.int .i64)=>true
   | _=>false
 | .bool,t=>match P.underlying t with
   | some .bool=>true
   | _=>false
 | .str,t=>match P.underlying t with
   | some .string=>true
   | _=>false
 | .slice e,t=>match P.underlying t with
   | some (.slice te)=>uV P e te&&Nat.beq (P.cellsOf te) e.size&&Nat.blt 0 e.size
   | _=>false
 | .struct fs,t=>match P.underlying t with
   | some (.struct fds)=>GH P fs fds.toList 0&&Nat.beq (P.cellsOf t) (Ty.vH fs)
   | _=>false
def GH (P:Program):List Ty->List Field->Nat->Bool
 | [],[],_=>true
 | t::ts,f::fs,o=>uV P t f.type&&Nat.beq f.offset o&&Nat.beq (P.cellsOf f.type) t.size&&GH P ts fs (o+t.size)
 | _,_,_=>false
end
mutual
def Fit:Ty->List AV->Prop
 | .int,cs=>∃ n,cs=[.int .i64 n]/\ky n
 | .bool,cs=>∃ b,cs=[.bool b]
 | .str,cs=>∃ s,cs=[.str s]/\s.length<=rI
 | .slice e,cs=>∃ xs c,cs=[.sl xs c]/\(∀ x∈xs,Fit e x)/\xs.length<=rI/\oU c=false/\(c=.nil->xs=[])
 | .struct fs,cs=>uG fs cs
def uG:List Ty->List AV->Prop
 | [],cs=>cs=[]
 | t::ts,cs=>∃ a b,cs=a++b/\Fit t a/\uG ts b
end
def AK {α β:Type} {f : α->Option β}:∀ {l:List α} {r:List β},l.mapM f=some r->r.length=l.length/\∀ i (h:i<l.length),∃ y,f l[i]=some y/\r[i]?=some y
 | [],r,h=>by
   grind
 | a::l,r,h=>by
   rw [List.mapM_cons] at h
   cases ha:f a with
   | none=>rw [ha] at h; cases h
   | some y =>
     rw [ha] at h
     cases hl:l.mapM f with
     | none=>rw [hl] at h; cases h
     | some r' =>
       rw [hl] at h
       have:r=y::r':=(Option.some.inj h).symm
       subst this
       obtain ⟨h1,h2⟩:=AK hl
       refine ⟨by simp [h1],λi hi=>?_⟩
       cases i with
       | zero=>exact ⟨y,ha,rfl⟩
       | succ i=>exact h2 i (by simpa using hi)
def Bc {α:Type} {p:Nat->α->Prop}:∀ (n:Nat),(∀ i,i<n->∃ x,p i x)->∃ l:List α,l.length=n/\∀ i x,l[i]?=some x->p i x
 | 0,_=>⟨[],rfl,λi x h=>by simp at h⟩
 | n+1,h=>by
   obtain ⟨l,hl,hp⟩:=Bc n λi hi=>h i (by omega)
   obtain ⟨x,hx⟩:=h n (by omega)
   refine ⟨l++[x],by simp [hl],λi y hy=>?_⟩
   grind
theorem M2 {w:World} {a:Addr} {n:Nat} {cs:List Value} (h:w.cells? 0 a n=some cs):cs.length=n/\∀ j,j<n->∃ v,w.cell? (a.add j)=some v/\cs[j]?=some v:=by
 unfold World.cells? at h
 rw [if_pos (Nat.zero_le _)] at h
 obtain ⟨h1,h2⟩:=AK h
 grind
def IK {w:World} {a:Addr} {v:Value} (h:w.cell? a=some v):a.spot=none/\∃ c e fr,w.heap[a.block]?=some (.cells c e fr)/\c[a.off]?=some v:=by
 unfold World.cell? at h
 split at h<;>simp_all
section
variable {H:Type} {enc:TypeId×Value->H} {P:Program} {w:World} {spare:Nat->Bool} {held:Bool}
abbrev TW (w:World):Bool->Nat->Prop:=λ_ B=>B<w.heap.size
def Reads (w:World) (ty:Ty) (cs:List Value):Prop:=∃ xs:List AV,xs.length=cs.length/\cs.length=ty.size/\Fit ty xs/\(∀ (i:Nat) (x:AV) (v:Value),xs[i]?=some x->cs[i]?=some v->PR w (TW w) false x v/\v.oneCell'=true)
theorem LM (a:Addr) (i j:Nat) (h:a.spot=none):(a.add i).add j=⟨a.block,a.off+i+j,none⟩:=by
 obtain ⟨b,o,s⟩:=a
 grind [Addr.add]
def qS {ty:Ty} (hs:ty.size=1) {x:AV} {v:Value} (hf:Fit ty [x]) (hp:PR w (TW w) false x v) (h1:v.oneCell'=true):Reads w ty [v]:=by
 refine ⟨[x],rfl,by simp [hs],hf,?_⟩
 grind
def z7 {fuel:Nat} (ih:∀ (ty:Ty) (t:TypeId) (cs:List Value) (r:DataW H×List MemPlace),uV P ty t=true->DataW.trod enc P w 0 spare held fuel t cs=some r->Reads w ty cs) (cs:List Value) :
  ∀ (tys:List Ty) (fds:List Field) (o:Nat),GH P tys fds o=true->o+Ty.vH tys=cs.length->(∀ f∈fds,∃ r,DataW.trod enc P w 0 spare held fuel f.type ((cs.drop f.offset).take (P.cellsOf f.type))=some r) ->
    ∃ xs:List AV,xs.length=Ty.vH tys/\uG tys xs/\(∀ (i:Nat) (x:AV) (v:Value),xs[i]?=some x->cs[o+i]?=some v->PR w (TW w) false x v/\v.oneCell'=true)
 | [],fds,o,hf,hl,hr=>⟨[],rfl,rfl,λi x v h=>by simp at h⟩
 | t::ts,[],o,hf,hl,hr=>by simp [GH] at hf
 | t::ts,f::fds,o,hf,hl,hr=>by
   simp only [GH,Bool.and_eq_true] at hf
   obtain ⟨⟨⟨h1,h2⟩,h3⟩,h4⟩:=hf
   have h2:=Nat.eq_of_beq_eq_true h2
   have h3:=Nat.eq_of_beq_eq_true h3
   simp only [Ty.vH] at hl
   obtain ⟨r,hr1⟩:=hr f List.mem_cons_self
   obtain ⟨xs,e1,e2,e3,e4⟩:=ih t f.type _ r h1 hr1
   obtain ⟨ys,g1,g2,g3⟩:=z7 ih cs ts fds (o+t.size) h4 (by omega) (λf hf=>hr f (List.mem_cons_of_mem _ hf))
   have hx:xs.length=t.size:=by omega
   refine ⟨xs++ys,by grind [Ty.vH],⟨xs,ys,rfl,e3,g2⟩,?_⟩
   grind
def B9:∀ (fuel:Nat) (ty:Ty) (t:TypeId) (cs:List Value) (r:DataW H×List MemPlace),uV P ty t=true->DataW.trod enc P w 0 spare held fuel t cs=some r->Reads w ty cs:=by
 intro fuel
 induction fuel with
 | zero=>intro ty t cs r _ h; simp [DataW.trod] at h
 | succ fuel ih =>
   intro ty t cs r ht h
   cases ty with
   | int =>
     simp only [uV] at ht
     split at ht
     ·rename_i hU
      rcases cs with _ | ⟨v,_ | ⟨v2,rest⟩⟩
      ·simp [DataW.trod,hU] at h
      ·cases v<;>simp [DataW.trod,hU] at h
       rename_i k n
       obtain ⟨⟨rfl,hwf⟩,_⟩:=h
       simp only [Lit.wf,Bool.and_eq_true,decide_eq_true_eq] at hwf
       exact qS rfl ⟨n,rfl,hwf⟩ (.int _ _ n) rfl
      ·simp [DataW.trod,hU] at h
     grind
   | bool =>
     simp only [uV] at ht
     split at ht
     ·rename_i hU
      rcases cs with _ | ⟨v,_ | ⟨v2,rest⟩⟩
      ·simp [DataW.trod,hU] at h
      ·cases v<;>simp [DataW.trod,hU] at h
       rename_i b
       exact qS rfl ⟨b,rfl⟩ (.bool _ b) rfl
      ·simp [DataW.trod,hU] at h
     grind
   | str =>
     simp only [uV] at ht
     split at ht
     ·rename_i hU
      rcases cs with _ | ⟨v,_ | ⟨v2,rest⟩⟩
      ·simp [DataW.trod,hU] at h
      ·cases v<;>simp [DataW.trod,hU] at h
       rename_i s
       refine qS rfl ⟨s.data.toList,rfl,?_⟩ (.str _ _ s rfl) rfl
       simp_all [maxLen]
      ·simp [DataW.trod,hU] at h
     grind
   | slice e =>
     simp only [uV] at ht
     split at ht
     ·rename_i te hU
      simp only [Bool.and_eq_true] at ht
      obtain ⟨⟨ht,hsz⟩,hpos⟩:=ht
      have hsz:=Nat.eq_of_beq_eq_true hsz
      have hpos:0<e.size:=Nat.ble_eq.mp hpos
      rcases cs with _ | ⟨v,_ | ⟨v2,rest⟩⟩
      ·simp [DataW.trod,hU] at h
      ·cases v<;>try (simp [DataW.trod,hU] at h; done)
       rename_i a len cap
       cases a with
       | none =>
         cases len<;>cases cap<;>try (simp [DataW.trod,hU] at h; done)
         exact qS rfl ⟨[],.nil,rfl,by simp,by simp,rfl,λ_=>rfl⟩ (.slnil _) rfl
       | some a =>
         simp only [DataW.trod,hU] at h
         split at h
         ·rename_i hc
          obtain ⟨_,hlc,hcm⟩:=hc
          have hcb:cap<=rI:=by
           grind [maxLen]
          cases hm:(List.range len).mapM (λi=>(w.cells? 0 (a.add (i*P.cellsOf te)) (P.cellsOf te)).bind (DataW.trod enc P w 0 spare held fuel te)) with
          | none=>grind
          | some elems =>
            obtain ⟨_,hel⟩:=AK hm
            have hat:∀ i,i<len->∃ (xs:List AV) (vs:List Value),xs.length=e.size/\vs.length=e.size/\Fit e xs/\(∀ (j:Nat) (x:AV) (v:Value),xs[j]?=some x->vs[j]?=some v->PR w (TW w) false x v/\v.oneCell'=true) /\
              ∀ j,j<e.size->∃ v,w.cell? ((a.add (i*e.size)).add j)=some v/\vs[j]?=some v:=by
             intro i hi
             obtain ⟨y,hy,_⟩:=hel i (by grind)
             simp only [List.getElem_range] at hy
             cases hcs:w.cells? 0 (a.add (i*P.cellsOf te)) (P.cellsOf te) with
             | none=>grind
             | some vs =>
               rw [hcs] at hy
               obtain ⟨xs,e1,e2,e3,e4⟩:=ih e te vs y ht hy
               grind [M2]
            cases len with
            | zero=>exact qS rfl ⟨[],.iB,rfl,by simp,by simp,rfl,λh=>by cases h⟩ (.my _ .iB a cap (λh=>by cases h) (Nat.zero_le _)) rfl
            | succ len0 =>
              obtain ⟨xs0,vs0,_,_,_,_,hv0⟩:=hat 0 (by omega)
              obtain ⟨v00,hv00,_⟩:=hv0 0 hpos
              obtain ⟨hsp,c,et,fr,hB,_⟩:=IK hv00
              have hspot:a.spot=none:=by
               grind [Addr.add]
              have hB:w.heap[a.block]?=some (.cells c et fr):=by
               grind [Addr.add]
              obtain ⟨rows,hrl,hrp⟩:=Bc (p:=λi xs=>xs.length=e.size/\Fit e xs/\∀ (j:Nat) (x:AV),xs[j]?=some x->∃ v,c[a.off+i*e.size+j]?=some v/\PR w (TW w) false x v/\v.oneCell'=true) (len0+1) (by
               intro i hi
               obtain ⟨xs,vs,q1,q2,q3,q4,q5⟩:=hat i hi
               refine ⟨xs,q1,q3,λj x hx=>?_⟩
               have hj:j<e.size:=by grind
               obtain ⟨v,hv,hvj⟩:=q5 j hj
               obtain ⟨_,c',et',fr',hB',hcv⟩:=IK hv
               grind [LM])
              have hpr:PR w (TW w) false (.sl rows .iB) (.slice (some ⟨a.block,a.off,none⟩) rows.length cap):=by
               refine .sl false rows .iB a.block a.off c et fr cap e.size (λi j=>(c[a.off+i*e.size+j]?).getD .nilFunc) (λh=>by cases h) hB ?_ (by rw [hrl]; exact hlc) (by omega) ?_ ?_ ?_ ?_
               ·grind
               ·grind
               ·grind
               ·grind
               ·intro i cs' j x hcs' hx
                obtain ⟨v,hv,hp,_⟩:=(hrp i cs' hcs').2.2 j x hx
                rw [hv]; exact hp
              rw [hrl] at hpr
              have ha:a=⟨a.block,a.off,none⟩:=by obtain ⟨b,o,s⟩:=a; grind
              rw [<- ha] at hpr
              refine qS rfl ⟨rows,.iB,rfl,?_,by omega,rfl,λh=>by cases h⟩ hpr rfl
              intro x hx
              obtain ⟨i,hi⟩:=List.getElem?_of_mem hx
              grind
         ·cases h
      ·simp [DataW.trod,hU] at h
     grind
   | struct fs =>
     simp only [uV] at ht
     split at ht
     ·rename_i fds hU
      simp only [Bool.and_eq_true] at ht
      obtain ⟨hfs,hsz⟩:=ht
      have hsz:=Nat.eq_of_beq_eq_true hsz
      have hcs:cs.length=Ty.vH fs/\∀ f∈fds.toList,∃ r,DataW.trod enc P w 0 spare held fuel f.type ((cs.drop f.offset).take (P.cellsOf f.type))=some r:=by
       have key:(if cs.length=P.cellsOf t then (fds.toList.mapM λf=>DataW.trod enc P w 0 spare held fuel f.type ((cs.drop f.offset).take (P.cellsOf f.type))).map λxs=>(DataW.agg (xs.map (·.1)),xs.flatMap (·.2)) else none)=some r:=by
        rw [<- h]
        conv=>rhs; unfold DataW.trod
        rw [hU]
       split at key
       ·rename_i hl
        refine ⟨by omega,λf hf=>?_⟩
        cases hm:fds.toList.mapM λf=>DataW.trod enc P w 0 spare held fuel f.type ((cs.drop f.offset).take (P.cellsOf f.type)) with
        | none=>grind
        | some l =>
          obtain ⟨_,h2⟩:=AK hm
          obtain ⟨i,hi,rfl⟩:=List.mem_iff_getElem.mp hf
          grind
       grind
      obtain ⟨xs,x1,x2,x3⟩:=z7 ih cs fs fds.toList 0 hfs (by omega) hcs.2
      refine ⟨xs,by omega,hcs.1,x2,?_⟩
      grind
     grind
end
def AE:Ty:=.struct [.int,.int]
def Jm:Ty:=.struct [.str,.int,.int]
def I8:Ty:=.struct [AE,AE]
def MN:Ty:=.struct [.str,AE,.bool]
def Jj:Ty:=.struct [.str,.slice .int]
def EM:Ty:=.struct [.slice Jm,.slice I8,.slice MN,.slice Jj,.int,.int,.int,.int,.bool]
def xE {α:Type} {enc : α->List AV} {Q : α->Prop} {e:Ty} (he:∀ xs,Fit e xs->∃ x : α,xs=enc x/\Q x) {cs:List AV} (h:Fit (.slice e) cs):∃ r:Row α,cs=[r.av enc]/\∀ x∈r.l,Q x:=by
 simp only [Fit] at h
 obtain ⟨xs,c,rfl,h1,h2,h3,h4⟩:=h
 have:∀ xs:List (List AV),(∀ x∈xs,Fit e x)->∃ l:List α,xs=l.map enc/\∀ x∈l,Q x:=by
  intro xs
  induction xs with
  | nil=>exact λ_=>⟨[],rfl,by simp⟩
  | cons a xs ih =>
    intro h
    obtain ⟨y,hy,hq⟩:=he a (h a List.mem_cons_self)
    obtain ⟨l,hl,hl2⟩:=ih λx hx=>h x (List.mem_cons_of_mem _ hx)
    exact ⟨y::l,by grind,by simp_all⟩
 obtain ⟨l,rfl,hQ⟩:=this xs h1
 exact ⟨⟨l,c,by grind,h3,λhc=>by grind⟩,rfl,hQ⟩
def Dd {α:Type} {enc : α->List AV} {e:Ty} (he:∀ xs,Fit e xs->∃ x : α,xs=enc x) {cs:List AV} (h:Fit (.slice e) cs):∃ r:Row α,cs=[r.av enc]:=by
 obtain ⟨r,hr,_⟩:=xE (Q:=λ_=>True) (λxs hx=>(he xs hx).imp λ_ h=>⟨h,trivial⟩) h
 exact ⟨r,hr⟩
def w9 {cs:List AV} (h:Fit .int cs):∃ n:Int,cs=cI n:=by unfold Fit at h; exact h.imp λ_ h=>h.1
def MP {cs:List AV} (h:Fit .int cs):∃ n:Int,cs=cI n/\ky n:=by unfold Fit at h; exact h
def zQ {cs:List AV} (h:Fit AE cs):∃ x:eU,cs=x.ai/\ky x.elem:=by
 simp only [AE,Fit,uG] at h
 obtain ⟨_,_,rfl,⟨a,rfl,ha⟩,_,_,rfl,⟨b,rfl,hb⟩,rfl⟩:=h
 exact ⟨⟨a,b⟩,rfl,ha⟩
def Nc {cs:List AV} (h:Fit AE cs):∃ x:eU,cs=x.ai:=(zQ h).imp λ_ h=>h.1
def MQ {cs:List AV} (h:Fit Jm cs):∃ x:jl,cs=x.ai:=by
 simp only [Jm,Fit,uG] at h
 obtain ⟨_,_,rfl,⟨s,rfl,hs⟩,_,_,rfl,⟨a,rfl,_⟩,_,_,rfl,⟨b,rfl,_⟩,rfl⟩:=h
 exact ⟨⟨⟨s,hs⟩,a,b⟩,rfl⟩
def MW {cs:List AV} (h:Fit I8 cs):∃ x:ig,cs=x.ai/\ky x.a.elem/\ky x.b.elem:=by
 simp only [I8,uG] at h
 unfold Fit at h
 simp only [uG] at h
 obtain ⟨_,_,rfl,h1,_,_,rfl,h2,rfl⟩:=h
 obtain ⟨x,rfl,hx⟩:=zQ h1
 obtain ⟨y,rfl,hy⟩:=zQ h2
 exact ⟨⟨x,y⟩,rfl,hx,hy⟩
def QC {cs:List AV} (h:Fit MN cs):∃ x:iD,cs=x.ai:=by
 simp only [MN,Fit,uG] at h
 obtain ⟨_,_,rfl,⟨s,rfl,hs⟩,_,_,rfl,h2,_,_,rfl,⟨b,rfl⟩,rfl⟩:=h
 obtain ⟨y,rfl⟩:=Nc h2
 exact ⟨⟨⟨s,hs⟩,y,b⟩,rfl⟩
def MT {cs:List AV} (h:Fit Jj cs):∃ x:gp,cs=x.ai/\∀ z∈x.elems.l,ky z:=by
 simp only [Jj,uG] at h
 unfold Fit at h
 simp only [uG] at h
 obtain ⟨_,_,rfl,h1,_,_,rfl,h2,rfl⟩:=h
 simp only [Fit] at h1
 obtain ⟨s,rfl,hs⟩:=h1
 obtain ⟨r,rfl,hr⟩:=xE (λ_=>MP) h2
 exact ⟨⟨⟨s,hs⟩,r⟩,rfl,hr⟩
def M3 {cs:List AV} (h:Fit EM cs):∃ x:bY,cs=x.ai/\JG x:=by
 unfold EM Fit at h
 simp only [uG] at h
 obtain ⟨_,_,rfl,h1,_,_,rfl,h2,_,_,rfl,h3,_,_,rfl,h4,_,_,rfl,h5,_,_,rfl,h6,_,_,rfl,h7,_,_,rfl,h8,_,_,rfl,h9,rfl⟩:=h
 obtain ⟨r1,rfl⟩:=Dd (λ_=>MQ) h1
 obtain ⟨r2,rfl,hj⟩:=xE (λ_=>MW) h2
 obtain ⟨r3,rfl⟩:=Dd (λ_=>QC) h3
 obtain ⟨r4,rfl,hl⟩:=xE (λ_=>MT) h4
 obtain ⟨a,rfl⟩:=w9 h5
 obtain ⟨b,rfl⟩:=w9 h6
 obtain ⟨c,rfl⟩:=w9 h7
 obtain ⟨d,rfl⟩:=w9 h8
 simp only [Fit] at h9
 obtain ⟨t,rfl⟩:=h9
 exact ⟨⟨r1,r2,r3,r4,a,b,c,d,t⟩,rfl,hj,hl⟩
section
variable {w:World}
def Lx {ty:Ty} {v:Value} (h:Reads w ty v.cells.toList) (h2:2<=ty.size):∃ xs,Fit ty xs/\PR w (TW w) false (.agg xs) v:=by
 obtain ⟨xs,h1,hs,hf,hp⟩:=h
 have hsz:2<=v.cells.size:=by
  grind
 cases v with
 | agg cs =>
   refine ⟨xs,hf,.agg false xs cs (by grind [Value.cells]) ?_ ?_⟩
   ·intro i y hy
    have hi:i<xs.length:=by
     grind [Value.cells]
    exact (hp i xs[i] y (by simp [hi]) (by grind [Value.cells])).2
   grind [Value.cells]
 | _=>simp [Value.cells] at hsz
end
open Go Go.Proofs Go.RowKit Go.Maps Go.WideElems Go.WideShapes
def BM (x:Int):List Int->List Int
 | []=>[x]
 | y::l=>if x<=y then x::y::l else y::BM x l
def iY:List Int->List Int
 | []=>[]
 | x::l=>BM x (iY l)
def zp:AV->Option Int
 | .int .i64 n=>if -9223372036854775808<=n/\n<=9223372036854775807 then some n else none
 | _=>none
def Ts:List Int->Bool
 | []=>true
 | x::l=>!(l.contains x)&&Ts l
def aao:List Int->AV
 | []=>.sl [] .nil
 | l=>.sl (l.map λn=>[.int .i64 n]) .iB
def V1 (shd:Bool) (l:List Int) (h:au):AV×au:=match shd,l with
 | true,x::l=>(.hs h.size 0 0 (l.length+1),h.push (.fc 0 1 ((x::l).map λn=>[.int .i64 n])))
 | _,l=>(aao l,h)
def uy (shd:Bool) (ks:Option (List Int)) (h:au):R2:=match ks with
 | some ks=>match Ts ks&&Nat.ble ks.length 1000000 with
   | true=>some (V1 shd (iY ks) h)
   | false=>none
 | none=>none
def Ac (x:Int):∀ l,(BM x l).Perm (x::l)
 | []=>.refl _
 | y::l=>by
   unfold BM
   split
   ·exact .refl _
   ·exact ((Ac x l).cons y).trans (.swap x y l)
theorem kF:∀ l,(iY l).Perm l
 | []=>.refl _
 | x::l=>(Ac x _).trans ((kF l).cons x)
def A4 (x:Int):∀ {l:List Int},l.Pairwise (·<=·)->(BM x l).Pairwise (·<=·)
 | [],_=>by simp [BM]
 | y::l,h=>by
   unfold BM
   rw [List.pairwise_cons] at h
   split
   ·rename_i hxy
    refine List.pairwise_cons.2 ⟨λz hz=>?_,List.pairwise_cons.2 h⟩
    rcases List.mem_cons.1 hz with rfl | hz
    ·exact hxy
    ·exact Int.le_trans hxy (h.1 z hz)
   ·refine List.pairwise_cons.2 ⟨λz hz=>?_,A4 x h.2⟩
    rcases List.mem_cons.1 ((Ac x l).mem_iff.1 hz) with rfl | hz
    ·omega
    ·exact h.1 z hz
def oZ:∀ l,(iY l).Pairwise (·<=·)
 | []=>.nil
 | x::l=>A4 x (oZ l)
def zv {l l':List Int} (h:l.Perm l'):l.mergeSort leI=iY l':=by
 rw [mergeSort_of_perm_i (h.trans (kF l').symm)]
 exact List.mergeSort_of_pairwise ((oZ l').imp (by simp))
theorem zF {v:AV} {n:Int} (h:zp v=some n):v=.int .i64 n/\-9223372036854775808<=n/\n<=9223372036854775807:=by
 unfold zp at h
 grind
def Sb {G:Ga} (hW:WR G) {w':World} (hb:Below G.w.heap.size G.w w') (Tn:Bool->Nat->Prop) (hT:∀ s B,Tn s B->G.w.heap.size<=B/\B<w'.heap.size) :
  let G':Ga:=⟨w',λs B=>G.T s B\/Tn s B,G.h,G.pi,G.L⟩
  Step G G'/\WR G':=by
 intro G'
 have hold:∀ B,B<G.w.heap.size->G'.w.heap[B]?=G.w.heap[B]?:=hb.block
 have E:Ext G G':=⟨λ_ _ h=>.inl h,λs B h=>hold B (hW.mv s B h),Nat.le_refl _,λb _ g z xs h=>⟨g,z,xs,h,Nat.le_refl _,λ_=>⟨rfl,λ_ h=>h⟩⟩,λb _ es c h=>⟨es,c,h,λ_ h=>h⟩,λ_ _ h=>h⟩
 obtain ⟨k1,k2,k3⟩:=hW.keep E hold
 have hs:=hb.size
 refine ⟨⟨E,hb.os,hb.output,⟨hb.tape,λh=>False.elim h⟩,hb.size,λB h _ _=>hold B h,λb l h=>.inl ⟨l,h,rfl⟩,λb l h=>.inl (by grind),?_,rfl,λ_ _ _=>rfl,λ_ _ h=>.inl h,λd B h=>.inl (by grind),λ_ _ _ h=>h⟩,k1,k2,k3,?_,hW.ma,?_,hW.ou,?_,hW.oT,?_,?_,hW.lo,hW.lt⟩
 ·grind
 ·exact λb l h=>⟨Nat.lt_of_lt_of_le (hW.iU b l h).1 hs,(hW.iU b l h).2⟩
 ·rintro s b l h (ht | ht)
  ·exact hW.qf s b l h ht
  ·have:=(hW.iU b l h).1; grind
 ·rintro s d B h (ht | ht)
  ·exact hW.LT s d B h ht
  ·have:=(hW.kN d B h).1; grind
 ·exact λd B h=>⟨Nat.lt_of_lt_of_le (hW.kN d B h).1 hs,(hW.kN d B h).2⟩
 ·rintro s B (h | h)
  ·exact Nat.lt_of_lt_of_le (hW.mv s B h) hs
  grind
section
variable {G:Ga} {w':World}
end
end Go.Sx
namespace Go.Sx
open Go Go.Proofs Go.RowKit Go.Maps Go.Sort
def Ca:List AV->Option Int
 | [v]=>zp v
 | _=>none
def pQ:List (List AV)->Option (List Int)
 | []=>some []
 | c::l=>match Ca c with
   | some n=>match pQ l with
     | some ks=>some (n::ks)
     | none=>none
   | none=>none
def putAt (xs:List (List AV)) (o l:Nat) (ys:List (List AV)):List (List AV):=xs.take o++ys++xs.drop (o+l)
def mf (l:List Int):List (List AV):=l.map λn=>[.int .i64 n]
def nZ (shd:Bool) (args:List AV) (h:au):R2:=match args with
 | [.sl [] _]=>some (.fG [],h)
 | [.hs b g o l]=>match l with
   | 0=>some (.fG [],h)
   | k+1=>match shd with
     | false=>none
     | true=>match h.get b with
       | some (.fc g' z xs)=>match Nat.beq g g'&&(Nat.beq z 1&&(Nat.ble (o+(k+1)) xs.length&&Nat.ble (k+1) 1000000)) with
         | true=>match pQ ((xs.drop o).take (k+1)) with
           | some ks=>some (.fG [],h.set b (.fc g' z (putAt xs o (k+1) (mf (iY ks)))))
           | none=>none
         | false=>none
       | _=>none
 | _=>none
theorem IY {c:List AV} {n:Int} (h:Ca c=some n):c=[.int .i64 n]:=by
 unfold Ca at h
 grind [zF]
theorem ya:∀ {l:List (List AV)} {ks:List Int},pQ l=some ks->l=mf ks
 | [],ks,h=>by simp only [pQ,Option.some.injEq] at h; subst h; rfl
 | c::l,ks,h=>by
   unfold pQ at h
   split at h
   ·rename_i n hn
    split at h
    ·rename_i ks' hk
     simp only [Option.some.injEq] at h
     subst h
     rw [IY hn,ya hk]; rfl
    ·cases h
   ·cases h
theorem vJ {xs ys:List (List AV)} {o l i:Nat} (hy:ys.length=l) (hl:o+l<=xs.length):(putAt xs o l ys)[i]?=if o<=i/\i<o+l then ys[i - o]? else xs[i]?:=by
 unfold putAt
 rw [List.append_assoc,List.getElem?_append]
 grind
theorem Ec {xs ys:List (List AV)} {o l:Nat} (hy:ys.length=l) (hl:o+l<=xs.length):(putAt xs o l ys).length=xs.length:=by
 grind [putAt]
def Gu {G:Ga} (hW:WR G) {b g z:Nat} {xs xs':List (List AV)} {L:Loc} (hp:G.pi b=some L) (hget:G.h.get b=some (.fc g z xs)) {w1 w':World} {c':Array Value} {e:TypeId}
  (hP:pq G.w w1 L.B (.cells c' e (0,0))) (hb:Below w1.heap.size w1 w') (hblk:∀ G',Ext G G'->G'.w.heap[L.B]?=some (.cells c' e (0,0))->ng G' L z xs') :
  ∃ T',Step G ⟨w',T',G.h.set b (.fc g z xs'),G.pi,G.L⟩/\WR ⟨w',T',G.h.set b (.fc g z xs'),G.pi,G.L⟩:=by
 obtain ⟨s1,W1⟩:=uh (ob:=.fc g z xs') hW hp hP (.inl ⟨g,z,xs,xs',hget,rfl⟩) (by grind) (by simp)
 obtain ⟨s2,W2⟩:=Sb W1 hb (λ_ _=>False) (λ_ _ h=>h.elim)
 exact ⟨_,s1.trans s2,W2⟩
theorem D1 {G:Ga} {n:Int} {v:Value} (h:VC G (.int .i64 n) v):v=.int .i64 n:=by
 cases h.vr with
 | gf _ hp=>cases hp; rfl
def D0 {G:Ga} (hW:WR G) {b g o l:Nat} {xs:List (List AV)} (hget:G.h.get b=some (.fc g 1 xs)) (hle:o+l<=xs.length) {ks:List Int} (hks:pQ ((xs.drop o).take l)=some ks) {L:Loc} (hp:G.pi b=some L) :
  ks.length=l/\Holds (Value.int .i64) G.w L.B (L.base+o*1) ks.toArray:=by
 obtain ⟨c,e,hB,hcap,hsz,hz,hc⟩:=hW.fc b L g 1 xs hp hget
 have hrow:=ya hks
 have hlen:ks.length=l:=by
  have:=congrArg List.length hrow
  grind [mf]
 have hel:∀ (i:Nat) (n:Int),ks[i]?=some n->xs[o+i]?=some [.int .i64 n]:=by
  intro i n hn
  have hi:i<l:=by grind
  have h2:((xs.drop o).take l)[i]?=(mf ks)[i]?:=by rw [hrow]
  grind [mf]
 have hcell:∀ (i:Nat) (n:Int),ks[i]?=some n->c[L.base+o*1+i]?=some (.int .i64 n):=by
  intro i n hn
  obtain ⟨v,hv,_,hvc⟩:=hc (o+i) _ 0 _ (hel i n hn) rfl
  grind [D1]
 refine ⟨hlen,λj hj=>?_⟩
 grind [World.cell?,World.frozen?]
def Ia {G:Ga} (hW:WR G) {b g o l:Nat} {xs:List (List AV)} (hget:G.h.get b=some (.fc g 1 xs)) (hle:o+l<=xs.length) {L:Loc} (hp:G.pi b=some L) (ys:List Int) (vc:ys.length=l) (n:Nat) (os:Array Obj) :
  ∃ T',Step G ⟨grow (putRow (Value.int .i64) (Sort.ahead G.w n) L.B (L.base+o*1) ys.toArray) os,T',G.h.set b (.fc g 1 (putAt xs o l (mf ys))),G.pi,G.L⟩ /\
    WR ⟨grow (putRow (Value.int .i64) (Sort.ahead G.w n) L.B (L.base+o*1) ys.toArray) os,T',G.h.set b (.fc g 1 (putAt xs o l (mf ys))),G.pi,G.L⟩:=by
 obtain ⟨c,e,hB,hcap,hsz,hz,hc⟩:=hW.fc b L g 1 xs hp hget
 have hcs:(mf ys).length=l:=by simp [mf,vc]
 have hP:pq G.w (putRow (Value.int .i64) (Sort.ahead G.w n) L.B (L.base+o*1) ys.toArray) L.B (.cells (putCells (Value.int .i64) (L.base+o*1) ys.toArray c) e (0,0)):=by
  refine ⟨?_,λk hk=>?_,by simp,rfl,rfl,⟨rfl,λh=>False.elim h⟩⟩
  ·simp [putRow,mapBlock,Array.getElem?_modify,hB,onCells]
  ·simp [putRow,mapBlock,Array.getElem?_modify,Ne.symm hk]
 have hbl:Below (putRow (Value.int .i64) (Sort.ahead G.w n) L.B (L.base+o*1) ys.toArray).heap.size (putRow (Value.int .i64) (Sort.ahead G.w n) L.B (L.base+o*1) ys.toArray) (grow (putRow (Value.int .i64) (Sort.ahead G.w n) L.B (L.base+o*1) ys.toArray) os) :=
  ⟨rfl,rfl,rfl,by simp,λk hk=>heap_grow_old _ _ hk⟩
 refine Gu (xs':=putAt xs o l (mf ys)) hW hp hget hP hbl ?_
 intro G' E hw
 refine ⟨_,_,hw,by grind [Ec],by grind [putCells],?_,?_⟩
 ·grind [vJ,mf]
 ·intro i cs j x h hj
  rw [vJ hcs hle] at h
  split at h
  ·rename_i hi
   simp only [mf,List.getElem?_map,Option.map_eq_some_iff] at h
   obtain ⟨m,hm,rfl⟩:=h
   cases j with
   | succ j=>cases hj
   | zero =>
     simp only [List.getElem?_cons_zero,Option.some.injEq] at hj
     subst hj
     have hcs2:L.base+i*1+0<c.size:=by
      omega
     refine ⟨.int .i64 m,?_,rfl,⟨.gf rfl (.int _ _ _),rfl⟩⟩
     grind [putCells]
  ·rename_i hi
   have hz1:=hz i cs h
   have hj0:j=0:=by
    grind
   subst hj0
   obtain ⟨v,hv,ho,hvc⟩:=hc i cs 0 x h hj
   refine ⟨v,?_,ho,hvc.mono E⟩
   grind [putCells]
def KB {P:Program} {f:Nat}
  (h1:∀ (fc off cap:Nat) (zs:List Int) (w:World),Holds (Value.int .i64) w fc off zs.toArray->fc<w.heap.size->zs.length<4611686018427387904 ->
    Calls P f #[.slice (some ⟨fc,off,none⟩) zs.length cap] w λe w'=>e=.returned (.tuple #[])/\∃ n os,w'=grow (putRow (Value.int .i64) (Sort.ahead w n) fc off (zs.mergeSort λx y=>decide (x<=y)).toArray) os)
  {G:Ga} (hW:WR G) {b g o l:Nat} {xs:List (List AV)} (hget:G.h.get b=some (.fc g 1 xs)) (hle:o+l<=xs.length) (hl:l<=1000000) {ks:List Int} (hks:pQ ((xs.drop o).take l)=some ks) {L:Loc} (hp:G.pi b=some L) {cap':Nat}
  {R:Ending->World->Prop} (hR:∀ G',Step G G'->WR G'->G'.h=G.h.set b (.fc g 1 (putAt xs o l (mf (iY ks))))->R (.returned (.tuple #[])) G'.w) :
  Calls P f #[.slice (some ⟨L.B,L.base+o*1,none⟩) l cap'] G.w R:=by
 obtain ⟨hlen,hH⟩:=D0 hW hget hle hks hp
 have hlt:L.B<G.w.heap.size:=(hW.iU b L hp).1
 rw [<- hlen]
 refine (h1 L.B (L.base+o*1) cap' ks G.w hH hlt (by omega)).mono ?_
 rintro e' w' ⟨rfl,n,os,rfl⟩
 have hso:(ks.mergeSort λx y=>decide (x<=y))=iY ks:=zv (.refl _)
 have vc:(iY ks).length=l:=by rw [(kF ks).length_eq,hlen]
 rw [hso]
 obtain ⟨T',S1,W1⟩:=Ia hW hget hle hp (iY ks) vc n os
 grind
def tK (ks:List Int):List Int:=Lib.compact ks++List.replicate (ks.length - (Lib.compact ks).length) 0
theorem Lu (ks:List Int):(tK ks).length=ks.length:=by
 grind [Lib.compact_length_le,tK]
def KZ {P:Program} {f:Nat}
  (h1:∀ (fc off cap:Nat) (zs:List Int) (w:World),Holds (Value.int .i64) w fc off zs.toArray->zs.length<=9223372036854775807->zs.length<=cap ->
    Calls P f #[.slice (some ⟨fc,off,none⟩) zs.length cap] w λe w'=>e=.returned (.slice (some ⟨fc,off,none⟩) (Lib.compact zs).length cap)/\∃ q,w'=putRow (Value.int .i64) (Sort.ahead w q) fc off (Lib.compact zs++List.replicate (zs.length - (Lib.compact zs).length) 0).toArray)
  {G:Ga} (hW:WR G) {b g o l:Nat} {xs:List (List AV)} (hget:G.h.get b=some (.fc g 1 xs)) (hle:o+l<=xs.length) (hl:l<=1000000) {ks:List Int} (hks:pQ ((xs.drop o).take l)=some ks) {L:Loc} (hp:G.pi b=some L) {cap':Nat} (hcl:l<=cap')
  {R:Ending->World->Prop} (hR:∀ G',Step G G'->WR G'->G'.pi=G.pi->G'.h=G.h.set b (.fc g 1 (putAt xs o l (mf (tK ks))))->R (.returned (.slice (some ⟨L.B,L.base+o*1,none⟩) (Lib.compact ks).length cap')) G'.w) :
  Calls P f #[.slice (some ⟨L.B,L.base+o*1,none⟩) l cap'] G.w R:=by
 obtain ⟨hlen,hH⟩:=D0 hW hget hle hks hp
 rw [<- hlen]
 refine (h1 L.B (L.base+o*1) cap' ks G.w hH (by omega) (by omega)).mono ?_
 rintro e' w' ⟨rfl,n,rfl⟩
 obtain ⟨T',S1,W1⟩:=Ia hW hget hle hp (tK ks) (by rw [Lu,hlen]) n #[]
 rw [grow_empty] at S1 W1
 exact hR _ S1 W1 rfl rfl
def pg (shd:Bool) (args:List AV) (h:au):R2:=match args with
 | [.sl [] c]=>some (.sl [] c,h)
 | [.hs b g o l]=>match l with
   | 0=>some (.hs b g o 0,h)
   | k+1=>match shd with
     | false=>none
     | true=>match h.get b with
       | some (.fc g' z xs)=>match Nat.beq g g'&&(Nat.beq z 1&&(Nat.ble (o+(k+1)) xs.length&&Nat.ble (k+1) 1000000)) with
         | true=>match pQ ((xs.drop o).take (k+1)) with
           | some ks=>some (.hs b g o (Lib.compact ks).length,h.set b (.fc g' z (putAt xs o (k+1) (mf (tK ks)))))
           | none=>none
         | false=>none
       | _=>none
 | _=>none
def Gf:∀ (args:List AV) (h:au) (v:AV) (h':au),pg false args h=some (v,h')->h'=h/\∀ h2:au,(∀ b o,h.get b=some o->h2.get b=some o)->pg false args h2=some (v,h2):=by
 intro args h v h' hc
 unfold pg at hc
 split at hc
 ·cases hc; exact ⟨rfl,λ_ _=>rfl⟩
 ·split at hc
  ·cases hc; exact ⟨rfl,λ_ _=>rfl⟩
  grind
 grind
theorem Ho {P : Program} {f : Nat} (hex : ∃ fn, P.funcs[f]? = some fn ∧ fn.body.isNone = false ∧ (fn.name == "runtime.NumGoroutine") = false)
  (h1:∀ (fc off cap:Nat) (zs:List Int) (w:World),Holds (Value.int .i64) w fc off zs.toArray->zs.length<=9223372036854775807->zs.length<=cap ->
    Calls P f #[.slice (some ⟨fc,off,none⟩) zs.length cap] w λe w'=>e=.returned (.slice (some ⟨fc,off,none⟩) (Lib.compact zs).length cap)/\∃ q,w'=putRow (Value.int .i64) (Sort.ahead w q) fc off (Lib.compact zs++List.replicate (zs.length - (Lib.compact zs).length) 0).toArray)
  (h0:∀ (p:Option Addr) (cap:Nat) (w:World),Calls P f #[.slice p 0 cap] w λe w'=>e=.returned (.slice p 0 cap)/\w'=w):lg P f pg where
 call:=by
  intro shd args h v h' hc G args' hG hlo hL hW hl hr
  refine ⟨hex,?_⟩
  intro R hR
  subst hG
  have one:∀ x:AV,args=[x]->∃ y,args' = #[y]/\VC G x y:=by
   rintro x rfl
   cases args' with | mk l =>
   cases l with
   | nil=>simp at hl
   | cons y l =>
     cases l with
     | nil=>exact ⟨y,rfl,hr 0 x y rfl rfl⟩
     | cons _ _=>simp at hl
  unfold pg at hc
  split at hc
  ·obtain ⟨y,rfl,hy⟩:=one _ rfl
   cases hc
   have hv:=hy.vr
   cases hv with
   | gf hi hp =>
     have key:∃ p cap,y=.slice p 0 cap:=by cases hp<;>exact ⟨_,_,rfl⟩
     obtain ⟨p,cap,rfl⟩:=key
     refine (h0 _ _ G.w).mono ?_
     rintro e w' ⟨rfl,rfl⟩
     exact hR _ _ (Step.refl G) hW (λm=>rfl) (λm L=>VR.gK (.gf hi hp) rfl)
  ·obtain ⟨y,rfl,hy⟩:=one _ rfl
   rename_i b g o l
   have hv:=hy.vr
   split at hc
   ·cases hc
    have key:∃ p cap,y=.slice p 0 cap:=by
     cases hv with
     | gf hi _=>cases hi
     | hs=>simp
    obtain ⟨p,cap,rfl⟩:=key
    refine (h0 _ _ G.w).mono ?_
    rintro e w' ⟨rfl,rfl⟩
    exact hR _ _ (Step.refl G) hW (λm=>rfl) (λm L=>VR.gK hv rfl)
   ·rename_i k
    split at hc
    ·cases hc
    ·split at hc
     ·rename_i g' z xs hget
      split at hc
      ·rename_i hq
       simp only [Bool.and_eq_true,Nat.ble_eq] at hq
       obtain ⟨q1,q2,q3,q5⟩:=hq
       obtain rfl:=Nat.eq_of_beq_eq_true q1
       obtain rfl:=Nat.eq_of_beq_eq_true q2
       split at hc
       ·rename_i ks hks
        cases hc
        have hlen:=(ya hks)
        have hlen:ks.length=k+1:=by
         have:=congrArg List.length hlen
         grind [mf]
        have hcl:=Lib.compact_length_le ks
        cases hv with
        | gf hi _=>cases hi
        | hs _ _ _ _ a cap' hb hg hle hh =>
        obtain ⟨L,hp,hcap,ha⟩:=hh _ _ hget
        rw [ha (by omega)]
        refine KZ h1 hW hget q3 q5 hks hp hle (λG' S W epi e=>hR _ _ S W (λm=>by rw [e]) (λm L0=>VR.gK ?_ rfl))
        refine .hs b g o _ _ cap' (by rw [e]; simpa using hb) ?_ (by omega) ?_<;>grind [au.ja,au.kV]
       grind
      grind
     grind
  grind
 Ce:=Gf
def FY:∀ (args:List AV) (h:au) (v:AV) (h':au),nZ false args h=some (v,h')->h'=h/\∀ h2:au,(∀ b o,h.get b=some o->h2.get b=some o)->nZ false args h2=some (v,h2):=by
 intro args h v h' hc
 unfold nZ at hc
 split at hc
 ·cases hc; exact ⟨rfl,λ_ _=>rfl⟩
 ·split at hc
  ·cases hc; exact ⟨rfl,λ_ _=>rfl⟩
  grind
 grind
theorem HD {P : Program} {f : Nat} (hex : ∃ fn, P.funcs[f]? = some fn ∧ fn.body.isNone = false ∧ (fn.name == "runtime.NumGoroutine") = false)
  (h1:∀ (fc off cap:Nat) (zs:List Int) (w:World),Holds (Value.int .i64) w fc off zs.toArray->fc<w.heap.size->zs.length<4611686018427387904 ->
    Calls P f #[.slice (some ⟨fc,off,none⟩) zs.length cap] w λe w'=>e=.returned (.tuple #[])/\∃ n os,w'=grow (putRow (Value.int .i64) (Sort.ahead w n) fc off (zs.mergeSort λx y=>decide (x<=y)).toArray) os)
  (h0:∀ (p:Option Addr) (cap:Nat) (w:World),Calls P f #[.slice p 0 cap] w λe w'=>e=.returned (.tuple #[])/\w'=w):lg P f nZ where
 call:=by
  intro shd args h v h' hc G args' hG hlo hL hW hl hr
  refine ⟨hex,?_⟩
  intro R hR
  subst hG
  have one:∀ x:AV,args=[x]->∃ y,args' = #[y]/\VC G x y:=by
   rintro x rfl
   cases args' with | mk l =>
   cases l with
   | nil=>simp at hl
   | cons y l =>
     cases l with
     | nil=>exact ⟨y,rfl,hr 0 x y rfl rfl⟩
     | cons _ _=>simp at hl
  unfold nZ at hc
  split at hc
  ·obtain ⟨y,rfl,hy⟩:=one _ rfl
   cases hc
   have hv:=hy.vr
   cases hv with
   | gf _ hp =>
     have key:∃ p cap,y=.slice p 0 cap:=by cases hp<;>exact ⟨_,_,rfl⟩
     obtain ⟨p,cap,rfl⟩:=key
     refine (h0 _ _ G.w).mono ?_
     rintro e w' ⟨rfl,rfl⟩
     exact hR _ _ (Step.refl G) hW (λm=>rfl) (λm L=>.fG [] #[] rfl (by simp))
  ·obtain ⟨y,rfl,hy⟩:=one _ rfl
   rename_i b g o l
   have hv:=hy.vr
   cases hv with
   | gf hi _=>cases hi
   | hs _ _ _ _ a cap' hb hg hle hh =>
   split at hc
   ·cases hc
    refine (h0 _ _ G.w).mono ?_
    rintro e w' ⟨rfl,rfl⟩
    exact hR _ _ (Step.refl G) hW (λm=>rfl) (λm L=>.fG [] #[] rfl (by simp))
   ·rename_i k
    split at hc
    ·cases hc
    ·split at hc
     ·rename_i g' z xs hget
      split at hc
      ·rename_i hq
       simp only [Bool.and_eq_true,Nat.ble_eq] at hq
       obtain ⟨q1,q2,q3,q5⟩:=hq
       obtain rfl:=Nat.eq_of_beq_eq_true q1
       obtain rfl:=Nat.eq_of_beq_eq_true q2
       split at hc
       ·rename_i ks hks
        cases hc
        obtain ⟨L,hp,hcap,ha⟩:=hh _ _ hget
        rw [ha (by omega)]
        exact KB h1 hW hget q3 q5 hks hp (λG' S W e=>hR _ _ S W (λm=>by rw [e]) (λm L=>.fG [] #[] rfl (by simp)))
       grind
      grind
     grind
  grind
 Ce:=FY
def zU:List AV->Option (Int×Int)
 | [a,b]=>match zp a with
   | some m=>match zp b with
     | some n=>some (m,n)
     | none=>none
   | none=>none
 | _=>none
def sH:List (List AV)->Option (List (Int×Int))
 | []=>some []
 | c::l=>match zU c with
   | some n=>match sH l with
     | some ks=>some (n::ks)
     | none=>none
   | none=>none
def ko (p:Int×Int):List AV:=[.int .i64 p.1,.int .i64 p.2]
def kr (p:Int×Int):List Value:=[.int .i64 p.1,.int .i64 p.2]
theorem Hj {c:List AV} {p:Int×Int} (h:zU c=some p):c=ko p:=by
 unfold zU at h
 split at h
 ·split at h
  ·rename_i m hm
   split at h
   ·rename_i n hn
    cases h
    rw [(zF hm).1,(zF hn).1]; rfl
   ·cases h
  ·cases h
 ·cases h
theorem B3:∀ {l:List (List AV)} {ks:List (Int×Int)},sH l=some ks->l=ks.map ko
 | [],ks,h=>by grind [sH]
 | c::l,ks,h=>by
   unfold sH at h
   split at h
   ·rename_i n hn
    split at h
    ·rename_i ks' hk
     simp only [Option.some.injEq] at h
     subst h
     rw [Hj hn,B3 hk]; rfl
    ·cases h
   ·cases h
theorem GP {d:List (Int×Int)} {i j:Nat} {p:Int×Int} (hi:d[i]?=some p) (hj:j<2):(flatK kr 2 d.toArray)[i*2+j]! = (kr p)[j]!:=by
 grind [get_flatK]
def FW {p:Int×Int} {j:Nat} {x:AV} (h:(ko p)[j]?=some x):∃ n:Int,x=.int .i64 n/\(kr p)[j]! = .int .i64 n/\j<2:=by
 match j,h with
 | 0,h=>simp only [ko,List.getElem?_cons_zero,Option.some.injEq] at h; exact ⟨p.1,h.symm,rfl,by omega⟩
 | 1,h=>simp only [ko,List.getElem?_cons_succ,List.getElem?_cons_zero,Option.some.injEq] at h; exact ⟨p.2,h.symm,rfl,by omega⟩
 | j+2,h=>simp [ko] at h
def Jz {G:Ga} (hW:WR G) {b g o l:Nat} {xs:List (List AV)} (hget:G.h.get b=some (.fc g 2 xs)) (hle:o+l<=xs.length) {ks:List (Int×Int)} (hks:sH ((xs.drop o).take l)=some ks) {L:Loc} (hp:G.pi b=some L) :
  ks.length=l/\HoldsK kr 2 G.w L.B (L.base+o*2) ks.toArray:=by
 obtain ⟨c,e,hB,hcap,hsz,hz,hc⟩:=hW.fc b L g 2 xs hp hget
 have hrow:=B3 hks
 have hlen:ks.length=l:=by
  have:=congrArg List.length hrow
  grind
 have hel:∀ (i:Nat) (p:Int×Int),ks[i]?=some p->xs[o+i]?=some (ko p):=by
  intro i n hn
  have hi:i<l:=by grind
  have h2:((xs.drop o).take l)[i]?=(ks.map ko)[i]?:=by rw [hrow]
  grind
 refine ⟨hlen,λt ht=>?_⟩
 have ht:t<ks.length*2:=by simp_all
 have hi:t / 2<ks.length:=by omega
 have hq:ks[t / 2]?=some ks[t / 2]:=by simp [hi]
 have hj:t % 2<2:=Nat.mod_lt _ (by omega)
 obtain ⟨x,hx⟩:∃ x,(ko ks[t / 2])[t % 2]?=some x:=⟨_,List.getElem?_eq_getElem (show t % 2<2 from hj)⟩
 obtain ⟨n,rfl,hn,_⟩:=FW hx
 obtain ⟨v,hv,_,hvc⟩:=hc (o+t / 2) _ (t % 2) _ (hel _ _ hq) hx
 rw [D1 hvc] at hv
 have hflat:=GP hq hj
 grind [World.cell?,World.frozen?]
def NV {G:Ga} (hW:WR G) {b g o l:Nat} {xs:List (List AV)} (hget:G.h.get b=some (.fc g 2 xs)) (hle:o+l<=xs.length) {L:Loc} (hp:G.pi b=some L) (ys:List (Int×Int)) (vc:ys.length=l) (n:Nat) (os:Array Obj) :
  ∃ T',Step G ⟨sortWorldK kr 2 G.w L.B (L.base+o*2) n ys.toArray os,T',G.h.set b (.fc g 2 (putAt xs o l (ys.map ko))),G.pi,G.L⟩ /\
    WR ⟨sortWorldK kr 2 G.w L.B (L.base+o*2) n ys.toArray os,T',G.h.set b (.fc g 2 (putAt xs o l (ys.map ko))),G.pi,G.L⟩:=by
 obtain ⟨c,e,hB,hcap,hsz,hz,hc⟩:=hW.fc b L g 2 xs hp hget
 have hcs:(ys.map ko).length=l:=by simp [vc]
 have hfs:(flatK kr 2 ys.toArray).size=l*2:=by simp [vc]
 have hP:pq G.w (putRowK kr 2 (Sort.ahead G.w n) L.B (L.base+o*2) ys.toArray) L.B (.cells (putCells id (L.base+o*2) (flatK kr 2 ys.toArray) c) e (0,0)):=by
  refine ⟨?_,λk hk=>?_,by simp [putRowK],rfl,rfl,⟨rfl,λh=>False.elim h⟩⟩
  ·simp [putRowK,putRow,mapBlock,Array.getElem?_modify,hB,onCells]
  ·simp [putRowK,putRow,mapBlock,Array.getElem?_modify,Ne.symm hk]
 have hbl:Below (putRowK kr 2 (Sort.ahead G.w n) L.B (L.base+o*2) ys.toArray).heap.size (putRowK kr 2 (Sort.ahead G.w n) L.B (L.base+o*2) ys.toArray) (sortWorldK kr 2 G.w L.B (L.base+o*2) n ys.toArray os) :=
  ⟨rfl,rfl,rfl,by simp [sortWorldK],λk hk=>heap_grow_old _ _ hk⟩
 refine Gu (xs':=putAt xs o l (ys.map ko)) hW hp hget hP hbl ?_
 intro G' E hw
 refine ⟨_,_,hw,by grind [Ec],by grind [putCells],?_,?_⟩
 ·intro i cs h
  rw [vJ hcs hle] at h
  split at h
  ·simp only [List.getElem?_map,Option.map_eq_some_iff] at h
   obtain ⟨m,_,rfl⟩:=h; rfl
  grind
 ·intro i cs j x h hj
  have hcap2:=Nat.mul_le_mul_right 2 hcap
  rw [vJ hcs hle] at h
  split at h
  ·rename_i hi
   simp only [List.getElem?_map,Option.map_eq_some_iff] at h
   obtain ⟨m,hm,rfl⟩:=h
   obtain ⟨n,rfl,hn,hj2⟩:=FW hj
   have hcs2:L.base+i*2+j<c.size:=by omega
   refine ⟨.int .i64 n,?_,rfl,⟨.gf rfl (.int _ _ _),rfl⟩⟩
   simp only [putCells,Array.getElem?_mapIdx,Array.getElem?_eq_getElem hcs2,Option.map_some,hfs]
   rw [if_pos ⟨by omega,by omega⟩,show L.base+i*2+j - (L.base+o*2)=(i - o)*2+j by omega,GP hm hj2,hn]
   rfl
  ·rename_i hi
   have hz1:=hz i cs h
   have hj2:j<2:=by
    grind
   obtain ⟨v,hv,ho,hvc⟩:=hc i cs j x h hj
   refine ⟨v,?_,ho,hvc.mono E⟩
   grind [putCells]
def nh {α:Type} [Inhabited α] (cf : α->α->Int) (ks:List α):List α:=(pdq (ltOf cf) ks.toArray 0 ks.length (Lib.bitLen ks.length) true true).toList
theorem Ei {α:Type} [Inhabited α] {cf : α->α->Int} (hO:SWO (ltOf cf)) (ks:List α):(nh cf ks).Perm ks/\(∀ i j:Nat,i<j->j<ks.length->ltOf cf ((nh cf ks).toArray[j]!) ((nh cf ks).toArray[i]!)=false):=by
 have h:=pdq_sorts (ltOf cf) hO ks.toArray 0 ks.toArray.size (Lib.bitLen ks.toArray.size) true true (Nat.zero_le _) (Nat.le_refl _) (Or.inl rfl)
 obtain ⟨⟨hs,_,hp⟩,hso⟩:=h
 simp only [List.size_toArray] at hs hp hso
 refine ⟨?_,λi j hij hj=>?_⟩
 ·unfold nh
  have e1:∀ a:Array α,a.size=ks.length->(a.extract 0 ks.length).toList=a.toList:=by
   intro a ha
   rw [<- ha]; simp
  grind
 ·have:=hso i j (Nat.zero_le _) hij hj
  grind [nh]
theorem Eb {α:Type} [Inhabited α] (tp : α->Int×Int) (d:Array α):flatK (λa=>kr (tp a)) 2 d=flatK kr 2 (d.map tp):=by
 grind [flatK]
def Ar {α:Type} (dec:Int×Int->Option α):List (Int×Int)->Option (List α)
 | []=>some []
 | p::l=>match dec p with
   | some a=>match Ar dec l with
     | some r=>some (a::r)
     | none=>none
   | none=>none
theorem D9 {α:Type} {dec:Int×Int->Option α} {tp : α->Int×Int} (hd:∀ p a,dec p=some a->tp a=p):∀ {ks:List (Int×Int)} {ds:List α},Ar dec ks=some ds->ks=ds.map tp
 | [],ds,h=>by grind [Ar]
 | p::l,ds,h=>by
   unfold Ar at h
   split at h
   ·rename_i a ha
    split at h
    ·rename_i r hr
     simp only [Option.some.injEq] at h
     subst h
     rw [D9 hd hr,List.map_cons,hd p a ha]
    ·cases h
   ·cases h
def JL {P:Program} {f g:Nat} {α:Type} [Inhabited α] {tp : α->Int×Int} {cf : α->α->Int} (hO:SWO (ltOf cf))
  (h1:∀ (fc off cap:Nat) (d:Array α) (w:World),HoldsK (λa=>kr (tp a)) 2 w fc off d->fc<w.heap.size->d.size<4611686018427387904 ->
    Calls P f #[.slice (some ⟨fc,off,none⟩) d.size cap,.func (.func g) #[] #[]] w λe w'=>e=.returned (.tuple #[])/\∃ n os,w'=sortWorldK (λa=>kr (tp a)) 2 w fc off n (pdq (ltOf cf) d 0 d.size (Lib.bitLen d.size) true true) os)
  {G:Ga} (hW:WR G) {b gg o l:Nat} {xs:List (List AV)} (hget:G.h.get b=some (.fc gg 2 xs)) (hle:o+l<=xs.length) (hl:l<=1000000) {ds:List α} (hks:sH ((xs.drop o).take l)=some (ds.map tp)) {L:Loc} (hp:G.pi b=some L) {cap':Nat}
  {R:Ending->World->Prop} (hR:∀ G',Step G G'->WR G'->G'.h=G.h.set b (.fc gg 2 (putAt xs o l (((nh cf ds).map tp).map ko)))->R (.returned (.tuple #[])) G'.w) :
  Calls P f #[.slice (some ⟨L.B,L.base+o*2,none⟩) l cap',.func (.func g) #[] #[]] G.w R:=by
 obtain ⟨hlen,hH⟩:=Jz hW hget hle hks hp
 rw [List.length_map] at hlen
 have hlt:L.B<G.w.heap.size:=(hW.iU b L hp).1
 have hH2:HoldsK (λa=>kr (tp a)) 2 G.w L.B (L.base+o*2) ds.toArray:=by
  simp_all [HoldsK,Eb]
 rw [<- hlen]
 refine (h1 L.B (L.base+o*2) cap' ds.toArray G.w hH2 hlt (by grind)).mono ?_
 rintro e' w' ⟨rfl,n,os,rfl⟩
 obtain ⟨T',S1,W1⟩:=NV hW hget hle hp ((nh cf ds).map tp) (by rw [List.length_map,(Ei hO ds).1.length_eq,hlen]) n os
 have e:sortWorldK (λa=>kr (tp a)) 2 G.w L.B (L.base+o*2) n (pdq (ltOf cf) ds.toArray 0 ds.toArray.size (Lib.bitLen ds.toArray.size) true true) os=sortWorldK kr 2 G.w L.B (L.base+o*2) n ((nh cf ds).map tp).toArray os:=by
  unfold sortWorldK putRowK
  rw [Eb,<- List.map_toArray]
  rfl
 grind
def mg {α:Type} [Inhabited α] (tp : α->Int×Int) (dec:Int×Int->Option α) (g:Nat) (cf : α->α->Int) (shd:Bool) (args:List AV) (h:au):R2:=match args with
 | [.sl [] _,.gx g' [] []]=>match Nat.beq g' g with
   | true=>some (.fG [],h)
   | false=>none
 | [.hs b gg o l,.gx g' [] []]=>match Nat.beq g' g with
   | false=>none
   | true=>match l with
     | 0=>some (.fG [],h)
     | k+1=>match shd with
       | false=>none
       | true=>match h.get b with
         | some (.fc gg' z xs)=>match Nat.beq gg gg'&&(Nat.beq z 2&&(Nat.ble (o+(k+1)) xs.length&&Nat.ble (k+1) 1000000)) with
           | true=>match sH ((xs.drop o).take (k+1)) with
             | some ks=>match Ar dec ks with
               | some ds=>some (.fG [],h.set b (.fc gg' z (putAt xs o (k+1) (((nh cf ds).map tp).map ko))))
               | none=>none
             | none=>none
           | false=>none
         | _=>none
 | _=>none
def Ed {α:Type} [Inhabited α] (tp : α->Int×Int) (dec:Int×Int->Option α) (g:Nat) (cf : α->α->Int):∀ (args:List AV) (h:au) (v:AV) (h':au),mg tp dec g cf false args h=some (v,h')->h'=h/\∀ h2:au,(∀ b o,h.get b=some o->h2.get b=some o)->mg tp dec g cf false args h2=some (v,h2):=by
 intro args h v h' hc
 unfold mg at hc
 grind [mg]
def Uz {G:Ga} {g:Nat} {v:Value} (h:VC G (.gx g [] []) v):v=.func (.func g) #[] #[]:=by
 cases h.vr with
 | gf hi _=>cases hi
 | gx _ _ _ a' c' ha hc =>
   grind
theorem G4 {P : Program} {f g : Nat} {α : Type} [Inhabited α] {tp : α → Int × Int} {dec : Int × Int → Option α} (hd : ∀ p a, dec p = some a → tp a = p) {cf : α → α → Int} (hO : SWO (ltOf cf)) (hex : ∃ fn, P.funcs[f]? = some fn ∧ fn.body.isNone = false ∧ (fn.name == "runtime.NumGoroutine") = false)
  (h1:∀ (fc off cap:Nat) (d:Array α) (w:World),HoldsK (λa=>kr (tp a)) 2 w fc off d->fc<w.heap.size->d.size<4611686018427387904 ->
    Calls P f #[.slice (some ⟨fc,off,none⟩) d.size cap,.func (.func g) #[] #[]] w λe w'=>e=.returned (.tuple #[])/\∃ n os,w'=sortWorldK (λa=>kr (tp a)) 2 w fc off n (pdq (ltOf cf) d 0 d.size (Lib.bitLen d.size) true true) os)
  (h0:∀ (p:Option Addr) (cap:Nat) (w:World),Calls P f #[.slice p 0 cap,.func (.func g) #[] #[]] w λe w'=>e=.returned (.tuple #[])/\w'=w):lg P f (mg tp dec g cf) where
 call:=by
  intro shd args h v h' hc G args' hG hlo hL hW hl hr
  refine ⟨hex,?_⟩
  intro R hR
  subst hG
  have two:∀ x z:AV,args=[x,z]->∃ y u,args' = #[y,u]/\VC G x y/\VC G z u:=by
   rintro x z rfl
   cases args' with | mk l =>
   match l,hl with
   | [y,u],_=>exact ⟨y,u,rfl,hr 0 x y rfl rfl,hr 1 z u rfl rfl⟩
  unfold mg at hc
  split at hc
  ·obtain ⟨y,u,rfl,hy,hu⟩:=two _ _ rfl
   split at hc
   ·rename_i hq
    obtain rfl:=Nat.eq_of_beq_eq_true hq
    cases hc
    obtain rfl:=Uz hu
    have hv:=hy.vr
    cases hv with
    | gf _ hp =>
      have key:∃ p cap,y=.slice p 0 cap:=by cases hp<;>exact ⟨_,_,rfl⟩
      obtain ⟨p,cap,rfl⟩:=key
      refine (h0 _ _ G.w).mono ?_
      rintro e w' ⟨rfl,rfl⟩
      exact hR _ G (Step.refl G) hW (λm=>rfl) (λm L=>.fG [] #[] rfl (by simp))
   grind
  ·obtain ⟨y,u,rfl,hy,hu⟩:=two _ _ rfl
   split at hc
   ·cases hc
   ·rename_i hq
    obtain rfl:=Nat.eq_of_beq_eq_true hq
    obtain rfl:=Uz hu
    have hv:=hy.vr
    cases hv with
    | gf hi _=>cases hi
    | hs _ _ _ _ a cap' hb hg hle hh =>
    split at hc
    ·cases hc
     refine (h0 _ _ G.w).mono ?_
     rintro e w' ⟨rfl,rfl⟩
     exact hR _ G (Step.refl G) hW (λm=>rfl) (λm L=>.fG [] #[] rfl (by simp))
    ·split at hc
     ·cases hc
     ·split at hc
      ·rename_i hget
       split at hc
       ·rename_i hq
        simp only [Bool.and_eq_true,Nat.ble_eq] at hq
        obtain ⟨q1,q2,q3,q5⟩:=hq
        obtain rfl:=Nat.eq_of_beq_eq_true q1
        obtain rfl:=Nat.eq_of_beq_eq_true q2
        split at hc
        ·rename_i ks hks
         split at hc
         ·rename_i ds hds
          cases hc
          obtain ⟨L,hp,hcap,ha⟩:=hh _ _ hget
          rw [ha (by omega)]
          rw [D9 hd hds] at hks
          exact JL hO h1 hW hget q3 q5 hks hp (λG' S W e=>hR _ _ S W (λm=>by rw [e]) (λm L=>.fG [] #[] rfl (by simp)))
         grind
        grind
       grind
      grind
  grind
 Ce:=Ed tp dec g cf
end Go.Sx
set_option maxRecDepth 100000
namespace Go.Sx
open Go Go.Proofs Go.RowKit Go.Sort
def grown_of {w w':World} (h1:w'.os=w.os) (h2:w'.output=w.output) (h3:w'.tape=w.tape) (h4:w.drawn<=w'.drawn) (h5:w.heap.size<=w'.heap.size) (h6:∀ B,B<w.heap.size->w'.heap[B]?=w.heap[B]?):∃ q os',w'=grow (w.drewN q) os':=by
 refine ⟨w'.drawn - w.drawn,w'.heap.extract w.heap.size w'.heap.size,?_⟩
 have hh:w'.heap=w.heap++w'.heap.extract w.heap.size w'.heap.size:=by
  grind
 have hd:w.drawn+(w'.drawn - w.drawn)=w'.drawn:=by omega
 cases w; cases w'<;>grind [grow,World.drewN]
def Ub (W:World):Ga:=⟨W,TW W,au.empty,λ_=>none,λ_=>none⟩
def wr0 (W:World):WR (Ub W):=by
 constructor
 ·intro b l g z xs h; cases h
 ·intro b l es c h; cases h
 ·intro d B cs h; cases h
 ·intro b l h; cases h
 ·intro b b' l l' h; cases h
 ·intro s b l h; cases h
 ·intro d d' B h; cases h
 ·intro s d B h; cases h
 ·intro d B b l h; cases h
 ·intro d B h; cases h
 ·intro s B h; exact h
 ·exact Nat.le_refl _
 ·intro b o h
  have:au.empty.get b=none:=by
   rfl
  grind [Ub,au.empty]
def HM {W:World} (p:Int×Int):PR W (TW W) false (.agg (ko p)) (.agg (kr p).toArray):=by
 refine .agg false _ _ (by rfl) ?_ ?_
 ·intro i y h
  match i,h with
  | 0,h=>simp [kr] at h; subst h; rfl
  | 1,h=>simp [kr] at h; subst h; rfl
  | i+2,h=>simp [kr] at h
 ·intro i x y hx hy
  match i,hx,hy with
  | 0,hx,hy=>simp [ko,kr] at hx hy; subst hx hy; exact .int _ _ _
  | 1,hx,hy=>simp [ko,kr] at hx hy; subst hx hy; exact .int _ _ _
  | i+2,hx,hy=>simp [ko] at hx
def R9 {P:Program} {C:gv} {F:gX} (T : @nF ⟨True⟩ P C F (λ_=>none)) {g:Nat} {cf:Int×Int->Int×Int->Int}
  (hc:∀ x y:Int×Int,∃ v,fh C F (λ_=>none) false g [.agg (ko x),.agg (ko y)] au.empty v au.empty/\v=.int .i64 (cf x y)) (x y:Int×Int) (w:World) :
  Calls P g #[.agg (kr x).toArray,.agg (kr y).toArray] w λe w'=>e=.returned (.int .i64 (cf x y))/\∃ q os',w'=grow (w.drewN q) os':=by
 obtain ⟨v,⟨m,hm⟩,rfl⟩:=hc x y
 have hk:=@mT ⟨True⟩ P C F _ T m false g _ _ _ _ (hm m (Nat.le_refl _)) (Ub w) #[.agg (kr x).toArray,.agg (kr y).toArray] rfl rfl (λ_=>rfl) (wr0 w) rfl (by
  intro i a b ha hb
  match i,ha,hb with
  | 0,ha,hb=>simp at ha hb; subst ha hb; exact (HM x).wv
  | 1,ha,hb=>simp at ha hb; subst ha hb; exact (HM y).wv
  | i+2,ha,hb=>simp at ha)
 refine hk.2 _ ?_
 intro u G' hS _ _ hv
 obtain ⟨_,hos,hou,hta,hsz,hfr,_⟩:=hS
 refine ⟨?_,grown_of hos hou hta.1 (hta.2 trivial) hsz λB hB=>hfr B hB (λb l h=>by cases h) (λd B h=>by cases h)⟩
 have h1:=hv [] (λ_=>none)
 cases h1 with
 | gf hp h=>cases h; rfl
end Go.Sx
namespace Go.Sx
open Go
section
variable {C:gv} {F:gX} {Pr:gQ} {fa:eY} {Q:Ex->Env->au->Prop} {e:Env} {h h1:au} {all rest:List Oper} {o:Oper} {q:Env->au->Prop} {v:AV} {sch:List (Nat×List Nat)} {i:Nat} {a b:Code} {x y an:ga} {live:List Nat}
def oV (w:ic C F Pr fa all rest q (fp e o v) h1) (hw:fE all e o=some true:=by rfl) (hop:∀ call,gd o.op ⟨C,fa,call⟩ e h o.dst=some (v,h1):=by exact λ_=>rfl):ic C F Pr fa all (o::rest) q e h:=be hw hop w
def rV (w:gZ C F Pr fa all sch q (fp e o v) h1) (ho:all[i]?=some o:=by rfl) (hw:fE all e o=some true:=by rfl) (hop:∀ call,gd o.op ⟨C,fa,call⟩ e h o.dst=some (v,h1):=by exact λ_=>rfl):gZ C F Pr fa all ((i,[])::sch) q e h:=fD ho hw hop w
def oS (w:ic C F Pr fa all rest q (fp e o (.fG [])) h) (hw:fE all e o=some false:=by rfl):ic C F Pr fa all (o::rest) q e h:=Gz hw w
def rS (w:gZ C F Pr fa all sch q (fp e o (.fG [])) h) (ho:all[i]?=some o:=by rfl) (hw:fE all e o=some false:=by rfl):gZ C F Pr fa all ((i,[])::sch) q e h:=GG ho hw w
def oN (w:q e h):ic C F Pr fa all [] q e h:=HK w
def rN (w:q e h):gZ C F Pr fa all [] q e h:=Ih w
def qq (w:Wp C F Pr fa a x (su (Wp C F Pr fa b y Q) Q) e h):Wp C F Pr fa (.seq a b) (.sq x y) Q e h:=TQ w
def qs (w:Wp C F Pr fa a x (su (λe h=>Wp C F Pr fa b y Q (proj live e) { h with aT:=iu live h.aT }) Q) e h):Wp C F Pr fa (.seq a b) (.seq live x y) Q e h:=Iw w
def qk (w:Q .gH e h):Wp C F Pr fa .skip an Q e h:=Me w
def ql {l:Nat} (w:Q .gH e h):Wp C F Pr fa (.label l) an Q e h:=Ks w
def qe {id:Nat} (w:Q (.ext id) e h):Wp C F Pr fa (.exit id) an Q e h:=Na w
def qr (w:Q .ret e h):Wp C F Pr fa .ret an Q e h:=QV w
def qb {id:Nat} (w:Wp C F Pr fa a an (EB id Q) e h):Wp C F Pr fa (.block id a) an Q e h:=KC w
def qg {id:Nat} {ops:Array Oper} (w:ic C F Pr fa ops.toList ops.toList (Q .gH) e h):Wp C F Pr fa (.region id ops false) an Q e h:=Jl w
def qd {id:Nat} {ops:Array Oper} (w:gZ C F Pr fa ops.toList sch (Q .gH) e h):Wp C F Pr fa (.region id ops true) (.uB sch) Q e h:=Le w
def qT {c:Operand} (w:Wp C F Pr fa a x Q e h) (hc:fg e c=.bool true:=by rfl):Wp C F Pr fa (.cond c a b) (.two x y) Q e h:=GN hc (λ_=>w) (λh=>by cases h)
def qF {c:Operand} (w:Wp C F Pr fa b y Q e h) (hc:fg e c=.bool false:=by rfl):Wp C F Pr fa (.cond c a b) (.two x y) Q e h:=GN hc (λh=>by cases h) (λ_=>w)
def fQ {a b:Int} (w1:a<b->ic C F Pr fa all rest q (fp e o (.bool true)) h) (w2:¬ (a<b)->ic C F Pr fa all rest q (fp e o (.bool false)) h) {t u:Nat} {x y:Operand} {k k':IntKind} (ho:o.op=.binOp .lss t x y u:=by rfl) (hw:fE all e o=some true:=by rfl) (hx:fg e x=.int k a:=by rfl) (hy:fg e y=.int k' b:=by rfl) (hk:oE k k'=true:=by rfl):ic C F Pr fa all (o::rest) q e h:=pW hw (λ_=>by rw [ho]; exact ca hx hy hk (Ij _ a b)) w1 w2
def wC {a b:Int} (w1:a<b->gZ C F Pr fa all sch q (fp e o (.bool true)) h) (w2:¬ (a<b)->gZ C F Pr fa all sch q (fp e o (.bool false)) h) {t u:Nat} {x y:Operand} {k k':IntKind} (hi:all[i]?=some o:=by rfl) (ho:o.op=.binOp .lss t x y u:=by rfl) (hw:fE all e o=some true:=by rfl) (hx:fg e x=.int k a:=by rfl) (hy:fg e y=.int k' b:=by rfl) (hk:oE k k'=true:=by rfl):gZ C F Pr fa all ((i,[])::sch) q e h:=og hi hw (λ_=>by rw [ho]; exact ca hx hy hk (Ij _ a b)) w1 w2
def xz {a b:Int} (w1:a<=b->ic C F Pr fa all rest q (fp e o (.bool true)) h) (w2:¬ (a<=b)->ic C F Pr fa all rest q (fp e o (.bool false)) h) {t u:Nat} {x y:Operand} {k k':IntKind} (ho:o.op=.binOp .leq t x y u:=by rfl) (hw:fE all e o=some true:=by rfl) (hx:fg e x=.int k a:=by rfl) (hy:fg e y=.int k' b:=by rfl) (hk:oE k k'=true:=by rfl):ic C F Pr fa all (o::rest) q e h:=pW hw (λ_=>by rw [ho]; exact ca hx hy hk (Ra _ a b)) w1 w2
def jI {a b:Int} (w1:a > b->ic C F Pr fa all rest q (fp e o (.bool true)) h) (w2:¬ (a > b)->ic C F Pr fa all rest q (fp e o (.bool false)) h) {t u:Nat} {x y:Operand} {k k':IntKind} (ho:o.op=.binOp .gtr t x y u:=by rfl) (hw:fE all e o=some true:=by rfl) (hx:fg e x=.int k a:=by rfl) (hy:fg e y=.int k' b:=by rfl) (hk:oE k k'=true:=by rfl):ic C F Pr fa all (o::rest) q e h:=pW hw (λ_=>by rw [ho]; exact ca hx hy hk (Ie _ a b)) w1 w2
def BJ {a b:Int} (w1:a > b->gZ C F Pr fa all sch q (fp e o (.bool true)) h) (w2:¬ (a > b)->gZ C F Pr fa all sch q (fp e o (.bool false)) h) {t u:Nat} {x y:Operand} {k k':IntKind} (hi:all[i]?=some o:=by rfl) (ho:o.op=.binOp .gtr t x y u:=by rfl) (hw:fE all e o=some true:=by rfl) (hx:fg e x=.int k a:=by rfl) (hy:fg e y=.int k' b:=by rfl) (hk:oE k k'=true:=by rfl):gZ C F Pr fa all ((i,[])::sch) q e h:=og hi hw (λ_=>by rw [ho]; exact ca hx hy hk (Ie _ a b)) w1 w2
def jw {a b:Int} (w1:a>=b->ic C F Pr fa all rest q (fp e o (.bool true)) h) (w2:¬ (a>=b)->ic C F Pr fa all rest q (fp e o (.bool false)) h) {t u:Nat} {x y:Operand} {k k':IntKind} (ho:o.op=.binOp .geq t x y u:=by rfl) (hw:fE all e o=some true:=by rfl) (hx:fg e x=.int k a:=by rfl) (hy:fg e y=.int k' b:=by rfl) (hk:oE k k'=true:=by rfl):ic C F Pr fa all (o::rest) q e h:=pW hw (λ_=>by rw [ho]; exact ca hx hy hk (HO _ a b)) w1 w2
def Gs {a b:Int} (w1:a>=b->gZ C F Pr fa all sch q (fp e o (.bool true)) h) (w2:¬ (a>=b)->gZ C F Pr fa all sch q (fp e o (.bool false)) h) {t u:Nat} {x y:Operand} {k k':IntKind} (hi:all[i]?=some o:=by rfl) (ho:o.op=.binOp .geq t x y u:=by rfl) (hw:fE all e o=some true:=by rfl) (hx:fg e x=.int k a:=by rfl) (hy:fg e y=.int k' b:=by rfl) (hk:oE k k'=true:=by rfl):gZ C F Pr fa all ((i,[])::sch) q e h:=og hi hw (λ_=>by rw [ho]; exact ca hx hy hk (HO _ a b)) w1 w2
def gN {a b:Int} (w1:a=b->ic C F Pr fa all rest q (fp e o (.bool true)) h) (w2:¬ (a=b)->ic C F Pr fa all rest q (fp e o (.bool false)) h) {t u:Nat} {x y:Operand} {k k':IntKind} (ho:o.op=.binOp .eql t x y u:=by rfl) (hw:fE all e o=some true:=by rfl) (hx:fg e x=.int k a:=by rfl) (hy:fg e y=.int k' b:=by rfl) (hk:oE k k'=true:=by rfl):ic C F Pr fa all (o::rest) q e h:=pW hw (λ_=>by rw [ho]; exact ca hx hy hk (HT _ a b)) w1 w2
def FK {a b:Int} (w1:a=b->gZ C F Pr fa all sch q (fp e o (.bool true)) h) (w2:¬ (a=b)->gZ C F Pr fa all sch q (fp e o (.bool false)) h) {t u:Nat} {x y:Operand} {k k':IntKind} (hi:all[i]?=some o:=by rfl) (ho:o.op=.binOp .eql t x y u:=by rfl) (hw:fE all e o=some true:=by rfl) (hx:fg e x=.int k a:=by rfl) (hy:fg e y=.int k' b:=by rfl) (hk:oE k k'=true:=by rfl):gZ C F Pr fa all ((i,[])::sch) q e h:=og hi hw (λ_=>by rw [ho]; exact ca hx hy hk (HT _ a b)) w1 w2
def iV {a b:Int} (w1:a≠b->ic C F Pr fa all rest q (fp e o (.bool true)) h) (w2:¬ (a≠b)->ic C F Pr fa all rest q (fp e o (.bool false)) h) {t u:Nat} {x y:Operand} {k k':IntKind} (ho:o.op=.binOp .neq t x y u:=by rfl) (hw:fE all e o=some true:=by rfl) (hx:fg e x=.int k a:=by rfl) (hy:fg e y=.int k' b:=by rfl) (hk:oE k k'=true:=by rfl):ic C F Pr fa all (o::rest) q e h:=pW hw (λ_=>by rw [ho]; exact ca hx hy hk (Io _ a b)) w1 w2
def yy {a b:Int} (w1:a≠b->gZ C F Pr fa all sch q (fp e o (.bool true)) h) (w2:¬ (a≠b)->gZ C F Pr fa all sch q (fp e o (.bool false)) h) {t u:Nat} {x y:Operand} {k k':IntKind} (hi:all[i]?=some o:=by rfl) (ho:o.op=.binOp .neq t x y u:=by rfl) (hw:fE all e o=some true:=by rfl) (hx:fg e x=.int k a:=by rfl) (hy:fg e y=.int k' b:=by rfl) (hk:oE k k'=true:=by rfl):gZ C F Pr fa all ((i,[])::sch) q e h:=og hi hw (λ_=>by rw [ho]; exact ca hx hy hk (Io _ a b)) w1 w2
def oC {f:Nat} {args:List AV} {R:AV->Prop} (w:∀ h:au,∃ v,fh C F Pr false f args h v h/\R v) (next:∀ v,R v->ic C F Pr fa all rest q (fp e o v) h) {g:Operand} {c:Call} (ho:o.op=.call c:=by rfl) (hw:fE all e o=some true:=by rfl) (hf:c.callee=.value g:=by rfl) (hg:fg e g=.gx f [] []:=by rfl) (ha:c.args.toList.map (fg e)=args:=by rfl) (hok:args.all AV.kK=true:=by rfl) (hs:fa.fY.elem f=false:=by rfl):ic C F Pr fa all (o::rest) q e h:=Mb ho hw hf hg ha hok hs w next
def rC {f:Nat} {args:List AV} {R:AV->Prop} (w:∀ h:au,∃ v,fh C F Pr false f args h v h/\R v) (next:∀ v,R v->gZ C F Pr fa all sch q (fp e o v) h) {g:Operand} {c:Call} (hi:all[i]?=some o:=by rfl) (ho:o.op=.call c:=by rfl) (hw:fE all e o=some true:=by rfl) (hf:c.callee=.value g:=by rfl) (hg:fg e g=.gx f [] []:=by rfl) (ha:c.args.toList.map (fg e)=args:=by rfl) (hok:args.all AV.kK=true:=by rfl) (hs:fa.fY.elem f=false:=by rfl):gZ C F Pr fa all ((i,[])::sch) q e h:=NN hi hw ho hf hg ha hok hs w next
def w0 {c:Code} (E:Env) (L:iN) (w:Wp C F Pr fa c an Q E { au.empty with aT:=L }) (he:e=E:=by rfl) (hh:h = { au.empty with aT:=L }:=by rfl):Wp C F Pr fa c an Q e h:=Qd he hh w
end
def Row.lk {α:Type} (r:Row α):r.l.length<=9223372036854775807:=r.ok
def ff.lk {α:Type} (r:ff α):r.l.length<=9223372036854775807:=r.ok
def oq.lk (r:oq):r.l.length<=9223372036854775807:=r.ok
abbrev iv (n:Int):AV:=.int .i64 n
theorem FZ:(∀ sn hp n k a,freeze sn hp (n+1) (.int k a)=some (.int k a))/\(∀ sn hp n b,freeze sn hp (n+1) (.bool b)=some (.bool b))/\(∀ sn hp n s,freeze sn hp (n+1) (.str s)=some (.str s)) /\
  (∀ (α:Type) (enc : α->List AV) hp n r,freeze true hp (n+1) (ff.av enc r)=some (ff.av enc r))/\(∀ (α:Type) (enc : α->List AV) sn hp n r,freeze sn hp (n+1) (Row.av enc r)=some (Row.av enc r)) /\
  (∀ hp n c o s,freeze true hp (n+1) (.ip c o s)=some (.ip c o s))/\(∀ sn hp n c o,freeze sn hp (n+1) (.ip c o false)=some (.ip c o false))/\(∀ hp n c s,freeze true hp (n+1) (.fm c s)=some (.fm c s))/\(∀ sn hp n c,freeze sn hp (n+1) (.fm c false)=some (.fm c false)) /\
  (∀ sn hp n,freeze sn hp (n+1) (.sl [] .nil)=some (.sl [] .nil))/\(∀ sn hp n,freeze sn hp (n+1) .iL=some .iL)/\(∀ sn hp n,freeze sn hp (n+1) .iw=some .iw)/\(∀ sn hp n m xs,freeze sn hp (n+1) (.sl xs (.exact m))=some (.sl xs (.exact m))) /\
  (∀ sn hp n l,freeze sn hp (n+1) (.agg l)=(match fU (freeze sn hp n) l with
    | some l=>some (.agg l)
    | none=>none))/\(∀ sn hp n l,freeze sn hp (n+1) (.fG l)=(match fU (freeze sn hp n) l with
    | some l=>some (.fG l)
    | none=>none))/\(∀ x:eU,x.ai=[.int .i64 x.elem,.int .i64 x.en])/\(∀ x:bm,x.ai=[.int .i64 x.elem,.int .i64 x.pos])/\(∀ x:gI,x.ai=[.int .i64 x.out,.int .i64 x.pos])/\(∀ x:fi,x.ai=[.int .i64 x.elem,.int .i64 x.kH,.int .i64 x.out])/\(∀ x:jl,x.ai=[.str x.name.l,.int .i64 x.kind,.int .i64 x.len])/\(∀ x:ny,x.ai=[.bool x.Nd,.int .i64 x.at_,.int .i64 x.end_,.int .i64 x.to]) /\
  (∀ x:fe,x.ai=[.int .i64 x.from_,.int .i64 x.to,.int .i64 x.end_,x.steps.av fi.ai,x.fX.av bm.ai,x.guards.av bm.ai,x.gB.av cI,x.holds.av cI,.bool x.bare])/\(∀ x:sW,x.ai=[.int .i64 x.from_,.int .i64 x.to,.int .i64 x.end_,x.steps.av fi.ai,x.fX.av bm.ai,x.guards.av bm.ai,x.gB.av cI,x.holds.av cI,.bool x.bare]) /\
  (∀ x:mO,x.ai=[.int .i64 x.vE,x.steps.av fi.ai,x.pos.av cI,x.left.av (kq gI.ai)])/\(∀ p:bY,p.ai=[p.elems.av jl.ai,p.fj.av ig.ai,p.signals.av iD.ai,p.lines.av gp.ai,.int .i64 p.top,.int .i64 p.gD,.int .i64 p.gu,.int .i64 p.gw,.bool p.gE])/\(∀ x:fz,x.ai=x.cB.ai++[x.roads.av fe.ai]) /\
  (∀ x:pT,x.ai=[.int .i64 x.mode,x.xp.av eU.ai,.int .i64 x.left,.int .i64 x.zP,.int .i64 x.v])/\(∀ x:ow,x.ai=[.str x.name.l,.int .i64 x.kJ,.int .i64 x.at_.elem,.int .i64 x.at_.en,.int .i64 x.left])/\(∀ x:gp,x.ai=[.str x.name.l,x.elems.av cI])/\(∀ x:pk,x.ai=[.str x.name.l,.int .i64 x.kJ,.int .i64 x.from_,.int .i64 x.left,x.nc.av ny.ai])/\(∀ x:ib,x.ai=[.int .i64 x.CA,x.kJ.av mu.ai,x.runs.av pk.ai]) /\
  (∀ (f:AV->Option AV),fU f []=some [])/\(∀ (f:AV->Option AV) v l,fU f (v::l)=(match f v with
    | none=>none
    | some w=>match fU f l with
      | none=>none
      | some l'=>some (w::l')))/\(∀ (a b:List AV) v,(v::a)++b=v::(a++b))/\(∀ b:List AV,[]++b=b):=by
 refine ⟨λ_ _ _ _ _=>rfl,λ_ _ _ _=>rfl,λ_ _ _ _=>rfl,λ_ _ _ _ r=>FF r,λ_ _ _ _ _ r=>iE r,λ_ _ _ _ _=>HP _ _ _,λ_ _ _ _ _=>Q6 _ _,λ_ _ _ _=>Il _ _,λ_ _ _ _=>Q2 _,λ_ _ _=>rfl,λ_ _ _=>rfl,λ_ _ _=>rfl,λ_ _ _ _ _=>rfl,λ_ _ _ _=>rfl,λ_ _ _ _=>rfl,?_⟩
 exact ⟨λ_=>rfl,λ_=>rfl,λ_=>rfl,λ_=>rfl,λ_=>rfl,λ_=>rfl,λ_=>rfl,λ_=>rfl,λ_=>rfl,λ_=>rfl,λ_=>rfl,λ_=>rfl,λ_=>rfl,λ_=>rfl,λ_=>rfl,λ_=>rfl,λ_=>rfl,λ_ _ _=>rfl,λ_ _ _=>rfl,λ_=>rfl⟩
def Rk (amb:Bool) (a b:Option eU) (to:Int):Option eU:=match a,b with
 | some _,none=>some ⟨to,1⟩
 | none,some _=>some ⟨to,0⟩
 | _,_=>if amb=true then some ⟨to,-1⟩ else none
def pY (amb:Bool) (A:Int->Option eU) (N:eU->Option eU) (l:ny):Option eU:=if l.end_=1 then A l.to else if l.end_=3 then Rk amb (N ⟨l.to,0⟩) (N ⟨l.to,1⟩) l.to else none
def LQ (amb:Bool) (A:Int->Option eU) (N:eU->Option eU) (r:pk) (leg:Int):Option eU:=if leg=0 then A r.from_ else match r.nc.l[(leg - 1).toNat]? with
 | none=>none
 | some l=>pY amb A N l
def qi (amb:Bool) (A:Int->Option eU) (N:eU->Option eU) (d:ib) (run leg:Int):Option eU:=if run<0 then none else match d.runs.l[run.toNat]? with
 | none=>none
 | some r=>if leg<0\/leg > r.nc.l.length then none else LQ amb A N r leg
section
variable {amb:Bool} {A:Int->Option eU} {N:eU->Option eU} {d:ib} {run leg:Int} {x:pk} {y:ny}
theorem HQ (h:y.end_=1):pY amb A N y=A y.to:=by grind [pY]
theorem HY (h:¬ y.end_=1) (h3:y.end_=3):pY amb A N y=Rk amb (N ⟨y.to,0⟩) (N ⟨y.to,1⟩) y.to:=by grind [pY]
theorem Q9 (h:¬ y.end_=1) (h3:¬ y.end_=3):pY amb A N y=none:=by grind [pY]
end
def WY (amb:Bool) (K:Int->Int) (R:eU->Int) (h:eU) (l:ny):Int:=if l.Nd=true then if K h.elem=1 then R ⟨h.elem,IntKind.i64.wrap (1 - h.en)⟩ else -1 else R h
def tM (amb:Bool) (A:Int->Option eU) (N:eU->Option eU) (K:Int->Int) (R:eU->Int) (d:ib) (run leg:Int):Int:=match qi amb A N d run leg with
 | none=>-1
 | some h=>if amb=true/\h.en<0 then -1 else match d.runs.l[run.toNat]? with
   | none=>-1
   | some r=>match r.nc.l[leg.toNat]? with
     | none=>-1
     | some l=>WY amb K R h l
section
variable {amb:Bool} {A:Int->Option eU} {N:eU->Option eU} {K:Int->Int} {R:eU->Int} {d:ib} {run leg:Int} {x:pk} {y:ny} {h:eU}
theorem CY (hh:qi amb A N d run leg=none):tM amb A N K R d run leg = -1:=by rw [tM,hh]
theorem Lm (hh:qi true A N d run leg=some h) (hn:h.en<0):tM true A N K R d run leg = -1:=by grind [tM]
theorem Ni (hA:∀ i h,A i=some h->0<=h.en):tM false A N K R d run leg=tM true A N K R d run leg:=by
 have hl:∀ l:ny,(pY false A N l=none/\pY true A N l=none)\/(∃ h,pY false A N l=none/\pY true A N l=some h/\h.en<0)\/∃ h,pY false A N l=some h/\pY true A N l=some h/\0<=h.en:=by
  intro l
  by_cases h1:l.end_=1
  ·rw [HQ h1,HQ h1]
   cases h:A l.to<;>grind
  ·by_cases h3:l.end_=3
   ·rw [HY h1 h3,HY h1 h3]
    cases N ⟨l.to,0⟩<;>cases N ⟨l.to,1⟩<;>simp [Rk]
   grind [Q9]
 have hg:(qi false A N d run leg=none/\qi true A N d run leg=none)\/(∃ h,qi false A N d run leg=none/\qi true A N d run leg=some h/\h.en<0)\/∃ h,qi false A N d run leg=some h/\qi true A N d run leg=some h/\0<=h.en:=by
  unfold qi
  split
  ·simp
  ·cases d.runs.l[run.toNat]? with
   | none=>simp
   | some r =>
     simp only
     split
     ·simp
     ·unfold LQ
      split
      ·cases h:A r.from_<;>grind
      ·cases r.nc.l[(leg - 1).toNat]?<;>grind
 rcases hg with ⟨h1,h2⟩ | ⟨h,h1,h2,h3⟩ | ⟨h,h1,h2,h3⟩
 ·grind [CY]
 ·grind [CY,Lm]
 ·simp only [tM,h1,h2,Bool.false_eq_true,false_and,true_and,if_false]
  rw [if_neg (by omega)]
  rfl
end
section
variable (X:Ctx) (lp:Az)
def qA:List Bool->Code->ga->Env->au->RC
 | [],_,_,e,h=>some (.gH,e,h)
 | true::p,.seq a b,.sq x y,e,h=>andThen (qA p b y) (gF X lp a x e h)
 | true::p,.seq a b,.seq live x y,e,h=>andThen (jo live (qA p b y)) (gF X lp a x e h)
 | false::p,.seq a _,.sq x _,e,h=>qA p a x e h
 | false::p,.seq a _,.seq _ x _,e,h=>qA p a x e h
 | false::p,.block _ a,an,e,h=>qA p a an e h
 | false::p,.scope a,an,e,h=>qA p a an e h
 | _,_,_,_,_=>none
def behind:List Bool->Code->ga->RC->RC
 | [],_,_,r=>r
 | true::p,.seq _ b,.sq _ y,r=>behind p b y r
 | true::p,.seq _ b,.seq _ _ y,r=>behind p b y r
 | false::p,.seq a b,.sq x y,r=>andThen (gF X lp b y) (behind p a x r)
 | false::p,.seq a b,.seq live x y,r=>andThen (jo live (gF X lp b y)) (behind p a x r)
 | false::p,.block id a,an,r=>atEnd id (behind p a an r)
 | false::p,.scope a,an,r=>behind p a an r
 | _,_,_,r=>r
end
def p6:List Bool->Code->ga->Code×ga
 | [],c,an=>(c,an)
 | true::p,.seq _ b,.sq _ y=>p6 p b y
 | true::p,.seq _ b,.seq _ _ y=>p6 p b y
 | false::p,.seq a _,.sq x _=>p6 p a x
 | false::p,.seq a _,.seq _ x _=>p6 p a x
 | false::p,.block _ a,an=>p6 p a an
 | false::p,.scope a,an=>p6 p a an
 | _,c,an=>(c,an)
section
variable {X:Ctx} {lp:Az}
def A7 {k:Env->au->RC} {r:RC} {e0:Env} {h0:au} (h:andThen k r=some (.gH,e0,h0)):∃ e h,r=some (.gH,e,h)/\k e h=some (.gH,e0,h0):=by
 unfold andThen at h
 grind
def rE:Nat->(Env->au->RC)->Env->au->RC
 | 0,_,e,h=>some (.gH,e,h)
 | n+1,f,e,h=>match f e h with
   | some (.gH,e,h)=>rE n f e h
   | r=>r
end
def tO (args0:List AV) (v0:AV) (shd:Bool) (args:List AV) (h:au):R2:=match shd,lK (iR 12) args0 args with
 | false,true=>some (v0,h)
 | _,_=>none
def AW {P:Program} {C:gv} {F:gX} {Pr:gQ} (T:nF P C F Pr) {f n:Nat} {args0:List AV} {v0:AV} {h0:au} (h:gP C F Pr n false f args0 au.empty=some (v0,h0)):lg P f (tO args0 v0) where
 call:=by
  intro shd args h1 v h' hc
  unfold tO at hc
  split at hc
  ·rename_i _ ha
   cases hc
   have:=lX (oe 12) _ _ ha
   subst this
   obtain ⟨_,k⟩:=pC T n f args0 au.empty v0 h0 h
   exact mT T n false f args0 h1 v0 h1 (k h1 (λb o hb=>by grind [DR]))
  grind
 Ce:=by
  grind [tO]
section
variable {C:gv} {F:gX} {Pr:gQ}
theorem fh.w4 {shd:Bool} {f:Nat} {args:List AV} {h h1 h2:au} {v1 v2:AV} (a:fh C F Pr shd f args h v1 h1) (b:fh C F Pr shd f args h v2 h2):v1=v2/\h1=h2:=by
 obtain ⟨m,ha⟩:=a
 obtain ⟨n,hb⟩:=b
 have:=(ha (m+n) (by omega)).symm.trans (hb (m+n) (by omega))
 grind
def zC (Pr:gQ):Prop:=∀ f p,Pr f=some p->∀ (args:List AV) (h:au) (v:AV) (h':au),p false args h=some (v,h')->h'=h/\∀ h2:au,(∀ b o,h.get b=some o->h2.get b=some o)->p false args h2=some (v,h2)
def C9 (T:zC Pr) (n:Nat):mr (gP C F Pr n):=by
 intro f args h v h' hc
 cases n with
 | zero=>cases hc
 | succ n =>
   simp only [gP] at hc
   cases hp:Pr f with
   | some p =>
     rw [hp] at hc
     obtain ⟨k1,k2⟩:=T f p hp _ _ _ _ hc
     grind [gP]
   | none =>
     grind [DL,gP]
open Classical in
noncomputable def res (C:gv) (F:gX) (Pr:gQ) (f:Nat) (args:List AV):AV :=
 if H:∃ v,fh C F Pr false f args au.empty v au.empty then Classical.choose H else .undef
theorem fh.at (T:zC Pr) {f:Nat} {args:List AV} {v:AV} (h:au) (hc:fh C F Pr false f args au.empty v au.empty):fh C F Pr false f args h v h:=by
 obtain ⟨m,hm⟩:=hc
 refine ⟨m,λk hk=>(C9 T k f args au.empty v _ (hm k hk)).2 h ?_⟩
 intro b o hb
 have:au.empty.get b=none:=by
  rfl
 grind
def SE (T:zC Pr) {f:Nat} {args:List AV} {R:AV->Prop} (w:∀ h:au,∃ v,fh C F Pr false f args h v h/\R v) {h:au} {v:AV} (hc:fh C F Pr false f args h v h):res C F Pr f args=v:=by
 obtain ⟨v0,h0,_⟩:=w au.empty
 have H:∃ v,fh C F Pr false f args au.empty v au.empty:=⟨v0,h0⟩
 have e:res C F Pr f args=Classical.choose H:=dif_pos H
 rw [e]
 exact ((Classical.choose_spec H).at T h).w4 hc |>.1
def rZ (T:zC Pr) {f:Nat} {args:List AV} {R:AV->Prop} (w:∀ h:au,∃ v,fh C F Pr false f args h v h/\R v) (h:au):∃ v,fh C F Pr false f args h v h/\R v/\res C F Pr f args=v:=by
 obtain ⟨v,hc,hR⟩:=w h
 exact ⟨v,hc,hR,SE T w hc⟩
end
def zS:ml->ml
 | .exact _=>.iB
 | c=>c
mutual
def tF:AV->AV
 | .sl xs c=>.sl (tv xs) (zS c)
 | .agg l=>.agg (tB l)
 | v=>v
def tB:List AV->List AV
 | []=>[]
 | v::l=>tF v::tB l
def tv:List (List AV)->List (List AV)
 | []=>[]
 | x::l=>tB x::tv l
end
theorem wY:∀ (l:List AV) (i:Nat),(tB l)[i]?=(l[i]?).map tF
 | [],i=>by rfl
 | v::l,0=>by rfl
 | v::l,i+1=>by simp [tB,wY l i]
theorem AS:∀ (l:List AV),(tB l).length=l.length
 | []=>rfl
 | v::l=>by simp [tB,AS l]
theorem GJ:∀ (l:List (List AV)) (i:Nat),(tv l)[i]?=(l[i]?).map tB
 | [],i=>by rfl
 | v::l,0=>by rfl
 | v::l,i+1=>by simp [tv,GJ l i]
theorem xq:∀ (l:List (List AV)),(tv l).length=l.length
 | []=>rfl
 | v::l=>by simp [tv,xq l]
theorem Ic {c:ml} {n m:Nat} (h:nJ c n m) (hle:n<=m):nJ (zS c) n m:=by
 cases c<;>first | exact h | exact hle
def PR.wk {w:World} {T:Bool->Nat->Prop} {m:Bool} {v:AV} {u:Value} (h:PR w T m v u):PR w T m (tF v) u:=by
 induction h with
 | undef m v h=>exact .undef m v h
 | bool m b=>exact .bool m b
 | int m k n=>exact .int m k n
 | str m s b h=>exact .str m s b h
 | iL m=>exact .iL m
 | ip m cells off sn B base c e fr f hm hB hI hc h1 hr=>exact .ip m cells off sn B base c e fr f hm hB hI hc h1 hr
 | slnil m=>exact .slnil m
 | my m cap a c hm h=>exact .my m (zS cap) a c (by rw [show o6 (zS cap)=o6 cap from by cases cap<;>rfl]; exact hm) (Ic h (Nat.zero_le _))
 | sl m xs cap B base c e fr cap' esz f hm hB hI hcap hle hz hc h1 hr ih =>
   have hs:o6 (zS cap)=o6 cap:=by cases cap<;>rfl
   have ex:∀ (i:Nat) (cs:List AV),(tv xs)[i]?=some cs->∃ cs0,xs[i]?=some cs0/\cs=tB cs0:=by
    grind [GJ]
   have ex2:∀ (cs0:List AV) (j:Nat) (x:AV),(tB cs0)[j]?=some x->∃ x0,cs0[j]?=some x0/\x=tF x0:=by
    grind [wY]
   have key:=PR.sl (w:=w) (T:=T) m (tv xs) (zS cap) B base c e fr cap' esz f (by grind) hB (by grind) (by grind [xq,Ic]) (by grind [xq])
    (by grind [AS])
    (by grind)
    (by grind)
    (by grind)
   rw [xq] at key
   exact key
 | iw m=>exact .iw m
 | fm m es sn r ents clk hm hB hI hl hy hko hk hv=>exact .fm m es sn r ents clk hm hB hI hl hy hko hk hv
 | j7 m=>exact .j7 m
 | gx m g a c a' c' ha hc hra hrc=>exact .gx m g a c a' c' ha hc hra hrc
 | agg m l vs hl h1 hr ih =>
   refine .agg m (tB l) vs (by grind [AS]) h1 ?_
   grind [wY]
def Q0 {v:AV} (h:v.iA=true):(tF v).iA=true:=by
 cases v<;>first | exact h | (simp [AV.iA] at h)
def VR.wk {G:Ga} {v:AV} {u:Value} (h:VR G v u):VR G (tF v) u:=by
 induction h with
 | undef v=>exact .undef v
 | gf hp h=>exact .gf (Q0 hp) h.wk
 | ptr b g i o a hb hg h=>exact .ptr b g i o a hb hg h
 | hs b g off len a cap' hb hg hle h=>exact .hs b g off len a cap' hb hg hle h
 | hm b r hb h=>exact .hm b r hb h
 | la d o B hd=>exact .la d o B hd
 | gx g a c a' c' ha hc hna hnc hra hrc=>exact .gx g a c a' c' ha hc hna hnc hra hrc
 | agg l vs hl hn h1 hr ih =>
   refine .agg (tB l) vs (by grind [AS]) ?_ h1 ?_
   ·intro x hx
    obtain ⟨i,hi⟩:=List.getElem?_of_mem hx
    rw [wY] at hi
    obtain ⟨x0,g1,rfl⟩:=Option.map_eq_some_iff.mp hi
    have:=hn x0 (List.mem_of_getElem? g1)
    cases x0<;>first | exact this | rfl
   grind [wY]
 | fG l vs hl hr=>exact .fG l vs hl hr
open Classical in
noncomputable def sE (C:gv) (F:gX) (Pr:gQ) (f:Nat) (shd:Bool) (args:List AV) (h:au):Option (AV×au):=match shd with
 | true=>none
 | false=>if H:∃ v,fh C F Pr false f args h v h then some (tF (Classical.choose H),h) else none
theorem xL {C:gv} {F:gX} {Pr:gQ} {f:Nat} {args:List AV} {h:au} {v:AV} (hc:fh C F Pr false f args h v h):sE C F Pr f false args h=some (tF v,h):=by
 have H:∃ v,fh C F Pr false f args h v h:=⟨v,hc⟩
 have e:sE C F Pr f false args h=some (tF (Classical.choose H),h):=dif_pos H
 rw [e,((Classical.choose_spec H).w4 hc).1]
def GL {C:gv} {F:gX} {Pr:gQ} (T:zC Pr) (f:Nat):∀ (args:List AV) (h:au) (v:AV) (h':au),sE C F Pr f false args h=some (v,h')->h'=h/\∀ h2:au,(∀ b o,h.get b=some o->h2.get b=some o)->sE C F Pr f false args h2=some (v,h2):=by
 intro args h v h' hc
 by_cases H:∃ v,fh C F Pr false f args h v h
 ·obtain ⟨v0,hv0⟩:=H
  rw [xL hv0] at hc
  cases hc
  refine ⟨rfl,λh2 E=>?_⟩
  obtain ⟨m,hm⟩:=hv0
  have:fh C F Pr false f args h2 v0 h2:=⟨m,λk hk=>(C9 T k f args h v0 h (hm k hk)).2 h2 E⟩
  exact xL this
 grind [sE]
def Kw (args0:List AV) (v0:AV):∀ (args:List AV) (h:au) (v:AV) (h':au),tO args0 v0 false args h=some (v,h')->h'=h/\∀ h2:au,(∀ b o,h.get b=some o->h2.get b=some o)->tO args0 v0 false args h2=some (v,h2):=by
 grind [tO]
def Q4 {P:Program} {C:gv} {F:gX} {Pr:gQ} (T:nF P C F Pr):zC Pr:=λf p hp=>(T.EP f p hp).Ce
def Hv {P:Program} {C:gv} {F:gX} {Pr:gQ} (T:nF P C F Pr) (f:Nat):lg P f (sE C F Pr f) where
 call:=by
  intro shd args h v h' hc
  cases shd with
  | true=>cases hc
  | false =>
    by_cases H:∃ v,fh C F Pr false f args h v h
    ·obtain ⟨v0,hv0⟩:=H
     rw [xL hv0] at hc
     cases hc
     obtain ⟨m,hm⟩:=hv0
     have hk:=mT T m false f args h v0 h (hm m (Nat.le_refl _))
     intro G args' e1 e2 e3 e4 e5 e6
     obtain ⟨k1,k2⟩:=hk G args' e1 e2 e3 e4 e5 e6
     exact ⟨k1,λR hR=>k2 R λu G' s1 s2 s3 s4=>hR u G' s1 s2 s3 λm L=>(s4 m L).wk⟩
    grind [sE]
 Ce:=GL (Q4 T) f
def Kz {n:Nat} {h h':au} {s v':AV} {ys:List (List AV)} (ha:append n h s ys=some (v',h')) (hs:s≠.sl [] .nil):v'≠.sl [] .nil:=by
 unfold append at ha
 split at ha
 ·grind
 ·split at ha
  ·cases ha
  ·split at ha<;>grind [rD,mA,Cs]
section
variable {C:gv} {F:gX} {Pr:gQ} {fa:eY} {e:Env} {α:Type} {enc : α->List AV} {H:au} {L:List gh} {i:Nat} {w tt:Bool} {v:AV} {n:Nat} {l:List α} {ls:iN}
def u9 {cl:Call} {s x:Operand} {t u:Nat} {ti:TI} {d:Option Nat} (ys:List α) (hS:Sep H L) (hi:L[i]?=some (.sl w tt v n (l.map enc))) (hc:cl.callee=.builtin .append) (ha:cl.args.toList=[s,x]) (hts:cl.argTypes.toList=[t,u]) (hT:pX C [t,u]=some ti) (hSr:Bn C [t,u]=true) (hn:ti.size=n)
  (hs:fg e s=v) (hx:mF { H with aT:=ls } (fg e x)=some (ys.map enc)) (hok:∀ y,(enc y).all AV.gY=true) (ht:tt=true\/ys.length=1) (hm:l.length+ys.length<=o5) (henc:∀ x,(enc x).length=n) :
  ∃ v' H',(∀ call,gd (.call cl) ⟨C,fa,call⟩ e { H with aT:=ls } d=some (v',{ H' with aT:=ls }))/\Sep H' (L.set i (.sl w tt v' n ((l++ys).map enc)))/\(v≠.sl [] .nil->v'≠.sl [] .nil):=by
 obtain ⟨v',H',h1,h2⟩:=GA (ls:=ls) (ys:=ys.map enc) hS hi (by grind) (by grind) (by grind)
 refine ⟨v',H',λcall=>?_,by grind,Kz h1⟩
 have hall:AI (ys.map enc)=true:=by
  grind [AI]
 simp only [gd,nG,mM,hc,ha,hts,lz,BB,rT,List.map_cons,List.map_nil,hT,hSr,hn,hs,hx,hall,h1]
def vd (hS:Sep H L) (hi:L[i]?=some (.sl w tt v n (l.map enc))) (hl:l.length<=rI):∃ r:Row α,r.l=l/\(r.c=.nil↔v=.sl [] .nil)/\∀ ls m,(∀ x,fU (freeze false { H with aT:=ls } m) (enc x)=some (enc x))->freeze false { H with aT:=ls } (m+1) v=some (r.av enc):=by
 obtain ⟨hxl,⟨h0,rfl⟩ | ⟨_,rfl⟩ | ⟨b,g,j,hb,rfl,hg,htj⟩⟩:=hS.at hi
 ·have:l=[]:=List.map_eq_nil_iff.mp h0
  subst this
  exact ⟨⟨[],.nil,Nat.zero_le _,rfl,λ_=>rfl⟩,rfl,⟨λ_=>rfl,λ_=>rfl⟩,λ_ _ _=>rfl⟩
 ·exact ⟨⟨l,.exact (l.map enc).length,hl,rfl,λh=>by cases h⟩,rfl,⟨λh=>(by cases h),λh=>(AV.sl.inj h).2⟩,λ_ _ _=>rfl⟩
 ·refine ⟨⟨l,.iB,hl,rfl,λh=>by cases h⟩,rfl,⟨λh=>(by cases h),λh=>(by cases h)⟩,λls m hm=>?_⟩
  have h2:Nat.ble (0+(l.map enc).length) (l.map enc++j).length=true:=Nat.ble_eq.mpr (by simp)
  have h3:((l.map enc++j).drop 0).take (l.map enc).length=l.map enc:=by simp
  have h5:∀ ys:List (List AV),(∀ x∈ys,fU (freeze false { H with aT:=ls } m) x=some x)->lT (freeze false { H with aT:=ls } m) ys=some ys:=by
   intro ys
   induction ys<;>grind [lT]
  simp only [freeze,au.iG,hg,Nat.beq_refl,h2,Bool.and_self,h3,h5 (l.map enc) (by grind),Av]
  rfl
end
def ff.AF {α:Type} {r:ff α}:r.isNil=true↔r.c=.nil:=by
 grind [ff.isNil]
def Ls {X:Ctx} {e:Env} {h:au} {d:Option Nat} {t u:Nat} {x y:Operand} {ti:TI} {cs:List AV} (hx:fg e x=.agg cs) (hy:fg e y=.agg cs) (hT:X.C.T t=some ti) (hf:vA ti (.agg cs) (.agg cs)=some true) :
  gd (.binOp .eql t x y u) X e h d=some (.bool true,h)/\gd (.binOp .neq t x y u) X e h d=some (.bool false,h):=by
 simp_all [gd,zd,binOp,AV.int?,AV.str?,zg,iJ,sC]
def Mk {X:Ctx} {e:Env} {h:au} {d:Option Nat} {t u:Nat} {x y:Operand} {ti:TI} {cs:List AV} (hx:fg e x=.agg cs) (hy:fg e y=.agg cs) (hT:X.C.T t=some ti) (hf:vA ti (.agg cs) (.agg cs)=ki cs cs) (hs:ki cs cs=some true):gd (.binOp .neq t x y u) X e h d=some (.bool false,h):=(Ls hx hy hT (hf.trans hs)).2
theorem wA.trans {α:Type} {a b c:Row α} (h:wA a b) (g:wA b c):wA a c:=⟨h.1.trans g.1,h.2.trans g.2⟩
theorem sD.trans {a b c:gp} (h:sD a b) (g:sD b c):sD a c:=⟨h.1.trans g.1,h.2.trans g.2⟩
def LS {l m:List gp} (h:∀ (i:Nat) (h:i<l.length) (h2:i<m.length),sD l[i] m[i]) {k:Nat} {x x':gp} (hk:k<l.length) (hq:l[k]=x) (hx:sD x' x) :
  ∀ (i:Nat) (h:i<(l.set k x').length) (h2:i<m.length),sD (l.set k x')[i] m[i]:=by
 intro i hi h2
 rw [List.getElem_set]
 split
 ·rename_i e
  subst e
  exact hx.trans (by grind)
 grind
def JP (r p:bY):Prop:=wA r.elems p.elems/\wA r.fj p.fj/\wA r.signals p.signals/\(r.lines.c=.nil↔p.lines.c=.nil)/\r.lines.l.length=p.lines.l.length/\(∀ (i:Nat) (h:i<r.lines.l.length) (h2:i<p.lines.l.length),sD r.lines.l[i] p.lines.l[i])/\r.top=p.top/\r.gD=p.gD/\r.gu=p.gu/\r.gw=p.gw/\r.gE=p.gE
theorem Kk {α:Type} {r s:Row α} (h:r.c=.nil↔s.c=.nil):zS r.c=Dh s.c:=by
 have h1:=r.sn
 cases hr:r.c<;>cases hs:s.c<;>simp_all [zS,Dh,oU]
theorem FD {α:Type} {enc : α->List AV} (h:∀ x : α,tB (enc x)=enc x):∀ l:List α,tv (l.map enc)=l.map enc
 | []=>rfl
 | x::l=>by simp only [List.map_cons,tv,h,FD h l]
theorem BU {α:Type} {enc : α->List AV} {r s:Row α} (h:wA r s) (he:∀ x : α,tB (enc x)=enc x):tF (r.av enc)=s.canon.av enc:=by
 simp only [Row.av,tF,Row.canon,FD he,h.1,Kk h.2]
theorem B4:∀ {l m:List gp},l.length=m.length->(∀ (i:Nat) (h:i<l.length) (h2:i<m.length),sD l[i] m[i])->tv (l.map gp.ai)=(m.map gp.canon).map gp.ai
 | [],[],_,_=>rfl
 | [],_::_,h,_=>by simp at h
 | _::_,[],h,_=>by simp at h
 | x::l,y::m,hl,h=>by
   obtain ⟨h1,h2⟩:=h 0 (by simp) (by simp)
   simp only [List.getElem_cons_zero] at h1 h2
   have ih:=B4 (l:=l) (m:=m) (by simpa using hl) λi h3 h4=>by
    have:=h (i+1) (by simpa using h3) (by simpa using h4)
    simpa using this
   simp only [List.map_cons,tv,ih]
   congr 1
   simp only [gp.ai,gp.canon,tB,BU h2 (enc:=cI) (λx=>rfl),h1]
   rfl
theorem Ip {r p:bY} (h:JP r p):tF (.agg r.ai)=.agg p.canon.ai:=by
 obtain ⟨h1,h2,h3,h4,h5,h6,h7,h8,h9,h10,h11⟩:=h
 have hl:tF (r.lines.av gp.ai)=(p.lines.yx gp.canon).canon.av gp.ai:=by
  simp only [Row.av,tF,B4 h5 h6,Row.canon,Row.yx,Kk h4]
 simp only [bY.ai,tF,tB,bY.canon,BU h1 (enc:=jl.ai) (λx=>rfl),BU h2 (enc:=ig.ai) (λx=>rfl),BU h3 (enc:=iD.ai) (λx=>rfl),hl,h7,h8,h9,h10,h11]
def J0 {C:gv} {F:gX} {Pr Pr2:gQ} {f:Nat} {args:List AV} {h:au} {v:AV} (hp:Pr2 f=some (sE C F Pr f)) (hc:fh C F Pr false f args h v h):fh C F Pr2 false f args h (tF v) h:=by
 refine ⟨1,λk hk=>?_⟩
 cases k<;>grind [gP,xL]
def OV:AV->Bool
 | .int _ _ | .str _ | .bool _=>true
 | _=>false
theorem D4:∀ {cs:List AV},cs.all OV=true->ki cs cs=some true
 | [],_=>rfl
 | c::cs,h=>by
   simp only [List.all_cons,Bool.and_eq_true] at h
   have hc:kT c c=some true:=by
    cases c with
    | int k n =>
      show (match oE k k with | true=>some (G6 n n) | false=>none)=some true
      rw [(pS k k).mpr rfl]
      simp [oo]
    | str s =>
      show some (s==s)=some true
      simp
    | bool b=>cases b<;>rfl
    | _=>simp [OV] at h
   simp only [ki,hc,D4 h.2]
section
variable {amb:Bool} {A:Int->Option eU} {N:eU->Option eU} {K:Int->Int} {R:eU->Int} {d:ib} {run leg:Int}
end
def Rl (p:bY) (t:List eU):List Int:=(t.filter λh=>kp p h.elem≠4).map (·.elem)
def Bk {α:Type} {P : α->Prop} {l:List α} {k:Nat} (h:∀ (i:Nat) (h:i<l.length),i<k->P (l[i])) (hk:l.length<=k):∀ x∈l,P x:=by
 intro x hx
 obtain ⟨i,hi,rfl⟩:=List.mem_iff_getElem.mp hx
 grind
def LP (p:bY) (d:ib) (i:Nat):ow:=match d.runs.l[i]? with
 | none=>⟨⟨[],by decide⟩,0,⟨0,0⟩,0⟩
 | some r =>
   let a:=(tq p.signals.l r.from_).getD ⟨0,0⟩
   ⟨r.name,r.kJ,a,if kp p a.elem=4 then 0 else r.left⟩
structure Tk (L:Nat->List Int) (k:Nat) (m:List (Int×Bool)) (e:Int):Prop where
 look:∀ i,i<k->∀ x∈L i,look x m=some true
 val:∀ y∈m,y.2=true
 Kv:e=0->∀ i j,i<j->j<k->∀ x∈L i,x∉L j
structure K4 (L:Nat->List Int) (k:Nat) (r:List Int) (m:List (Int×Bool)) (e:Int):Prop where
 tk:Tk L k m e
 Oc:∀ x∈r,Go.Sx.look x m=some true
 ZP:e=0->∀ i,i<k->∀ x∈L i,x∉r
def Tk.zero (L:Nat->List Int):Tk L 0 [] 0:=⟨λi h=>by omega,by simp,λ_ i j h1 h2=>by omega⟩
theorem qI {α:Type} {r:List α} {j:Nat} {x : α} (hj:j<r.length) (hq:r[j]=x):r.take (j+1)=r.take j++[x]:=by
 rw [List.take_add_one,List.getElem?_eq_getElem hj,hq]; rfl
def zf {m:List (Int×Bool)} {x y:Int} (h:look y m=some true):look y (put x true m)=some true:=by
 grind [j6]
def K4.Qb {L:Nat->List Int} {k:Nat} {r:List Int} {m:List (Int×Bool)} {e e':Int} {j:Nat} {x:Int} (h:K4 L k (r.take j) m e) (hj:j<r.length) (hq:r[j]=x) (he:e'≠0):K4 L k (r.take (j+1)) (put x true m) e':=by
 refine ⟨⟨λi hi y hy=>zf (h.tk.look i hi y hy),qL (P:=λy:Bool=>y=true) h.tk.val rfl,λh0=>absurd h0 he⟩,?_,λh0=>absurd h0 he⟩
 rw [qI hj hq]
 intro y hy
 rcases List.mem_append.mp hy with hy | hy
 ·exact zf (h.Oc y hy)
 grind [j6]
def K4.done {L:Nat->List Int} {k:Nat} {r:List Int} {m:List (Int×Bool)} {e:Int} {j:Nat} (h:K4 L k (r.take j) m e) (hj:r.length<=j) (hr:r=L k):Tk L (k+1) m e:=by
 rw [List.take_of_length_le hj,hr] at h
 refine ⟨λi hi x hx=>?_,h.tk.val,λh0 i j2 hij hj2 x hx=>?_⟩
 ·rcases Nat.lt_succ_iff_lt_or_eq.mp hi with h1 | h1
  ·exact h.tk.look i h1 x hx
  ·subst h1; exact h.Oc x hx
 ·rcases Nat.lt_succ_iff_lt_or_eq.mp hj2 with h1 | h1
  ·exact h.tk.Kv h0 i j2 hij h1 x hx
  ·subst h1; exact h.ZP h0 i hij x hx
def aaA (d:ib) (i:Nat):Int:=match d.runs.l[i]? with
 | none=>0
 | some r=>match d.kJ.l[r.kJ.toNat]? with
   | none=>0
   | some s=>s.len
structure fC where
 state:Int
 front:Int
 off:Bool
 seen:Row Bool
def fC.ai (x:fC):List AV:=[.int .i64 x.state,.int .i64 x.front,.bool x.off,x.seen.av fM]
def Sep.yG {H:au} {L:List gh} {n k:Nat} {α:Type} {enc : α->List AV} {z : α} {w t:Bool} {v:AV} {c:List AV} (h:Sep H (.sl w t v n (List.replicate k c)::L)) (hz:c=enc z):Sep H (.sl w t v n (List.map enc (List.replicate k z))::L):=by
 simp_all
def PX (cs:List AV):Prop:=∀ c∈cs,∀ (hp:au) (n:Nat),freeze false hp (n+2) c=some c
def YF:AV->Bool
 | .int _ _ | .bool _ | .ip _ _ false=>true
 | _=>false
def PX.of {cs:List AV} (h:cs.all YF=true):PX cs:=by
 intro c hc hp n
 have:=List.all_eq_true.mp h c hc
 unfold YF at this
 grind [freeze]
def LT (tr:List ow) (p:bY) (i:Nat):List Int:=match tr[i]? with
 | none=>[]
 | some t=>Rl p [t.at_]
def Mt (L:Nat->List Int) (k:Nat) (r:List Int) (m:List Bool):Prop:=∀ (x:Nat) (h:x<m.length),m[x]=true->(∃ i,i<k/\(x:Int)∈L i)\/(x:Int)∈r
def Mt.zero (L:Nat->List Int) (n:Nat):Mt L 0 [] (List.replicate n false):=by
 intro x h hx
 simp at hx
theorem Mt.set {L:Nat->List Int} {k j:Nat} {r:List Int} {m:List Bool} {x:Int} (h:Mt L k (r.take j) m) (hj:j<r.length) (hq:r[j]=x) (h0:0<=x):Mt L k (r.take (j+1)) (m.set x.toNat true):=by
 intro y hy ht
 rw [List.getElem_set] at ht
 rw [qI hj hq]
 split at ht
 ·grind
 ·rcases h y (by simpa using hy) ht with h1 | h1<;>grind
def Mt.done {L:Nat->List Int} {k j:Nat} {r:List Int} {m:List Bool} (h:Mt L k (r.take j) m) (hj:r.length<=j) (hr:r=L k):Mt L (k+1) [] m:=by
 intro y hy ht
 rw [List.take_of_length_le hj] at h
 rcases h y hy ht with ⟨i,hi,h1⟩ | h1<;>grind
def CG (tr:List ow) (ks sl:List mu) (k:Nat):Prop:=sl.length=k/\∀ (i:Nat) (x:ow) (y:mu),tr[i]?=some x->sl[i]?=some y->ks[x.kJ.toNat]?=some y
def CG.zero (tr:List ow) (ks:List mu):CG tr ks [] 0:=⟨rfl,λi x y _ h=>by simp at h⟩
def CG.snoc {tr:List ow} {ks sl:List mu} {k:Nat} {x:ow} {y:mu} (h:CG tr ks sl k) {hk:k<tr.length} (hq:tr[k]=x) {hs:x.kJ.toNat<ks.length} (hy:ks[x.kJ.toNat]=y):CG tr ks (sl++[y]) (k+1):=by
 refine ⟨by simp [h.1],λi a b ha hb=>?_⟩
 rcases Nat.lt_or_ge i sl.length with h3 | h3
 ·rw [List.getElem?_append_left h3] at hb; exact h.2 i a b ha hb
 ·have hi:i=k:=by
   have:=(List.getElem?_eq_some_iff.mp hb).1
   simp at this; have:=h.1; omega
  grind
end Go.Sx
set_option maxHeartbeats 0
namespace Go.Sx
open Go
def ff.take {α:Type} (r:ff α) (k:Nat):ff α:=⟨r.l.take k,r.c,by have:=r.ok; grind,λh=>by rw [r.nl h]; simp⟩
structure tU where
 free:Row Int
 end_:Int
def tU.ai (x:tU):List AV:=[x.free.av cI,.int .i64 x.end_]
structure lM where
 at_:Row Int
 nc:Row tU
def lM.ai (x:lM):List AV:=[x.at_.av cI,x.nc.av tU.ai]
def yB {α:Type} {enc : α->List AV} {e:Env} {h:au} {X:Ctx} {d:Option Nat} {t el:Nat} {x y:Operand} {ti te:TI} {r:ff α} {k:IntKind} {n:Int} (hT:X.C.T t=some ti) (hk:ti.kind=.slice el) (hE:X.C.T el=some te) (hx:fg e x=r.av enc) (hi:fg e y=.int k n) (h0:0<=n)
  (hn:n.toNat<r.l.length) (hl:(enc r.l[n.toNat]).length=te.size):gd (.indexAddr t x y) X e h d=some (.ip (enc r.l[n.toNat]) 0 (oU r.c),h):=by
 grind [nA]
def yT {κ β:Type} [DecidableEq κ] {ek : κ->AV} {ev : β->AV} (hk:∀ a b,jc (ek a) (ek b)=some (decide (a=b))) (k : κ):∀ (l:List (κ×β)) (es:List (AV×AV×Nat)),kX es=cA ek ev l->∀ (i j:Nat) (x:AV),findKey (ek k) es i=some (some (j,x))->i<=j/\∃ y,l[j - i]?=some (k,y)
 | [],[],_,i,j,x,h=>by simp [findKey] at h
 | [],_::_,he,_,_,_,_=>by simp [kX,cA] at he
 | _::_,[],he,_,_,_,_=>by simp [kX,cA] at he
 | p::l,e::es,he,i,j,x,h=>by
   obtain ⟨k',v,c⟩:=e
   simp only [kX,cA,List.map_cons,List.cons.injEq] at he
   have h1:k'=ek p.1:=by grind
   unfold findKey at h
   split at h
   ·grind
   ·obtain ⟨h2,y,h3⟩:=yT hk k l es he.2 (i+1) j x h
    grind
   ·cases h
def NK {κ β:Type} [DecidableEq κ] (key : κ) (l l':List (κ×β)):Prop:=(look key l=none/\l'=l)\/∃ j y,l[j]?=some (key,y)/\l'=l.eraseIdx j
def we.erase {es:List (AV×AV×Nat)} {c:Nat} (h:we es c) (i:Nat):we (es.eraseIdx i) c :=
 ⟨λx hx=>h.1 x ((List.eraseIdx_sublist es i).mem hx),h.2.sublist (List.eraseIdx_sublist es i)⟩
theorem DK {α β:Type} (f : α->β):∀ (l:List α) (j:Nat),(l.eraseIdx j).map f=(l.map f).eraseIdx j
 | [],_=>rfl
 | _::_,0=>rfl
 | _::l,j+1=>congrArg (_::·) (DK f l j)
section
variable {C:gv} {fa:eY} {e:Env} {H:au} {L:List gh} {ls:iN} {i n:Nat} {v:AV} {w tt:Bool}
def Ii {xs:List (List AV)} (hS:Sep H L) (hi:L[i]?=some (.sl w tt v n xs)):mF { H with aT:=ls } v=some xs:=by
 obtain ⟨hxl,⟨h0,rfl⟩ | ⟨_,rfl⟩ | ⟨b,g,j,hb,rfl,hg,htj⟩⟩:=hS.at hi
 ·subst h0; rfl
 ·rfl
 ·have h2:Nat.ble (0+xs.length) (xs++j).length=true:=Nat.ble_eq.mpr (by simp)
  have h3:((xs++j).drop 0).take xs.length=xs:=by simp
  simp only [mF,AV.str?,elems,au.iG,hg,Nat.beq_refl,h2,Bool.and_self,h3]
def QF {κ β:Type} [DecidableEq κ] {ek : κ->AV} {ev : β->AV} {cl:Call} {t u:Nat} {m k:Operand} {d:Option Nat} {l:List (κ×β)} (key : κ) (hS:Sep H L) (hi:L[i]?=some (.map v (cA ek ev l))) (hc:cl.callee=.builtin .delete) (ha:cl.args.toList=[m,k]) (hts:cl.argTypes.toList=[t,u]) (hm:fg e m=v) (hk:fg e k=ek key) (hK:mapKey C t (ek key)=true) (hke:∀ a b,jc (ek a) (ek b)=some (decide (a=b))) :
  ∃ w H',(∀ call,gd (.call cl) ⟨C,fa,call⟩ e { H with aT:=ls } d=some (w,{ H' with aT:=ls }))/\w=.fG []/\∃ l':List (κ×β),(l'.Sublist l/\NK key l l')/\Sep H' (L.set i (.map v (cA ek ev l'))):=by
 obtain ⟨b,es,c,hb,rfl,hg,he,hst⟩:=hS.at hi
 obtain ⟨f1,f2,f3⟩:=sI (ek:=ek) (ev:=ev) hke key l es he 0
 have fin:∀ es' (l':List (κ×β)),(l'.Sublist l/\NK key l l')->wQ (ek key) es=some es'->kX es'=cA ek ev l'->we es' c->∃ w H',(∀ call,gd (.call cl) ⟨C,fa,call⟩ e { H with aT:=ls } d=some (w,{ H' with aT:=ls }))/\w=.fG []/\∃ l':List (κ×β),(l'.Sublist l/\NK key l l')/\Sep H' (L.set i (.map (.hm b) (cA ek ev l'))):=by
  intro es' l' hsub hd hun hst'
  refine ⟨.fG [],H.set b (.map es' c),λcall=>?_,rfl,l',hsub,?_⟩
  ·simp_all [gd,nG,mM,lz,Gx,ug,wR,au.iG,au.mE]
  ·refine hS.mq hi (by simpa using hS.lo) (by simp) ⟨b,es',c,by simp_all,rfl,?_,hun,hst'⟩ ?_ ?_
   ·grind [au.ja,au.kV]
   ·intro b' hb' hne
    rw [au.ja,if_neg (by rintro ⟨rfl,_⟩; exact hne rfl)]
   ·intro b' hb'; exact .inl hb'
 cases hl:look key l with
 | none=>exact fin es l ⟨List.Sublist.refl _,.inl ⟨hl,rfl⟩⟩ (by grind [wQ,f1]) he hst
 | some x0 =>
   obtain ⟨j,hj,hjl,hjm⟩:=f2 x0 hl
   refine fin (es.eraseIdx j) (l.eraseIdx j) ⟨List.eraseIdx_sublist l j,.inr ⟨j,by obtain ⟨_,y,hy⟩:=yT hke key l es he 0 (0+j) _ hj; grind⟩⟩ (by grind [wQ]) ?_ (hst.erase j)
   grind [kX,cA,DK]
end
section
variable {H:au} {L:List gh} {i:Nat} {v:AV} {tt:Bool} {n:Nat} {α:Type} {enc : α->List AV} {l:List α}
end
end Go.Sx
