/- Proves rules for the walks and their soundness. -/
import GoSem.ClaimChange
import Derived.Shelf.SlIterI.Nil
import Derived.Shelf.SortM.Plain
import Derived.Shelf.SortM.SortNone
import Derived.Test.YtgoeonlbgdamhaaGreatHaa
import Derived.Test.YtgoeonlbgdamhaaGreatHae
set_option linter.all false
namespace Go.Sx
open Go
def mf (n:Int):Prop:=-9223372036854775808<=n/\n<=9223372036854775807
def nk (n:Int):Prop:=0<=n/\n<40
theorem nk.mf {n:Int} (h:nk n):mf n:=⟨by have:=h.1; omega,by have:=h.2; omega⟩
def VE (p:bS) (e:Int):Prop:=0<=e/\e<(p.elems.l.length:Int)
def JV (p:bS):Prop:=∀ j∈p.iO.l,VE p j.a.elem/\VE p j.b.elem
def HM (p:bS):Prop:=(∀ x∈p.lines.l,∀ e∈x.elems.l,VE p e)/\∀ (i j:Nat) (h:j<p.lines.l.length) (hij:i<j),∀ e∈(p.lines.l[i]).elems.l,e∉(p.lines.l[j]).elems.l
def IM (p:bS):Prop:=∀ e∈p.elems.l,(1<=e.kind/\e.kind<=4)/\(e.kind=4->e.len=0)
structure Nc (p:bS):Prop where
 jv:JV p
 ln:HM p
 kd:IM p
def JG (p:bS):Prop:=(∀ j∈p.iO.l,mf j.a.elem/\mf j.b.elem)/\∀ x∈p.lines.l,∀ z∈x.elems.l,mf z
def mu (p:bS):Prop:=p.elems.l.length<=60/\p.iO.l.length<=120/\p.signals.l.length<=60/\p.lines.l.length<=20/\(∀ x∈p.lines.l,x.elems.l.length<=60)/\(∀ j∈p.iO.l,mf j.a.elem/\mf j.b.elem)/\∀ x∈p.lines.l,∀ z∈x.elems.l,mf z
theorem mu.elems {p:bS} (h:mu p):p.elems.l.length<=60:=h.1
def mu.iO {p:bS} (h:mu p):p.iO.l.length<=120:=h.2.1
def mu.signals {p:bS} (h:mu p):p.signals.l.length<=60:=h.2.2.1
def mu.lines {p:bS} (h:mu p):p.lines.l.length<=20:=h.2.2.2.1
def mu.line {p:bS} (h:mu p):∀ x∈p.lines.l,x.elems.l.length<=60:=h.2.2.2.2.1
def oi {κ β:Type} [DecidableEq κ] {k : κ} {x : β} {l:List (κ×β)} (h:look k l=some x):(k,x)∈l:=by
 induction l<;>grind [look]
def BL {κ β:Type} [DecidableEq κ] {k : κ} {x : β} {l:List (κ×β)} {y : κ×β} (h:y∈put k x l):y=(k,x)\/y∈l:=by
 induction l<;>grind [put]
def qR {κ β:Type} [DecidableEq κ] {k : κ} {x : β} {l:List (κ×β)} {P : β->Prop} (hl:∀ y∈l,P y.2) (hx:P x):∀ y∈put k x l,P y.2:=by
 intro y hy
 rcases BL hy with rfl | hy<;>grind
theorem I1 {κ β:Type} [DecidableEq κ] {k : κ} {x : β} {l:List (κ×β)}:(put k x l).length<=l.length+1:=by
 induction l<;>grind [put]
def lR {κ β:Type} (l:List (κ×β)):Prop:=(l.map Prod.fst).Nodup
theorem BQ {κ β:Type} [DecidableEq κ] {k : κ} {l:List (κ×β)} (h:look k l=none):k∉l.map Prod.fst:=by
 induction l<;>grind [look]
theorem Gn {κ β:Type} [DecidableEq κ] {k : κ} {x : β} {l:List (κ×β)} (h:look k l=none):put k x l=l++[(k,x)]:=by
 induction l<;>grind [look,put]
def Cz {α:Type} [DecidableEq α]:∀ {a b:List α},a.Nodup->(∀ x∈a,x∈b)->a.length<=b.length
 | [],_,_,_=>Nat.zero_le _
 | x::a,b,hn,hs=>by
   have hx:x∈b:=hs x List.mem_cons_self
   have h1:=Cz (a:=a) (b:=b.erase x) (List.nodup_cons.mp hn).2 (by
    grind)
   grind
def kr (p:bS) (e:Int):Int:=if e<0 then 0 else match p.elems.l[e.toNat]? with
 | some x=>x.kind
 | none=>0
def xw {p:bS} {e:Int} (h:e<0\/e>=p.elems.l.length):kr p e=0:=by
 grind [kr]
def EX {p:bS} {e:Int} {x:j9} (h0:0<=e) (hx:e.toNat<p.elems.l.length) (hq:p.elems.l[e.toNat]=x):kr p e=x.kind:=by
 grind [kr]
def lq:List j3->iu->Option iu
 | [],_=>none
 | j::l,x=>if j.a=x then some j.b else if j.b=x then some j.a else lq l x
theorem yU {a b:iu} (h:a.elem=b.elem/\a.en=b.en):a=b:=by
 cases a<;>simp_all
def KN {l:List j3} {y:iu} {k:Nat} {x:j3} (hx:k<l.length) (hq:l[k]=x) (h1:¬(x.a.elem=y.elem/\x.a.en=y.en)) (h2:¬(x.b.elem=y.elem/\x.b.en=y.en)):lq (l.drop (k+1)) y=lq (l.drop k) y:=by
 rw [List.drop_eq_getElem_cons hx,hq,lq,if_neg (by grind),if_neg (by grind)]
def KA {l:List j3} {y:iu} {k:Nat} {x:j3} (hx:k<l.length) (hq:l[k]=x) (h1:x.a.elem=y.elem/\x.a.en=y.en):lq (l.drop k) y=some x.b:=by
 rw [List.drop_eq_getElem_cons hx,hq,lq,if_pos (yU h1)]
def Jl {l:List j3} {y:iu} {k:Nat} {x:j3} (hx:k<l.length) (hq:l[k]=x) (h1:¬(x.a.elem=y.elem/\x.a.en=y.en)) (h2:x.b.elem=y.elem/\x.b.en=y.en):lq (l.drop k) y=some x.a:=by
 rw [List.drop_eq_getElem_cons hx,hq,lq,if_neg (by grind),if_pos (yU h2)]
def LW {l:List j3} {y:iu} {k:Nat} (hx:l.length<=k):lq (l.drop k) y=none:=by
 rw [List.drop_eq_nil_of_le hx]; rfl
def mg (x:iu):Nat->List j6->Option Int
 | _,[]=>none
 | i,s::l=>if s.at_=x then some i else mg x (i+1) l
def nC (l:List j6) (x:iu):Option Int:=mg x 0 l
def BM {l:List j6} {y:iu} {k:Nat} {x:j6} (hx:k<l.length) (hq:l[k]=x) (h1:¬(x.at_.elem=y.elem/\x.at_.en=y.en)):mg y (k+1) (l.drop (k+1))=mg y k (l.drop k):=by
 rw [List.drop_eq_getElem_cons hx,hq,mg,if_neg (by grind)]
theorem CN {l:List j6} {y:iu} {k:Nat} {x:j6} (hx:k<l.length) (hq:l[k]=x) (h1:x.at_.elem=y.elem/\x.at_.en=y.en):mg y k (l.drop k)=some (k:Int):=by
 rw [List.drop_eq_getElem_cons hx,hq,mg,if_pos (yU h1)]
theorem CK {l:List j6} {y:iu} {k:Nat} (hx:l.length<=k):mg y k (l.drop k)=none:=by
 rw [List.drop_eq_nil_of_le hx]; rfl
def oE (l:List j6) (i:Int):Option iu:=if i<0 then none else (l[i.toNat]?).map (·.at_)
def Nf {l:List j6} {e:Int} (h:e<0\/e>=l.length):oE l e=none:=by
 grind [oE]
def Sw {l:List j6} {e:Int} {x:j6} (h0:0<=e) (hx:e.toNat<l.length) (hq:l[e.toNat]=x):oE l e=some x.at_:=by
 grind [oE]
def sZ:Nat->List (Row jB)->Nat
 | _,[]=>0
 | i,r::l=>r.l.length*(2 ^ (12 - i) - 1)+sZ (i+1) l
def Qm (l:List (Row jB)):∃ n,n=sZ 0 l:=⟨_,rfl⟩
noncomputable def wt (l:List (Row jB)):Nat:=Classical.choose (Qm l)
theorem yn (l:List (Row jB)):wt l=sZ 0 l:=Classical.choose_spec (Qm l)
def Gq (n:Nat):∃ m,m=2 ^ (13 - n) - 1:=⟨_,rfl⟩
noncomputable def uy (n:Nat):Nat:=Classical.choose (Gq n)
theorem w6 (n:Nat):uy n=2 ^ (13 - n) - 1:=Classical.choose_spec (Gq n)
theorem TD:wt []=0:=by rw [yn]; rfl
theorem U1:uy 0=8191:=by rw [w6]
theorem Eb (w:Row jB):∀ (l:List (Row jB)) (i:Nat),sZ i (l++[w])=sZ i l+w.l.length*(2 ^ (12 - (i+l.length)) - 1)
 | [],i=>by simp [sZ]
 | r::l,i=>by
   simp only [List.cons_append,sZ,Eb w l (i+1),List.length_cons]
   rw [show i+1+l.length=i+(l.length+1) from by omega]; omega
def zP {n:Nat} (h:n<=12):1<=uy n:=by
 rw [w6]
 have:2 ^ 1<=2 ^ (13 - n):=Nat.pow_le_pow_right (by omega) (by omega)
 omega
def SR {l:List (Row jB)} {w:Row jB} (hn:l.length<12) (hw:w.l.length<=2):wt (l++[w])+1<=wt l+uy l.length:=by
 rw [yn,yn,w6]
 rw [Eb,Nat.zero_add]
 have h1:13 - l.length=(12 - l.length)+1:=by omega
 have h2:1<=2 ^ (12 - l.length):=Nat.one_le_two_pow
 rw [h1,Nat.pow_succ]
 have h3:w.l.length*(2 ^ (12 - l.length) - 1)<=2*(2 ^ (12 - l.length) - 1):=Nat.mul_le_mul_right _ hw
 omega
theorem DG:∀ {l:List (Row jB)} {i k:Nat} (hk:k+1=l.length) (_:(l[k]'(by omega)).l.length=0),sZ i (l.take k)=sZ i l
 | [],_,_,hk,_=>by simp
 | [r],i,k,hk,h0=>by
   grind [sZ]
 | r::s::l,i,k,hk,h0=>by
   obtain ⟨k,rfl⟩:∃ k',k=k'+1:=⟨k - 1,by simp at hk; omega⟩
   simp only [List.getElem_cons_succ] at h0
   rw [List.take_succ_cons,sZ,sZ,DG (l:=s::l) (by simpa using hk) h0]
theorem Gp:∀ {l:List (Row jB)} {i k:Nat} {r r':Row jB} (hk:k<l.length) (_:l[k]=r) (_:1<=r.l.length) (_:r'.l.length+1=r.l.length),sZ i (l.set k r')+(2 ^ (12 - (i+k)) - 1)=sZ i l
 | [],_,_,_,_,hk,_,_,_=>by simp at hk
 | x::l,i,0,r,r',_,hr,h1,h2=>by
   grind [sZ]
 | x::l,i,k+1,r,r',hk,hr,h1,h2=>by
   simp only [List.getElem_cons_succ] at hr
   simp only [List.set_cons_succ,sZ]
   have:=Gp (l:=l) (i:=i+1) (k:=k) (by simpa using hk) hr h1 h2
   rw [show i+1+k=i+(k+1) from by omega] at this
   omega
theorem Ss {l:List (Row jB)} {k:Nat} {r:Row jB} (hk:k<l.length) (hk1:k+1=l.length) (hr:l[k]=r) (h0:r.l.length=0):wt (l.take k)=wt l:=by grind [yn,DG]
def Uj {l:List (Row jB)} {k:Nat} {r r':Row jB} (hk:k<l.length) (hk1:k+1=l.length) (hr:l[k]=r) (h1:1<=r.l.length) (h2:r'.l.length+1=r.l.length):wt (l.set k r')+uy l.length=wt l:=by
 grind [Gp,yn,w6]
def yI (l:List j3):Prop:=∀ (i:Nat) (h:i<l.length),lq (l.take i) (l[i]).a=none/\lq (l.take i) (l[i]).b=none/\(l[i]).a≠(l[i]).b
def yA (l:List j6):Prop:=∀ (i:Nat) (h:i<l.length),∀ y∈l.take i,y.at_≠(l[i]).at_
theorem KE (l:List j3) (j:j3) (x:iu):lq (l++[j]) x=match lq l x with
  | some y=>some y
  | none=>if j.a=x then some j.b else if j.b=x then some j.a else none:=by
 induction l<;>grind [lq]
theorem G8 {l:List j3} {j:j3} {m:List (iu×iu)} (hD:∀ x,look x m=lq l x) (ha:look j.a m=none) (hb:look j.b m=none) (hne:j.a≠j.b) (x:iu):look x (put j.b j.a (put j.a j.b m))=lq (l++[j]) x:=by
 grind [l9,KE,look]
theorem zD {l:List j3} {j:j3} {m:List (iu×iu)} {k:Nat} (hk:k<l.length) (hj:l[k]=j) (hD:∀ x,look x m=lq (l.take k) x) (ha:look j.a m=none) (hb:look j.b m=none) (hne:¬(j.a.elem=j.b.elem/\j.a.en=j.b.en)):∀ x,look x (put j.b j.a (put j.a j.b m))=lq (l.take (k+1)) x:=by
 intro x
 have:l.take (k+1)=l.take k++[j]:=by rw [List.take_succ_eq_append_getElem hk,hj]
 grind [G8]
def Eh {l:List j3} {j:j3} {m:List (iu×iu)} {k:Nat} (hk:k<l.length) (hj:l[k]=j) (hD:∀ x,look x m=lq (l.take k) x) (hJ:∀ (i:Nat) (h:i<l.length),i<k->lq (l.take i) (l[i]).a=none/\lq (l.take i) (l[i]).b=none/\(l[i]).a≠(l[i]).b) (ha:look j.a m=none) (hb:look j.b m=none) (hne:¬(j.a.elem=j.b.elem/\j.a.en=j.b.en)) :
  ∀ (i:Nat) (h:i<l.length),i<k+1->lq (l.take i) (l[i]).a=none/\lq (l.take i) (l[i]).b=none/\(l[i]).a≠(l[i]).b:=by
 grind
def LM {l:List j6} {n k:Nat} (hV:∀ (i:Nat) (h:i<l.length),i<k->0<=(l[i]).at_.elem/\(l[i]).at_.elem<(n:Int)/\0<=(l[i]).at_.en) (hk:l.length<=k):∀ s∈l,0<=s.at_.elem/\s.at_.elem<(n:Int)/\0<=s.at_.en:=by
 intro s hs
 obtain ⟨i,hi,rfl⟩:=List.mem_iff_getElem.mp hs
 grind
def Cr {l:List j6} {n k:Nat} {x:j6} {hk:k<l.length} (hq:l[k]=x) (hV:∀ (i:Nat) (h:i<l.length),i<k->0<=(l[i]).at_.elem/\(l[i]).at_.elem<(n:Int)/\0<=(l[i]).at_.en) (hx:0<=x.at_.elem/\x.at_.elem<(n:Int)/\0<=x.at_.en):∀ (i:Nat) (h:i<l.length),i<k+1->0<=(l[i]).at_.elem/\(l[i]).at_.elem<(n:Int)/\0<=(l[i]).at_.en:=by
 grind
def Cy {l:List j6} {k:Nat} {x:j6} {m:List (iu×Bool)} (hk:k<l.length) (hq:l[k]=x) (hD:∀ y:iu,(∃ s,s∈l.take k/\s.at_=y)->look y m=some true):∀ y:iu,(∃ s,s∈l.take (k+1)/\s.at_=y)->look y (put x.at_ true m)=some true:=by
 rintro y ⟨s,hs,rfl⟩
 rw [l9]
 split
 ·rfl
 ·rename_i hne
  rw [List.take_succ_eq_append_getElem hk,hq] at hs
  grind
def Ch {l:List j6} {k:Nat} {x:j6} {m:List (iu×Bool)} (hk:k<l.length) (hq:l[k]=x) (hD:∀ y:iu,(∃ s,s∈l.take k/\s.at_=y)->look y m=some true) (hJ:∀ (i:Nat) (h:i<l.length),i<k->∀ y∈l.take i,y.at_≠(l[i]).at_) (hn:look x.at_ m=none):∀ (i:Nat) (h:i<l.length),i<k+1->∀ y∈l.take i,y.at_≠(l[i]).at_:=by
 grind
def Gh {α:Type} {P : α->Prop} {l:List α} {k:Nat} {x : α} (hl:∀ y∈l,P y) (hx:P x):∀ y∈l.set k x,P y:=by
 grind
def yL {e:Env} {h:aT} {t d o:Nat} {x y:Operand} {X:Ctx} {dd:Option Nat} {ti:TI} {r:AV} {new cs cs':List AV} (hT:X.C.T t=some ti) (hx:iJ e x=.la d o) (hy:iJ e y=r) (hnew:cellsOf ti r=some new) (hok:new.all AV.kh=true) (hl:jK h.iq d=some cs) (hsp:nc cs o new=some cs'):jt (.store t x y) X e h dd=some (.undef,{ h with iq:=sT h.iq d cs' }):=by
 simp only [jt,xP,vC,hT,hx,hy,wa,hnew,hok,xH,MP,hl,hsp]
section
variable {C:jH} {F:kP} {Pr:kx} {fa:iA} {Q:Ex->Env->aT->Prop} {e:Env} {h:aT}
end
section
variable {C:jH} {F:kP} {Pr:kx} {fa:iA} {Q:Ex->Env->aT->Prop} {e:Env} {h:aT}
def zQ {a b:Code} {live:List Nat} {x y:lB} (P:Env->aT->Prop) (K:∀ E Z,P E Z->Wp C F Pr fa b y Q E Z) (w:Wp C F Pr fa a x (uO (λe h=>P (proj live e) { h with iq:=kX live h.iq }) Q) e h):Wp C F Pr fa (.seq a b) (.seq live x y) Q e h:=by
 refine FQ (w.mono ?_)
 intro x1 e1 h1 hx
 cases x1 with
 | ka=>exact K _ _ hx
 | ext id=>exact hx
 | ret=>exact hx
end
def Qa {r:List AV} {l:List (List AV)} (h:r.all AV.yH=true) (hl:sf l=true):sf (r::l)=true:=by
 grind [sf]
def tB (d:iI):Prop:=d.runs.l.length<=8/\∀ r∈d.runs.l,r.jE.l.length<=12/\0<=r.iW/\r.iW<(d.iW.l.length:Int)
def lC {α:Type} {P : α->Prop} {l:List α} {k:Nat} {x : α} {hk:k<l.length} (hq:l[k]=x) (hV:∀ (i:Nat) (h:i<l.length),i<k->P (l[i])) (hx:P x):∀ (i:Nat) (h:i<l.length),i<k+1->P (l[i]):=by
 grind
def sm {α:Type} {P : α->Prop} {l:List α} {x : α} (hl:∀ y∈l,P y) (hx:P x):∀ y∈l++[x],P y:=by
 grind
def Sj {α:Type} {P : α->Prop} {l m:List α} (hl:∀ y∈l,P y) (hm:∀ y∈m,P y):∀ y∈l++m,P y:=by
 grind
def M6 {l:List (Row jB)} {k:Nat} {r:Row jB} (hk:k<l.length) (hk1:k+1=l.length) (hr:l[k]=r) (h0:r.l.length=0):wt (l.take (l.length - 1))=wt l:=by
 rw [show l.length - 1=k from by omega]; grind [Ss]
def EY {κ β:Type} [DecidableEq κ] {k : κ} {x : β} {l:List (κ×β)} (h:lR l) (hn:look k l=none):lR (put k x l):=by
 grind [lR,Gn,BQ]
def univ (n:iR):List iu:=⟨0,0⟩::n.next.map Prod.snd
theorem K5 {n:iR} {x y:iu} (h:look x n.next=some y):y∈univ n:=by
 have:=oi h
 exact List.mem_cons_of_mem _ (List.mem_map.mpr ⟨_,this,rfl⟩)
def Ks {κ β:Type} [DecidableEq κ] {k : κ} {x : β} {l:List (κ×β)} {U:List κ} (h:∀ y∈l.map Prod.fst,y∈U) (hk:k∈U):∀ y∈(put k x l).map Prod.fst,y∈U:=by
 intro y hy
 obtain ⟨z,hz,rfl⟩:=List.mem_map.mp hy
 rcases BL hz with rfl | hz<;>grind
def tP {n:iR} {x y:iu} {b:Bool} (h:(b=true->look x n.next=some y)/\(b=false->look x n.next=none)/\(b=false->y=⟨0,0⟩)):y∈univ n:=by
 cases b with
 | true=>grind [K5]
 | false=>rw [h.2.2 rfl]; exact List.mem_cons_self
def Lg {l:List j3} {j:j3} {m:List (iu×iu)} {k:Nat} (hk:k<l.length) (hj:l[k]=j) (hJ:yI l) (hD:∀ x,look x m=lq (l.take k) x):∀ x,look x (put j.b j.a (put j.a j.b m))=lq (l.take (k+1)) x:=by
 obtain ⟨h1,h2,h3⟩:=hJ k hk
 grind [zD,yU]
def MG {κ β:Type} [DecidableEq κ] {a b : κ} {x y : β} {l:List (κ×β)} {k:Nat} (h:l.length<=2*k):(put a x (put b y l)).length<=2*(k+1):=by
 grind [I1,put]
theorem vO (x:iu) (s:j6):∀ (l:List j6) (i:Nat),mg x i (l++[s])=match mg x i l with
  | some y=>some y
  | none=>if s.at_=x then some ((i+l.length:Nat):Int) else none
 | [],i=>by rfl
 | a::l,i=>by
   simp only [List.cons_append,mg]
   split
   ·rfl
   ·rw [vO x s l (i+1)]
    simp only [List.length_cons,show i+1+l.length=i+(l.length+1) from by omega]
theorem vW {x:iu}:∀ {l:List j6} {i:Nat},(∀ s∈l,s.at_≠x)->mg x i l=none
 | [],_,_=>rfl
 | a::l,i,h=>by
   simp only [mg]
   rw [if_neg (h a List.mem_cons_self)]
   exact vW λs hs=>h s (List.mem_cons_of_mem _ hs)
def GH {l:List j6} {s:j6} {m:List (iu×Int)} {k:Nat} (hk:k<l.length) (hj:l[k]=s) (hS:yA l) (hR:∀ x,look x m=nC (l.take k) x):∀ x,look x (put s.at_ (k:Int) m)=nC (l.take (k+1)) x:=by
 intro x
 have h1:=hS k hk
 rw [hj] at h1
 rw [l9,List.take_succ_eq_append_getElem hk,hj]
 grind [nC,vO,vW,look]
def BN:mQ->mQ
 | .nil=>.nil
 | _=>.kb
def Row.canon {α:Type} (r:Row α):Row α:=⟨r.l,BN r.c,r.ok,by cases r.c<;>rfl,λh=>r.nl (by cases hc:r.c<;>first | rfl | (rw [hc] at h; cases h))⟩
def jx.canon (x:jx):jx:={ x with elems:=x.elems.canon }
def Row.yD {α β:Type} (f : α->β) (r:Row α):Row β:=⟨r.l.map f,r.c,by rw [List.length_map]; exact r.ok,r.sn,λh=>by rw [r.nl h]; rfl⟩
def bS.canon (p:bS):bS:={ p with elems:=p.elems.canon,iO:=p.iO.canon,signals:=p.signals.canon,lines:=(p.lines.yD jx.canon).canon }
theorem Row.Td {α:Type} {r s:Row α} (h1:r.l=s.l) (h2:r.c=s.c):r=s:=by
 cases r<;>simp_all
theorem Cw (c:mQ):BN (BN c)=BN c:=by cases c<;>rfl
theorem Row.v8 {α:Type} (r:Row α):r.canon.canon=r.canon:=Row.Td rfl (Cw _)
theorem jx.v8 (x:jx):x.canon.canon=x.canon:=by
 grind [jx.canon,Row.v8]
theorem bS.v8 (p:bS):p.canon.canon=p.canon:=by
 simp_all [jx.canon,canon,Row.Td,Row.canon,Row.yD,Cw,bS.canon,Row.v8]
def vm {α:Type} (r s:Row α):Prop:=r.l=s.l/\(r.c=.nil↔s.c=.nil)
def sv (x y:jx):Prop:=x.name=y.name/\vm x.elems y.elems
def CQ (m:List (Int×Int×Int)) (p:bS):Prop:=(∀ e y,look e m=some y->∃ (i:Nat) (h:i<p.lines.l.length),y.1=(i:Int)/\e∈(p.lines.l[i]).elems.l)/\∀ (i:Nat) (h:i<p.lines.l.length),∀ e∈(p.lines.l[i]).elems.l,∃ q,look e m=some ((i:Int),q)
structure rG (n:iR) (p:bS):Prop where
 vk:n.p=p.canon
 e40:n.p.elems.l.length<=40
 elems:n.p.elems.l=p.elems.l
 signals:n.p.signals.l=p.signals.l
 NG:mu n.p
 rg:∀ y∈univ n,nk y.elem
 x:Nc p
 lin:CQ n.line p
 next:∀ x,look x n.next=lq p.iO.l x
 reads:∀ x,look x n.reads=nC p.signals.l x
 len:n.next.length<=240
 sigs:yA p.signals.l
 af6:∀ s∈p.signals.l,0<=s.at_.elem/\s.at_.elem<(p.elems.l.length:Int)/\0<=s.at_.en
def LR {q p:bS} {next:List (iu×iu)} {reads:List (iu×Int)} {line:List (Int×Int×Int)} {lead:List (Int×Int)} {k m:Nat}
  (hq:q.elems.l=p.elems.l/\q.iO.l=p.iO.l/\q.signals.l=p.signals.l/\q.lines.l.length=p.lines.l.length/\(∀ x∈q.lines.l,x.elems.l.length<=60)/\q=p.canon) (h1:mu p)
  (hc:yI p.iO.l/\yA p.signals.l/\(∀ s∈p.signals.l,0<=s.at_.elem/\s.at_.elem<(p.elems.l.length:Int)/\0<=s.at_.en)/\p.elems.l.length<=40/\p.signals.l.length<=24/\p.iO.l.length<=80/\Nc p)
  (hD:∀ x,look x next=lq (p.iO.l.take k) x) (hR:∀ x,look x reads=nC (p.signals.l.take m) x) (hN:next.length<=2*k) (hG:∀ y∈next,nk y.2.elem) (hk:p.iO.l.length<=k/\k<=p.iO.l.length) (hm:p.signals.l.length<=m) (hL:CQ line p):rG ⟨q,next,reads,line,lead⟩ p:=by
 obtain ⟨e1,e2,e3,e4,e5,e6⟩:=hq
 obtain ⟨f1,f2,f3,f4,f5,f6,f7⟩:=h1
 have e7:∀ x∈q.lines.l,∀ z∈x.elems.l,mf z:=by
  subst e6
  intro x hx
  simp only [bS.canon,Row.canon,Row.yD,List.mem_map] at hx
  obtain ⟨y,hy,rfl⟩:=hx
  exact f7 y hy
 refine ⟨e6,by grind,e1,e3,⟨by grind,by grind,by grind,by grind,e5,by rw [e2]; exact f6,e7⟩,?_,hc.2.2.2.2.2.2,hL,?_,?_,by grind,hc.2.1,hc.2.2.1⟩
 ·intro y hy
  rcases List.mem_cons.mp hy with rfl | hy
  ·exact ⟨by decide,by decide⟩
  ·obtain ⟨z,hz,rfl⟩:=List.mem_map.mp hy
   exact hG z hz
 ·grind
 ·intro x; show look x reads = _; rw [hR,List.take_of_length_le hm]
def tB.TV {d:iI} (h:tB d):∀ r∈d.runs.l,0<=r.iW/\r.iW<(d.iW.l.length:Int):=λr hr=>(h.2 r hr).2
def nL (r:iQ):Prop:=(∀ s∈r.steps.l,nk s.elem)/\r.mA.l.length<=12/\(∀ x∈r.mA.l,nk x)/\r.guards.l.length<=1000/\r.holds.l.length<=1000
def zX {r:iQ} {l l2:List iT} (h:r.steps.l=l2) (h2:l2=l) (hS:∀ s∈l,nk s.elem) (hz:r.guards.l=[]/\r.mA.l=[]/\r.holds.l=[]):nL r:=by
 obtain ⟨z1,z2,z3⟩:=hz
 refine ⟨by rw [h,h2]; exact hS,?_,?_,?_,?_⟩<;>simp [z1,z2,z3]
def MN {r a:iQ} (h:r.steps.l=a.steps.l) (hg:nL a) (hz:r.mA.l.length<=12/\(∀ x∈r.mA.l,nk x)/\r.guards.l.length<=1000/\r.holds.l.length<=1000):nL r :=
 ⟨by rw [h]; exact hg.1,hz.1,hz.2.1,hz.2.2.1,hz.2.2.2⟩
def TH {l:List iT} {k:Nat} {x x2:iT} (h:∀ s∈l,nk s.elem) {hk:k<l.length} (hq:l[k]=x) (he:x2.elem=x.elem):∀ s∈l.set k x2,nk s.elem:=by
 intro s hs
 rcases List.mem_or_eq_of_mem_set hs with hs | rfl
 ·exact h s hs
 ·rw [he,<- hq]; exact h _ (List.getElem_mem _)
end Go.Sx
namespace Go.Sx
open Go
inductive Ty where
 | int | bool | str
 | slice (e:Ty)
 | struct (fs:List Ty)
mutual
def Ty.size:Ty->Nat
 | .struct fs=>Ty.u2 fs
 | _=>1
def Ty.u2:List Ty->Nat
 | []=>0
 | t::ts=>t.size+Ty.u2 ts
end
mutual
def sX (P:Program):Ty->TypeId->Bool
 | .int,t=>match P.underlying t with
   | some (.int .i64)=>true
   | _=>false
 | .bool,t=>match P.underlying t with
   | some .bool=>true
   | _=>false
 | .str,t=>match P.underlying t with
   | some .string=>true
   | _=>false
 | .slice e,t=>match P.underlying t with
   | some (.slice te)=>sX P e te&&Nat.beq (P.cellsOf te) e.size&&Nat.blt 0 e.size
   | _=>false
 | .struct fs,t=>match P.underlying t with
   | some (.struct fds)=>DF P fs fds.toList 0&&Nat.beq (P.cellsOf t) (Ty.u2 fs)
   | _=>false
def DF (P:Program):List Ty->List Field->Nat->Bool
 | [],[],_=>true
 | t::ts,f::fs,o=>sX P t f.type&&Nat.beq f.offset o&&Nat.beq (P.cellsOf f.type) t.size&&DF P ts fs (o+t.size)
 | _,_,_=>false
end
mutual
def Fit:Ty->List AV->Prop
 | .int,cs=>∃ n,cs=[.int .i64 n]/\mf n
 | .bool,cs=>∃ b,cs=[.bool b]
 | .str,cs=>∃ s,cs=[.str s]/\s.length<=rl
 | .slice e,cs=>∃ xs c,cs=[.sl xs c]/\(∀ x∈xs,Fit e x)/\xs.length<=rl/\pI c=false/\(c=.nil->xs=[])
 | .struct fs,cs=>pT fs cs
def pT:List Ty->List AV->Prop
 | [],cs=>cs=[]
 | t::ts,cs=>∃ a b,cs=a++b/\Fit t a/\pT ts b
end
def yJ {α β:Type} {f : α->Option β}:∀ {l:List α} {r:List β},l.mapM f=some r->r.length=l.length/\∀ i (h:i<l.length),∃ y,f l[i]=some y/\r[i]?=some y
 | [],r,h=>by
   grind
 | a::l,r,h=>by
   rw [List.mapM_cons] at h
   cases ha:f a with
   | none=>rw [ha] at h; cases h
   | some y =>
     rw [ha] at h
     cases hl:l.mapM f with
     | none=>rw [hl] at h; cases h
     | some r' =>
       rw [hl] at h
       have:r=y::r':=(Option.some.inj h).symm
       subst this
       obtain ⟨h1,h2⟩:=yJ hl
       refine ⟨by simp [h1],λi hi=>?_⟩
       cases i with
       | zero=>exact ⟨y,ha,rfl⟩
       | succ i=>exact h2 i (by simpa using hi)
def zw {α:Type} {p:Nat->α->Prop}:∀ (n:Nat),(∀ i,i<n->∃ x,p i x)->∃ l:List α,l.length=n/\∀ i x,l[i]?=some x->p i x
 | 0,_=>⟨[],rfl,λi x h=>by simp at h⟩
 | n+1,h=>by
   obtain ⟨l,hl,hp⟩:=zw n λi hi=>h i (by omega)
   obtain ⟨x,hx⟩:=h n (by omega)
   refine ⟨l++[x],by simp [hl],λi y hy=>?_⟩
   grind
theorem MM {w:World} {a:Addr} {n:Nat} {cs:List Value} (h:w.cells? 0 a n=some cs):cs.length=n/\∀ j,j<n->∃ v,w.cell? (a.add j)=some v/\cs[j]?=some v:=by
 unfold World.cells? at h
 rw [if_pos (Nat.zero_le _)] at h
 obtain ⟨h1,h2⟩:=yJ h
 grind
def FI {w:World} {a:Addr} {v:Value} (h:w.cell? a=some v):a.spot=none/\∃ c e fr,w.heap[a.block]?=some (.cells c e fr)/\c[a.off]?=some v:=by
 unfold World.cell? at h
 split at h<;>simp_all
section
variable {H:Type} {enc:TypeId×Value->H} {P:Program} {w:World} {spare:Nat->Bool} {held:Bool}
abbrev TW (w:World):Bool->Nat->Prop:=λ_ B=>B<w.heap.size
def Reads (w:World) (ty:Ty) (cs:List Value):Prop:=∃ xs:List AV,xs.length=cs.length/\cs.length=ty.size/\Fit ty xs/\(∀ (i:Nat) (x:AV) (v:Value),xs[i]?=some x->cs[i]?=some v->PR w (TW w) false x v/\v.oneCell'=true)
theorem J3 (a:Addr) (i j:Nat) (h:a.spot=none):(a.add i).add j=⟨a.block,a.off+i+j,none⟩:=by
 obtain ⟨b,o,s⟩:=a
 grind [Addr.add]
def qM {ty:Ty} (hs:ty.size=1) {x:AV} {v:Value} (hf:Fit ty [x]) (hp:PR w (TW w) false x v) (h1:v.oneCell'=true):Reads w ty [v]:=by
 refine ⟨[x],rfl,by simp [hs],hf,?_⟩
 grind
def xK {fuel:Nat} (ih:∀ (ty:Ty) (t:TypeId) (cs:List Value) (r:DataW H×List MemPlace),sX P ty t=true->DataW.trod enc P w 0 spare held fuel t cs=some r->Reads w ty cs) (cs:List Value) :
  ∀ (tys:List Ty) (fds:List Field) (o:Nat),DF P tys fds o=true->o+Ty.u2 tys=cs.length->(∀ f∈fds,∃ r,DataW.trod enc P w 0 spare held fuel f.type ((cs.drop f.offset).take (P.cellsOf f.type))=some r) ->
    ∃ xs:List AV,xs.length=Ty.u2 tys/\pT tys xs/\(∀ (i:Nat) (x:AV) (v:Value),xs[i]?=some x->cs[o+i]?=some v->PR w (TW w) false x v/\v.oneCell'=true)
 | [],fds,o,hf,hl,hr=>⟨[],rfl,rfl,λi x v h=>by simp at h⟩
 | t::ts,[],o,hf,hl,hr=>by simp [DF] at hf
 | t::ts,f::fds,o,hf,hl,hr=>by
   simp only [DF,Bool.and_eq_true] at hf
   obtain ⟨⟨⟨h1,h2⟩,h3⟩,h4⟩:=hf
   have h2:=Nat.eq_of_beq_eq_true h2
   have h3:=Nat.eq_of_beq_eq_true h3
   simp only [Ty.u2] at hl
   obtain ⟨r,hr1⟩:=hr f List.mem_cons_self
   obtain ⟨xs,e1,e2,e3,e4⟩:=ih t f.type _ r h1 hr1
   obtain ⟨ys,g1,g2,g3⟩:=xK ih cs ts fds (o+t.size) h4 (by omega) (λf hf=>hr f (List.mem_cons_of_mem _ hf))
   have hx:xs.length=t.size:=by omega
   refine ⟨xs++ys,by grind [Ty.u2],⟨xs,ys,rfl,e3,g2⟩,?_⟩
   grind
def xa:∀ (fuel:Nat) (ty:Ty) (t:TypeId) (cs:List Value) (r:DataW H×List MemPlace),sX P ty t=true->DataW.trod enc P w 0 spare held fuel t cs=some r->Reads w ty cs:=by
 intro fuel
 induction fuel with
 | zero=>intro ty t cs r _ h; simp [DataW.trod] at h
 | succ fuel ih =>
   intro ty t cs r ht h
   cases ty with
   | int =>
     simp only [sX] at ht
     split at ht
     ·rename_i hU
      rcases cs with _ | ⟨v,_ | ⟨v2,rest⟩⟩
      ·simp [DataW.trod,hU] at h
      ·cases v<;>simp [DataW.trod,hU] at h
       rename_i k n
       obtain ⟨⟨rfl,hwf⟩,_⟩:=h
       simp only [Lit.wf,Bool.and_eq_true,decide_eq_true_eq] at hwf
       exact qM rfl ⟨n,rfl,hwf⟩ (.int _ _ n) rfl
      ·simp [DataW.trod,hU] at h
     grind
   | bool =>
     simp only [sX] at ht
     split at ht
     ·rename_i hU
      rcases cs with _ | ⟨v,_ | ⟨v2,rest⟩⟩
      ·simp [DataW.trod,hU] at h
      ·cases v<;>simp [DataW.trod,hU] at h
       rename_i b
       exact qM rfl ⟨b,rfl⟩ (.bool _ b) rfl
      ·simp [DataW.trod,hU] at h
     grind
   | str =>
     simp only [sX] at ht
     split at ht
     ·rename_i hU
      rcases cs with _ | ⟨v,_ | ⟨v2,rest⟩⟩
      ·simp [DataW.trod,hU] at h
      ·cases v<;>simp [DataW.trod,hU] at h
       rename_i s
       refine qM rfl ⟨s.data.toList,rfl,?_⟩ (.str _ _ s rfl) rfl
       simp_all [maxLen]
      ·simp [DataW.trod,hU] at h
     grind
   | slice e =>
     simp only [sX] at ht
     split at ht
     ·rename_i te hU
      simp only [Bool.and_eq_true] at ht
      obtain ⟨⟨ht,hsz⟩,hpos⟩:=ht
      have hsz:=Nat.eq_of_beq_eq_true hsz
      have hpos:0<e.size:=Nat.ble_eq.mp hpos
      rcases cs with _ | ⟨v,_ | ⟨v2,rest⟩⟩
      ·simp [DataW.trod,hU] at h
      ·cases v<;>try (simp [DataW.trod,hU] at h; done)
       rename_i a len cap
       cases a with
       | none =>
         cases len<;>cases cap<;>try (simp [DataW.trod,hU] at h; done)
         exact qM rfl ⟨[],.nil,rfl,by simp,by simp,rfl,λ_=>rfl⟩ (.slnil _) rfl
       | some a =>
         simp only [DataW.trod,hU] at h
         split at h
         ·rename_i hc
          obtain ⟨_,hlc,hcm⟩:=hc
          have hcb:cap<=rl:=by
           grind [maxLen]
          cases hm:(List.range len).mapM (λi=>(w.cells? 0 (a.add (i*P.cellsOf te)) (P.cellsOf te)).bind (DataW.trod enc P w 0 spare held fuel te)) with
          | none=>grind
          | some elems =>
            obtain ⟨_,hel⟩:=yJ hm
            have hat:∀ i,i<len->∃ (xs:List AV) (vs:List Value),xs.length=e.size/\vs.length=e.size/\Fit e xs/\(∀ (j:Nat) (x:AV) (v:Value),xs[j]?=some x->vs[j]?=some v->PR w (TW w) false x v/\v.oneCell'=true) /\
              ∀ j,j<e.size->∃ v,w.cell? ((a.add (i*e.size)).add j)=some v/\vs[j]?=some v:=by
             intro i hi
             obtain ⟨y,hy,_⟩:=hel i (by grind)
             simp only [List.getElem_range] at hy
             cases hcs:w.cells? 0 (a.add (i*P.cellsOf te)) (P.cellsOf te) with
             | none=>grind
             | some vs =>
               rw [hcs] at hy
               obtain ⟨xs,e1,e2,e3,e4⟩:=ih e te vs y ht hy
               grind [MM]
            cases len with
            | zero=>exact qM rfl ⟨[],.kb,rfl,by simp,by simp,rfl,λh=>by cases h⟩ (.m4 _ .kb a cap (λh=>by cases h) (Nat.zero_le _)) rfl
            | succ len0 =>
              obtain ⟨xs0,vs0,_,_,_,_,hv0⟩:=hat 0 (by omega)
              obtain ⟨v00,hv00,_⟩:=hv0 0 hpos
              obtain ⟨hsp,c,et,fr,hB,_⟩:=FI hv00
              have hspot:a.spot=none:=by
               grind [Addr.add]
              have hB:w.heap[a.block]?=some (.cells c et fr):=by
               grind [Addr.add]
              obtain ⟨rows,hrl,hrp⟩:=zw (p:=λi xs=>xs.length=e.size/\Fit e xs/\∀ (j:Nat) (x:AV),xs[j]?=some x->∃ v,c[a.off+i*e.size+j]?=some v/\PR w (TW w) false x v/\v.oneCell'=true) (len0+1) (by
               intro i hi
               obtain ⟨xs,vs,q1,q2,q3,q4,q5⟩:=hat i hi
               refine ⟨xs,q1,q3,λj x hx=>?_⟩
               have hj:j<e.size:=by grind
               obtain ⟨v,hv,hvj⟩:=q5 j hj
               obtain ⟨_,c',et',fr',hB',hcv⟩:=FI hv
               grind [J3])
              have hpr:PR w (TW w) false (.sl rows .kb) (.slice (some ⟨a.block,a.off,none⟩) rows.length cap):=by
               refine .sl false rows .kb a.block a.off c et fr cap e.size (λi j=>(c[a.off+i*e.size+j]?).getD .nilFunc) (λh=>by cases h) hB ?_ (by rw [hrl]; exact hlc) (by omega) ?_ ?_ ?_ ?_
               ·grind
               ·grind
               ·grind
               ·grind
               ·intro i cs' j x hcs' hx
                obtain ⟨v,hv,hp,_⟩:=(hrp i cs' hcs').2.2 j x hx
                rw [hv]; exact hp
              rw [hrl] at hpr
              have ha:a=⟨a.block,a.off,none⟩:=by obtain ⟨b,o,s⟩:=a; grind
              rw [<- ha] at hpr
              refine qM rfl ⟨rows,.kb,rfl,?_,by omega,rfl,λh=>by cases h⟩ hpr rfl
              intro x hx
              obtain ⟨i,hi⟩:=List.getElem?_of_mem hx
              grind
         ·cases h
      ·simp [DataW.trod,hU] at h
     grind
   | struct fs =>
     simp only [sX] at ht
     split at ht
     ·rename_i fds hU
      simp only [Bool.and_eq_true] at ht
      obtain ⟨hfs,hsz⟩:=ht
      have hsz:=Nat.eq_of_beq_eq_true hsz
      have hcs:cs.length=Ty.u2 fs/\∀ f∈fds.toList,∃ r,DataW.trod enc P w 0 spare held fuel f.type ((cs.drop f.offset).take (P.cellsOf f.type))=some r:=by
       have key:(if cs.length=P.cellsOf t then (fds.toList.mapM λf=>DataW.trod enc P w 0 spare held fuel f.type ((cs.drop f.offset).take (P.cellsOf f.type))).map λxs=>(DataW.agg (xs.map (·.1)),xs.flatMap (·.2)) else none)=some r:=by
        rw [<- h]
        conv=>rhs; unfold DataW.trod
        rw [hU]
       split at key
       ·rename_i hl
        refine ⟨by omega,λf hf=>?_⟩
        cases hm:fds.toList.mapM λf=>DataW.trod enc P w 0 spare held fuel f.type ((cs.drop f.offset).take (P.cellsOf f.type)) with
        | none=>grind
        | some l =>
          obtain ⟨_,h2⟩:=yJ hm
          obtain ⟨i,hi,rfl⟩:=List.mem_iff_getElem.mp hf
          grind
       grind
      obtain ⟨xs,x1,x2,x3⟩:=xK ih cs fs fds.toList 0 hfs (by omega) hcs.2
      refine ⟨xs,by omega,hcs.1,x2,?_⟩
      grind
     grind
end
end Go.Sx
namespace Go.Sx
open Go
def wX:Ty:=.struct [.int,.int]
def I3:Ty:=.struct [.str,.int,.int]
def Iw:Ty:=.struct [wX,wX]
def Mw:Ty:=.struct [.str,wX,.bool]
def GP:Ty:=.struct [.str,.slice .int]
def CZ:Ty:=.struct [.slice I3,.slice Iw,.slice Mw,.slice GP,.int,.int,.int,.int,.bool]
def E3:Ty:=.struct [.str,.int,.int,.int,.int]
def LC:Ty:=.struct [.bool,.int,.int,.int]
def Ly:Ty:=.struct [.str,.int,.int,.int,.slice LC]
def C2:Ty:=.struct [.int,.slice E3,.slice Ly]
def HY:Ty:=.struct [.int,.slice wX,.int,.int,.int]
def wR {α:Type} {enc : α->List AV} {Q : α->Prop} {e:Ty} (he:∀ xs,Fit e xs->∃ x : α,xs=enc x/\Q x) {cs:List AV} (h:Fit (.slice e) cs):∃ r:Row α,cs=[r.av enc]/\∀ x∈r.l,Q x:=by
 simp only [Fit] at h
 obtain ⟨xs,c,rfl,h1,h2,h3,h4⟩:=h
 have:∀ xs:List (List AV),(∀ x∈xs,Fit e x)->∃ l:List α,xs=l.map enc/\∀ x∈l,Q x:=by
  intro xs
  induction xs with
  | nil=>exact λ_=>⟨[],rfl,by simp⟩
  | cons a xs ih =>
    intro h
    obtain ⟨y,hy,hq⟩:=he a (h a List.mem_cons_self)
    obtain ⟨l,hl,hl2⟩:=ih λx hx=>h x (List.mem_cons_of_mem _ hx)
    exact ⟨y::l,by grind,by simp_all⟩
 obtain ⟨l,rfl,hQ⟩:=this xs h1
 exact ⟨⟨l,c,by grind,h3,λhc=>by grind⟩,rfl,hQ⟩
def nR {α:Type} {enc : α->List AV} {e:Ty} (he:∀ xs,Fit e xs->∃ x : α,xs=enc x) {cs:List AV} (h:Fit (.slice e) cs):∃ r:Row α,cs=[r.av enc]:=by
 obtain ⟨r,hr,_⟩:=wR (Q:=λ_=>True) (λxs hx=>(he xs hx).imp λ_ h=>⟨h,trivial⟩) h
 exact ⟨r,hr⟩
def nP {cs:List AV} (h:Fit .int cs):∃ n:Int,cs=iP n:=by unfold Fit at h; exact h.imp λ_ h=>h.1
def MD {cs:List AV} (h:Fit .int cs):∃ n:Int,cs=iP n/\mf n:=by unfold Fit at h; exact h
def xJ {cs:List AV} (h:Fit wX cs):∃ x:iu,cs=x.af/\mf x.elem:=by
 simp only [wX,Fit,pT] at h
 obtain ⟨_,_,rfl,⟨a,rfl,ha⟩,_,_,rfl,⟨b,rfl,hb⟩,rfl⟩:=h
 exact ⟨⟨a,b⟩,rfl,ha⟩
def Ea {cs:List AV} (h:Fit wX cs):∃ x:iu,cs=x.af:=(xJ h).imp λ_ h=>h.1
def MF {cs:List AV} (h:Fit I3 cs):∃ x:j9,cs=x.af:=by
 simp only [I3,Fit,pT] at h
 obtain ⟨_,_,rfl,⟨s,rfl,hs⟩,_,_,rfl,⟨a,rfl,_⟩,_,_,rfl,⟨b,rfl,_⟩,rfl⟩:=h
 exact ⟨⟨⟨s,hs⟩,a,b⟩,rfl⟩
def LX {cs:List AV} (h:Fit Iw cs):∃ x:j3,cs=x.af/\mf x.a.elem/\mf x.b.elem:=by
 simp only [Iw,pT] at h
 unfold Fit at h
 simp only [pT] at h
 obtain ⟨_,_,rfl,h1,_,_,rfl,h2,rfl⟩:=h
 obtain ⟨x,rfl,hx⟩:=xJ h1
 obtain ⟨y,rfl,hy⟩:=xJ h2
 exact ⟨⟨x,y⟩,rfl,hx,hy⟩
def RW {cs:List AV} (h:Fit Mw cs):∃ x:j6,cs=x.af:=by
 simp only [Mw,Fit,pT] at h
 obtain ⟨_,_,rfl,⟨s,rfl,hs⟩,_,_,rfl,h2,_,_,rfl,⟨b,rfl⟩,rfl⟩:=h
 obtain ⟨y,rfl⟩:=Ea h2
 exact ⟨⟨⟨s,hs⟩,y,b⟩,rfl⟩
def Mx {cs:List AV} (h:Fit GP cs):∃ x:jx,cs=x.af/\∀ z∈x.elems.l,mf z:=by
 simp only [GP,pT] at h
 unfold Fit at h
 simp only [pT] at h
 obtain ⟨_,_,rfl,h1,_,_,rfl,h2,rfl⟩:=h
 simp only [Fit] at h1
 obtain ⟨s,rfl,hs⟩:=h1
 obtain ⟨r,rfl,hr⟩:=wR (λ_=>MD) h2
 exact ⟨⟨⟨s,hs⟩,r⟩,rfl,hr⟩
def Km {cs:List AV} (h:Fit E3 cs):∃ x:jW,cs=x.af:=by
 simp only [E3,Fit,pT] at h
 obtain ⟨_,_,rfl,⟨s,rfl,hs⟩,_,_,rfl,⟨a,rfl,_⟩,_,_,rfl,⟨b,rfl,_⟩,_,_,rfl,⟨c,rfl,_⟩,_,_,rfl,⟨d,rfl,_⟩,rfl⟩:=h
 exact ⟨⟨⟨s,hs⟩,a,b,c,d⟩,rfl⟩
def SJ {cs:List AV} (h:Fit LC cs):∃ x:j7,cs=x.af:=by
 simp only [LC,Fit,pT] at h
 obtain ⟨_,_,rfl,⟨t,rfl⟩,_,_,rfl,⟨a,rfl,_⟩,_,_,rfl,⟨b,rfl,_⟩,_,_,rfl,⟨c,rfl,_⟩,rfl⟩:=h
 exact ⟨⟨t,a,b,c⟩,rfl⟩
def RX {cs:List AV} (h:Fit Ly cs):∃ x:lb,cs=x.af:=by
 unfold Ly Fit at h
 simp only [pT] at h
 obtain ⟨_,_,rfl,h1,_,_,rfl,h2,_,_,rfl,h3,_,_,rfl,h4,_,_,rfl,h5,rfl⟩:=h
 simp only [Fit] at h1 h2 h3 h4
 obtain ⟨s,rfl,hs⟩:=h1
 obtain ⟨a,rfl,_⟩:=h2
 obtain ⟨b,rfl,_⟩:=h3
 obtain ⟨c,rfl,_⟩:=h4
 obtain ⟨r,rfl⟩:=nR (λ_=>SJ) h5
 exact ⟨⟨⟨s,hs⟩,a,b,c,r⟩,rfl⟩
def Me {cs:List AV} (h:Fit C2 cs):∃ x:iI,cs=x.af:=by
 unfold C2 Fit at h
 simp only [pT] at h
 obtain ⟨_,_,rfl,h1,_,_,rfl,h2,_,_,rfl,h3,rfl⟩:=h
 obtain ⟨a,rfl⟩:=nP h1
 obtain ⟨r,rfl⟩:=nR (λ_=>Km) h2
 obtain ⟨s,rfl⟩:=nR (λ_=>RX) h3
 exact ⟨⟨a,r,s⟩,rfl⟩
def La {cs:List AV} (h:Fit HY cs):∃ x:iL,cs=x.af:=by
 unfold HY Fit at h
 simp only [pT] at h
 obtain ⟨_,_,rfl,h1,_,_,rfl,h2,_,_,rfl,h3,_,_,rfl,h4,_,_,rfl,h5,rfl⟩:=h
 obtain ⟨a,rfl⟩:=nP h1
 obtain ⟨r,rfl⟩:=nR (λ_=>Ea) h2
 obtain ⟨b,rfl⟩:=nP h3
 obtain ⟨c,rfl⟩:=nP h4
 obtain ⟨d,rfl⟩:=nP h5
 exact ⟨⟨a,r,b,c,d⟩,rfl⟩
def K7 {cs:List AV} (h:Fit CZ cs):∃ x:bS,cs=x.af/\JG x:=by
 unfold CZ Fit at h
 simp only [pT] at h
 obtain ⟨_,_,rfl,h1,_,_,rfl,h2,_,_,rfl,h3,_,_,rfl,h4,_,_,rfl,h5,_,_,rfl,h6,_,_,rfl,h7,_,_,rfl,h8,_,_,rfl,h9,rfl⟩:=h
 obtain ⟨r1,rfl⟩:=nR (λ_=>MF) h1
 obtain ⟨r2,rfl,hj⟩:=wR (λ_=>LX) h2
 obtain ⟨r3,rfl⟩:=nR (λ_=>RW) h3
 obtain ⟨r4,rfl,hl⟩:=wR (λ_=>Mx) h4
 obtain ⟨a,rfl⟩:=nP h5
 obtain ⟨b,rfl⟩:=nP h6
 obtain ⟨c,rfl⟩:=nP h7
 obtain ⟨d,rfl⟩:=nP h8
 simp only [Fit] at h9
 obtain ⟨t,rfl⟩:=h9
 exact ⟨⟨r1,r2,r3,r4,a,b,c,d,t⟩,rfl,hj,hl⟩
section
variable {w:World}
def CH {ty:Ty} {v:Value} (h:Reads w ty v.cells.toList) (h2:2<=ty.size):∃ xs,Fit ty xs/\PR w (TW w) false (.agg xs) v:=by
 obtain ⟨xs,h1,hs,hf,hp⟩:=h
 have hsz:2<=v.cells.size:=by
  grind
 cases v with
 | agg cs =>
   refine ⟨xs,hf,.agg false xs cs (by grind [Value.cells]) ?_ ?_⟩
   ·intro i y hy
    have hi:i<xs.length:=by
     grind [Value.cells]
    exact (hp i xs[i] y (by simp [hi]) (by grind [Value.cells])).2
   grind [Value.cells]
 | _=>simp [Value.cells] at hsz
end
end Go.Sx
namespace Go.Sx
open Go
section
variable {C:jH} {F:kP} {Pr:kx} {fa:iA} {Q:Ex->Env->aT->Prop} {e:Env} {h h1:aT} {all rest:List Oper} {o:Oper} {q:Env->aT->Prop} {v:AV} {sch:List (Nat×List Nat)} {i:Nat} {a b:Code} {x y an:lB} {live:List Nat}
def oV (w:ki C F Pr fa all rest q (iS e o v) h1) (hw:jg all e o=some true:=by rfl) (hop:∀ call,jt o.op ⟨C,fa,call⟩ e h o.dst=some (v,h1):=by exact λ_=>rfl):ki C F Pr fa all (o::rest) q e h:=iz hw hop w
def rV (w:kB C F Pr fa all sch q (iS e o v) h1) (ho:all[i]?=some o:=by rfl) (hw:jg all e o=some true:=by rfl) (hop:∀ call,jt o.op ⟨C,fa,call⟩ e h o.dst=some (v,h1):=by exact λ_=>rfl):kB C F Pr fa all ((i,[])::sch) q e h:=iN ho hw hop w
def oS (w:ki C F Pr fa all rest q (iS e o (.je [])) h) (hw:jg all e o=some false:=by rfl):ki C F Pr fa all (o::rest) q e h:=MR hw w
def rS (w:kB C F Pr fa all sch q (iS e o (.je [])) h) (ho:all[i]?=some o:=by rfl) (hw:jg all e o=some false:=by rfl):kB C F Pr fa all ((i,[])::sch) q e h:=LB ho hw w
def oN (w:q e h):ki C F Pr fa all [] q e h:=Sf w
def rN (w:q e h):kB C F Pr fa all [] q e h:=Sg w
def qq (w:Wp C F Pr fa a x (uO (Wp C F Pr fa b y Q) Q) e h):Wp C F Pr fa (.seq a b) (.sq x y) Q e h:=UU w
def qs (w:Wp C F Pr fa a x (uO (λe h=>Wp C F Pr fa b y Q (proj live e) { h with iq:=kX live h.iq }) Q) e h):Wp C F Pr fa (.seq a b) (.seq live x y) Q e h:=FQ w
def qk (w:Q .ka e h):Wp C F Pr fa .skip an Q e h:=Mb w
def ql {l:Nat} (w:Q .ka e h):Wp C F Pr fa (.label l) an Q e h:=JQ w
def qe {id:Nat} (w:Q (.ext id) e h):Wp C F Pr fa (.exit id) an Q e h:=MB w
def qr (w:Q .ret e h):Wp C F Pr fa .ret an Q e h:=SS w
def qb {id:Nat} (w:Wp C F Pr fa a an (IH id Q) e h):Wp C F Pr fa (.block id a) an Q e h:=JN w
def qg {id:Nat} {ops:Array Oper} (w:ki C F Pr fa ops.toList ops.toList (Q .ka) e h):Wp C F Pr fa (.region id ops false) an Q e h:=IC w
def qd {id:Nat} {ops:Array Oper} (w:kB C F Pr fa ops.toList sch (Q .ka) e h):Wp C F Pr fa (.region id ops true) (.pC sch) Q e h:=KF w
def qT {c:Operand} (w:Wp C F Pr fa a x Q e h) (hc:iJ e c=.bool true:=by rfl):Wp C F Pr fa (.cond c a b) (.two x y) Q e h:=Ez hc (λ_=>w) (λh=>by cases h)
def qF {c:Operand} (w:Wp C F Pr fa b y Q e h) (hc:iJ e c=.bool false:=by rfl):Wp C F Pr fa (.cond c a b) (.two x y) Q e h:=Ez hc (λh=>by cases h) (λ_=>w)
def iV {a b:Int} (w1:a<b->ki C F Pr fa all rest q (iS e o (.bool true)) h) (w2:¬ (a<b)->ki C F Pr fa all rest q (iS e o (.bool false)) h) {t u:Nat} {x y:Operand} {k k':IntKind} (ho:o.op=.binOp .lss t x y u:=by rfl) (hw:jg all e o=some true:=by rfl) (hx:iJ e x=.int k a:=by rfl) (hy:iJ e y=.int k' b:=by rfl) (hk:nY k k'=true:=by rfl):ki C F Pr fa all (o::rest) q e h:=pe hw (λ_=>by rw [ho]; exact iZ hx hy hk (GC _ a b)) w1 w2
def mK {a b:Int} (w1:a<b->kB C F Pr fa all sch q (iS e o (.bool true)) h) (w2:¬ (a<b)->kB C F Pr fa all sch q (iS e o (.bool false)) h) {t u:Nat} {x y:Operand} {k k':IntKind} (hi:all[i]?=some o:=by rfl) (ho:o.op=.binOp .lss t x y u:=by rfl) (hw:jg all e o=some true:=by rfl) (hx:iJ e x=.int k a:=by rfl) (hy:iJ e y=.int k' b:=by rfl) (hk:nY k k'=true:=by rfl):kB C F Pr fa all ((i,[])::sch) q e h:=nS hi hw (λ_=>by rw [ho]; exact iZ hx hy hk (GC _ a b)) w1 w2
def ux {a b:Int} (w1:a<=b->ki C F Pr fa all rest q (iS e o (.bool true)) h) (w2:¬ (a<=b)->ki C F Pr fa all rest q (iS e o (.bool false)) h) {t u:Nat} {x y:Operand} {k k':IntKind} (ho:o.op=.binOp .leq t x y u:=by rfl) (hw:jg all e o=some true:=by rfl) (hx:iJ e x=.int k a:=by rfl) (hy:iJ e y=.int k' b:=by rfl) (hk:nY k k'=true:=by rfl):ki C F Pr fa all (o::rest) q e h:=pe hw (λ_=>by rw [ho]; exact iZ hx hy hk (Gf _ a b)) w1 w2
def mz {a b:Int} (w1:a<=b->kB C F Pr fa all sch q (iS e o (.bool true)) h) (w2:¬ (a<=b)->kB C F Pr fa all sch q (iS e o (.bool false)) h) {t u:Nat} {x y:Operand} {k k':IntKind} (hi:all[i]?=some o:=by rfl) (ho:o.op=.binOp .leq t x y u:=by rfl) (hw:jg all e o=some true:=by rfl) (hx:iJ e x=.int k a:=by rfl) (hy:iJ e y=.int k' b:=by rfl) (hk:nY k k'=true:=by rfl):kB C F Pr fa all ((i,[])::sch) q e h:=nS hi hw (λ_=>by rw [ho]; exact iZ hx hy hk (Gf _ a b)) w1 w2
def jI {a b:Int} (w1:a > b->ki C F Pr fa all rest q (iS e o (.bool true)) h) (w2:¬ (a > b)->ki C F Pr fa all rest q (iS e o (.bool false)) h) {t u:Nat} {x y:Operand} {k k':IntKind} (ho:o.op=.binOp .gtr t x y u:=by rfl) (hw:jg all e o=some true:=by rfl) (hx:iJ e x=.int k a:=by rfl) (hy:iJ e y=.int k' b:=by rfl) (hk:nY k k'=true:=by rfl):ki C F Pr fa all (o::rest) q e h:=pe hw (λ_=>by rw [ho]; exact iZ hx hy hk (Gy _ a b)) w1 w2
def zG {a b:Int} (w1:a > b->kB C F Pr fa all sch q (iS e o (.bool true)) h) (w2:¬ (a > b)->kB C F Pr fa all sch q (iS e o (.bool false)) h) {t u:Nat} {x y:Operand} {k k':IntKind} (hi:all[i]?=some o:=by rfl) (ho:o.op=.binOp .gtr t x y u:=by rfl) (hw:jg all e o=some true:=by rfl) (hx:iJ e x=.int k a:=by rfl) (hy:iJ e y=.int k' b:=by rfl) (hk:nY k k'=true:=by rfl):kB C F Pr fa all ((i,[])::sch) q e h:=nS hi hw (λ_=>by rw [ho]; exact iZ hx hy hk (Gy _ a b)) w1 w2
def kL {a b:Int} (w1:a>=b->ki C F Pr fa all rest q (iS e o (.bool true)) h) (w2:¬ (a>=b)->ki C F Pr fa all rest q (iS e o (.bool false)) h) {t u:Nat} {x y:Operand} {k k':IntKind} (ho:o.op=.binOp .geq t x y u:=by rfl) (hw:jg all e o=some true:=by rfl) (hx:iJ e x=.int k a:=by rfl) (hy:iJ e y=.int k' b:=by rfl) (hk:nY k k'=true:=by rfl):ki C F Pr fa all (o::rest) q e h:=pe hw (λ_=>by rw [ho]; exact iZ hx hy hk (FV _ a b)) w1 w2
def kN {a b:Int} (w1:a>=b->kB C F Pr fa all sch q (iS e o (.bool true)) h) (w2:¬ (a>=b)->kB C F Pr fa all sch q (iS e o (.bool false)) h) {t u:Nat} {x y:Operand} {k k':IntKind} (hi:all[i]?=some o:=by rfl) (ho:o.op=.binOp .geq t x y u:=by rfl) (hw:jg all e o=some true:=by rfl) (hx:iJ e x=.int k a:=by rfl) (hy:iJ e y=.int k' b:=by rfl) (hk:nY k k'=true:=by rfl):kB C F Pr fa all ((i,[])::sch) q e h:=nS hi hw (λ_=>by rw [ho]; exact iZ hx hy hk (FV _ a b)) w1 w2
def iY {a b:Int} (w1:a=b->ki C F Pr fa all rest q (iS e o (.bool true)) h) (w2:¬ (a=b)->ki C F Pr fa all rest q (iS e o (.bool false)) h) {t u:Nat} {x y:Operand} {k k':IntKind} (ho:o.op=.binOp .eql t x y u:=by rfl) (hw:jg all e o=some true:=by rfl) (hx:iJ e x=.int k a:=by rfl) (hy:iJ e y=.int k' b:=by rfl) (hk:nY k k'=true:=by rfl):ki C F Pr fa all (o::rest) q e h:=pe hw (λ_=>by rw [ho]; exact iZ hx hy hk (FK _ a b)) w1 w2
def lE {a b:Int} (w1:a=b->kB C F Pr fa all sch q (iS e o (.bool true)) h) (w2:¬ (a=b)->kB C F Pr fa all sch q (iS e o (.bool false)) h) {t u:Nat} {x y:Operand} {k k':IntKind} (hi:all[i]?=some o:=by rfl) (ho:o.op=.binOp .eql t x y u:=by rfl) (hw:jg all e o=some true:=by rfl) (hx:iJ e x=.int k a:=by rfl) (hy:iJ e y=.int k' b:=by rfl) (hk:nY k k'=true:=by rfl):kB C F Pr fa all ((i,[])::sch) q e h:=nS hi hw (λ_=>by rw [ho]; exact iZ hx hy hk (FK _ a b)) w1 w2
def kE {a b:Int} (w1:a≠b->ki C F Pr fa all rest q (iS e o (.bool true)) h) (w2:¬ (a≠b)->ki C F Pr fa all rest q (iS e o (.bool false)) h) {t u:Nat} {x y:Operand} {k k':IntKind} (ho:o.op=.binOp .neq t x y u:=by rfl) (hw:jg all e o=some true:=by rfl) (hx:iJ e x=.int k a:=by rfl) (hy:iJ e y=.int k' b:=by rfl) (hk:nY k k'=true:=by rfl):ki C F Pr fa all (o::rest) q e h:=pe hw (λ_=>by rw [ho]; exact iZ hx hy hk (FF _ a b)) w1 w2
def vx {a b:Int} (w1:a≠b->kB C F Pr fa all sch q (iS e o (.bool true)) h) (w2:¬ (a≠b)->kB C F Pr fa all sch q (iS e o (.bool false)) h) {t u:Nat} {x y:Operand} {k k':IntKind} (hi:all[i]?=some o:=by rfl) (ho:o.op=.binOp .neq t x y u:=by rfl) (hw:jg all e o=some true:=by rfl) (hx:iJ e x=.int k a:=by rfl) (hy:iJ e y=.int k' b:=by rfl) (hk:nY k k'=true:=by rfl):kB C F Pr fa all ((i,[])::sch) q e h:=nS hi hw (λ_=>by rw [ho]; exact iZ hx hy hk (FF _ a b)) w1 w2
def oC {f:Nat} {args:List AV} {R:AV->Prop} (w:∀ h:aT,∃ v,jf C F Pr false f args h v h/\R v) (next:∀ v,R v->ki C F Pr fa all rest q (iS e o v) h) {g:Operand} {c:Call} (ho:o.op=.call c:=by rfl) (hw:jg all e o=some true:=by rfl) (hf:c.callee=.value g:=by rfl) (hg:iJ e g=.jN f [] []:=by rfl) (ha:c.args.toList.map (iJ e)=args:=by rfl) (hok:args.all AV.nq=true:=by rfl) (hs:fa.jm.elem f=false:=by rfl):ki C F Pr fa all (o::rest) q e h:=K8 ho hw hf hg ha hok hs w next
def rC {f:Nat} {args:List AV} {R:AV->Prop} (w:∀ h:aT,∃ v,jf C F Pr false f args h v h/\R v) (next:∀ v,R v->kB C F Pr fa all sch q (iS e o v) h) {g:Operand} {c:Call} (hi:all[i]?=some o:=by rfl) (ho:o.op=.call c:=by rfl) (hw:jg all e o=some true:=by rfl) (hf:c.callee=.value g:=by rfl) (hg:iJ e g=.jN f [] []:=by rfl) (ha:c.args.toList.map (iJ e)=args:=by rfl) (hok:args.all AV.nq=true:=by rfl) (hs:fa.jm.elem f=false:=by rfl):kB C F Pr fa all ((i,[])::sch) q e h:=K4 hi hw ho hf hg ha hok hs w next
end
def Row.lk {α:Type} (r:Row α):r.l.length<=9223372036854775807:=r.ok
def jo.lk {α:Type} (r:jo α):r.l.length<=9223372036854775807:=r.ok
def nm.lk (r:nm):r.l.length<=9223372036854775807:=r.ok
abbrev iv (n:Int):AV:=.int .i64 n
theorem FZ:(∀ sn hp n k a,freeze sn hp (n+1) (.int k a)=some (.int k a))/\(∀ sn hp n b,freeze sn hp (n+1) (.bool b)=some (.bool b))/\(∀ sn hp n s,freeze sn hp (n+1) (.str s)=some (.str s)) /\
  (∀ (α:Type) (enc : α->List AV) hp n r,freeze true hp (n+1) (jo.av enc r)=some (jo.av enc r))/\(∀ (α:Type) (enc : α->List AV) sn hp n r,freeze sn hp (n+1) (Row.av enc r)=some (Row.av enc r)) /\
  (∀ hp n c o s,freeze true hp (n+1) (.ip c o s)=some (.ip c o s))/\(∀ sn hp n c o,freeze sn hp (n+1) (.ip c o false)=some (.ip c o false))/\(∀ hp n c s,freeze true hp (n+1) (.fm c s)=some (.fm c s))/\(∀ sn hp n c,freeze sn hp (n+1) (.fm c false)=some (.fm c false)) /\
  (∀ sn hp n,freeze sn hp (n+1) (.sl [] .nil)=some (.sl [] .nil))/\(∀ sn hp n,freeze sn hp (n+1) .j4=some .j4)/\(∀ sn hp n,freeze sn hp (n+1) .kg=some .kg)/\(∀ sn hp n m xs,freeze sn hp (n+1) (.sl xs (.exact m))=some (.sl xs (.exact m))) /\
  (∀ sn hp n l,freeze sn hp (n+1) (.agg l)=(match ju (freeze sn hp n) l with
    | some l=>some (.agg l)
    | none=>none))/\(∀ sn hp n l,freeze sn hp (n+1) (.je l)=(match ju (freeze sn hp n) l with
    | some l=>some (.je l)
    | none=>none))/\(∀ x:iu,x.af=[.int .i64 x.elem,.int .i64 x.en])/\(∀ x:jy,x.af=[.int .i64 x.elem,.int .i64 x.pos])/\(∀ x:jB,x.af=[.int .i64 x.out,.int .i64 x.pos])/\(∀ x:iT,x.af=[.int .i64 x.elem,.int .i64 x.nX,.int .i64 x.out])/\(∀ x:j9,x.af=[.str x.name.l,.int .i64 x.kind,.int .i64 x.len])/\(∀ x:j7,x.af=[.bool x.GM,.int .i64 x.at_,.int .i64 x.end_,.int .i64 x.to]) /\
  (∀ x:iQ,x.af=[.int .i64 x.from_,.int .i64 x.to,.int .i64 x.end_,x.steps.av iT.af,x.lQ.av jy.af,x.guards.av jy.af,x.mA.av iP,x.holds.av iP,.bool x.bare])/\(∀ x:sL,x.af=[.int .i64 x.from_,.int .i64 x.to,.int .i64 x.end_,x.steps.av iT.af,x.lQ.av jy.af,x.guards.av jy.af,x.mA.av iP,x.holds.av iP,.bool x.bare]) /\
  (∀ x:nw,x.af=[.int .i64 x.uG,x.steps.av iT.af,x.pos.av iP,x.left.av (kp jB.af)])/\(∀ p:bS,p.af=[p.elems.av j9.af,p.iO.av j3.af,p.signals.av j6.af,p.lines.av jx.af,.int .i64 p.top,.int .i64 p.jY,.int .i64 p.j5,.int .i64 p.j8,.bool p.ke])/\(∀ x:jR,x.af=x.vk.af++[x.roads.av iQ.af]) /\
  (∀ x:iL,x.af=[.int .i64 x.mode,x.dO.av iu.af,.int .i64 x.left,.int .i64 x.nt,.int .i64 x.v])/\(∀ x:kU,x.af=[.str x.name.l,.int .i64 x.iW,.int .i64 x.at_.elem,.int .i64 x.at_.en,.int .i64 x.left])/\(∀ x:jx,x.af=[.str x.name.l,x.elems.av iP])/\(∀ x:lb,x.af=[.str x.name.l,.int .i64 x.iW,.int .i64 x.from_,.int .i64 x.left,x.jE.av j7.af])/\(∀ x:iI,x.af=[.int .i64 x.xR,x.iW.av jW.af,x.runs.av lb.af]) /\
  (∀ (f:AV->Option AV),ju f []=some [])/\(∀ (f:AV->Option AV) v l,ju f (v::l)=(match f v with
    | none=>none
    | some w=>match ju f l with
      | none=>none
      | some l'=>some (w::l')))/\(∀ (a b:List AV) v,(v::a)++b=v::(a++b))/\(∀ b:List AV,[]++b=b):=by
 refine ⟨λ_ _ _ _ _=>rfl,λ_ _ _ _=>rfl,λ_ _ _ _=>rfl,λ_ _ _ _ r=>EW r,λ_ _ _ _ _ r=>tH r,λ_ _ _ _ _=>Gd _ _ _,λ_ _ _ _ _=>R9 _ _,λ_ _ _ _=>FW _ _,λ_ _ _ _=>R7 _,λ_ _ _=>rfl,λ_ _ _=>rfl,λ_ _ _=>rfl,λ_ _ _ _ _=>rfl,λ_ _ _ _=>rfl,λ_ _ _ _=>rfl,?_⟩
 exact ⟨λ_=>rfl,λ_=>rfl,λ_=>rfl,λ_=>rfl,λ_=>rfl,λ_=>rfl,λ_=>rfl,λ_=>rfl,λ_=>rfl,λ_=>rfl,λ_=>rfl,λ_=>rfl,λ_=>rfl,λ_=>rfl,λ_=>rfl,λ_=>rfl,λ_=>rfl,λ_ _ _=>rfl,λ_ _ _=>rfl,λ_=>rfl⟩
end Go.Sx
namespace Go.Sx
open Go
def Ox (amb:Bool) (a b:Option iu) (to:Int):Option iu:=match a,b with
 | some _,none=>some ⟨to,1⟩
 | none,some _=>some ⟨to,0⟩
 | _,_=>if amb=true then some ⟨to,-1⟩ else none
def o1 (amb:Bool) (A:Int->Option iu) (N:iu->Option iu) (l:j7):Option iu:=if l.end_=1 then A l.to else if l.end_=3 then Ox amb (N ⟨l.to,0⟩) (N ⟨l.to,1⟩) l.to else none
def vY (amb:Bool) (A:Int->Option iu) (N:iu->Option iu) (r:lb) (leg:Int):Option iu:=if leg=0 then A r.from_ else match r.jE.l[(leg - 1).toNat]? with
 | none=>none
 | some l=>o1 amb A N l
def lD (amb:Bool) (A:Int->Option iu) (N:iu->Option iu) (d:iI) (run leg:Int):Option iu:=if run<0 then none else match d.runs.l[run.toNat]? with
 | none=>none
 | some r=>if leg<0\/leg > r.jE.l.length then none else vY amb A N r leg
section
variable {amb:Bool} {A:Int->Option iu} {N:iu->Option iu} {d:iI} {run leg:Int} {x:lb} {y:j7}
def HB (h:run<0\/run>=d.runs.l.length):lD amb A N d run leg=none:=by
 grind [lD]
theorem xX (h0:0<=run) (hx:run.toNat<d.runs.l.length) (hq:d.runs.l[run.toNat]=x):lD amb A N d run leg=if leg<0\/leg > x.jE.l.length then none else vY amb A N x leg:=by
 grind [lD]
def GW (h0:0<=run) (hx:run.toNat<d.runs.l.length) (hq:d.runs.l[run.toNat]=x) (h:leg<0\/leg > x.jE.l.length):lD amb A N d run leg=none:=by
 grind [xX]
def SP {hx:run.toNat<d.runs.l.length} (hq:d.runs.l[run.toNat]=x) (h:leg<(x.jE.l.length:Int)):∀ h:run.toNat<d.runs.l.length,leg<((d.runs.l[run.toNat]).jE.l.length:Int):=by
 grind
def Kb (h:leg<0):lD amb A N d run leg=none:=by
 grind [lD]
theorem Mu (h0:0<=run) (hx:run.toNat<d.runs.l.length) (hq:d.runs.l[run.toNat]=x) (h:leg=0):lD amb A N d run leg=A x.from_:=by
 rw [xX h0 hx hq,if_neg (by omega),vY,if_pos h]
theorem LQ (h0:0<=run) (hx:run.toNat<d.runs.l.length) (hq:d.runs.l[run.toNat]=x) (h1:0<leg) (h2:leg<=x.jE.l.length) (hy:(leg - 1).toNat<x.jE.l.length) (hz:x.jE.l[(leg - 1).toNat]=y):lD amb A N d run leg=o1 amb A N y:=by
 rw [xX h0 hx hq,if_neg (by omega),vY,if_neg (by omega),List.getElem?_eq_getElem hy,hz]
theorem BE (h:y.end_=1):o1 amb A N y=A y.to:=by grind [o1]
theorem BX (h:¬ y.end_=1) (h3:y.end_=3):o1 amb A N y=Ox amb (N ⟨y.to,0⟩) (N ⟨y.to,1⟩) y.to:=by grind [o1]
theorem GD (h:¬ y.end_=1) (h3:¬ y.end_=3):o1 amb A N y=none:=by grind [o1]
end
def IF (amb:Bool) (K:Int->Int) (R:iu->Int) (h:iu) (l:j7):Int:=if l.GM=true then if K h.elem=1 then R ⟨h.elem,IntKind.i64.wrap (1 - h.en)⟩ else -1 else R h
def pk (amb:Bool) (A:Int->Option iu) (N:iu->Option iu) (K:Int->Int) (R:iu->Int) (d:iI) (run leg:Int):Int:=match lD amb A N d run leg with
 | none=>-1
 | some h=>if amb=true/\h.en<0 then -1 else match d.runs.l[run.toNat]? with
   | none=>-1
   | some r=>match r.jE.l[leg.toNat]? with
     | none=>-1
     | some l=>IF amb K R h l
section
variable {amb:Bool} {A:Int->Option iu} {N:iu->Option iu} {K:Int->Int} {R:iu->Int} {d:iI} {run leg:Int} {x:lb} {y:j7} {h:iu}
theorem wQ (hh:lD amb A N d run leg=none):pk amb A N K R d run leg = -1:=by rw [pk,hh]
theorem Co (hh:lD true A N d run leg=some h) (hn:h.en<0):pk true A N K R d run leg = -1:=by grind [pk]
def KZ (hx:run.toNat<d.runs.l.length) (hq:d.runs.l[run.toNat]=x) (hl:leg>=x.jE.l.length):pk amb A N K R d run leg = -1:=by
 grind [pk]
theorem Hr (hh:lD amb A N d run leg=some h) (hn:amb=false\/¬ h.en<0) (hx:run.toNat<d.runs.l.length) (hq:d.runs.l[run.toNat]=x) (hy:leg.toNat<x.jE.l.length) (hz:x.jE.l[leg.toNat]=y):pk amb A N K R d run leg=IF amb K R h y:=by
 grind [pk]
theorem Lq (hA:∀ i h,A i=some h->0<=h.en):pk false A N K R d run leg=pk true A N K R d run leg:=by
 have hl:∀ l:j7,(o1 false A N l=none/\o1 true A N l=none)\/(∃ h,o1 false A N l=none/\o1 true A N l=some h/\h.en<0)\/∃ h,o1 false A N l=some h/\o1 true A N l=some h/\0<=h.en:=by
  intro l
  by_cases h1:l.end_=1
  ·rw [BE h1,BE h1]
   cases h:A l.to<;>grind
  ·by_cases h3:l.end_=3
   ·rw [BX h1 h3,BX h1 h3]
    cases N ⟨l.to,0⟩<;>cases N ⟨l.to,1⟩<;>simp [Ox]
   grind [GD]
 have hg:(lD false A N d run leg=none/\lD true A N d run leg=none)\/(∃ h,lD false A N d run leg=none/\lD true A N d run leg=some h/\h.en<0)\/∃ h,lD false A N d run leg=some h/\lD true A N d run leg=some h/\0<=h.en:=by
  unfold lD
  split
  ·simp
  ·cases d.runs.l[run.toNat]? with
   | none=>simp
   | some r =>
     simp only
     split
     ·simp
     ·unfold vY
      split
      ·cases h:A r.from_<;>grind
      ·cases r.jE.l[(leg - 1).toNat]?<;>grind
 rcases hg with ⟨h1,h2⟩ | ⟨h,h1,h2,h3⟩ | ⟨h,h1,h2,h3⟩
 ·grind [wQ]
 ·grind [wQ,Co]
 ·simp only [pk,h1,h2,Bool.false_eq_true,false_and,true_and,if_false]
  rw [if_neg (by omega)]
  rfl
end
end Go.Sx
namespace Go.Sx
open Go
section
variable (X:Ctx) (lp:y6)
def rH:List Bool->Code->lB->Env->aT->RC
 | [],_,_,e,h=>some (.ka,e,h)
 | true::p,.seq a b,.sq x y,e,h=>andThen (rH p b y) (jS X lp a x e h)
 | true::p,.seq a b,.seq live x y,e,h=>andThen (lM live (rH p b y)) (jS X lp a x e h)
 | false::p,.seq a _,.sq x _,e,h=>rH p a x e h
 | false::p,.seq a _,.seq _ x _,e,h=>rH p a x e h
 | false::p,.block _ a,an,e,h=>rH p a an e h
 | _,_,_,_,_=>none
def behind:List Bool->Code->lB->RC->RC
 | [],_,_,r=>r
 | true::p,.seq _ b,.sq _ y,r=>behind p b y r
 | true::p,.seq _ b,.seq _ _ y,r=>behind p b y r
 | false::p,.seq a b,.sq x y,r=>andThen (jS X lp b y) (behind p a x r)
 | false::p,.seq a b,.seq live x y,r=>andThen (lM live (jS X lp b y)) (behind p a x r)
 | false::p,.block id a,an,r=>atEnd id (behind p a an r)
 | _,_,_,r=>r
end
def sk:List Bool->Code->lB->Code×lB
 | [],c,an=>(c,an)
 | true::p,.seq _ b,.sq _ y=>sk p b y
 | true::p,.seq _ b,.seq _ _ y=>sk p b y
 | false::p,.seq a _,.sq x _=>sk p a x
 | false::p,.seq a _,.seq _ x _=>sk p a x
 | false::p,.block _ a,an=>sk p a an
 | _,c,an=>(c,an)
section
variable {X:Ctx} {lp:y6}
def zh {k:Env->aT->RC} {r:RC} {e0:Env} {h0:aT} (h:andThen k r=some (.ka,e0,h0)):∃ e h,r=some (.ka,e,h)/\k e h=some (.ka,e0,h0):=by
 unfold andThen at h
 grind
def qA:Nat->(Env->aT->RC)->Env->aT->RC
 | 0,_,e,h=>some (.ka,e,h)
 | n+1,f,e,h=>match f e h with
   | some (.ka,e,h)=>qA n f e h
   | r=>r
end
def tg (args0:List AV) (v0:AV) (shd:Bool) (args:List AV) (h:aT):R2:=match shd,mB (lZ 12) args0 args with
 | false,true=>some (v0,h)
 | _,_=>none
def zi {P:Program} {C:jH} {F:kP} {Pr:kx} (T:rE P C F Pr) {f n:Nat} {args0:List AV} {v0:AV} {h0:aT} (h:lT C F Pr n false f args0 aT.empty=some (v0,h0)):nF P f (tg args0 v0) where
 call:=by
  intro shd args h1 v h' hc
  unfold tg at hc
  split at hc
  ·rename_i _ ha
   cases hc
   have:=mO (oG 12) _ _ ha
   subst this
   obtain ⟨_,k⟩:=pD T n f args0 aT.empty v0 h0 h
   exact oj T n false f args0 h1 v0 h1 (k h1 (λb o hb=>by grind [Cj]))
  grind
 A5:=by
  grind [tg]
end Go.Sx
namespace Go.Sx
open Go
section
variable {C:jH} {F:kP} {Pr:kx}
theorem jf.vR {shd:Bool} {f:Nat} {args:List AV} {h h1 h2:aT} {v1 v2:AV} (a:jf C F Pr shd f args h v1 h1) (b:jf C F Pr shd f args h v2 h2):v1=v2/\h1=h2:=by
 obtain ⟨m,ha⟩:=a
 obtain ⟨n,hb⟩:=b
 have:=(ha (m+n) (by omega)).symm.trans (hb (m+n) (by omega))
 grind
def xV (Pr:kx):Prop:=∀ f p,Pr f=some p->∀ (args:List AV) (h:aT) (v:AV) (h':aT),p false args h=some (v,h')->h'=h/\∀ h2:aT,(∀ b o,h.get b=some o->h2.get b=some o)->p false args h2=some (v,h2)
def AQ (T:xV Pr) (n:Nat):oA (lT C F Pr n):=by
 intro f args h v h' hc
 cases n with
 | zero=>cases hc
 | succ n =>
   simp only [lT] at hc
   cases hp:Pr f with
   | some p =>
     rw [hp] at hc
     obtain ⟨k1,k2⟩:=T f p hp _ _ _ _ hc
     grind [lT]
   | none =>
     grind [Cc,lT]
open Classical in
noncomputable def res (C:jH) (F:kP) (Pr:kx) (f:Nat) (args:List AV):AV :=
 if H:∃ v,jf C F Pr false f args aT.empty v aT.empty then Classical.choose H else .undef
theorem jf.at (T:xV Pr) {f:Nat} {args:List AV} {v:AV} (h:aT) (hc:jf C F Pr false f args aT.empty v aT.empty):jf C F Pr false f args h v h:=by
 obtain ⟨m,hm⟩:=hc
 refine ⟨m,λk hk=>(AQ T k f args aT.empty v _ (hm k hk)).2 h ?_⟩
 intro b o hb
 have:aT.empty.get b=none:=by
  rfl
 grind
def Uf (T:xV Pr) {f:Nat} {args:List AV} {R:AV->Prop} (w:∀ h:aT,∃ v,jf C F Pr false f args h v h/\R v) {h:aT} {v:AV} (hc:jf C F Pr false f args h v h):res C F Pr f args=v:=by
 obtain ⟨v0,h0,_⟩:=w aT.empty
 have H:∃ v,jf C F Pr false f args aT.empty v aT.empty:=⟨v0,h0⟩
 have e:res C F Pr f args=Classical.choose H:=dif_pos H
 rw [e]
 exact ((Classical.choose_spec H).at T h).vR hc |>.1
def rX (T:xV Pr) {f:Nat} {args:List AV} {R:AV->Prop} (w:∀ h:aT,∃ v,jf C F Pr false f args h v h/\R v) (h:aT):∃ v,jf C F Pr false f args h v h/\R v/\res C F Pr f args=v:=by
 obtain ⟨v,hc,hR⟩:=w h
 exact ⟨v,hc,hR,Uf T w hc⟩
end
def xx:mQ->mQ
 | .exact _=>.kb
 | c=>c
mutual
def s9:AV->AV
 | .sl xs c=>.sl (sV xs) (xx c)
 | .agg l=>.agg (s5 l)
 | v=>v
def s5:List AV->List AV
 | []=>[]
 | v::l=>s9 v::s5 l
def sV:List (List AV)->List (List AV)
 | []=>[]
 | x::l=>s5 x::sV l
end
theorem wm:∀ (l:List AV) (i:Nat),(s5 l)[i]?=(l[i]?).map s9
 | [],i=>by rfl
 | v::l,0=>by rfl
 | v::l,i+1=>by simp [s5,wm l i]
theorem yY:∀ (l:List AV),(s5 l).length=l.length
 | []=>rfl
 | v::l=>by simp [s5,yY l]
theorem Eu:∀ (l:List (List AV)) (i:Nat),(sV l)[i]?=(l[i]?).map s5
 | [],i=>by rfl
 | v::l,0=>by rfl
 | v::l,i+1=>by simp [sV,Eu l i]
theorem xd:∀ (l:List (List AV)),(sV l).length=l.length
 | []=>rfl
 | v::l=>by simp [sV,xd l]
theorem Gx {c:mQ} {n m:Nat} (h:nW c n m) (hle:n<=m):nW (xx c) n m:=by
 cases c<;>first | exact h | exact hle
def PR.wk {w:World} {T:Bool->Nat->Prop} {m:Bool} {v:AV} {u:Value} (h:PR w T m v u):PR w T m (s9 v) u:=by
 induction h with
 | undef m v h=>exact .undef m v h
 | bool m b=>exact .bool m b
 | int m k n=>exact .int m k n
 | str m s b h=>exact .str m s b h
 | j4 m=>exact .j4 m
 | ip m cells off sn B base c e fr f hm hB hI hc h1 hr=>exact .ip m cells off sn B base c e fr f hm hB hI hc h1 hr
 | slnil m=>exact .slnil m
 | m4 m cap a c hm h=>exact .m4 m (xx cap) a c (by rw [show pf (xx cap)=pf cap from by cases cap<;>rfl]; exact hm) (Gx h (Nat.zero_le _))
 | sl m xs cap B base c e fr cap' esz f hm hB hI hcap hle hz hc h1 hr ih =>
   have hs:pf (xx cap)=pf cap:=by cases cap<;>rfl
   have ex:∀ (i:Nat) (cs:List AV),(sV xs)[i]?=some cs->∃ cs0,xs[i]?=some cs0/\cs=s5 cs0:=by
    grind [Eu]
   have ex2:∀ (cs0:List AV) (j:Nat) (x:AV),(s5 cs0)[j]?=some x->∃ x0,cs0[j]?=some x0/\x=s9 x0:=by
    grind [wm]
   have key:=PR.sl (w:=w) (T:=T) m (sV xs) (xx cap) B base c e fr cap' esz f (by grind) hB (by grind) (by grind [xd,Gx]) (by grind [xd])
    (by grind [yY])
    (by grind)
    (by grind)
    (by grind)
   rw [xd] at key
   exact key
 | kg m=>exact .kg m
 | fm m es sn r ents clk hm hB hI hl hy hko hk hv=>exact .fm m es sn r ents clk hm hB hI hl hy hko hk hv
 | kZ m=>exact .kZ m
 | jN m g a c a' c' ha hc hra hrc=>exact .jN m g a c a' c' ha hc hra hrc
 | agg m l vs hl h1 hr ih =>
   refine .agg m (s5 l) vs (by grind [yY]) h1 ?_
   grind [wm]
def R3 {v:AV} (h:v.ko=true):(s9 v).ko=true:=by
 cases v<;>first | exact h | (simp [AV.ko] at h)
def VR.wk {G:Ga} {v:AV} {u:Value} (h:VR G v u):VR G (s9 v) u:=by
 induction h with
 | undef v=>exact .undef v
 | jn hp h=>exact .jn (R3 hp) h.wk
 | ptr b g i o a hb hg h=>exact .ptr b g i o a hb hg h
 | hs b g off len a cap' hb hg hle h=>exact .hs b g off len a cap' hb hg hle h
 | hm b r hb h=>exact .hm b r hb h
 | la d o B hd=>exact .la d o B hd
 | jN g a c a' c' ha hc hna hnc hra hrc=>exact .jN g a c a' c' ha hc hna hnc hra hrc
 | agg l vs hl hn h1 hr ih =>
   refine .agg (s5 l) vs (by grind [yY]) ?_ h1 ?_
   ·intro x hx
    obtain ⟨i,hi⟩:=List.getElem?_of_mem hx
    rw [wm] at hi
    obtain ⟨x0,g1,rfl⟩:=Option.map_eq_some_iff.mp hi
    have:=hn x0 (List.mem_of_getElem? g1)
    cases x0<;>first | exact this | rfl
   grind [wm]
 | je l vs hl hr=>exact .je l vs hl hr
open Classical in
noncomputable def sy (C:jH) (F:kP) (Pr:kx) (f:Nat) (shd:Bool) (args:List AV) (h:aT):Option (AV×aT):=match shd with
 | true=>none
 | false=>if H:∃ v,jf C F Pr false f args h v h then some (s9 (Classical.choose H),h) else none
theorem wT {C:jH} {F:kP} {Pr:kx} {f:Nat} {args:List AV} {h:aT} {v:AV} (hc:jf C F Pr false f args h v h):sy C F Pr f false args h=some (s9 v,h):=by
 have H:∃ v,jf C F Pr false f args h v h:=⟨v,hc⟩
 have e:sy C F Pr f false args h=some (s9 (Classical.choose H),h):=dif_pos H
 rw [e,((Classical.choose_spec H).vR hc).1]
def Dj {C:jH} {F:kP} {Pr:kx} (T:xV Pr) (f:Nat):∀ (args:List AV) (h:aT) (v:AV) (h':aT),sy C F Pr f false args h=some (v,h')->h'=h/\∀ h2:aT,(∀ b o,h.get b=some o->h2.get b=some o)->sy C F Pr f false args h2=some (v,h2):=by
 intro args h v h' hc
 by_cases H:∃ v,jf C F Pr false f args h v h
 ·obtain ⟨v0,hv0⟩:=H
  rw [wT hv0] at hc
  cases hc
  refine ⟨rfl,λh2 E=>?_⟩
  obtain ⟨m,hm⟩:=hv0
  have:jf C F Pr false f args h2 v0 h2:=⟨m,λk hk=>(AQ T k f args h v0 h (hm k hk)).2 h2 E⟩
  exact wT this
 grind [sy]
def JD (args0:List AV) (v0:AV):∀ (args:List AV) (h:aT) (v:AV) (h':aT),tg args0 v0 false args h=some (v,h')->h'=h/\∀ h2:aT,(∀ b o,h.get b=some o->h2.get b=some o)->tg args0 v0 false args h2=some (v,h2):=by
 grind [tg]
def SN {P:Program} {C:jH} {F:kP} {Pr:kx} (T:rE P C F Pr):xV Pr:=λf p hp=>(T.CY f p hp).A5
def Fl {P:Program} {C:jH} {F:kP} {Pr:kx} (T:rE P C F Pr) (f:Nat):nF P f (sy C F Pr f) where
 call:=by
  intro shd args h v h' hc
  cases shd with
  | true=>cases hc
  | false =>
    by_cases H:∃ v,jf C F Pr false f args h v h
    ·obtain ⟨v0,hv0⟩:=H
     rw [wT hv0] at hc
     cases hc
     obtain ⟨m,hm⟩:=hv0
     have hk:=oj T m false f args h v0 h (hm m (Nat.le_refl _))
     intro G args' e1 e2 e3 e4 e5 e6
     obtain ⟨k1,k2⟩:=hk G args' e1 e2 e3 e4 e5 e6
     exact ⟨k1,λR hR=>k2 R λu G' s1 s2 s3 s4=>hR u G' s1 s2 s3 λm L=>(s4 m L).wk⟩
    grind [sy]
 A5:=Dj (SN T) f
def Jq {n:Nat} {h h':aT} {s v':AV} {ys:List (List AV)} (ha:append n h s ys=some (v',h')) (hs:s≠.sl [] .nil):v'≠.sl [] .nil:=by
 unfold append at ha
 split at ha
 ·grind
 ·split at ha
  ·cases ha
  ·split at ha<;>grind [rz,nf,AO]
section
variable {C:jH} {F:kP} {Pr:kx} {fa:iA} {e:Env} {α:Type} {enc : α->List AV} {H:aT} {L:List jL} {i:Nat} {w tt:Bool} {v:AV} {n:Nat} {l:List α} {ls:kK}
def uk {cl:Call} {s x:Operand} {t u:Nat} {ti:TI} {d:Option Nat} (ys:List α) (hS:Sep H L) (hi:L[i]?=some (.sl w tt v n (l.map enc))) (hc:cl.callee=.builtin .append) (ha:cl.args.toList=[s,x]) (hts:cl.argTypes.toList=[t,u]) (hT:rv C [t,u]=some ti) (hSr:En C [t,u]=true) (hn:ti.size=n)
  (hs:iJ e s=v) (hx:pH { H with iq:=ls } (iJ e x)=some (ys.map enc)) (hok:∀ y,(enc y).all AV.kh=true) (ht:tt=true\/ys.length=1) (hm:l.length+ys.length<=sj) (henc:∀ x,(enc x).length=n) :
  ∃ v' H',(∀ call,jt (.call cl) ⟨C,fa,call⟩ e { H with iq:=ls } d=some (v',{ H' with iq:=ls }))/\Sep H' (L.set i (.sl w tt v' n ((l++ys).map enc)))/\(v≠.sl [] .nil->v'≠.sl [] .nil):=by
 obtain ⟨v',H',h1,h2⟩:=Dy (ls:=ls) (ys:=ys.map enc) hS hi (by grind) (by grind) (by grind)
 refine ⟨v',H',λcall=>?_,by grind,Jq h1⟩
 have hall:zb (ys.map enc)=true:=by
  grind [zb]
 simp only [jt,pr,oz,hc,ha,hts,mJ,Ac,rZ,List.map_cons,List.map_nil,hT,hSr,hn,hs,hx,hall,h1]
def tV (hS:Sep H L) (hi:L[i]?=some (.sl w tt v n (l.map enc))) (hl:l.length<=rl):∃ r:Row α,r.l=l/\(r.c=.nil↔v=.sl [] .nil)/\∀ ls m,(∀ x,ju (freeze false { H with iq:=ls } m) (enc x)=some (enc x))->freeze false { H with iq:=ls } (m+1) v=some (r.av enc):=by
 obtain ⟨hxl,⟨h0,rfl⟩ | ⟨_,rfl⟩ | ⟨b,g,j,hb,rfl,hg,htj⟩⟩:=hS.at hi
 ·have:l=[]:=List.map_eq_nil_iff.mp h0
  subst this
  exact ⟨⟨[],.nil,Nat.zero_le _,rfl,λ_=>rfl⟩,rfl,⟨λ_=>rfl,λ_=>rfl⟩,λ_ _ _=>rfl⟩
 ·exact ⟨⟨l,.exact (l.map enc).length,hl,rfl,λh=>by cases h⟩,rfl,⟨λh=>(by cases h),λh=>(AV.sl.inj h).2⟩,λ_ _ _=>rfl⟩
 ·refine ⟨⟨l,.kb,hl,rfl,λh=>by cases h⟩,rfl,⟨λh=>(by cases h),λh=>(by cases h)⟩,λls m hm=>?_⟩
  have h2:Nat.ble (0+(l.map enc).length) (l.map enc++j).length=true:=Nat.ble_eq.mpr (by simp)
  have h3:((l.map enc++j).drop 0).take (l.map enc).length=l.map enc:=by simp
  have h5:∀ ys:List (List AV),(∀ x∈ys,ju (freeze false { H with iq:=ls } m) x=some x)->ni (freeze false { H with iq:=ls } m) ys=some ys:=by
   intro ys
   induction ys<;>grind [ni]
  simp only [freeze,aT.kR,hg,Nat.beq_refl,h2,Bool.and_self,h3,h5 (l.map enc) (by grind),A6]
  rfl
end
def jo.yN {α:Type} {r:jo α}:r.isNil=true↔r.c=.nil:=by
 grind [jo.isNil]
theorem vm.trans {α:Type} {a b c:Row α} (h:vm a b) (g:vm b c):vm a c:=⟨h.1.trans g.1,h.2.trans g.2⟩
theorem sv.trans {a b c:jx} (h:sv a b) (g:sv b c):sv a c:=⟨h.1.trans g.1,h.2.trans g.2⟩
def Jp {l m:List jx} (h:∀ (i:Nat) (h:i<l.length) (h2:i<m.length),sv l[i] m[i]) {k:Nat} {x x':jx} (hk:k<l.length) (hq:l[k]=x) (hx:sv x' x) :
  ∀ (i:Nat) (h:i<(l.set k x').length) (h2:i<m.length),sv (l.set k x')[i] m[i]:=by
 intro i hi h2
 rw [List.getElem_set]
 split
 ·rename_i e
  subst e
  exact hx.trans (by grind)
 grind
def GX (r p:bS):Prop:=vm r.elems p.elems/\vm r.iO p.iO/\vm r.signals p.signals/\(r.lines.c=.nil↔p.lines.c=.nil)/\r.lines.l.length=p.lines.l.length/\(∀ (i:Nat) (h:i<r.lines.l.length) (h2:i<p.lines.l.length),sv r.lines.l[i] p.lines.l[i])/\r.top=p.top/\r.jY=p.jY/\r.j5=p.j5/\r.j8=p.j8/\r.ke=p.ke
theorem Jm {α:Type} {r s:Row α} (h:r.c=.nil↔s.c=.nil):xx r.c=BN s.c:=by
 have h1:=r.sn
 cases hr:r.c<;>cases hs:s.c<;>simp_all [xx,BN,pI]
theorem Dx {α:Type} {enc : α->List AV} (h:∀ x : α,s5 (enc x)=enc x):∀ l:List α,sV (l.map enc)=l.map enc
 | []=>rfl
 | x::l=>by simp only [List.map_cons,sV,h,Dx h l]
theorem Ba {α:Type} {enc : α->List AV} {r s:Row α} (h:vm r s) (he:∀ x : α,s5 (enc x)=enc x):s9 (r.av enc)=s.canon.av enc:=by
 simp only [Row.av,s9,Row.canon,Dx he,h.1,Jm h.2]
theorem AM:∀ {l m:List jx},l.length=m.length->(∀ (i:Nat) (h:i<l.length) (h2:i<m.length),sv l[i] m[i])->sV (l.map jx.af)=(m.map jx.canon).map jx.af
 | [],[],_,_=>rfl
 | [],_::_,h,_=>by simp at h
 | _::_,[],h,_=>by simp at h
 | x::l,y::m,hl,h=>by
   obtain ⟨h1,h2⟩:=h 0 (by simp) (by simp)
   simp only [List.getElem_cons_zero] at h1 h2
   have ih:=AM (l:=l) (m:=m) (by simpa using hl) λi h3 h4=>by
    have:=h (i+1) (by simpa using h3) (by simpa using h4)
    simpa using this
   simp only [List.map_cons,sV,ih]
   congr 1
   simp only [jx.af,jx.canon,s5,Ba h2 (enc:=iP) (λx=>rfl),h1]
   rfl
theorem FH {r p:bS} (h:GX r p):s9 (.agg r.af)=.agg p.canon.af:=by
 obtain ⟨h1,h2,h3,h4,h5,h6,h7,h8,h9,h10,h11⟩:=h
 have hl:s9 (r.lines.av jx.af)=(p.lines.yD jx.canon).canon.av jx.af:=by
  simp only [Row.av,s9,AM h5 h6,Row.canon,Row.yD,Jm h4]
 simp only [bS.af,s9,s5,bS.canon,Ba h1 (enc:=j9.af) (λx=>rfl),Ba h2 (enc:=j3.af) (λx=>rfl),Ba h3 (enc:=j6.af) (λx=>rfl),hl,h7,h8,h9,h10,h11]
def Hs {C:jH} {F:kP} {Pr Pr2:kx} {f:Nat} {args:List AV} {h:aT} {v:AV} (hp:Pr2 f=some (sy C F Pr f)) (hc:jf C F Pr false f args h v h):jf C F Pr2 false f args h (s9 v) h:=by
 refine ⟨1,λk hk=>?_⟩
 cases k<;>grind [lT,wT]
section
variable {amb:Bool} {A:Int->Option iu} {N:iu->Option iu} {K:Int->Int} {R:iu->Int} {d:iI} {run leg:Int}
end
def qj (p:bS) (t:List iu):List Int:=(t.filter λh=>kr p h.elem≠4).map (·.elem)
theorem F3 {α β:Type} {l:List α} {k:Nat} {x : α} (hk:k<l.length) (hq:l[k]=x) (p : α->Bool) (f : α->β):((l.take (k+1)).filter p).map f=((l.take k).filter p).map f++if p x then [f x] else []:=by
 rw [List.take_add_one,List.getElem?_eq_getElem hk,hq]
 grind
def Mq {p:bS} {t:List iu} {l:List Int} {k:Nat} {x:iu} {n:Int} (hk:k<t.length) (hq:t[k]=x) (h:l=qj p (t.take k)) (hK:n=kr p x.elem) (hn:n≠4):l++[x.elem]=qj p (t.take (k+1)):=by
 subst hK
 unfold qj at h ⊢
 rw [F3 hk hq,<- h,if_pos (by grind)]
def Sh {p:bS} {t:List iu} {l:List Int} {k:Nat} {x:iu} {n:Int} (hk:k<t.length) (hq:t[k]=x) (h:l=qj p (t.take k)) (hK:n=kr p x.elem) (hn:¬ n≠4):l=qj p (t.take (k+1)):=by
 subst hK
 unfold qj at h ⊢
 rw [F3 hk hq,<- h,if_neg (by grind),List.append_nil]
def L3 {l:List lb} {k:Nat} {x:lb} {hk:k<l.length} (hq:l[k]=x) (h:∀ (i j:Nat) (h:j<l.length) (hij:i<j),j<k->(l[i]).name.l≠(l[j]).name.l) (hx:∀ y∈l.take k,¬ y.name.l=x.name.l) :
  ∀ (i j:Nat) (h:j<l.length) (hij:i<j),j<k+1->(l[i]).name.l≠(l[j]).name.l:=by
 intro i j hj hij h2
 rcases Nat.lt_succ_iff_lt_or_eq.mp h2 with h3 | h3
 ·grind
 ·subst h3
  rw [hq]
  exact hx _ (List.mem_take_iff_getElem.mpr ⟨i,by omega,rfl⟩)
def lu {α:Type} {P : α->Prop} {l:List α} {k:Nat} (h:∀ (i:Nat) (h:i<l.length),i<k->P (l[i])) (hk:l.length<=k):∀ x∈l,P x:=by
 intro x hx
 obtain ⟨i,hi,rfl⟩:=List.mem_iff_getElem.mp hx
 grind
def rk (p:bS) (d:iI) (i:Nat):kU:=match d.runs.l[i]? with
 | none=>⟨⟨[],by decide⟩,0,⟨0,0⟩,0⟩
 | some r =>
   let a:=(oE p.signals.l r.from_).getD ⟨0,0⟩
   ⟨r.name,r.iW,a,if kr p a.elem=4 then 0 else r.left⟩
def JL {p:bS} {d:iI} {i:Int} {r:lb} {a:iu} {m:Int} (hi:i.toNat<d.runs.l.length) (hq:d.runs.l[i.toNat]=r) (ha:a=(oE p.signals.l r.from_).getD ⟨0,0⟩) (hm:m=if kr p a.elem=4 then 0 else r.left):(⟨r.name,r.iW,a,m⟩:kU)=rk p d i.toNat:=by
 grind [rk]
structure Tk (L:Nat->List Int) (k:Nat) (m:List (Int×Bool)) (e:Int):Prop where
 look:∀ i,i<k->∀ x∈L i,look x m=some true
 val:∀ y∈m,y.2=true
 Gr:e=0->∀ i j,i<j->j<k->∀ x∈L i,x∉L j
structure CC (L:Nat->List Int) (k:Nat) (r:List Int) (m:List (Int×Bool)) (e:Int):Prop where
 tk:Tk L k m e
 GY:∀ x∈r,Go.Sx.look x m=some true
 S8:e=0->∀ i,i<k->∀ x∈L i,x∉r
def Tk.zero (L:Nat->List Int):Tk L 0 [] 0:=⟨λi h=>by omega,by simp,λ_ i j h1 h2=>by omega⟩
theorem nA {α:Type} {r:List α} {j:Nat} {x : α} (hj:j<r.length) (hq:r[j]=x):r.take (j+1)=r.take j++[x]:=by
 rw [List.take_add_one,List.getElem?_eq_getElem hj,hq]; rfl
def sB {m:List (Int×Bool)} {x y:Int} (h:look y m=some true):look y (put x true m)=some true:=by
 grind [l9]
def CC.DI {L:Nat->List Int} {k:Nat} {r:List Int} {m:List (Int×Bool)} {e e':Int} {j:Nat} {x:Int} (h:CC L k (r.take j) m e) (hj:j<r.length) (hq:r[j]=x) (he:e'≠0):CC L k (r.take (j+1)) (put x true m) e':=by
 refine ⟨⟨λi hi y hy=>sB (h.tk.look i hi y hy),qR (P:=λy:Bool=>y=true) h.tk.val rfl,λh0=>absurd h0 he⟩,?_,λh0=>absurd h0 he⟩
 rw [nA hj hq]
 intro y hy
 rcases List.mem_append.mp hy with hy | hy
 ·exact sB (h.GY y hy)
 grind [l9]
def CC.SW {L:Nat->List Int} {k:Nat} {r:List Int} {m:List (Int×Bool)} {e:Int} {j:Nat} {x:Int} (h:CC L k (r.take j) m e) (hj:j<r.length) (hq:r[j]=x) (hn:look x m=none):CC L k (r.take (j+1)) (put x true m) e:=by
 refine ⟨⟨λi hi y hy=>sB (h.tk.look i hi y hy),qR (P:=λy:Bool=>y=true) h.tk.val rfl,h.tk.Gr⟩,?_,?_⟩
 ·rw [nA hj hq]
  intro y hy
  rcases List.mem_append.mp hy with hy | hy
  ·exact sB (h.GY y hy)
  grind [l9]
 ·intro h0 i hi y hy hm
  rw [nA hj hq] at hm
  rcases List.mem_append.mp hm with hm | hm
  ·exact h.S8 h0 i hi y hy hm
  ·simp at hm; subst hm
   rw [h.tk.look i hi y hy] at hn; cases hn
def CC.done {L:Nat->List Int} {k:Nat} {r:List Int} {m:List (Int×Bool)} {e:Int} {j:Nat} (h:CC L k (r.take j) m e) (hj:r.length<=j) (hr:r=L k):Tk L (k+1) m e:=by
 rw [List.take_of_length_le hj,hr] at h
 refine ⟨λi hi x hx=>?_,h.tk.val,λh0 i j2 hij hj2 x hx=>?_⟩
 ·rcases Nat.lt_succ_iff_lt_or_eq.mp hi with h1 | h1
  ·exact h.tk.look i h1 x hx
  ·subst h1; exact h.GY x hx
 ·rcases Nat.lt_succ_iff_lt_or_eq.mp hj2 with h1 | h1
  ·exact h.tk.Gr h0 i j2 hij h1 x hx
  ·subst h1; exact h.S8 h0 i hij x hx
def Em (d:iI) (i:Nat):Int:=match d.runs.l[i]? with
 | none=>0
 | some r=>match d.iW.l[r.iW.toNat]? with
   | none=>0
   | some s=>s.len
def Ge {d:iI} {k:Nat} {x:lb} {y:jW} (hk:k<d.runs.l.length) (hq:d.runs.l[k]=x) (hs:x.iW.toNat<d.iW.l.length) (hqs:d.iW.l[x.iW.toNat]=y):y.len=Em d k:=by
 grind [Em]
def BZ {Q:Nat->Prop} {k:Nat} (h:∀ i,i<k->Q i) (hk:Q k):∀ i,i<k+1->Q i:=by
 grind
structure Dc where
 state:Int
 front:Int
 off:Bool
 seen:Row Bool
def Dc.af (x:Dc):List AV:=[.int .i64 x.state,.int .i64 x.front,.bool x.off,x.seen.av Wd]
def Pn (cs:List AV):Prop:=∀ c∈cs,∀ (hp:aT) (n:Nat),freeze false hp (n+2) c=some c
def fzB:AV->Bool
 | .int _ _ | .bool _ | .ip _ _ false=>true
 | _=>false
def Pn.of {cs:List AV} (h:cs.all fzB=true):Pn cs:=by
 intro c hc hp n
 have:=List.all_eq_true.mp h c hc
 unfold fzB at this
 grind [freeze]
def LT (tr:List kU) (p:bS) (i:Nat):List Int:=match tr[i]? with
 | none=>[]
 | some t=>qj p [t.at_]
def Mt (L:Nat->List Int) (k:Nat) (r:List Int) (m:List Bool):Prop:=∀ (x:Nat) (h:x<m.length),m[x]=true->(∃ i,i<k/\(x:Int)∈L i)\/(x:Int)∈r
def Mt.zero (L:Nat->List Int) (n:Nat):Mt L 0 [] (List.replicate n false):=by
 intro x h hx
 simp at hx
theorem Mt.set {L:Nat->List Int} {k j:Nat} {r:List Int} {m:List Bool} {x:Int} (h:Mt L k (r.take j) m) (hj:j<r.length) (hq:r[j]=x) (h0:0<=x):Mt L k (r.take (j+1)) (m.set x.toNat true):=by
 intro y hy ht
 rw [List.getElem_set] at ht
 rw [nA hj hq]
 split at ht
 ·grind
 ·rcases h y (by simpa using hy) ht with h1 | h1<;>grind
def Mt.done {L:Nat->List Int} {k j:Nat} {r:List Int} {m:List Bool} (h:Mt L k (r.take j) m) (hj:r.length<=j) (hr:r=L k):Mt L (k+1) [] m:=by
 intro y hy ht
 rw [List.take_of_length_le hj] at h
 rcases h y hy ht with ⟨i,hi,h1⟩ | h1<;>grind
def Br (tr:List kU) (ks sl:List jW) (k:Nat):Prop:=sl.length=k/\∀ (i:Nat) (x:kU) (y:jW),tr[i]?=some x->sl[i]?=some y->ks[x.iW.toNat]?=some y
def Br.zero (tr:List kU) (ks:List jW):Br tr ks [] 0:=⟨rfl,λi x y _ h=>by simp at h⟩
def Br.snoc {tr:List kU} {ks sl:List jW} {k:Nat} {x:kU} {y:jW} (h:Br tr ks sl k) {hk:k<tr.length} (hq:tr[k]=x) {hs:x.iW.toNat<ks.length} (hy:ks[x.iW.toNat]=y):Br tr ks (sl++[y]) (k+1):=by
 refine ⟨by simp [h.1],λi a b ha hb=>?_⟩
 rcases Nat.lt_or_ge i sl.length with h3 | h3
 ·rw [List.getElem?_append_left h3] at hb; exact h.2 i a b ha hb
 ·have hi:i=k:=by
   have:=(List.getElem?_eq_some_iff.mp hb).1
   simp at this; have:=h.1; omega
  grind
end Go.Sx
namespace Go.Sx
open Go Go.Proofs Go.RowKit Go.Maps Go.WideElems Go.WideShapes
def zZ (x:Int):List Int->List Int
 | []=>[x]
 | y::l=>if x<=y then x::y::l else y::zZ x l
def jG:List Int->List Int
 | []=>[]
 | x::l=>zZ x (jG l)
def B0:AV->Option Int
 | .int .i64 n=>if -9223372036854775808<=n/\n<=9223372036854775807 then some n else none
 | _=>none
def sA:List (AV×AV)->Option (List Int)
 | []=>some []
 | p::l=>match B0 p.1 with
   | some n=>match sA l with
     | some ks=>some (n::ks)
     | none=>none
   | none=>none
def wI:List Int->Bool
 | []=>true
 | x::l=>!(l.contains x)&&wI l
def E5:List Int->AV
 | []=>.sl [] .nil
 | l=>.sl (l.map λn=>[.int .i64 n]) .kb
def u5 (shd:Bool) (l:List Int) (h:aT):AV×aT:=match shd,l with
 | true,x::l=>(.hs h.size 0 0 (l.length+1),h.push (.iG 0 1 ((x::l).map λn=>[.int .i64 n])))
 | _,l=>(E5 l,h)
def pg (shd:Bool) (ks:Option (List Int)) (h:aT):R2:=match ks with
 | some ks=>match wI ks&&Nat.ble ks.length 1000000 with
   | true=>some (u5 shd (jG ks) h)
   | false=>none
 | none=>none
def HW (p:AV×AV×Nat):AV×AV:=(p.1,p.2.1)
def lY (shd:Bool) (args:List AV) (h:aT):R2:=match args with
 | [.kg]=>some (.sl [] .nil,h)
 | [.fm es _]=>pg shd (sA es) h
 | [.hm b]=>match h.get b with
   | some (.map es _)=>pg shd (sA (es.map HW)) h
   | _=>none
 | _=>none
def xD (x:Int):∀ l,(zZ x l).Perm (x::l)
 | []=>.refl _
 | y::l=>by
   unfold zZ
   split
   ·exact .refl _
   ·exact ((xD x l).cons y).trans (.swap x y l)
theorem mi:∀ l,(jG l).Perm l
 | []=>.refl _
 | x::l=>(xD x _).trans ((mi l).cons x)
def zC (x:Int):∀ {l:List Int},l.Pairwise (·<=·)->(zZ x l).Pairwise (·<=·)
 | [],_=>by simp [zZ]
 | y::l,h=>by
   unfold zZ
   rw [List.pairwise_cons] at h
   split
   ·rename_i hxy
    refine List.pairwise_cons.2 ⟨λz hz=>?_,List.pairwise_cons.2 h⟩
    rcases List.mem_cons.1 hz with rfl | hz
    ·exact hxy
    ·exact Int.le_trans hxy (h.1 z hz)
   ·refine List.pairwise_cons.2 ⟨λz hz=>?_,zC x h.2⟩
    rcases List.mem_cons.1 ((xD x l).mem_iff.1 hz) with rfl | hz
    ·omega
    ·exact h.1 z hz
def qC:∀ l,(jG l).Pairwise (·<=·)
 | []=>.nil
 | x::l=>zC x (qC l)
theorem Ck {l l':List Int} (h:l.Perm l'):l.mergeSort leI=jG l':=by
 rw [mergeSort_of_perm_i (h.trans (mi l').symm)]
 exact List.mergeSort_of_pairwise ((qC l').imp (by simp [leI]))
theorem CF {v:AV} {n:Int} (h:B0 v=some n):v=.int .i64 n/\-9223372036854775808<=n/\n<=9223372036854775807:=by
 unfold B0 at h
 grind
def Ay:∀ {es:List (AV×AV)} {ks:List Int},sA es=some ks->es.map (·.1)=ks.map (AV.int .i64)/\∀ n∈ks,-9223372036854775808<=n/\n<=9223372036854775807
 | [],ks,h=>by simp only [sA,Option.some.injEq] at h; subst h; simp
 | p::l,ks,h=>by
   unfold sA at h
   split at h
   ·rename_i n hn
    split at h
    ·rename_i ks' hk
     obtain ⟨e1,h1⟩:=CF hn
     obtain ⟨e2,h2⟩:=Ay hk
     simp only [Option.some.injEq] at h
     subst h
     refine ⟨by simp [e1,e2],λm hm=>?_⟩
     rcases List.mem_cons.1 hm with rfl | hm
     ·exact h1
     ·exact h2 m hm
    ·cases h
   ·cases h
def AU:∀ {l:List Int},wI l=true->l.Nodup
 | [],_=>.nil
 | x::l,h=>by
   simp only [wI,Bool.and_eq_true,Bool.not_eq_true',List.contains_eq_mem,decide_eq_false_iff_not] at h
   exact List.nodup_cons.2 ⟨h.1,AU h.2⟩
def Bu {G:Ga} (hW:WR G) {w':World} (hb:Below G.w.heap.size G.w w') (Tn:Bool->Nat->Prop) (hT:∀ s B,Tn s B->G.w.heap.size<=B/\B<w'.heap.size) :
  let G':Ga:=⟨w',λs B=>G.T s B\/Tn s B,G.h,G.pi,G.L⟩
  Step G G'/\WR G':=by
 intro G'
 have hold:∀ B,B<G.w.heap.size->G'.w.heap[B]?=G.w.heap[B]?:=hb.block
 have E:Ext G G':=⟨λ_ _ h=>.inl h,λs B h=>hold B (hW.m0 s B h),Nat.le_refl _,λb _ g z xs h=>⟨g,z,xs,h,Nat.le_refl _,λ_=>⟨rfl,λ_ h=>h⟩⟩,λb _ es c h=>⟨es,c,h,λ_ h=>h⟩,λ_ _ h=>h⟩
 obtain ⟨k1,k2,k3⟩:=hW.keep E hold
 have hs:=hb.size
 refine ⟨⟨E,hb.os,hb.output,hb.tape,hb.size,λB h _ _=>hold B h,λb l h=>.inl ⟨l,h,rfl⟩,λb l h=>.inl (by show (G.pi b).isSome=true; rw [show G.pi b=some l from h]; rfl),?_,rfl,λ_ _ _=>rfl,λ_ _ h=>.inl h,λd B h=>.inl (by rw [show G.L d=some B from h]; rfl),λ_ _ _ h=>h⟩,k1,k2,k3,?_,hW.mG,?_,hW.oc,?_,hW.oM,?_,?_,hW.lo,hW.lt⟩
 ·rintro s B (h | h)
  ·exact .inl h
  ·exact .inr (hT s B h).1
 ·exact λb l h=>⟨Nat.lt_of_lt_of_le (hW.kD b l h).1 hs,(hW.kD b l h).2⟩
 ·rintro s b l h (ht | ht)
  ·exact hW.p9 s b l h ht
  ·have:=(hW.kD b l h).1; have:=(hT _ _ ht).1; omega
 ·rintro s d B h (ht | ht)
  ·exact hW.LT s d B h ht
  ·have:=(hW.lX d B h).1; have:=(hT _ _ ht).1; omega
 ·exact λd B h=>⟨Nat.lt_of_lt_of_le (hW.lX d B h).1 hs,(hW.lX d B h).2⟩
 ·rintro s B (h | h)
  ·exact Nat.lt_of_lt_of_le (hW.m0 s B h) hs
  ·exact (hT s B h).2
section
variable {G:Ga} {w':World}
def SM (hW:WR G) {g cap z:Nat} {xs:List (List AV)} (hb:Below G.w.heap.size G.w w') (hg:G.w.heap.size<=g) (hlt:g<w'.heap.size)
  (hblk:∀ G',Ext G G'->G'.w=w'->nu G' ⟨g,0,cap⟩ z xs) :
  Step G ⟨w',G.T,G.h.push (.iG 0 z xs),mD G.pi G.h.size (some ⟨g,0,cap⟩),G.L⟩/\WR ⟨w',G.T,G.h.push (.iG 0 z xs),mD G.pi G.h.size (some ⟨g,0,cap⟩),G.L⟩:=by
 obtain ⟨s1,hV⟩:=C7 hW (.iG 0 z xs)
 have hp0:G.pi G.h.size=none:=Bc hW (Nat.le_refl _)
 have hget:(G.h.push (.iG 0 z xs)).get G.h.size=some (.iG 0 z xs):=by rw [aT.oY _ _ _ hW.lo,if_pos rfl]
 have hup:∀ b l,G.pi b=some l->mD G.pi G.h.size (some ⟨g,0,cap⟩) b=some l:=by
  grind [mY]
 have hold:∀ B,B<G.w.heap.size->w'.heap[B]?=G.w.heap[B]?:=hb.block
 have hs:=hb.size
 have E:Ext ⟨G.w,G.T,G.h.push (.iG 0 z xs),G.pi,G.L⟩ ⟨w',G.T,G.h.push (.iG 0 z xs),mD G.pi G.h.size (some ⟨g,0,cap⟩),G.L⟩ :=
  ⟨λ_ _ h=>h,λs B hB=>hold B (hW.m0 s B hB),Nat.le_refl _,λb _ g z xs h=>⟨g,z,xs,h,Nat.le_refl _,λ_=>⟨rfl,hup b⟩⟩,λb _ es c h=>⟨es,c,h,hup b⟩,λ_ _ h=>h⟩
 obtain ⟨k1,k2,k3⟩:=hV.keep E (λB hB=>hold B hB)
 have hdom:∀ b l,mD G.pi G.h.size (some ⟨g,0,cap⟩) b=some l->(b=G.h.size/\l=⟨g,0,cap⟩)\/(b≠G.h.size/\G.pi b=some l):=by
  grind [lr,mY]
 have hF:sS ⟨G.w,G.T,G.h.push (.iG 0 z xs),G.pi,G.L⟩ ⟨w',G.T,G.h.push (.iG 0 z xs),mD G.pi G.h.size (some ⟨g,0,cap⟩),G.L⟩ (·=G.h.size) (λ_=>False):=by
  refine ⟨E,hb.os,hb.output,hb.tape,hs,λB hB=>hold B hB,?_,?_,rfl,rfl,λ_ _ h=>.inl h,λ_ _ h=>.inl (Option.isSome_iff_exists.2 ⟨_,h⟩)⟩
  ·grind
  ·grind
 refine ⟨s1.fill hF (by omega) (λ_ h=>h.elim),?_⟩
 have hL:=hblk _ (s1.ext.trans E) rfl
 constructor
 ·intro b l g' z' xs' hp hg'
  rcases hdom b l hp with ⟨rfl,rfl⟩ | ⟨_,hp⟩
  ·rw [hget] at hg'
   cases hg'
   exact hL
  ·exact k1 b l g' z' xs' hp hg'
 ·intro b l es c hp hg'
  rcases hdom b l hp with ⟨rfl,rfl⟩ | ⟨_,hp⟩
  ·rw [hget] at hg'; cases hg'
  ·exact k2 b l es c hp hg'
 ·exact k3
 ·intro b l hp
  rcases hdom b l hp with ⟨rfl,rfl⟩ | ⟨_,hp⟩
  ·exact ⟨hlt,hV.lt _ _ hget⟩
  ·have:=hV.kD b l hp
   exact ⟨Nat.lt_of_lt_of_le this.1 hs,this.2⟩
 ·intro b b' l l' hp hp' he
  rcases hdom b l hp with ⟨rfl,rfl⟩ | ⟨_,hq⟩
  ·rcases hdom b' l' hp' with ⟨rfl,rfl⟩ | ⟨_,hq'⟩
   ·rfl
   ·have:=(hW.kD b' l' hq').1
    grind
  ·rcases hdom b' l' hp' with ⟨rfl,rfl⟩ | ⟨_,hq'⟩
   ·have:=(hW.kD b l hq).1
    grind
   ·exact hW.mG b b' l l' hq hq' he
 ·intro s b l hp hT
  rcases hdom b l hp with ⟨rfl,rfl⟩ | ⟨_,hp⟩
  ·have:=hW.m0 s _ hT
   grind
  ·exact hW.p9 s b l hp hT
 ·exact hW.oc
 ·exact hW.LT
 ·intro d B b l hd hp
  rcases hdom b l hp with ⟨rfl,rfl⟩ | ⟨_,hp⟩
  ·have:=(hW.lX d B hd).1
   grind
  ·exact hW.oM d B b l hd hp
 ·intro d B hd
  have:=hV.lX d B hd
  exact ⟨Nat.lt_of_lt_of_le this.1 hs,this.2⟩
 ·intro s B hB
  exact Nat.lt_of_lt_of_le (hW.m0 s B hB) hs
 ·exact hV.lo
 ·exact hV.lt
end
def zv {P:Program} {f kt:Nat} (hk:P.underlying kt=some (.int .i64))     (h1:∀ (b nn:Nat) (D0:DataW Unit) (w:World),w.ownsMap P kt (λ_=>some (.nil,[])) b nn D0->Maps.size D0<=maxLen->Maps.size D0*8<=140737488355328->      Calls P f #[.map (some b)] w λe w'=>∃ (v:Value) (ss:List Int),e=.returned v/\ss.Perm (intKeys D0)/\      w'.ownsRow w.heap.size kt 1 v ss.length ((ss.mergeSort leI).map encZ)/\(v=.slice none 0 0↔ss=[])/\Below w.heap.size w w')
  {G:Ga} (hW:WR G) {es:List (AV×AV)} {ks:List Int} (hks:sA es=some ks) (hn:(wI ks&&Nat.ble ks.length 1000000)=true)
  {r:Nat} {ents:Array MapEntry} {clk:Nat} (hB:G.w.heap[r]?=some (.map ents clk)) (hll:es.length=ents.size) (hyo:MA ents clk)
  (hkk:∀ (i:Nat) (p:AV×AV) (e:MapEntry),es[i]?=some p->ents[i]?=some e->∃ m,PR G.w G.T m p.1 e.key)
  (shd:Bool) {R:Ending->World->Prop} (hR:∀ u G',Step G G'->WR G'->G'.h=(u5 shd (jG ks) G.h).2->(∀ m L,VR (G'.jJ m L) (u5 shd (jG ks) G.h).1 u)->R (.returned u) G'.w) :
  Calls P f #[.map (some r)] G.w R:=by
 simp only [Bool.and_eq_true,Nat.ble_eq] at hn
 obtain ⟨hn,hlen⟩:=hn
 have hnd:=AU hn
 obtain ⟨hmap,hrg⟩:=Ay hks
 have hel:es.length=ks.length:=by simpa using congrArg List.length hmap
 have hkey:ents.toList.map (·.key)=ks.map encZ:=by
  apply List.ext_getElem?
  intro i
  simp only [List.getElem?_map,Array.getElem?_toList]
  cases he:ents[i]? with
  | none =>
    have:ks.length<=i:=by rw [<- hel,hll]; exact Array.getElem?_eq_none_iff.1 he
    rw [List.getElem?_eq_none this]; rfl
  | some e =>
    have hi:i<es.length:=by rw [hll]; exact (Array.getElem?_eq_some_iff.1 he).1
    obtain ⟨m,hp⟩:=hkk i es[i] e (by simp [hi]) he
    have hq:(es.map (·.1))[i]?=some es[i].1:=by simp [hi]
    rw [hmap,List.getElem?_map] at hq
    cases hki:ks[i]? with
    | none=>rw [hki] at hq; cases hq
    | some n =>
      rw [hki] at hq
      simp only [Option.map_some,Option.some.injEq] at hq
      rw [<- hq] at hp
      have hx:e.key=.int .i64 n:=by
       generalize e.key=kv at hp
       cases hp; rfl
      simp [hx]
 have hrd:∀ x∈ents.toList,∃ n∈ks,x.key=encZ n/\rd P kt (λ_=>some ((.nil,[]):DataW Unit×List MemPlace)) x=some (.int .i64 n,.nil):=by
  intro x hx
  have:x.key∈ks.map encZ:=hkey▸List.mem_map_of_mem hx
  obtain ⟨n,hn,he⟩:=List.mem_map.1 this
  refine ⟨n,hn,he.symm,?_⟩
  have hw:(Lit.int .i64 n).wf=true:=by
   have:=hrg n hn
   have e1:IntKind.i64.min = -9223372036854775808:=by decide
   have e2:IntKind.i64.max=9223372036854775807:=by decide
   simp only [Lit.wf,e1,e2,Bool.and_eq_true,decide_eq_true_eq]
   exact this
  unfold rd
  rw [<- he,keyOf_int_mk hk hw]; rfl
 have hsz:ents.size=ks.length:=by omega
 have hown:G.w.ownsMap P kt (λ_=>some (.nil,[])) r ents.size (.map ((ents.toList.map (rg P kt (λ_=>some ((.nil,[]):DataW Unit×List MemPlace)))).foldr DataW.insert [])) :=
  ⟨ents,clk,hB,⟨by rw [hsz]; exact Nat.le_trans hlen (by decide),⟨λx hx=>by obtain ⟨i,hi⟩:=List.getElem?_of_mem hx; exact hyo.1 i x (by simpa using hi),hyo.2,by rw [hkey]; exact List.Pairwise.map _ (λa b hab h=>hab (encZ_inj h)) hnd⟩,λx hx=>by obtain ⟨n,_,_,h⟩:=hrd x hx; exact ⟨_,h⟩⟩,Nat.le_refl _,rfl⟩
 have hik:(intKeys (.map ((ents.toList.map (rg P kt (λ_=>some ((.nil,[]):DataW Unit×List MemPlace)))).foldr DataW.insert []))).Perm ks:=by
  refine ((sorted_perm _).map (λp:Lit×DataW Unit=>intOf p.1)).trans ?_
  rw [List.map_map]
  have:ents.toList.map ((λp:Lit×DataW Unit=>intOf p.1) ∘ rg P kt (λ_=>some ((.nil,[]):DataW Unit×List MemPlace)))=(ents.toList.map (·.key)).map (λv=>match v with | .int _ n=>n | _=>0):=by
   rw [List.map_map]
   refine List.map_congr_left λx hx=>?_
   obtain ⟨n,_,e,h⟩:=hrd x hx
   simp only [Function.comp,rg_of h,e,intOf]
  rw [this,hkey,List.map_map]
  exact .of_eq (by simp [Function.comp_def])
 have hs0:Maps.size (.map ((ents.toList.map (rg P kt (λ_=>some ((.nil,[]):DataW Unit×List MemPlace)))).foldr DataW.insert []))=ks.length:=by
  have:=hik.length_eq
  simpa [intKeys,Maps.size] using this
 refine (h1 r _ _ G.w hown (by rw [hs0]; exact Nat.le_trans hlen (by decide)) (by rw [hs0]; omega)).mono ?_
 rintro e w' ⟨v,ss,rfl,hss,hrow,hnil,hb⟩
 rw [Ck (hss.trans hik)] at hrow
 have qY:ss.length=(jG ks).length:=by rw [(hss.trans hik).length_eq,(mi ks).length_eq]
 rcases hrow.2 with ⟨rfl,hz⟩ | ⟨g,cap,cur,rfl,hbase,hgb,r1,r2,r3,r4⟩
 ·obtain ⟨S1,W1⟩:=Bu hW hb (λ_ _=>False) (λ_ _ h=>h.elim)
  have:jG ks=[]:=List.eq_nil_of_length_eq_zero (by omega)
  have hr0:u5 shd (jG ks) G.h=(.sl [] .nil,G.h):=by rw [this]; cases shd<;>rfl
  exact hR _ _ S1 W1 (by rw [hr0]) (λm L=>by rw [hr0]; exact VR.jJ (.jn rfl (.slnil _)) rfl)
 ·have hglt:g<w'.heap.size:=(Array.getElem?_eq_some_iff.1 hgb).1
  have hne:jG ks≠[]:=by
   intro h0
   have:ss=[]:=List.eq_nil_of_length_eq_zero (by rw [qY,h0]; rfl)
   cases hnil.2 this
  have hrw:E5 (jG ks)=.sl ((jG ks).map λn=>[.int .i64 n]) .kb:=by
   cases hq:jG ks with
   | nil=>exact (hne hq).elim
   | cons a l=>rfl
  have hcell:∀ (i:Nat) (n:Int),(jG ks)[i]?=some n->cur[i]?=some (.int .i64 n):=by
   intro i n hn
   have hi:i<(jG ks).length:=(List.getElem?_eq_some_iff.1 hn).1
   have h2:(cur.toList.take (ss.length*1))[i]?=((jG ks).map encZ)[i]?:=by rw [r4]
   rw [List.getElem?_take_of_lt (by omega),List.getElem?_map,hn] at h2
   simpa using h2
  have hlist:∀ (i:Nat) (cs:List AV),((jG ks).map λn=>([.int .i64 n]:List AV))[i]?=some cs->∃ n,(jG ks)[i]?=some n/\cs=[.int .i64 n]:=by
   intro i cs h
   rw [List.getElem?_map] at h
   cases hq:(jG ks)[i]? with
   | none=>rw [hq] at h; cases h
   | some n=>rw [hq] at h; exact ⟨n,rfl,by simpa using h.symm⟩
  cases shd with
  | false =>
    obtain ⟨S1,W1⟩:=Bu hW hb (λs B=>s=false/\B=g) (λ_ _ h=>by rw [h.2]; exact ⟨hbase,hglt⟩)
    have key:PR w' (λs B=>G.T s B\/s=false/\B=g) true (.sl ((jG ks).map λn=>[.int .i64 n]) .kb) (.slice (some ⟨g,0,none⟩) ((jG ks).map λn=>([.int .i64 n]:List AV)).length cap):=by
     refine .sl _ _ .kb g 0 cur kt (0,0) cap 1 (λi _=>.int .i64 ((jG ks).getD i 0)) (λh=>by cases h) hgb (.inr ⟨rfl,rfl⟩) ?_ ?_ ?_ ?_ ?_ ?_
     ·show _<=_; rw [List.length_map,<- qY]; exact r1
     ·rw [List.length_map,<- qY]; exact r1
     ·intro i cs h; obtain ⟨n,_,rfl⟩:=hlist i cs h; rfl
     ·intro i cs j x h hj
      obtain ⟨n,hn,rfl⟩:=hlist i cs h
      cases j with
      | zero=>simp only [Nat.zero_add,Nat.mul_one,Nat.add_zero]; rw [hcell i n hn,List.getD_eq_getElem?_getD,hn]; rfl
      | succ j=>cases hj
     ·intro i cs j x _ _; rfl
     ·intro i cs j x h hj
      obtain ⟨n,hn,rfl⟩:=hlist i cs h
      cases j with
      | zero =>
        simp only [List.getElem?_cons_zero,Option.some.injEq] at hj
        subst hj
        rw [List.getD_eq_getElem?_getD,hn]
        exact .int _ _ _
      | succ j=>cases hj
    rw [List.length_map,<- qY] at key
    exact hR _ _ S1 W1 rfl (λm L=>by rw [show u5 false (jG ks) G.h=(E5 (jG ks),G.h) from rfl,hrw]; exact VR.jJ (.jn rfl key) rfl)
  | true =>
    have hr1:u5 true (jG ks) G.h=(.hs G.h.size 0 0 ss.length,G.h.push (.iG 0 1 ((jG ks).map λn=>[.int .i64 n]))):=by
     rw [qY]
     cases hq:jG ks with
     | nil=>exact (hne hq).elim
     | cons a l=>rfl
    obtain ⟨S1,W1⟩:=SM (cap:=cap) (z:=1) (xs:=(jG ks).map λn=>[.int .i64 n]) hW hb hbase hglt (by
     intro G' E e
     refine ⟨cur,kt,by rw [e]; exact hgb,by rw [List.length_map,<- qY]; exact r1,by show 0+cap*1<=_; omega,?_,?_⟩
     ·intro i cs h; obtain ⟨n,_,rfl⟩:=hlist i cs h; rfl
     ·intro i cs j x h hj
      obtain ⟨n,hn,rfl⟩:=hlist i cs h
      cases j with
      | zero =>
        simp only [List.getElem?_cons_zero,Option.some.injEq] at hj
        subst hj
        refine ⟨.int .i64 n,?_,rfl,⟨.jn rfl (.int _ _ _),rfl⟩⟩
        simp only [Nat.zero_add,Nat.mul_one,Nat.add_zero]
        exact hcell i n hn
      | succ j=>cases hj)
    refine hR _ _ S1 W1 (by rw [hr1]) (λm L=>?_)
    rw [hr1]
    refine VR.jJ (.hs _ 0 0 _ _ cap ?_ (λ_ _ _ _=>Nat.zero_le _) r1 ?_) rfl
    ·show G.h.size<(G.h.push _).size
     rw [aT.size_push]
     exact Nat.lt_succ_self _
    ·intro z xs _
     exact ⟨_,lr _ _ _,by simp,λ_=>by simp⟩
def uJ {shd:Bool} {ks:Option (List Int)} {h:aT} {v:AV} {h':aT} (hc:pg shd ks h=some (v,h')):∃ l,ks=some l/\(wI l&&Nat.ble l.length 1000000)=true/\u5 shd (jG l) h=(v,h'):=by
 unfold pg at hc
 grind
def AP:∀ (args:List AV) (h:aT) (v:AV) (h':aT),lY false args h=some (v,h')->h'=h/\∀ h2:aT,(∀ b o,h.get b=some o->h2.get b=some o)->lY false args h2=some (v,h2):=by
 intro args h v h' hc
 unfold lY at hc
 split at hc
 ·cases hc; exact ⟨rfl,λ_ _=>rfl⟩
 ·obtain ⟨ks,hks,hn,hrz⟩:=uJ hc
  cases hrz
  exact ⟨rfl,λh2 _=>by simp only [lY,pg,hks,hn]; rfl⟩
 ·split at hc
  ·rename_i hget
   obtain ⟨ks,hks,hn,hrz⟩:=uJ hc
   cases hrz
   exact ⟨rfl,λh2 hh=>by simp only [lY,pg,hh _ _ hget,hks,hn]; rfl⟩
  ·cases hc
 ·cases hc
theorem CJ {P : Program} {f kt : Nat} (hex : ∃ fn, P.funcs[f]? = some fn ∧ fn.body.isNone = false ∧ (fn.name == "runtime.NumGoroutine") = false)
  (hk:P.underlying kt=some (.int .i64))
  (h1:∀ (b nn:Nat) (D0:DataW Unit) (w:World),w.ownsMap P kt (λ_=>some (.nil,[])) b nn D0->Maps.size D0<=maxLen->Maps.size D0*8<=140737488355328 ->
    Calls P f #[.map (some b)] w λe w'=>∃ (v:Value) (ss:List Int),e=.returned v/\ss.Perm (intKeys D0) /\
    w'.ownsRow w.heap.size kt 1 v ss.length ((ss.mergeSort leI).map encZ)/\(v=.slice none 0 0↔ss=[])/\Below w.heap.size w w')
  (h0:∀ w:World,Calls P f #[.map none] w λe w'=>e=.returned (.slice none 0 0)/\Below w.heap.size w w'):nF P f lY where
 call:=by
  intro shd args h v h' hc G args' hG hlo hL hW hl hr
  refine ⟨hex,?_⟩
  intro R hR
  subst hG
  have one:∀ x:AV,args=[x]->∃ y,args' = #[y]/\VC G x y:=by
   rintro x rfl
   cases args' with | mk l =>
   cases l with
   | nil=>simp at hl
   | cons y l =>
     cases l with
     | nil=>exact ⟨y,rfl,hr 0 x y rfl rfl⟩
     | cons _ _=>simp at hl
  unfold lY at hc
  split at hc
  ·obtain ⟨y,rfl,hy⟩:=one _ rfl
   cases hc
   have hv:=hy.vr
   cases hv with
   | jn _ hp =>
     cases hp
     refine (h0 G.w).mono ?_
     rintro e w' ⟨rfl,hb⟩
     obtain ⟨S1,W1⟩:=Bu hW hb (λ_ _=>False) (λ_ _ h=>h.elim)
     exact hR _ _ S1 W1 (λm=>rfl) (λm L=>VR.jJ (.jn rfl (.slnil _)) rfl)
  ·obtain ⟨y,rfl,hy⟩:=one _ rfl
   obtain ⟨ks,hks,hn,hrz⟩:=uJ hc
   have hv:=hy.vr
   cases hv with
   | jn _ hp =>
     cases hp with
     | fm _ _ _ r ents clk _ hB hI hll hyo hko hkk hvv =>
       exact zv hk h1 hW hks hn hB hll hyo (λi p e hp he=>⟨_,hkk i p e hp he⟩) shd (λu G' S W e hv=>hR u G' S W (λm=>by rw [e,hrz]) (by rw [hrz] at hv; exact hv))
  ·obtain ⟨y,rfl,hy⟩:=one _ rfl
   split at hc
   ·rename_i es c hget
    obtain ⟨ks,hks,hn,hrz⟩:=uJ hc
    obtain ⟨l,ents,hpi,rfl,hB,hent,hyo⟩:=rb hW hy.vr hget
    have hlen:es.length=ents.size:=by simpa using hent.1
    have he2:∀ (i:Nat) (p:AV×AV×Nat) (e:MapEntry),es[i]?=some p->ents[i]?=some e->p.1.pA=true/\PR G.w G.T false p.1 e.key/\VC G p.2.1 e.val/\p.2.2=e.born:=λi p e hp he=>hent.2 i p e hp (by simpa using he)
    refine zv hk h1 hW hks hn hB (by simpa using hlen) (hyo.Tm hlen λi p e hp he=>(he2 i p e hp he).2.2.2) (λi p e hp he=>?_) shd (λu G' S W e hv=>hR u G' S W (λm=>by rw [e,hrz]) (by rw [hrz] at hv; exact hv))
    rw [List.getElem?_map] at hp
    cases hq:es[i]? with
    | none=>rw [hq] at hp; cases hp
    | some q =>
      rw [hq] at hp
      cases hp
      exact ⟨_,(he2 i q e hq he).2.1⟩
   ·cases hc
  ·cases hc
 A5:=AP
end Go.Sx
set_option maxHeartbeats 0
namespace Go.Sx
open Go
def jo.take {α:Type} (r:jo α) (k:Nat):jo α:=⟨r.l.take k,r.c,by have:=r.ok; rw [List.length_take]; omega,λh=>by rw [r.nl h]; simp⟩
structure tA where
 free:Row Int
 end_:Int
def tA.af (x:tA):List AV:=[x.free.av iP,.int .i64 x.end_]
structure mI where
 at_:Row Int
 jE:Row tA
def mI.af (x:mI):List AV:=[x.at_.av iP,x.jE.av tA.af]
def wo.erase {es:List (AV×AV×Nat)} {c:Nat} (h:wo es c) (i:Nat):wo (es.eraseIdx i) c :=
 ⟨λx hx=>h.1 x ((List.eraseIdx_sublist es i).mem hx),h.2.sublist (List.eraseIdx_sublist es i)⟩
section
variable {C:jH} {fa:iA} {e:Env} {H:aT} {L:List jL} {ls:kK} {i n:Nat} {v:AV} {w tt:Bool}
end
section
variable {H:aT} {L:List jL} {i:Nat} {v:AV} {tt:Bool} {n:Nat} {α:Type} {enc : α->List AV} {l:List α}
end
def Ec:∀ {l:List (Int×Bool)},(∀ x∈l,mf x.1)->sA (jO iK bK l)=some (l.map Prod.fst)
 | [],_=>rfl
 | x::l,h=>by
   have h1:=h x (by simp)
   have h2:=Ec (l:=l) λy hy=>h y (List.mem_cons_of_mem _ hy)
   simp only [mf] at h1
   simp only [jO,List.map_cons,sA,B0,iK,h1,and_self,if_true] at h2 ⊢
   rw [h2]
theorem F6:∀ {l:List Int},l.Nodup->wI l=true
 | [],_=>rfl
 | x::l,h=>by
   rw [List.nodup_cons] at h
   simp [wI,h.1,F6 h.2]
end Go.Sx
namespace Go.Sx
open Go
def DY {κ β:Type} [DecidableEq κ] {k : κ} {x : β} {l:List (κ×β)} (h:lR l):lR (put k x l):=by
 cases hl:look k l with
 | none=>exact EY h hl
 | some y =>
   have:(put k x l).map Prod.fst=l.map Prod.fst:=by
    clear h
    induction l with
    | nil=>simp [look] at hl
    | cons p l ih =>
      unfold look at hl
      unfold put
      split at hl
      ·rename_i hp; rw [if_pos hp]; simp [hp]
      ·rename_i hp; rw [if_neg hp]; simp [ih hl]
   unfold lR; rw [this]; exact h
def yO {κ β:Type} [DecidableEq κ] {k : κ} {x : β}:∀ {l:List (κ×β)},(put k x l).length<=l.length+1
 | []=>by simp [put]
 | p::l=>by
   unfold put
   split
   ·simp
   ·have:=yO (k:=k) (x:=x) (l:=l); simp; omega
def BO {β:Type} {k:Int} {x : β} {l:List (Int×β)} (h:∀ y∈l,mf y.1) (hk:mf k):∀ y∈put k x l,mf y.1:=by
 intro y hy
 rcases BL hy with rfl | hy
 ·exact hk
 ·exact h y hy
def J9 {l m:List Int} {k:Nat} {x y:Int} (h:l=m) {hk:k<l.length} (hq:l[k]=x) {hk2:k<m.length} (hq2:m[k]=y) (hn:x≠y):False:=by
 subst h; exact hn (hq.symm.trans hq2)
theorem pE {α:Type} {f : α->α->Bool}:∀ {l:List α},(∀ x∈l,f x x=true)->mB f l l=true
 | [],_=>rfl
 | x::l,h=>by rw [mB,h x List.mem_cons_self,pE λy hy=>h y (List.mem_cons_of_mem _ hy)]; rfl
def MU {r:Row Int}:lZ 8 (r.av iP) (r.av iP)=true:=by
 have hc:qy r.c r.c=true:=by cases r.c<;>simp [qy]
 show (mB (mB (lZ 7)) (r.l.map iP) (r.l.map iP)&&qy r.c r.c)=true
 rw [hc,pE]; rfl
 intro x hx
 obtain ⟨n,_,rfl⟩:=List.mem_map.mp hx
 refine pE λy hy=>?_
 simp only [iP,List.mem_singleton] at hy
 subst hy
 simp [lZ,nY,o7]
section
variable {C:jH} {F:kP} {Pr:kx} {fa:iA} {e:Env} {h:aT} {all rest:List Oper} {o:Oper} {q:Env->aT->Prop} {H:aT} {ls:kK}
end
def AD (t:Nat):List (Nat×Nat)->Option Nat
 | []=>none
 | p::l=>match Nat.beq p.1 t with
   | true=>some p.2
   | false=>AD t l
def BY (L:List jL) (i:Nat):AV:=match L[i]? with
 | some r=>r.v
 | none=>.undef
def yd (k:Bool) (L:List jL) (ix:List (Nat×Nat)):Env->Env
 | []=>[]
 | p::E=>(p.1,match AD p.1 ix with
   | some i=>(match k with
     | true=>keep p.1 (BY L i)
     | false=>BY L i)
   | none=>p.2)::yd k L ix E
theorem Gt {H:aT} {L:List jL} (hS:Sep H L) (ix:List (Nat×Nat)):∀ E,yd true L ix E=yd false L ix E
 | []=>rfl
 | p::E=>by
   simp only [yd]
   rw [Gt hS ix E]
   cases AD p.1 ix with
   | none=>rfl
   | some i =>
     simp only [BY]
     cases hi:L[i]? with
     | none=>simp only [keep]; split<;>rfl
     | some r=>rw [hS.Hz hi p.1]
def Ow {H:aT} {L:List jL} {e E:Env} (hS:Sep H L) (ix:List (Nat×Nat)) (h1:e=yd true L ix E:=by rfl) (h2:yd false L ix E=E:=by rfl):e=E :=
 h1.trans ((Gt hS ix E).trans h2)
def wY:List Nat->List AV->Env
 | t::ts,v::vs=>(t,v)::wY ts vs
 | _,_=>[]
def At (live:List Nat) (vs:List AV) (H:aT) (L:kK) (e:Env) (h:aT):Prop:=proj live e=wY live vs/\{ h with iq:=kX live h.iq } = { H with iq:=L }
def atR {live:List Nat} {vs:List AV} {H:aT} {L:kK} {e:Env} {h:aT} (h1:proj live e=wY live vs:=by rfl) (h2:{ h with iq:=kX live h.iq } = { H with iq:=L }:=by rfl):At live vs H L e h:=⟨h1,h2⟩
def jd {live:List Nat} {vs:List AV} {H:aT} {L:kK} {e:Env} {h:aT} {H0:aT} {R:List jL} (hS:Sep H0 R) (ix:List (Nat×Nat)) (h1:proj live e=yd true R ix (wY live vs):=by rfl) (h3:yd false R ix (wY live vs)=wY live vs:=by rfl) (h2:{ h with iq:=kX live h.iq } = { H with iq:=L }:=by rfl):At live vs H L e h:=⟨Ow hS ix h1 h3,h2⟩
section
variable {C:jH} {F:kP} {Pr:kx} {fa:iA} {c:Code} {an:lB} {Q:Ex->Env->aT->Prop} {live:List Nat} {e:Env} {h:aT}
def s6 {vs:List AV} {H:aT} {L:kK} (hA:At live vs H L e h) (w:Wp C F Pr fa c an Q (wY live vs) { H with iq:=L }):Wp C F Pr fa c an Q (proj live e) { h with iq:=kX live h.iq }:=acb hA.1 hA.2 w
def wz (vs:List AV) (H:aT) (L:kK) (w:Wp C F Pr fa c an Q (wY live vs) { H with iq:=L }) (hA:At live vs H L e h:=by exact atR):Wp C F Pr fa c an Q (proj live e) { h with iq:=kX live h.iq }:=s6 hA w
def wy (vs:List AV) (L:kK) (w:Wp C F Pr fa c an Q (wY live vs) { aT.empty with iq:=L }) (hA:At live vs aT.empty L e h:=by exact atR):Wp C F Pr fa c an Q (proj live e) { h with iq:=kX live h.iq }:=s6 hA w
end
section
variable {Q:Prop} {H:aT} {L:List jL} {α:Type} {enc : α->List AV} {w tt:Bool} {v:AV} {n:Nat} {l:List α}
def nN (hS:Sep H L) (i:Nat) (K:∀ r:jo α,r.l=l->r.l.length=l.length->(∀ m,freeze true { H with iq:=[] } (m+2) v=some (r.av enc))->Q) (hi:L[i]?=some (.sl w tt v n (l.map enc)):=by rfl) (he:∀ m x,ju (freeze true { H with iq:=[] } (m+1)) (enc x)=some (enc x):=by first | exact λ_ _=>rfl | (intro _ _; simp only [bS.af,j9.af,iu.af,j3.af,j6.af,jx.af,jW.af,j7.af,lb.af,iI.af,iT.af,jy.af,iQ.af,iL.af,jB.af,kU.af,Dc.af,tA.af,mI.af,kp,ju,uj,tH,wi,tO,wb])) (hl:l.length<=rl:=by simp only [rl]; first | omega | (simp<;>omega)):Q:=by
 obtain ⟨r,h1,h2⟩:=Sd hS hi hl
 exact K r h1 (congrArg _ h1) λm=>h2 [] _ (he m)
end
def Oy (k:Bool) (R:List jL) (ix:List (Nat×Nat)) (live:List Nat) (e:Env):Env:=live.map λt=>(t,match AD t ix with
 | some i=>(match k with
   | true=>keep t (BY R i)
   | false=>BY R i)
 | none=>keep t (lF e t))
theorem Tt {H:aT} {L:List jL} (hS:Sep H L) (ix:List (Nat×Nat)) (live:List Nat) (e:Env):Oy true L ix live e=Oy false L ix live e:=by
 refine List.map_congr_left λt _=>?_
 cases AD t ix with
 | none=>rfl
 | some i =>
   simp only [BY]
   cases hi:L[i]? with
   | none=>simp only [keep]; split<;>rfl
   | some r=>rw [hS.Hz hi t]
def wk {C:jH} {F:kP} {Pr:kx} {fa:iA} {c:Code} {an:lB} {Q:Ex->Env->aT->Prop} {live:List Nat} {e:Env} {h H0:aT} {R:List jL} (hS:Sep H0 R) (ix:List (Nat×Nat)) (w:Wp C F Pr fa c an Q (Oy false R ix live e) { h with iq:=kX live h.iq }) (he:proj live e=Oy true R ix live e:=by rfl):Wp C F Pr fa c an Q (proj live e) { h with iq:=kX live h.iq }:=by
 rw [he,Tt hS]; exact w
end Go.Sx
namespace Go.Sx
open Go
section
variable {X:Ctx} {e:Env} {h:aT} {d:Option Nat} {ti te:TI} {t el n k dd:Nat} {x y:Operand} {l:List Bool} {b:Bool}
def yK (hT:X.C.T t=some ti) (hk:ti.kind=.array n el) (hE:X.C.T el=some te) (hz:te.size=1) (hx:iJ e x=.la dd 0) (hy:iJ e y=.int .i64 (k:Int)) (hn:k<n):jt (.indexAddr t x y) X e h d=some (.la dd k,h):=by
 have hai:oW (.int .i64 (k:Int))=some k:=rfl
 have hlt:Nat.blt k n=true:=by simp_all
 simp only [jt,oT,nZ,hT,hk,hE,hx,hy,hai,hlt,zW,MC,nf,kz,hz,Nat.mul_one,Nat.zero_add]
def AA (hT:X.C.T t=some ti) (ha:ti.agg=true) (hs:ti.size=n) (hx:iJ e x=.la dd 0) (hl:jK h.iq dd=some (List.map AV.bool l)) (hk:l.length=n):jt (.load t x) X e h d=some (.agg (List.map AV.bool l),h):=by
 subst hk
 simp only [jt,wL,uV,hT,hx,re,Iy,hl,part,ha,hs,List.drop_zero]
 rw [List.take_of_length_le (by simp)]
 simp [oI,yy,kz]
def yG (hT:X.C.T t=some ti) (ha:ti.agg=false) (hz:ti.size=1) (hx:iJ e x=.la dd k) (hy:iJ e y=.bool b) (hl:jK h.iq dd=some (List.map AV.bool l)) (hk:k<l.length):jt (.store t x y) X e h d=some (.undef,{ h with iq:=sT h.iq dd (List.map AV.bool (l.set k b)) }):=by
 have hc:cellsOf ti (.bool b)=some [.bool b]:=by simp only [cellsOf,ha,hz]; rfl
 refine yL hT hx hy hc rfl hl ?_
 have h1:Nat.ble (k+1) l.length=true:=Nat.ble_eq.mpr hk
 simp only [nc,List.length_map,List.length_cons,List.length_nil,Nat.zero_add,h1,oI]
 congr 1
 rw [List.set_eq_take_append_cons_drop,if_pos hk,List.map_append,List.map_cons,List.map_take,List.map_drop]
 simp
def C1 (hT:X.C.T t=some ti) (hk:ti.kind=.array n el) (hE:X.C.T el=some te) (ha:te.agg=false) (hz:te.size=1) (hx:iJ e x=.agg (List.map AV.bool l)) (hy:iJ e y=.int .i64 (k:Int)) (hn:k<n) (hl:k<l.length) (hq:l[k]=b):jt (.index t x y) X e h d=some (.bool b,h):=by
 have hai:oW (.int .i64 (k:Int))=some k:=rfl
 have hlt:Nat.blt k n=true:=by simp_all
 simp only [jt,xr,vy,hT,hk,hE,hx,hy,hai,hlt,AV.agg?,part,ha,hz,Nat.mul_one]
 rw [List.getElem?_map,List.getElem?_eq_getElem hl,hq]
 rfl
end
end Go.Sx
