/- Proves rules for the walks and their soundness. -/
import GoSem.ClaimChange
import Derived.Test.YtojhnkioagammaaGreatTaa
import Derived.Test.YtojhnkioagammaaGreatTae
set_option linter.all false
namespace Go.Sx
open Go
def jb (p:fh):Prop:=p.elems.l.length≤60∧p.fQ.l.length≤120∧p.signals.l.length≤60∧p.lines.l.length≤20∧∀ x∈p.lines.l,x.elems.l.length≤60
theorem jb.elems {p:fh} (h:jb p):p.elems.l.length≤60:=h.1
theorem jb.fQ {p:fh} (h:jb p):p.fQ.l.length≤120:=h.2.1
theorem jb.signals {p:fh} (h:jb p):p.signals.l.length≤60:=h.2.2.1
theorem jb.lines {p:fh} (h:jb p):p.lines.l.length≤20:=h.2.2.2.1
theorem jb.line {p:fh} (h:jb p):∀ x∈p.lines.l,x.elems.l.length≤60:=h.2.2.2.2
theorem kU {κ β:Type} [DecidableEq κ] {k : κ} {x : β} {l:List (κ×β)} (h:look k l=some x):(k,x)∈l:=by
 induction l<;>grind [look]
theorem By {κ β:Type} [DecidableEq κ] {k : κ} {x : β} {l:List (κ×β)} {y : κ×β} (h:y∈put k x l):y=(k,x)∨y∈l:=by
 induction l<;>grind [put]
theorem qu {κ β:Type} [DecidableEq κ] {k : κ} {x : β} {l:List (κ×β)} {P : β→Prop} (hl:∀ y∈l,P y.2) (hx:P x):∀ y∈put k x l,P y.2:=by
 intro y hy
 rcases By hy with rfl | hy<;>grind
theorem Dg {κ β:Type} [DecidableEq κ] {k : κ} {x : β} {l:List (κ×β)}:(put k x l).length≤l.length+1:=by
 induction l<;>grind [put]
def sI {κ β:Type} (l:List (κ×β)):Prop:=(l.map Prod.fst).Nodup
theorem xX {κ β:Type} [DecidableEq κ] {k : κ} {l:List (κ×β)} (h:look k l=none):k∉l.map Prod.fst:=by
 induction l<;>grind [look]
theorem B7 {κ β:Type} [DecidableEq κ] {k : κ} {x : β} {l:List (κ×β)} (h:look k l=none):put k x l=l++[(k,x)]:=by
 induction l<;>grind [look,put]
theorem yo {α:Type} [DecidableEq α]:∀ {a b:List α},a.Nodup→(∀ x∈a,x∈b)→a.length≤b.length
 | [],_,_,_=>Nat.zero_le _
 | x::a,b,hn,hs=>by
   have hx:x∈b:=hs x List.mem_cons_self
   have h1:=yo (a:=a) (b:=b.erase x) (List.nodup_cons.mp hn).2 (by
    grind)
   grind
def mV (p:fh) (e:Int):Int:=if e<0 then 0 else match p.elems.l[e.toNat]? with
 | some x=>x.kind
 | none=>0
theorem EY {p:fh} {e:Int} (h:e<0∨e≥p.elems.l.length):mV p e=0:=by
 grind [mV]
theorem Ip {p:fh} {e:Int} {x:gf} (h0:0≤e) (hx:e.toNat<p.elems.l.length) (hq:p.elems.l[e.toNat]=x):mV p e=x.kind:=by
 grind [mV]
def jE:List gj→bY→Option bY
 | [],_=>none
 | j::l,x=>if j.a=x then some j.b else if j.b=x then some j.a else jE l x
theorem u5 {a b:bY} (h:a.elem=b.elem∧a.en=b.en):a=b:=by
 cases a<;>simp_all
theorem EP {l:List gj} {y:bY} {k:Nat} {x:gj} (hx:k<l.length) (hq:l[k]=x) (h1:¬(x.a.elem=y.elem∧x.a.en=y.en)) (h2:¬(x.b.elem=y.elem∧x.b.en=y.en)):jE (l.drop (k+1)) y=jE (l.drop k) y:=by
 rw [List.drop_eq_getElem_cons hx,hq,jE,if_neg (by grind),if_neg (by grind)]
theorem Fz {l:List gj} {y:bY} {k:Nat} {x:gj} (hx:k<l.length) (hq:l[k]=x) (h1:x.a.elem=y.elem∧x.a.en=y.en):jE (l.drop k) y=some x.b:=by
 rw [List.drop_eq_getElem_cons hx,hq,jE,if_pos (u5 h1)]
theorem FF {l:List gj} {y:bY} {k:Nat} {x:gj} (hx:k<l.length) (hq:l[k]=x) (h1:¬(x.a.elem=y.elem∧x.a.en=y.en)) (h2:x.b.elem=y.elem∧x.b.en=y.en):jE (l.drop k) y=some x.a:=by
 rw [List.drop_eq_getElem_cons hx,hq,jE,if_neg (by grind),if_pos (u5 h2)]
theorem IS {l:List gj} {y:bY} {k:Nat} (hx:l.length≤k):jE (l.drop k) y=none:=by
 rw [List.drop_eq_nil_of_le hx]; rfl
def jR (x:bY):Nat→List gg→Option Int
 | _,[]=>none
 | i,s::l=>if s.at_=x then some i else jR x (i+1) l
def oi (l:List gg) (x:bY):Option Int:=jR x 0 l
theorem yk {l:List gg} {y:bY} {k:Nat} {x:gg} (hx:k<l.length) (hq:l[k]=x) (h1:¬(x.at_.elem=y.elem∧x.at_.en=y.en)):jR y (k+1) (l.drop (k+1))=jR y k (l.drop k):=by
 rw [List.drop_eq_getElem_cons hx,hq,jR,if_neg (by grind)]
theorem yM {l:List gg} {y:bY} {k:Nat} {x:gg} (hx:k<l.length) (hq:l[k]=x) (h1:x.at_.elem=y.elem∧x.at_.en=y.en):jR y k (l.drop k)=some (k:Int):=by
 rw [List.drop_eq_getElem_cons hx,hq,jR,if_pos (u5 h1)]
theorem yO {l:List gg} {y:bY} {k:Nat} (hx:l.length≤k):jR y k (l.drop k)=none:=by
 rw [List.drop_eq_nil_of_le hx]; rfl
def oT (l:List gg) (i:Int):Option bY:=if i<0 then none else (l[i.toNat]?).map (·.at_)
theorem Hg {l:List gg} {e:Int} (h:e<0∨e≥l.length):oT l e=none:=by
 grind [oT]
theorem BQ {l:List gg} {e:Int} {x:gg} (h0:0≤e) (hx:e.toNat<l.length) (hq:l[e.toNat]=x):oT l e=some x.at_:=by
 grind [oT]
def pO:Nat→List (Row gM)→Nat
 | _,[]=>0
 | i,r::l=>r.l.length*(2 ^ (12 - i) - 1)+pO (i+1) l
theorem K3 (l:List (Row gM)):∃ n,n=pO 0 l:=⟨_,rfl⟩
noncomputable def wt (l:List (Row gM)):Nat:=Classical.choose (K3 l)
theorem uG (l:List (Row gM)):wt l=pO 0 l:=Classical.choose_spec (K3 l)
theorem B4 (n:Nat):∃ m,m=2 ^ (13 - n) - 1:=⟨_,rfl⟩
noncomputable def qP (n:Nat):Nat:=Classical.choose (B4 n)
theorem sZ (n:Nat):qP n=2 ^ (13 - n) - 1:=Classical.choose_spec (B4 n)
theorem Px:wt []=0:=by rw [uG]; rfl
theorem PJ:qP 0=8191:=by rw [sZ]
theorem zA (w:Row gM):∀ (l:List (Row gM)) (i:Nat),pO i (l++[w])=pO i l+w.l.length*(2 ^ (12 - (i+l.length)) - 1)
 | [],i=>by simp [pO]
 | r::l,i=>by
   simp only [List.cons_append,pO,zA w l (i+1),List.length_cons]
   rw [show i+1+l.length=i+(l.length+1) from by omega]; omega
theorem wc {n:Nat} (h:n≤12):1≤qP n:=by
 rw [sZ]
 have:2 ^ 1≤2 ^ (13 - n):=Nat.pow_le_pow_right (by omega) (by omega)
 omega
theorem L9 {l:List (Row gM)} {w:Row gM} (hn:l.length<12) (hw:w.l.length≤2):wt (l++[w])+1≤wt l+qP l.length:=by
 rw [uG,uG,sZ]
 rw [zA,Nat.zero_add]
 have h1:13 - l.length=(12 - l.length)+1:=by omega
 have h2:1≤2 ^ (12 - l.length):=Nat.one_le_two_pow
 rw [h1,Nat.pow_succ]
 have h3:w.l.length*(2 ^ (12 - l.length) - 1)≤2*(2 ^ (12 - l.length) - 1):=Nat.mul_le_mul_right _ hw
 omega
theorem zG:∀ {l:List (Row gM)} {i k:Nat} (hk:k+1=l.length) (_:(l[k]'(by omega)).l.length=0),pO i (l.take k)=pO i l
 | [],_,_,hk,_=>by simp
 | [r],i,k,hk,h0=>by
   grind [pO]
 | r::s::l,i,k,hk,h0=>by
   obtain ⟨k,rfl⟩:∃ k',k=k'+1:=⟨k - 1,by simp at hk; omega⟩
   simp only [List.getElem_cons_succ] at h0
   rw [List.take_succ_cons,pO,pO,zG (l:=s::l) (by simpa using hk) h0]
theorem BW:∀ {l:List (Row gM)} {i k:Nat} {r r':Row gM} (hk:k<l.length) (_:l[k]=r) (_:1≤r.l.length) (_:r'.l.length+1=r.l.length),pO i (l.set k r')+(2 ^ (12 - (i+k)) - 1)=pO i l
 | [],_,_,_,_,hk,_,_,_=>by simp at hk
 | x::l,i,0,r,r',_,hr,h1,h2=>by
   grind [pO]
 | x::l,i,k+1,r,r',hk,hr,h1,h2=>by
   simp only [List.getElem_cons_succ] at hr
   simp only [List.set_cons_succ,pO]
   have:=BW (l:=l) (i:=i+1) (k:=k) (by simpa using hk) hr h1 h2
   rw [show i+1+k=i+(k+1) from by omega] at this
   omega
theorem My {l:List (Row gM)} {k:Nat} {r:Row gM} (hk:k<l.length) (hk1:k+1=l.length) (hr:l[k]=r) (h0:r.l.length=0):wt (l.take k)=wt l:=by grind [uG,zG]
theorem OL {l:List (Row gM)} {k:Nat} {r r':Row gM} (hk:k<l.length) (hk1:k+1=l.length) (hr:l[k]=r) (h1:1≤r.l.length) (h2:r'.l.length+1=r.l.length):wt (l.set k r')+qP l.length=wt l:=by
 grind [BW,uG,sZ]
def vC (l:List gj):Prop:=∀ (i:Nat) (h:i<l.length),jE (l.take i) (l[i]).a=none∧jE (l.take i) (l[i]).b=none∧(l[i]).a≠(l[i]).b
def tW (l:List gg):Prop:=∀ (i:Nat) (h:i<l.length),∀ y∈l.take i,y.at_≠(l[i]).at_
theorem Fl (l:List gj) (j:gj) (x:bY):jE (l++[j]) x=match jE l x with
  | some y=>some y
  | none=>if j.a=x then some j.b else if j.b=x then some j.a else none:=by
 induction l<;>grind [jE]
theorem Ep {l:List gj} {j:gj} {m:List (bY×bY)} (hD:∀ x,look x m=jE l x) (ha:look j.a m=none) (hb:look j.b m=none) (hne:j.a≠j.b) (x:bY):look x (put j.b j.a (put j.a j.b m))=jE (l++[j]) x:=by
 grind [o3,Fl,look]
theorem vS {l:List gj} {j:gj} {m:List (bY×bY)} {k:Nat} (hk:k<l.length) (hj:l[k]=j) (hD:∀ x,look x m=jE (l.take k) x) (ha:look j.a m=none) (hb:look j.b m=none) (hne:¬(j.a.elem=j.b.elem∧j.a.en=j.b.en)):∀ x,look x (put j.b j.a (put j.a j.b m))=jE (l.take (k+1)) x:=by
 intro x
 have:l.take (k+1)=l.take k++[j]:=by rw [List.take_succ_eq_append_getElem hk,hj]
 grind [Ep]
theorem AS {l:List gj} {j:gj} {m:List (bY×bY)} {k:Nat} (hk:k<l.length) (hj:l[k]=j) (hD:∀ x,look x m=jE (l.take k) x) (hJ:∀ (i:Nat) (h:i<l.length),i<k→jE (l.take i) (l[i]).a=none∧jE (l.take i) (l[i]).b=none∧(l[i]).a≠(l[i]).b) (ha:look j.a m=none) (hb:look j.b m=none) (hne:¬(j.a.elem=j.b.elem∧j.a.en=j.b.en)) :
  ∀ (i:Nat) (h:i<l.length),i<k+1→jE (l.take i) (l[i]).a=none∧jE (l.take i) (l[i]).b=none∧(l[i]).a≠(l[i]).b:=by
 grind
theorem Ha {l:List gg} {n k:Nat} (hV:∀ (i:Nat) (h:i<l.length),i<k→0≤(l[i]).at_.elem∧(l[i]).at_.elem<(n:Int)∧0≤(l[i]).at_.en) (hk:l.length≤k):∀ s∈l,0≤s.at_.elem∧s.at_.elem<(n:Int)∧0≤s.at_.en:=by
 intro s hs
 obtain ⟨i,hi,rfl⟩:=List.mem_iff_getElem.mp hs
 grind
theorem yE {l:List gg} {n k:Nat} {x:gg} {hk:k<l.length} (hq:l[k]=x) (hV:∀ (i:Nat) (h:i<l.length),i<k→0≤(l[i]).at_.elem∧(l[i]).at_.elem<(n:Int)∧0≤(l[i]).at_.en) (hx:0≤x.at_.elem∧x.at_.elem<(n:Int)∧0≤x.at_.en):∀ (i:Nat) (h:i<l.length),i<k+1→0≤(l[i]).at_.elem∧(l[i]).at_.elem<(n:Int)∧0≤(l[i]).at_.en:=by
 grind
theorem yp {l:List gg} {k:Nat} {x:gg} {m:List (bY×Bool)} (hk:k<l.length) (hq:l[k]=x) (hD:∀ y:bY,(∃ s,s∈l.take k∧s.at_=y)→look y m=some true):∀ y:bY,(∃ s,s∈l.take (k+1)∧s.at_=y)→look y (put x.at_ true m)=some true:=by
 rintro y ⟨s,hs,rfl⟩
 rw [o3]
 split
 ·rfl
 ·rename_i hne
  rw [List.take_succ_eq_append_getElem hk,hq] at hs
  grind
theorem yy {l:List gg} {k:Nat} {x:gg} {m:List (bY×Bool)} (hk:k<l.length) (hq:l[k]=x) (hD:∀ y:bY,(∃ s,s∈l.take k∧s.at_=y)→look y m=some true) (hJ:∀ (i:Nat) (h:i<l.length),i<k→∀ y∈l.take i,y.at_≠(l[i]).at_) (hn:look x.at_ m=none):∀ (i:Nat) (h:i<l.length),i<k+1→∀ y∈l.take i,y.at_≠(l[i]).at_:=by
 grind
theorem yh {α:Type} {P : α→Prop} {l:List α} {k:Nat} {x : α} (hl:∀ y∈l,P y) (hx:P x):∀ y∈l.set k x,P y:=by
 grind
theorem wH {e:Env} {h:ah} {t d o:Nat} {x y:Operand} {X:Ctx} {dd:Option Nat} {ti:TI} {r:AV} {new cs cs':List AV} (hT:X.C.T t=some ti) (hx:fM e x=.la d o) (hy:fM e y=r) (hnew:cellsOf ti r=some new) (hok:new.all AV.hZ=true) (hl:gR h.aq d=some cs) (hsp:kp cs o new=some cs'):gD (.store t x y) X e h dd=some (.undef,{ h with aq:=qy h.aq d cs' }):=by
 simp only [gD,ui,sv,hT,hx,hy,sm,hnew,hok,uf,Gy,hl,hsp]
section
variable {C:gP} {F:jf} {Pr:iO} {fa:fA} {Q:Ex→Env→ah→Prop} {e:Env} {h:ah}
end
section
variable {C:gP} {F:jf} {Pr:iO} {fa:fA} {Q:Ex→Env→ah→Prop} {e:Env} {h:ah}
theorem wE {a b:Code} {live:List Nat} {x y:jr} (P:Env→ah→Prop) (K:∀ E Z,P E Z→Wp C F Pr fa b y Q E Z) (w:Wp C F Pr fa a x (rA (fun e h=>P (proj live e) { h with aq:=fU live h.aq }) Q) e h):Wp C F Pr fa (.seq a b) (.seq live x y) Q e h:=by
 refine Br (w.mono ?_)
 intro x1 e1 h1 hx
 cases x1 with
 | ig=>exact K _ _ hx
 | ext id=>exact hx
 | ret=>exact hx
end
theorem BV {r:List AV} {l:List (List AV)} (h:r.all AV.u1=true) (hl:np l=true):np (r::l)=true:=by
 grind [np]
theorem ur {α:Type} {P : α→Prop} {l:List α} {k:Nat} {x : α} {hk:k<l.length} (hq:l[k]=x) (hV:∀ (i:Nat) (h:i<l.length),i<k→P (l[i])) (hx:P x):∀ (i:Nat) (h:i<l.length),i<k+1→P (l[i]):=by
 grind
theorem qH {α:Type} {P : α→Prop} {l:List α} {x : α} (hl:∀ y∈l,P y) (hx:P x):∀ y∈l++[x],P y:=by
 grind
theorem LC {α:Type} {P : α→Prop} {l m:List α} (hl:∀ y∈l,P y) (hm:∀ y∈m,P y):∀ y∈l++m,P y:=by
 grind
theorem IU {l:List (Row gM)} {k:Nat} {r:Row gM} (hk:k<l.length) (hk1:k+1=l.length) (hr:l[k]=r) (h0:r.l.length=0):wt (l.take (l.length - 1))=wt l:=by
 rw [show l.length - 1=k from by omega]; grind [My]
theorem HT {κ β:Type} [DecidableEq κ] {k : κ} {x : β} {l:List (κ×β)} (h:sI l) (hn:look k l=none):sI (put k x l):=by
 grind [sI,B7,xX]
def univ (n:fk):List bY:=⟨0,0⟩::n.next.map Prod.snd
theorem IW {n:fk} {x y:bY} (h:look x n.next=some y):y∈univ n:=by
 have:=kU h
 exact List.mem_cons_of_mem _ (List.mem_map.mpr ⟨_,this,rfl⟩)
theorem FR {κ β:Type} [DecidableEq κ] {k : κ} {x : β} {l:List (κ×β)} {U:List κ} (h:∀ y∈l.map Prod.fst,y∈U) (hk:k∈U):∀ y∈(put k x l).map Prod.fst,y∈U:=by
 intro y hy
 obtain ⟨z,hz,rfl⟩:=List.mem_map.mp hy
 rcases By hz with rfl | hz<;>grind
theorem wC {n:fk} {x y:bY} {b:Bool} (h:(b=true→look x n.next=some y)∧(b=false→look x n.next=none)∧(b=false→y=⟨0,0⟩)):y∈univ n:=by
 cases b with
 | true=>grind [IW]
 | false=>rw [h.2.2 rfl]; exact List.mem_cons_self
theorem HZ {l:List gj} {j:gj} {m:List (bY×bY)} {k:Nat} (hk:k<l.length) (hj:l[k]=j) (hJ:vC l) (hD:∀ x,look x m=jE (l.take k) x):∀ x,look x (put j.b j.a (put j.a j.b m))=jE (l.take (k+1)) x:=by
 obtain ⟨h1,h2,h3⟩:=hJ k hk
 grind [vS,u5]
theorem GQ {κ β:Type} [DecidableEq κ] {a b : κ} {x y : β} {l:List (κ×β)} {k:Nat} (h:l.length≤2*k):(put a x (put b y l)).length≤2*(k+1):=by
 grind [Dg,put]
theorem su (x:bY) (s:gg):∀ (l:List gg) (i:Nat),jR x i (l++[s])=match jR x i l with
  | some y=>some y
  | none=>if s.at_=x then some ((i+l.length:Nat):Int) else none
 | [],i=>by rfl
 | a::l,i=>by
   simp only [List.cons_append,jR]
   split
   ·rfl
   ·rw [su x s l (i+1)]
    simp only [List.length_cons,show i+1+l.length=i+(l.length+1) from by omega]
theorem sG {x:bY}:∀ {l:List gg} {i:Nat},(∀ s∈l,s.at_≠x)→jR x i l=none
 | [],_,_=>rfl
 | a::l,i,h=>by
   simp only [jR]
   rw [if_neg (h a List.mem_cons_self)]
   exact sG fun s hs=>h s (List.mem_cons_of_mem _ hs)
theorem CL {l:List gg} {s:gg} {m:List (bY×Int)} {k:Nat} (hk:k<l.length) (hj:l[k]=s) (hS:tW l) (hR:∀ x,look x m=oi (l.take k) x):∀ x,look x (put s.at_ (k:Int) m)=oi (l.take (k+1)) x:=by
 intro x
 have h1:=hS k hk
 rw [hj] at h1
 rw [o3,List.take_succ_eq_append_getElem hk,hj]
 grind [oi,su,sG,look]
def ya:kq→kq
 | .nil=>.nil
 | _=>.iy
def Row.canon {α:Type} (r:Row α):Row α:=⟨r.l,ya r.c,r.ok,by cases r.c<;>rfl,fun h=>r.nl (by cases hc:r.c<;>first | rfl | (rw [hc] at h; cases h))⟩
def fY.canon (x:fY):fY:={ x with elems:=x.elems.canon }
def Row.xL {α β:Type} (f : α→β) (r:Row α):Row β:=⟨r.l.map f,r.c,by rw [List.length_map]; exact r.ok,r.sn,fun h=>by rw [r.nl h]; rfl⟩
def fh.canon (p:fh):fh:={ p with elems:=p.elems.canon,fQ:=p.fQ.canon,signals:=p.signals.canon,lines:=(p.lines.xL fY.canon).canon }
theorem Row.OE {α:Type} {r s:Row α} (h1:r.l=s.l) (h2:r.c=s.c):r=s:=by
 cases r<;>simp_all
theorem yC (c:kq):ya (ya c)=ya c:=by cases c<;>rfl
theorem Row.sF {α:Type} (r:Row α):r.canon.canon=r.canon:=Row.OE rfl (yC _)
theorem fY.sF (x:fY):x.canon.canon=x.canon:=by
 grind [fY.canon,Row.sF]
theorem fh.sF (p:fh):p.canon.canon=p.canon:=by
 simp_all [fY.canon,canon,Row.OE,Row.canon,Row.xL,yC,fh.canon,Row.sF]
def rW {α:Type} (r s:Row α):Prop:=r.l=s.l∧(r.c=.nil↔s.c=.nil)
def pd (x y:fY):Prop:=x.name=y.name∧rW x.elems y.elems
structure mW (n:fk) (p:fh):Prop where
 fo:n.p=p.canon
 e40:n.p.elems.l.length≤40
 elems:n.p.elems.l=p.elems.l
 signals:n.p.signals.l=p.signals.l
 yA:jb n.p
 next:∀ x,look x n.next=jE p.fQ.l x
 reads:∀ x,look x n.reads=oi p.signals.l x
 len:n.next.length≤240
 sigs:tW p.signals.l
 abt:∀ s∈p.signals.l,0≤s.at_.elem∧s.at_.elem<(p.elems.l.length:Int)∧0≤s.at_.en
theorem F9 {q p:fh} {next:List (bY×bY)} {reads:List (bY×Int)} {line:List (Int×Int×Int)} {lead:List (Int×Int)} {k m:Nat}
  (hq:q.elems.l=p.elems.l∧q.fQ.l=p.fQ.l∧q.signals.l=p.signals.l∧q.lines.l.length=p.lines.l.length∧(∀ x∈q.lines.l,x.elems.l.length≤60)∧q=p.canon) (h1:jb p)
  (hc:vC p.fQ.l∧tW p.signals.l∧(∀ s∈p.signals.l,0≤s.at_.elem∧s.at_.elem<(p.elems.l.length:Int)∧0≤s.at_.en)∧p.elems.l.length≤40∧p.signals.l.length≤24∧p.fQ.l.length≤80)
  (hD:∀ x,look x next=jE (p.fQ.l.take k) x) (hR:∀ x,look x reads=oi (p.signals.l.take m) x) (hN:next.length≤2*k) (hk:p.fQ.l.length≤k∧k≤p.fQ.l.length) (hm:p.signals.l.length≤m):mW ⟨q,next,reads,line,lead⟩ p:=by
 obtain ⟨e1,e2,e3,e4,e5,e6⟩:=hq
 obtain ⟨f1,f2,f3,f4,f5⟩:=h1
 refine ⟨e6,by grind,e1,e3,⟨by grind,by grind,by grind,by grind,e5⟩,?_,?_,by grind,hc.2.1,hc.2.2.1⟩
 ·grind
 ·intro x; show look x reads = _; rw [hR,List.take_of_length_le hm]
end Go.Sx
namespace Go.Sx
open Go
inductive Ty where
 | int | bool | str
 | slice (e:Ty)
 | struct (fs:List Ty)
mutual
def Ty.size:Ty→Nat
 | .struct fs=>Ty.rG fs
 | _=>1
def Ty.rG:List Ty→Nat
 | []=>0
 | t::ts=>t.size+Ty.rG ts
end
mutual
def pI (P:Program):Ty→TypeId→Bool
 | .int,t=>match P.underlying t with
   | some (.int .i64)=>true
   | _=>false
 | .bool,t=>match P.underlying t with
   | some .bool=>true
   | _=>false
 | .str,t=>match P.underlying t with
   | some .string=>true
   | _=>false
 | .slice e,t=>match P.underlying t with
   | some (.slice te)=>pI P e te&&Nat.beq (P.cellsOf te) e.size&&Nat.blt 0 e.size
   | _=>false
 | .struct fs,t=>match P.underlying t with
   | some (.struct fds)=>AB P fs fds.toList 0&&Nat.beq (P.cellsOf t) (Ty.rG fs)
   | _=>false
def AB (P:Program):List Ty→List Field→Nat→Bool
 | [],[],_=>true
 | t::ts,f::fs,o=>pI P t f.type&&Nat.beq f.offset o&&Nat.beq (P.cellsOf f.type) t.size&&AB P ts fs (o+t.size)
 | _,_,_=>false
end
mutual
def Fit:Ty→List AV→Prop
 | .int,cs=>∃ n,cs=[.int .i64 n]
 | .bool,cs=>∃ b,cs=[.bool b]
 | .str,cs=>∃ s,cs=[.str s]∧s.length≤ns
 | .slice e,cs=>∃ xs c,cs=[.sl xs c]∧(∀ x∈xs,Fit e x)∧xs.length≤ns∧m5 c=false∧(c=.nil→xs=[])
 | .struct fs,cs=>oH fs cs
def oH:List Ty→List AV→Prop
 | [],cs=>cs=[]
 | t::ts,cs=>∃ a b,cs=a++b∧Fit t a∧oH ts b
end
theorem u3 {α β:Type} {f : α→Option β}:∀ {l:List α} {r:List β},l.mapM f=some r→r.length=l.length∧∀ i (h:i<l.length),∃ y,f l[i]=some y∧r[i]?=some y
 | [],r,h=>by
   grind
 | a::l,r,h=>by
   rw [List.mapM_cons] at h
   cases ha:f a with
   | none=>rw [ha] at h; cases h
   | some y =>
     rw [ha] at h
     cases hl:l.mapM f with
     | none=>rw [hl] at h; cases h
     | some r' =>
       rw [hl] at h
       have:r=y::r':=(Option.some.inj h).symm
       subst this
       obtain ⟨h1,h2⟩:=u3 hl
       refine ⟨by simp [h1],fun i hi=>?_⟩
       cases i with
       | zero=>exact ⟨y,ha,rfl⟩
       | succ i=>exact h2 i (by simpa using hi)
theorem vJ {α:Type} {p:Nat→α→Prop}:∀ (n:Nat),(∀ i,i<n→∃ x,p i x)→∃ l:List α,l.length=n∧∀ i x,l[i]?=some x→p i x
 | 0,_=>⟨[],rfl,fun i x h=>by simp at h⟩
 | n+1,h=>by
   obtain ⟨l,hl,hp⟩:=vJ n fun i hi=>h i (by omega)
   obtain ⟨x,hx⟩:=h n (by omega)
   refine ⟨l++[x],by simp [hl],fun i y hy=>?_⟩
   grind
theorem HP {w:World} {a:Addr} {n:Nat} {cs:List Value} (h:w.cells? 0 a n=some cs):cs.length=n∧∀ j,j<n→∃ v,w.cell? (a.add j)=some v∧cs[j]?=some v:=by
 unfold World.cells? at h
 rw [if_pos (Nat.zero_le _)] at h
 obtain ⟨h1,h2⟩:=u3 h
 grind
theorem BT {w:World} {a:Addr} {v:Value} (h:w.cell? a=some v):a.spot=none∧∃ c e fr,w.heap[a.block]?=some (.cells c e fr)∧c[a.off]?=some v:=by
 unfold World.cell? at h
 split at h<;>simp_all
section
variable {H:Type} {enc:TypeId×Value→H} {P:Program} {w:World} {spare:Nat→Bool} {held:Bool}
abbrev TW (w:World):Bool→Nat→Prop:=fun _ B=>B<w.heap.size
def Reads (w:World) (ty:Ty) (cs:List Value):Prop:=∃ xs:List AV,xs.length=cs.length∧cs.length=ty.size∧Fit ty xs∧(∀ (i:Nat) (x:AV) (v:Value),xs[i]?=some x→cs[i]?=some v→PR w (TW w) false x v∧v.oneCell'=true)
theorem E8 (a:Addr) (i j:Nat) (h:a.spot=none):(a.add i).add j=⟨a.block,a.off+i+j,none⟩:=by
 obtain ⟨b,o,s⟩:=a
 grind [Addr.add]
theorem n9 {ty:Ty} (hs:ty.size=1) {x:AV} {v:Value} (hf:Fit ty [x]) (hp:PR w (TW w) false x v) (h1:v.oneCell'=true):Reads w ty [v]:=by
 refine ⟨[x],rfl,by simp [hs],hf,?_⟩
 grind
theorem tY {fuel:Nat} (ih:∀ (ty:Ty) (t:TypeId) (cs:List Value) (r:DataW H×List MemPlace),pI P ty t=true→DataW.trod enc P w 0 spare held fuel t cs=some r→Reads w ty cs) (cs:List Value) :
  ∀ (tys:List Ty) (fds:List Field) (o:Nat),AB P tys fds o=true→o+Ty.rG tys=cs.length→(∀ f∈fds,∃ r,DataW.trod enc P w 0 spare held fuel f.type ((cs.drop f.offset).take (P.cellsOf f.type))=some r) →
    ∃ xs:List AV,xs.length=Ty.rG tys∧oH tys xs∧(∀ (i:Nat) (x:AV) (v:Value),xs[i]?=some x→cs[o+i]?=some v→PR w (TW w) false x v∧v.oneCell'=true)
 | [],fds,o,hf,hl,hr=>⟨[],rfl,rfl,fun i x v h=>by simp at h⟩
 | t::ts,[],o,hf,hl,hr=>by simp [AB] at hf
 | t::ts,f::fds,o,hf,hl,hr=>by
   simp only [AB,Bool.and_eq_true] at hf
   obtain ⟨⟨⟨h1,h2⟩,h3⟩,h4⟩:=hf
   have h2:=Nat.eq_of_beq_eq_true h2
   have h3:=Nat.eq_of_beq_eq_true h3
   simp only [Ty.rG] at hl
   obtain ⟨r,hr1⟩:=hr f List.mem_cons_self
   obtain ⟨xs,e1,e2,e3,e4⟩:=ih t f.type _ r h1 hr1
   obtain ⟨ys,g1,g2,g3⟩:=tY ih cs ts fds (o+t.size) h4 (by omega) (fun f hf=>hr f (List.mem_cons_of_mem _ hf))
   have hx:xs.length=t.size:=by omega
   refine ⟨xs++ys,by grind [Ty.rG],⟨xs,ys,rfl,e3,g2⟩,?_⟩
   grind
theorem tu:∀ (fuel:Nat) (ty:Ty) (t:TypeId) (cs:List Value) (r:DataW H×List MemPlace),pI P ty t=true→DataW.trod enc P w 0 spare held fuel t cs=some r→Reads w ty cs:=by
 intro fuel
 induction fuel with
 | zero=>intro ty t cs r _ h; simp [DataW.trod] at h
 | succ fuel ih =>
   intro ty t cs r ht h
   cases ty with
   | int =>
     simp only [pI] at ht
     split at ht
     ·rename_i hU
      rcases cs with _ | ⟨v,_ | ⟨v2,rest⟩⟩
      ·simp [DataW.trod,hU] at h
      ·cases v<;>simp [DataW.trod,hU] at h
       rename_i k n
       obtain ⟨⟨rfl,_⟩,_⟩:=h
       exact n9 rfl ⟨n,rfl⟩ (.int _ _ n) rfl
      ·simp [DataW.trod,hU] at h
     grind
   | bool =>
     simp only [pI] at ht
     split at ht
     ·rename_i hU
      rcases cs with _ | ⟨v,_ | ⟨v2,rest⟩⟩
      ·simp [DataW.trod,hU] at h
      ·cases v<;>simp [DataW.trod,hU] at h
       rename_i b
       exact n9 rfl ⟨b,rfl⟩ (.bool _ b) rfl
      ·simp [DataW.trod,hU] at h
     grind
   | str =>
     simp only [pI] at ht
     split at ht
     ·rename_i hU
      rcases cs with _ | ⟨v,_ | ⟨v2,rest⟩⟩
      ·simp [DataW.trod,hU] at h
      ·cases v<;>simp [DataW.trod,hU] at h
       rename_i s
       refine n9 rfl ⟨s.data.toList,rfl,?_⟩ (.str _ _ s rfl) rfl
       simp_all [maxLen]
      ·simp [DataW.trod,hU] at h
     grind
   | slice e =>
     simp only [pI] at ht
     split at ht
     ·rename_i te hU
      simp only [Bool.and_eq_true] at ht
      obtain ⟨⟨ht,hsz⟩,hpos⟩:=ht
      have hsz:=Nat.eq_of_beq_eq_true hsz
      have hpos:0<e.size:=Nat.ble_eq.mp hpos
      rcases cs with _ | ⟨v,_ | ⟨v2,rest⟩⟩
      ·simp [DataW.trod,hU] at h
      ·cases v<;>try (simp [DataW.trod,hU] at h; done)
       rename_i a len cap
       cases a with
       | none =>
         cases len<;>cases cap<;>try (simp [DataW.trod,hU] at h; done)
         exact n9 rfl ⟨[],.nil,rfl,by simp,by simp,rfl,fun _=>rfl⟩ (.slnil _) rfl
       | some a =>
         simp only [DataW.trod,hU] at h
         split at h
         ·rename_i hc
          obtain ⟨_,hlc,hcm⟩:=hc
          have hcb:cap≤ns:=by
           grind [maxLen]
          cases hm:(List.range len).mapM (fun i=>(w.cells? 0 (a.add (i*P.cellsOf te)) (P.cellsOf te)).bind (DataW.trod enc P w 0 spare held fuel te)) with
          | none=>grind
          | some elems =>
            obtain ⟨_,hel⟩:=u3 hm
            have hat:∀ i,i<len→∃ (xs:List AV) (vs:List Value),xs.length=e.size∧vs.length=e.size∧Fit e xs∧(∀ (j:Nat) (x:AV) (v:Value),xs[j]?=some x→vs[j]?=some v→PR w (TW w) false x v∧v.oneCell'=true) ∧
              ∀ j,j<e.size→∃ v,w.cell? ((a.add (i*e.size)).add j)=some v∧vs[j]?=some v:=by
             intro i hi
             obtain ⟨y,hy,_⟩:=hel i (by grind)
             simp only [List.getElem_range] at hy
             cases hcs:w.cells? 0 (a.add (i*P.cellsOf te)) (P.cellsOf te) with
             | none=>grind
             | some vs =>
               rw [hcs] at hy
               obtain ⟨xs,e1,e2,e3,e4⟩:=ih e te vs y ht hy
               grind [HP]
            cases len with
            | zero=>exact n9 rfl ⟨[],.iy,rfl,by simp,by simp,rfl,fun h=>by cases h⟩ (.kG _ .iy a cap (fun h=>by cases h) (Nat.zero_le _)) rfl
            | succ GS =>
              obtain ⟨xs0,vs0,_,_,_,_,hv0⟩:=hat 0 (by omega)
              obtain ⟨v00,hv00,_⟩:=hv0 0 hpos
              obtain ⟨hsp,c,et,fr,hB,_⟩:=BT hv00
              have hspot:a.spot=none:=by
               grind [Addr.add]
              have hB:w.heap[a.block]?=some (.cells c et fr):=by
               grind [Addr.add]
              obtain ⟨rows,hrl,hrp⟩:=vJ (p:=fun i xs=>xs.length=e.size∧Fit e xs∧∀ (j:Nat) (x:AV),xs[j]?=some x→∃ v,c[a.off+i*e.size+j]?=some v∧PR w (TW w) false x v∧v.oneCell'=true) (GS+1) (by
               intro i hi
               obtain ⟨xs,vs,q1,q2,q3,q4,q5⟩:=hat i hi
               refine ⟨xs,q1,q3,fun j x hx=>?_⟩
               have hj:j<e.size:=by grind
               obtain ⟨v,hv,hvj⟩:=q5 j hj
               obtain ⟨_,c',et',fr',hB',hcv⟩:=BT hv
               grind [E8])
              have hpr:PR w (TW w) false (.sl rows .iy) (.slice (some ⟨a.block,a.off,none⟩) rows.length cap):=by
               refine .sl false rows .iy a.block a.off c et fr cap e.size (fun i j=>(c[a.off+i*e.size+j]?).getD .nilFunc) (fun h=>by cases h) hB ?_ (by rw [hrl]; exact hlc) (by omega) ?_ ?_ ?_ ?_
               ·grind
               ·grind
               ·grind
               ·grind
               ·intro i cs' j x hcs' hx
                obtain ⟨v,hv,hp,_⟩:=(hrp i cs' hcs').2.2 j x hx
                rw [hv]; exact hp
              rw [hrl] at hpr
              have ha:a=⟨a.block,a.off,none⟩:=by obtain ⟨b,o,s⟩:=a; grind
              rw [← ha] at hpr
              refine n9 rfl ⟨rows,.iy,rfl,?_,by omega,rfl,fun h=>by cases h⟩ hpr rfl
              intro x hx
              obtain ⟨i,hi⟩:=List.getElem?_of_mem hx
              grind
         ·cases h
      ·simp [DataW.trod,hU] at h
     grind
   | struct fs =>
     simp only [pI] at ht
     split at ht
     ·rename_i fds hU
      simp only [Bool.and_eq_true] at ht
      obtain ⟨hfs,hsz⟩:=ht
      have hsz:=Nat.eq_of_beq_eq_true hsz
      have hcs:cs.length=Ty.rG fs∧∀ f∈fds.toList,∃ r,DataW.trod enc P w 0 spare held fuel f.type ((cs.drop f.offset).take (P.cellsOf f.type))=some r:=by
       have key:(if cs.length=P.cellsOf t then (fds.toList.mapM fun f=>DataW.trod enc P w 0 spare held fuel f.type ((cs.drop f.offset).take (P.cellsOf f.type))).map fun xs=>(DataW.agg (xs.map (·.1)),xs.flatMap (·.2)) else none)=some r:=by
        rw [← h]
        conv=>rhs; unfold DataW.trod
        rw [hU]
       split at key
       ·rename_i hl
        refine ⟨by omega,fun f hf=>?_⟩
        cases hm:fds.toList.mapM fun f=>DataW.trod enc P w 0 spare held fuel f.type ((cs.drop f.offset).take (P.cellsOf f.type)) with
        | none=>grind
        | some l =>
          obtain ⟨_,h2⟩:=u3 hm
          obtain ⟨i,hi,rfl⟩:=List.mem_iff_getElem.mp hf
          grind
       grind
      obtain ⟨xs,x1,x2,x3⟩:=tY ih cs fs fds.toList 0 hfs (by omega) hcs.2
      refine ⟨xs,by omega,hcs.1,x2,?_⟩
      grind
     grind
end
end Go.Sx
namespace Go.Sx
open Go
def w3:Ty:=.struct [.int,.int]
def CZ:Ty:=.struct [.str,.int,.int]
def Cx:Ty:=.struct [w3,w3]
def F4:Ty:=.struct [.str,w3,.bool]
def Et:Ty:=.struct [.str,.slice .int]
def zb:Ty:=.struct [.slice CZ,.slice Cx,.slice F4,.slice Et,.int,.int,.int,.int,.bool]
def AF:Ty:=.struct [.str,.int,.int,.int,.int]
def Hw:Ty:=.struct [.bool,.int,.int,.int]
def Im:Ty:=.struct [.str,.int,.int,.int,.slice Hw]
def yZ:Ty:=.struct [.int,.slice AF,.slice Im]
theorem nj {α:Type} {enc : α→List AV} {e:Ty} (he:∀ xs,Fit e xs→∃ x : α,xs=enc x) {cs:List AV} (h:Fit (.slice e) cs):∃ r:Row α,cs=[r.av enc]:=by
 simp only [Fit] at h
 obtain ⟨xs,c,rfl,h1,h2,h3,h4⟩:=h
 have:∀ xs:List (List AV),(∀ x∈xs,Fit e x)→∃ l:List α,xs=l.map enc:=by
  intro xs
  induction xs with
  | nil=>simp
  | cons a xs ih =>
    intro h
    obtain ⟨y,hy⟩:=he a (h a List.mem_cons_self)
    obtain ⟨l,hl⟩:=ih fun x hx=>h x (List.mem_cons_of_mem _ hx)
    exact ⟨y::l,by grind⟩
 obtain ⟨l,rfl⟩:=this xs h1
 exact ⟨⟨l,c,by grind,h3,fun hc=>by grind⟩,rfl⟩
theorem o7 {cs:List AV} (h:Fit .int cs):∃ n:Int,cs=fu n:=by unfold Fit at h; exact h
theorem wu {cs:List AV} (h:Fit w3 cs):∃ x:bY,cs=x.cells:=by
 simp only [w3,Fit,oH] at h
 obtain ⟨_,_,rfl,⟨a,rfl⟩,_,_,rfl,⟨b,rfl⟩,rfl⟩:=h
 exact ⟨⟨a,b⟩,rfl⟩
theorem G5 {cs:List AV} (h:Fit CZ cs):∃ x:gf,cs=x.cells:=by
 simp only [CZ,Fit,oH] at h
 obtain ⟨_,_,rfl,⟨s,rfl,hs⟩,_,_,rfl,⟨a,rfl⟩,_,_,rfl,⟨b,rfl⟩,rfl⟩:=h
 exact ⟨⟨⟨s,hs⟩,a,b⟩,rfl⟩
theorem GM {cs:List AV} (h:Fit Cx cs):∃ x:gj,cs=x.cells:=by
 simp only [Cx,Fit,oH] at h
 obtain ⟨_,_,rfl,h1,_,_,rfl,h2,rfl⟩:=h
 obtain ⟨x,rfl⟩:=wu h1
 obtain ⟨y,rfl⟩:=wu h2
 exact ⟨⟨x,y⟩,rfl⟩
theorem M1 {cs:List AV} (h:Fit F4 cs):∃ x:gg,cs=x.cells:=by
 simp only [F4,Fit,oH] at h
 obtain ⟨_,_,rfl,⟨s,rfl,hs⟩,_,_,rfl,h2,_,_,rfl,⟨b,rfl⟩,rfl⟩:=h
 obtain ⟨y,rfl⟩:=wu h2
 exact ⟨⟨⟨s,hs⟩,y,b⟩,rfl⟩
theorem GP {cs:List AV} (h:Fit Et cs):∃ x:fY,cs=x.cells:=by
 simp only [Et,oH] at h
 unfold Fit at h
 simp only [oH] at h
 obtain ⟨_,_,rfl,h1,_,_,rfl,h2,rfl⟩:=h
 simp only [Fit] at h1
 obtain ⟨s,rfl,hs⟩:=h1
 obtain ⟨r,rfl⟩:=nj (fun _=>o7) h2
 exact ⟨⟨⟨s,hs⟩,r⟩,rfl⟩
theorem Fw {cs:List AV} (h:Fit AF cs):∃ x:fK,cs=x.cells:=by
 simp only [AF,Fit,oH] at h
 obtain ⟨_,_,rfl,⟨s,rfl,hs⟩,_,_,rfl,⟨a,rfl⟩,_,_,rfl,⟨b,rfl⟩,_,_,rfl,⟨c,rfl⟩,_,_,rfl,⟨d,rfl⟩,rfl⟩:=h
 exact ⟨⟨⟨s,hs⟩,a,b,c,d⟩,rfl⟩
theorem L5 {cs:List AV} (h:Fit Hw cs):∃ x:iZ,cs=x.cells:=by
 simp only [Hw,Fit,oH] at h
 obtain ⟨_,_,rfl,⟨t,rfl⟩,_,_,rfl,⟨a,rfl⟩,_,_,rfl,⟨b,rfl⟩,_,_,rfl,⟨c,rfl⟩,rfl⟩:=h
 exact ⟨⟨t,a,b,c⟩,rfl⟩
theorem Mi {cs:List AV} (h:Fit Im cs):∃ x:gK,cs=x.cells:=by
 unfold Im Fit at h
 simp only [oH] at h
 obtain ⟨_,_,rfl,h1,_,_,rfl,h2,_,_,rfl,h3,_,_,rfl,h4,_,_,rfl,h5,rfl⟩:=h
 simp only [Fit] at h1 h2 h3 h4
 obtain ⟨s,rfl,hs⟩:=h1
 obtain ⟨a,rfl⟩:=h2
 obtain ⟨b,rfl⟩:=h3
 obtain ⟨c,rfl⟩:=h4
 obtain ⟨r,rfl⟩:=nj (fun _=>L5) h5
 exact ⟨⟨⟨s,hs⟩,a,b,c,r⟩,rfl⟩
theorem HN {cs:List AV} (h:Fit yZ cs):∃ x:gp,cs=x.cells:=by
 unfold yZ Fit at h
 simp only [oH] at h
 obtain ⟨_,_,rfl,h1,_,_,rfl,h2,_,_,rfl,h3,rfl⟩:=h
 obtain ⟨a,rfl⟩:=o7 h1
 obtain ⟨r,rfl⟩:=nj (fun _=>Fw) h2
 obtain ⟨s,rfl⟩:=nj (fun _=>Mi) h3
 exact ⟨⟨a,r,s⟩,rfl⟩
theorem IX {cs:List AV} (h:Fit zb cs):∃ x:fh,cs=x.cells:=by
 unfold zb Fit at h
 simp only [oH] at h
 obtain ⟨_,_,rfl,h1,_,_,rfl,h2,_,_,rfl,h3,_,_,rfl,h4,_,_,rfl,h5,_,_,rfl,h6,_,_,rfl,h7,_,_,rfl,h8,_,_,rfl,h9,rfl⟩:=h
 obtain ⟨r1,rfl⟩:=nj (fun _=>G5) h1
 obtain ⟨r2,rfl⟩:=nj (fun _=>GM) h2
 obtain ⟨r3,rfl⟩:=nj (fun _=>M1) h3
 obtain ⟨r4,rfl⟩:=nj (fun _=>GP) h4
 obtain ⟨a,rfl⟩:=o7 h5
 obtain ⟨b,rfl⟩:=o7 h6
 obtain ⟨c,rfl⟩:=o7 h7
 obtain ⟨d,rfl⟩:=o7 h8
 simp only [Fit] at h9
 obtain ⟨t,rfl⟩:=h9
 exact ⟨⟨r1,r2,r3,r4,a,b,c,d,t⟩,rfl⟩
section
variable {w:World}
theorem yu {ty:Ty} {v:Value} (h:Reads w ty v.cells.toList) (h2:2≤ty.size):∃ xs,Fit ty xs∧PR w (TW w) false (.agg xs) v:=by
 obtain ⟨xs,h1,hs,hf,hp⟩:=h
 have hsz:2≤v.cells.size:=by
  grind
 cases v with
 | agg cs =>
   refine ⟨xs,hf,.agg false xs cs (by grind [Value.cells]) ?_ ?_⟩
   ·intro i y hy
    have hi:i<xs.length:=by
     grind [Value.cells]
    exact (hp i xs[i] y (by simp [hi]) (by grind [Value.cells])).2
   grind [Value.cells]
 | _=>simp [Value.cells] at hsz
end
end Go.Sx
namespace Go.Sx
open Go
section
variable {C:gP} {F:jf} {Pr:iO} {fa:fA} {Q:Ex→Env→ah→Prop} {e:Env} {h h1:ah} {all rest:List Oper} {o:Oper} {q:Env→ah→Prop} {v:AV} {sch:List (Nat×List Nat)} {i:Nat} {a b:Code} {x y an:jr} {live:List Nat}
theorem oV (w:iu C F Pr fa all rest q (gk e o v) h1) (hw:gq all e o=some true:=by rfl) (hop:∀ call,gD o.op ⟨C,fa,call⟩ e h o.dst=some (v,h1):=by exact fun _=>rfl):iu C F Pr fa all (o::rest) q e h:=fq hw hop w
theorem rV (w:iC C F Pr fa all sch q (gk e o v) h1) (ho:all[i]?=some o:=by rfl) (hw:gq all e o=some true:=by rfl) (hop:∀ call,gD o.op ⟨C,fa,call⟩ e h o.dst=some (v,h1):=by exact fun _=>rfl):iC C F Pr fa all ((i,[])::sch) q e h:=ga ho hw hop w
theorem oS (w:iu C F Pr fa all rest q (gk e o (.fz [])) h) (hw:gq all e o=some false:=by rfl):iu C F Pr fa all (o::rest) q e h:=If hw w
theorem rS (w:iC C F Pr fa all sch q (gk e o (.fz [])) h) (ho:all[i]?=some o:=by rfl) (hw:gq all e o=some false:=by rfl):iC C F Pr fa all ((i,[])::sch) q e h:=Hi ho hw w
theorem oN (w:q e h):iu C F Pr fa all [] q e h:=Lr w
theorem rN (w:q e h):iC C F Pr fa all [] q e h:=Mg w
theorem qq (w:Wp C F Pr fa a x (rA (Wp C F Pr fa b y Q) Q) e h):Wp C F Pr fa (.seq a b) (.sq x y) Q e h:=Qp w
theorem qs (w:Wp C F Pr fa a x (rA (fun e h=>Wp C F Pr fa b y Q (proj live e) { h with aq:=fU live h.aq }) Q) e h):Wp C F Pr fa (.seq a b) (.seq live x y) Q e h:=Br w
theorem qk (w:Q .ig e h):Wp C F Pr fa .skip an Q e h:=Ii w
theorem ql {l:Nat} (w:Q .ig e h):Wp C F Pr fa (.label l) an Q e h:=Ez w
theorem qe {id:Nat} (w:Q (.ext id) e h):Wp C F Pr fa (.exit id) an Q e h:=Ib w
theorem qr (w:Q .ret e h):Wp C F Pr fa .ret an Q e h:=MV w
theorem qb {id:Nat} (w:Wp C F Pr fa a an (Dn id Q) e h):Wp C F Pr fa (.block id a) an Q e h:=FI w
theorem qg {id:Nat} {ops:Array Oper} (w:iu C F Pr fa ops.toList ops.toList (Q .ig) e h):Wp C F Pr fa (.region id ops false) an Q e h:=D6 w
theorem qd {id:Nat} {ops:Array Oper} (w:iC C F Pr fa ops.toList sch (Q .ig) e h):Wp C F Pr fa (.region id ops true) (.nA sch) Q e h:=EH w
theorem qT {c:Operand} (w:Wp C F Pr fa a x Q e h) (hc:fM e c=.bool true:=by rfl):Wp C F Pr fa (.cond c a b) (.two x y) Q e h:=zu hc (fun _=>w) (fun h=>by cases h)
theorem qF {c:Operand} (w:Wp C F Pr fa b y Q e h) (hc:fM e c=.bool false:=by rfl):Wp C F Pr fa (.cond c a b) (.two x y) Q e h:=zu hc (fun h=>by cases h) (fun _=>w)
theorem gl (a b:Int) (w1:a<b→iu C F Pr fa all rest q (gk e o (.bool true)) h) (w2:¬ (a<b)→iu C F Pr fa all rest q (gk e o (.bool false)) h) {t u:Nat} {x y:Operand} {k k':IntKind} (ho:o.op=.binOp .lss t x y u:=by rfl) (hw:gq all e o=some true:=by rfl) (hx:fM e x=.int k a:=by rfl) (hy:fM e y=.int k' b:=by rfl) (hk:ma k k'=true:=by rfl):iu C F Pr fa all (o::rest) q e h:=lJ hw (fun _=>by rw [ho]; exact gY hx hy hk (BN _ a b)) w1 w2
theorem o4 (a b:Int) (w1:a<b→iC C F Pr fa all sch q (gk e o (.bool true)) h) (w2:¬ (a<b)→iC C F Pr fa all sch q (gk e o (.bool false)) h) {t u:Nat} {x y:Operand} {k k':IntKind} (hi:all[i]?=some o:=by rfl) (ho:o.op=.binOp .lss t x y u:=by rfl) (hw:gq all e o=some true:=by rfl) (hx:fM e x=.int k a:=by rfl) (hy:fM e y=.int k' b:=by rfl) (hk:ma k k'=true:=by rfl):iC C F Pr fa all ((i,[])::sch) q e h:=mN hi hw (fun _=>by rw [ho]; exact gY hx hy hk (BN _ a b)) w1 w2
theorem o5 (a b:Int) (w1:a≤b→iu C F Pr fa all rest q (gk e o (.bool true)) h) (w2:¬ (a≤b)→iu C F Pr fa all rest q (gk e o (.bool false)) h) {t u:Nat} {x y:Operand} {k k':IntKind} (ho:o.op=.binOp .leq t x y u:=by rfl) (hw:gq all e o=some true:=by rfl) (hx:fM e x=.int k a:=by rfl) (hy:fM e y=.int k' b:=by rfl) (hk:ma k k'=true:=by rfl):iu C F Pr fa all (o::rest) q e h:=lJ hw (fun _=>by rw [ho]; exact gY hx hy hk (MC _ a b)) w1 w2
theorem g9 (a b:Int) (w1:a > b→iu C F Pr fa all rest q (gk e o (.bool true)) h) (w2:¬ (a > b)→iu C F Pr fa all rest q (gk e o (.bool false)) h) {t u:Nat} {x y:Operand} {k k':IntKind} (ho:o.op=.binOp .gtr t x y u:=by rfl) (hw:gq all e o=some true:=by rfl) (hx:fM e x=.int k a:=by rfl) (hy:fM e y=.int k' b:=by rfl) (hk:ma k k'=true:=by rfl):iu C F Pr fa all (o::rest) q e h:=lJ hw (fun _=>by rw [ho]; exact gY hx hy hk (Mr _ a b)) w1 w2
theorem jg (a b:Int) (w1:a≥b→iu C F Pr fa all rest q (gk e o (.bool true)) h) (w2:¬ (a≥b)→iu C F Pr fa all rest q (gk e o (.bool false)) h) {t u:Nat} {x y:Operand} {k k':IntKind} (ho:o.op=.binOp .geq t x y u:=by rfl) (hw:gq all e o=some true:=by rfl) (hx:fM e x=.int k a:=by rfl) (hy:fM e y=.int k' b:=by rfl) (hk:ma k k'=true:=by rfl):iu C F Pr fa all (o::rest) q e h:=lJ hw (fun _=>by rw [ho]; exact gY hx hy hk (Bq _ a b)) w1 w2
theorem wm (a b:Int) (w1:a≥b→iC C F Pr fa all sch q (gk e o (.bool true)) h) (w2:¬ (a≥b)→iC C F Pr fa all sch q (gk e o (.bool false)) h) {t u:Nat} {x y:Operand} {k k':IntKind} (hi:all[i]?=some o:=by rfl) (ho:o.op=.binOp .geq t x y u:=by rfl) (hw:gq all e o=some true:=by rfl) (hx:fM e x=.int k a:=by rfl) (hy:fM e y=.int k' b:=by rfl) (hk:ma k k'=true:=by rfl):iC C F Pr fa all ((i,[])::sch) q e h:=mN hi hw (fun _=>by rw [ho]; exact gY hx hy hk (Bq _ a b)) w1 w2
theorem gA (a b:Int) (w1:a=b→iu C F Pr fa all rest q (gk e o (.bool true)) h) (w2:¬ (a=b)→iu C F Pr fa all rest q (gk e o (.bool false)) h) {t u:Nat} {x y:Operand} {k k':IntKind} (ho:o.op=.binOp .eql t x y u:=by rfl) (hw:gq all e o=some true:=by rfl) (hx:fM e x=.int k a:=by rfl) (hy:fM e y=.int k' b:=by rfl) (hk:ma k k'=true:=by rfl):iu C F Pr fa all (o::rest) q e h:=lJ hw (fun _=>by rw [ho]; exact gY hx hy hk (Bs _ a b)) w1 w2
theorem wv (a b:Int) (w1:a=b→iC C F Pr fa all sch q (gk e o (.bool true)) h) (w2:¬ (a=b)→iC C F Pr fa all sch q (gk e o (.bool false)) h) {t u:Nat} {x y:Operand} {k k':IntKind} (hi:all[i]?=some o:=by rfl) (ho:o.op=.binOp .eql t x y u:=by rfl) (hw:gq all e o=some true:=by rfl) (hx:fM e x=.int k a:=by rfl) (hy:fM e y=.int k' b:=by rfl) (hk:ma k k'=true:=by rfl):iC C F Pr fa all ((i,[])::sch) q e h:=mN hi hw (fun _=>by rw [ho]; exact gY hx hy hk (Bs _ a b)) w1 w2
theorem iJ (a b:Int) (w1:a≠b→iu C F Pr fa all rest q (gk e o (.bool true)) h) (w2:¬ (a≠b)→iu C F Pr fa all rest q (gk e o (.bool false)) h) {t u:Nat} {x y:Operand} {k k':IntKind} (ho:o.op=.binOp .neq t x y u:=by rfl) (hw:gq all e o=some true:=by rfl) (hx:fM e x=.int k a:=by rfl) (hy:fM e y=.int k' b:=by rfl) (hk:ma k k'=true:=by rfl):iu C F Pr fa all (o::rest) q e h:=lJ hw (fun _=>by rw [ho]; exact gY hx hy hk (BO _ a b)) w1 w2
theorem ym (a b:Int) (w1:a≠b→iC C F Pr fa all sch q (gk e o (.bool true)) h) (w2:¬ (a≠b)→iC C F Pr fa all sch q (gk e o (.bool false)) h) {t u:Nat} {x y:Operand} {k k':IntKind} (hi:all[i]?=some o:=by rfl) (ho:o.op=.binOp .neq t x y u:=by rfl) (hw:gq all e o=some true:=by rfl) (hx:fM e x=.int k a:=by rfl) (hy:fM e y=.int k' b:=by rfl) (hk:ma k k'=true:=by rfl):iC C F Pr fa all ((i,[])::sch) q e h:=mN hi hw (fun _=>by rw [ho]; exact gY hx hy hk (BO _ a b)) w1 w2
theorem oC {f:Nat} {args:List AV} {R:AV→Prop} (w:∀ h:ah,∃ v,fj C F Pr false f args h v h∧R v) (next:∀ v,R v→iu C F Pr fa all rest q (gk e o v) h) {g:Operand} {c:Call} (ho:o.op=.call c:=by rfl) (hw:gq all e o=some true:=by rfl) (hf:c.callee=.value g:=by rfl) (hg:fM e g=.gL f [] []:=by rfl) (ha:c.args.toList.map (fM e)=args:=by rfl) (hok:args.all AV.ld=true:=by rfl) (hs:fa.gx.elem f=false:=by rfl):iu C F Pr fa all (o::rest) q e h:=Gz ho hw hf hg ha hok hs w next
theorem rC {f:Nat} {args:List AV} {R:AV→Prop} (w:∀ h:ah,∃ v,fj C F Pr false f args h v h∧R v) (next:∀ v,R v→iC C F Pr fa all sch q (gk e o v) h) {g:Operand} {c:Call} (hi:all[i]?=some o:=by rfl) (ho:o.op=.call c:=by rfl) (hw:gq all e o=some true:=by rfl) (hf:c.callee=.value g:=by rfl) (hg:fM e g=.gL f [] []:=by rfl) (ha:c.args.toList.map (fM e)=args:=by rfl) (hok:args.all AV.ld=true:=by rfl) (hs:fa.gx.elem f=false:=by rfl):iC C F Pr fa all ((i,[])::sch) q e h:=HH hi hw ho hf hg ha hok hs w next
theorem wa {c:Code} (E:Env) (H:ah) (L:iT) (w:Wp C F Pr fa c an Q E { H with aq:=L }) (he:e=E:=by rfl) (hh:h = { H with aq:=L }:=by rfl):Wp C F Pr fa c an Q e h:=gm he hh w
theorem w0 {c:Code} (E:Env) (L:iT) (w:Wp C F Pr fa c an Q E { ah.empty with aq:=L }) (he:e=E:=by rfl) (hh:h = { ah.empty with aq:=L }:=by rfl):Wp C F Pr fa c an Q e h:=gm he hh w
end
theorem Row.lk {α:Type} (r:Row α):r.l.length≤9223372036854775807:=r.ok
theorem fE.lk {α:Type} (r:fE α):r.l.length≤9223372036854775807:=r.ok
theorem kO.lk (r:kO):r.l.length≤9223372036854775807:=r.ok
abbrev iv (n:Int):AV:=.int .i64 n
theorem FZ:(∀ sn hp n k a,freeze sn hp (n+1) (.int k a)=some (.int k a))∧(∀ sn hp n b,freeze sn hp (n+1) (.bool b)=some (.bool b))∧(∀ sn hp n s,freeze sn hp (n+1) (.str s)=some (.str s)) ∧
  (∀ (α:Type) (enc : α→List AV) hp n r,freeze true hp (n+1) (fE.av enc r)=some (fE.av enc r))∧(∀ (α:Type) (enc : α→List AV) sn hp n r,freeze sn hp (n+1) (Row.av enc r)=some (Row.av enc r)) ∧
  (∀ hp n c o s,freeze true hp (n+1) (.ip c o s)=some (.ip c o s))∧(∀ sn hp n c o,freeze sn hp (n+1) (.ip c o false)=some (.ip c o false))∧(∀ hp n c s,freeze true hp (n+1) (.fm c s)=some (.fm c s))∧(∀ sn hp n c,freeze sn hp (n+1) (.fm c false)=some (.fm c false)) ∧
  (∀ sn hp n,freeze sn hp (n+1) (.sl [] .nil)=some (.sl [] .nil))∧(∀ sn hp n,freeze sn hp (n+1) .ia=some .ia)∧(∀ sn hp n,freeze sn hp (n+1) .g8=some .g8)∧(∀ sn hp n m xs,freeze sn hp (n+1) (.sl xs (.exact m))=some (.sl xs (.exact m))) ∧
  (∀ sn hp n l,freeze sn hp (n+1) (.agg l)=(match gr (freeze sn hp n) l with
    | some l=>some (.agg l)
    | none=>none))∧(∀ sn hp n l,freeze sn hp (n+1) (.fz l)=(match gr (freeze sn hp n) l with
    | some l=>some (.fz l)
    | none=>none))∧(∀ x:bY,x.cells=[.int .i64 x.elem,.int .i64 x.en])∧(∀ x:gi,x.cells=[.int .i64 x.elem,.int .i64 x.pos])∧(∀ x:gM,x.cells=[.int .i64 x.out,.int .i64 x.pos])∧(∀ x:fy,x.cells=[.int .i64 x.elem,.int .i64 x.jQ,.int .i64 x.out])∧(∀ x:gf,x.cells=[.str x.name.l,.int .i64 x.kind,.int .i64 x.len])∧(∀ x:iZ,x.cells=[.bool x.xW,.int .i64 x.at_,.int .i64 x.end_,.int .i64 x.to]) ∧
  (∀ x:fP,x.cells=[.int .i64 x.from_,.int .i64 x.to,.int .i64 x.end_,x.steps.av fy.cells,x.jJ.av gi.cells,x.guards.av gi.cells,x.nT.av fu,x.holds.av fu,.bool x.bare])∧(∀ x:pv,x.cells=[.int .i64 x.from_,.int .i64 x.to,.int .i64 x.end_,x.steps.av fy.cells,x.jJ.av gi.cells,x.guards.av gi.cells,x.nT.av fu,x.holds.av fu,.bool x.bare]) ∧
  (∀ x:lF,x.cells=[.int .i64 x.pY,x.steps.av fy.cells,x.pos.av fu,x.left.av (g6 gM.cells)])∧(∀ p:fh,p.cells=[p.elems.av gf.cells,p.fQ.av gj.cells,p.signals.av gg.cells,p.lines.av fY.cells,.int .i64 p.top,.int .i64 p.gE,.int .i64 p.gv,.int .i64 p.gz,.bool p.gO])∧(∀ x:gb,x.cells=x.fo.cells++[x.roads.av fP.cells]) ∧
  (∀ x:fJ,x.cells=[.int .i64 x.mode,x.gT.av bY.cells,.int .i64 x.left,.int .i64 x.rT,.int .i64 x.v])∧(∀ x:fX,x.cells=[.str x.name.l,.int .i64 x.fV,.int .i64 x.at_.elem,.int .i64 x.at_.en,.int .i64 x.left])∧(∀ x:fY,x.cells=[.str x.name.l,x.elems.av fu])∧(∀ x:gK,x.cells=[.str x.name.l,.int .i64 x.fV,.int .i64 x.from_,.int .i64 x.left,x.gW.av iZ.cells])∧(∀ x:gp,x.cells=[.int .i64 x.um,x.fV.av fK.cells,x.runs.av gK.cells]) ∧
  (∀ (f:AV→Option AV),gr f []=some [])∧(∀ (f:AV→Option AV) v l,gr f (v::l)=(match f v with
    | none=>none
    | some w=>match gr f l with
      | none=>none
      | some l'=>some (w::l')))∧(∀ (a b:List AV) v,(v::a)++b=v::(a++b))∧(∀ b:List AV,[]++b=b):=by
 refine ⟨fun _ _ _ _ _=>rfl,fun _ _ _ _=>rfl,fun _ _ _ _=>rfl,fun _ _ _ _ r=>zI r,fun _ _ _ _ _ r=>ju r,fun _ _ _ _ _=>BZ _ _ _,fun _ _ _ _ _=>Mf _ _,fun _ _ _ _=>B8 _ _,fun _ _ _ _=>LG _,fun _ _ _=>rfl,fun _ _ _=>rfl,fun _ _ _=>rfl,fun _ _ _ _ _=>rfl,fun _ _ _ _=>rfl,fun _ _ _ _=>rfl,?_⟩
 exact ⟨fun _=>rfl,fun _=>rfl,fun _=>rfl,fun _=>rfl,fun _=>rfl,fun _=>rfl,fun _=>rfl,fun _=>rfl,fun _=>rfl,fun _=>rfl,fun _=>rfl,fun _=>rfl,fun _=>rfl,fun _=>rfl,fun _=>rfl,fun _=>rfl,fun _=>rfl,fun _ _ _=>rfl,fun _ _ _=>rfl,fun _=>rfl⟩
end Go.Sx
namespace Go.Sx
open Go
def PF (amb:Bool) (a b:Option bY) (to:Int):Option bY:=match a,b with
 | some _,none=>some ⟨to,1⟩
 | none,some _=>some ⟨to,0⟩
 | _,_=>if amb=true then some ⟨to,-1⟩ else none
def qZ (amb:Bool) (A:Int→Option bY) (N:bY→Option bY) (l:iZ):Option bY:=if l.end_=1 then A l.to else if l.end_=3 then PF amb (N ⟨l.to,0⟩) (N ⟨l.to,1⟩) l.to else none
def xo (amb:Bool) (A:Int→Option bY) (N:bY→Option bY) (r:gK) (leg:Int):Option bY:=if leg=0 then A r.from_ else match r.gW.l[(leg - 1).toNat]? with
 | none=>none
 | some l=>qZ amb A N l
def lC (amb:Bool) (A:Int→Option bY) (N:bY→Option bY) (d:gp) (run leg:Int):Option bY:=if run<0 then none else match d.runs.l[run.toNat]? with
 | none=>none
 | some r=>if leg<0∨leg > r.gW.l.length then none else xo amb A N r leg
section
variable {amb:Bool} {A:Int→Option bY} {N:bY→Option bY} {d:gp} {run leg:Int} {x:gK} {y:iZ}
theorem tA (h:run<0∨run≥d.runs.l.length):lC amb A N d run leg=none:=by
 grind [lC]
theorem uC (h0:0≤run) (hx:run.toNat<d.runs.l.length) (hq:d.runs.l[run.toNat]=x):lC amb A N d run leg=if leg<0∨leg > x.gW.l.length then none else xo amb A N x leg:=by
 grind [lC]
theorem s5 (h0:0≤run) (hx:run.toNat<d.runs.l.length) (hq:d.runs.l[run.toNat]=x) (h:leg<0∨leg > x.gW.l.length):lC amb A N d run leg=none:=by
 grind [uC]
theorem EC (h:leg<0):lC amb A N d run leg=none:=by
 grind [lC]
theorem Ik (h0:0≤run) (hx:run.toNat<d.runs.l.length) (hq:d.runs.l[run.toNat]=x) (h:leg=0):lC amb A N d run leg=A x.from_:=by
 rw [uC h0 hx hq,if_neg (by omega),xo,if_pos h]
theorem Hc (h0:0≤run) (hx:run.toNat<d.runs.l.length) (hq:d.runs.l[run.toNat]=x) (h1:0<leg) (h2:leg≤x.gW.l.length) (hy:(leg - 1).toNat<x.gW.l.length) (hz:x.gW.l[(leg - 1).toNat]=y):lC amb A N d run leg=qZ amb A N y:=by
 rw [uC h0 hx hq,if_neg (by omega),xo,if_neg (by omega),List.getElem?_eq_getElem hy,hz]
theorem MF (h:y.end_=1):qZ amb A N y=A y.to:=by grind [qZ]
theorem Lt (h:¬ y.end_=1) (h3:y.end_=3):qZ amb A N y=PF amb (N ⟨y.to,0⟩) (N ⟨y.to,1⟩) y.to:=by grind [qZ]
theorem MZ (h:¬ y.end_=1) (h3:¬ y.end_=3):qZ amb A N y=none:=by grind [qZ]
end
def DA (amb:Bool) (K:Int→Int) (R:bY→Int) (h:bY) (l:iZ):Int:=if l.xW=true then if K h.elem=1 then R ⟨h.elem,IntKind.i64.wrap (1 - h.en)⟩ else -1 else R h
def oz (amb:Bool) (A:Int→Option bY) (N:bY→Option bY) (K:Int→Int) (R:bY→Int) (d:gp) (run leg:Int):Int:=match lC amb A N d run leg with
 | none=>-1
 | some h=>if amb=true∧h.en<0 then -1 else match d.runs.l[run.toNat]? with
   | none=>-1
   | some r=>match r.gW.l[leg.toNat]? with
     | none=>-1
     | some l=>DA amb K R h l
def Bx (d:gp) (run leg:Int):Prop:=run<0∨run≥d.runs.l.length∨leg<0∨∃ h:run.toNat<d.runs.l.length,leg > ((d.runs.l[run.toNat]).gW.l.length:Int)
section
variable {amb:Bool} {A:Int→Option bY} {N:bY→Option bY} {K:Int→Int} {R:bY→Int} {d:gp} {run leg:Int} {x:gK} {y:iZ} {h:bY}
theorem qj (hh:lC amb A N d run leg=none):oz amb A N K R d run leg = -1:=by rw [oz,hh]
theorem EJ (hl:Bx d run leg):lC amb A N d run leg=none:=by
 by_cases h0:run<0∨run≥d.runs.l.length
 ·exact tA h0
 ·have hx:run.toNat<d.runs.l.length:=by omega
  refine s5 (by omega) hx rfl ?_
  rcases hl with hl | hl | hl | ⟨_,hl⟩<;>grind
theorem Ft (hx:run.toNat<d.runs.l.length) (hq:d.runs.l[run.toNat]=x) (hl:leg≥x.gW.l.length):oz amb A N K R d run leg = -1:=by
 grind [oz]
theorem Dv (hh:lC amb A N d run leg=some h) (hn:amb=false∨¬ h.en<0) (hx:run.toNat<d.runs.l.length) (hq:d.runs.l[run.toNat]=x) (hy:leg.toNat<x.gW.l.length) (hz:x.gW.l[leg.toNat]=y):oz amb A N K R d run leg=DA amb K R h y:=by
 grind [oz]
end
end Go.Sx
namespace Go.Sx
open Go
section
variable (X:Ctx) (lp:u7)
def o1:List Bool→Code→jr→Env→ah→RC
 | [],_,_,e,h=>some (.ig,e,h)
 | true::p,.seq a b,.sq x y,e,h=>andThen (o1 p b y) (gX X lp a x e h)
 | true::p,.seq a b,.seq live x y,e,h=>andThen (jA live (o1 p b y)) (gX X lp a x e h)
 | false::p,.seq a _,.sq x _,e,h=>o1 p a x e h
 | false::p,.seq a _,.seq _ x _,e,h=>o1 p a x e h
 | false::p,.block _ a,an,e,h=>o1 p a an e h
 | _,_,_,_,_=>none
def behind:List Bool→Code→jr→RC→RC
 | [],_,_,r=>r
 | true::p,.seq _ b,.sq _ y,r=>behind p b y r
 | true::p,.seq _ b,.seq _ _ y,r=>behind p b y r
 | false::p,.seq a b,.sq x y,r=>andThen (gX X lp b y) (behind p a x r)
 | false::p,.seq a b,.seq live x y,r=>andThen (jA live (gX X lp b y)) (behind p a x r)
 | false::p,.block id a,an,r=>atEnd id (behind p a an r)
 | _,_,_,r=>r
end
def pM:List Bool→Code→jr→Code×jr
 | [],c,an=>(c,an)
 | true::p,.seq _ b,.sq _ y=>pM p b y
 | true::p,.seq _ b,.seq _ _ y=>pM p b y
 | false::p,.seq a _,.sq x _=>pM p a x
 | false::p,.seq a _,.seq _ x _=>pM p a x
 | false::p,.block _ a,an=>pM p a an
 | _,c,an=>(c,an)
section
variable {X:Ctx} {lp:u7}
theorem vX {k:Env→ah→RC} {r:RC} {e0:Env} {h0:ah} (h:andThen k r=some (.ig,e0,h0)):∃ e h,r=some (.ig,e,h)∧k e h=some (.ig,e0,h0):=by
 unfold andThen at h
 grind
def ow:Nat→(Env→ah→RC)→Env→ah→RC
 | 0,_,e,h=>some (.ig,e,h)
 | n+1,f,e,h=>match f e h with
   | some (.ig,e,h)=>ow n f e h
   | r=>r
end
def nS (args0:List AV) (v0:AV) (shd:Bool) (args:List AV) (h:ah):R2:=match shd,my (mc 12) args0 args with
 | false,true=>some (v0,h)
 | _,_=>none
theorem vI {P:Program} {C:gP} {F:jf} {Pr:iO} (T:oL P C F Pr) {f n:Nat} {args0:List AV} {v0:AV} {h0:ah} (h:jt C F Pr n false f args0 ah.empty=some (v0,h0)):sh P f (nS args0 v0) where
 call:=by
  intro shd args h1 v h' hc
  unfold nS at hc
  split at hc
  ·rename_i _ ha
   cases hc
   have:=kr (mK 12) _ _ ha
   subst this
   obtain ⟨_,k⟩:=po T n f args0 ah.empty v0 h0 h
   exact nJ T n false f args0 h1 v0 h1 (k h1 (fun b o hb=>by grind [yK]))
  grind
 Bv:=by
  grind [nS]
end Go.Sx
namespace Go.Sx
open Go
section
variable {C:gP} {F:jf} {Pr:iO}
theorem fj.Yz {shd:Bool} {f:Nat} {args:List AV} {h h1 h2:ah} {v1 v2:AV} (a:fj C F Pr shd f args h v1 h1) (b:fj C F Pr shd f args h v2 h2):v1=v2∧h1=h2:=by
 obtain ⟨m,ha⟩:=a
 obtain ⟨n,hb⟩:=b
 have:=(ha (m+n) (by omega)).symm.trans (hb (m+n) (by omega))
 grind
def ux (Pr:iO):Prop:=∀ f p,Pr f=some p→∀ (args:List AV) (h:ah) (v:AV) (h':ah),p false args h=some (v,h')→h'=h∧∀ h2:ah,(∀ b o,h.get b=some o→h2.get b=some o)→p false args h2=some (v,h2)
theorem xu (T:ux Pr) (n:Nat):l3 (jt C F Pr n):=by
 intro f args h v h' hc
 cases n with
 | zero=>cases hc
 | succ n =>
   simp only [jt] at hc
   cases hp:Pr f with
   | some p =>
     rw [hp] at hc
     obtain ⟨k1,k2⟩:=T f p hp _ _ _ _ hc
     grind [jt]
   | none =>
     grind [yH,jt]
open Classical in
noncomputable def res (C:gP) (F:jf) (Pr:iO) (f:Nat) (args:List AV):AV :=
 if H:∃ v,fj C F Pr false f args ah.empty v ah.empty then Classical.choose H else .undef
theorem fj.at (T:ux Pr) {f:Nat} {args:List AV} {v:AV} (h:ah) (hc:fj C F Pr false f args ah.empty v ah.empty):fj C F Pr false f args h v h:=by
 obtain ⟨m,hm⟩:=hc
 refine ⟨m,fun k hk=>(xu T k f args ah.empty v _ (hm k hk)).2 h ?_⟩
 intro b o hb
 have:ah.empty.get b=none:=by
  rfl
 grind
theorem Q2 (T:ux Pr) {f:Nat} {args:List AV} {R:AV→Prop} (w:∀ h:ah,∃ v,fj C F Pr false f args h v h∧R v) {h:ah} {v:AV} (hc:fj C F Pr false f args h v h):res C F Pr f args=v:=by
 obtain ⟨v0,h0,_⟩:=w ah.empty
 have H:∃ v,fj C F Pr false f args ah.empty v ah.empty:=⟨v0,h0⟩
 have e:res C F Pr f args=Classical.choose H:=dif_pos H
 rw [e]
 exact ((Classical.choose_spec H).at T h).Yz hc |>.1
theorem kg (T:ux Pr) {f:Nat} {args:List AV} {R:AV→Prop} (w:∀ h:ah,∃ v,fj C F Pr false f args h v h∧R v) (h:ah):∃ v,fj C F Pr false f args h v h∧R v∧res C F Pr f args=v:=by
 obtain ⟨v,hc,hR⟩:=w h
 exact ⟨v,hc,hR,Q2 T w hc⟩
end
def uX:kq→kq
 | .exact _=>.iy
 | c=>c
mutual
def pR:AV→AV
 | .sl xs c=>.sl (pN xs) (uX c)
 | .agg l=>.agg (pQ l)
 | v=>v
def pQ:List AV→List AV
 | []=>[]
 | v::l=>pR v::pQ l
def pN:List (List AV)→List (List AV)
 | []=>[]
 | x::l=>pQ x::pN l
end
theorem sr:∀ (l:List AV) (i:Nat),(pQ l)[i]?=(l[i]?).map pR
 | [],i=>by rfl
 | v::l,0=>by rfl
 | v::l,i+1=>by simp [pQ,sr l i]
theorem vq:∀ (l:List AV),(pQ l).length=l.length
 | []=>rfl
 | v::l=>by simp [pQ,vq l]
theorem zX:∀ (l:List (List AV)) (i:Nat),(pN l)[i]?=(l[i]?).map pQ
 | [],i=>by rfl
 | v::l,0=>by rfl
 | v::l,i+1=>by simp [pN,zX l i]
theorem s8:∀ (l:List (List AV)),(pN l).length=l.length
 | []=>rfl
 | v::l=>by simp [pN,s8 l]
theorem BP {c:kq} {n m:Nat} (h:lK c n m) (hle:n≤m):lK (uX c) n m:=by
 cases c<;>first | exact h | exact hle
theorem PR.wk {w:World} {T:Bool→Nat→Prop} {m:Bool} {v:AV} {u:Value} (h:PR w T m v u):PR w T m (pR v) u:=by
 induction h with
 | undef m v h=>exact .undef m v h
 | bool m b=>exact .bool m b
 | int m k n=>exact .int m k n
 | str m s b h=>exact .str m s b h
 | ia m=>exact .ia m
 | ip m cells off sn B base c e fr f hm hB hI hc h1 hr=>exact .ip m cells off sn B base c e fr f hm hB hI hc h1 hr
 | slnil m=>exact .slnil m
 | kG m cap a c hm h=>exact .kG m (uX cap) a c (by rw [show mP (uX cap)=mP cap from by cases cap<;>rfl]; exact hm) (BP h (Nat.zero_le _))
 | sl m xs cap B base c e fr cap' esz f hm hB hI hcap hle hz hc h1 hr ih =>
   have hs:mP (uX cap)=mP cap:=by cases cap<;>rfl
   have ex:∀ (i:Nat) (cs:List AV),(pN xs)[i]?=some cs→∃ cs0,xs[i]?=some cs0∧cs=pQ cs0:=by
    grind [zX]
   have ex2:∀ (cs0:List AV) (j:Nat) (x:AV),(pQ cs0)[j]?=some x→∃ x0,cs0[j]?=some x0∧x=pR x0:=by
    grind [sr]
   have key:=PR.sl (w:=w) (T:=T) m (pN xs) (uX cap) B base c e fr cap' esz f (by grind) hB (by grind) (by grind [s8,BP]) (by grind [s8])
    (by grind [vq])
    (by grind)
    (by grind)
    (by grind)
   rw [s8] at key
   exact key
 | g8 m=>exact .g8 m
 | fm m es sn r ents clk hm hB hI hl hy hko hk hv=>exact .fm m es sn r ents clk hm hB hI hl hy hko hk hv
 | jk m=>exact .jk m
 | gL m g a c a' c' ha hc hra hrc=>exact .gL m g a c a' c' ha hc hra hrc
 | agg m l vs hl h1 hr ih =>
   refine .agg m (pQ l) vs (by grind [vq]) h1 ?_
   grind [sr]
theorem Mx {v:AV} (h:v.ir=true):(pR v).ir=true:=by
 cases v<;>first | exact h | (simp [AV.ir] at h)
theorem VR.wk {G:Ga} {v:AV} {u:Value} (h:VR G v u):VR G (pR v) u:=by
 induction h with
 | undef v=>exact .undef v
 | gF hp h=>exact .gF (Mx hp) h.wk
 | ptr b g i o a hb hg h=>exact .ptr b g i o a hb hg h
 | hs b g off len a cap' hb hg hle h=>exact .hs b g off len a cap' hb hg hle h
 | hm b r hb h=>exact .hm b r hb h
 | la d o B hd=>exact .la d o B hd
 | gL g a c a' c' ha hc hna hnc hra hrc=>exact .gL g a c a' c' ha hc hna hnc hra hrc
 | agg l vs hl hn h1 hr ih =>
   refine .agg (pQ l) vs (by grind [vq]) ?_ h1 ?_
   ·intro x hx
    obtain ⟨i,hi⟩:=List.getElem?_of_mem hx
    rw [sr] at hi
    obtain ⟨x0,g1,rfl⟩:=Option.map_eq_some_iff.mp hi
    have:=hn x0 (List.mem_of_getElem? g1)
    cases x0<;>first | exact this | rfl
   grind [sr]
 | fz l vs hl hr=>exact .fz l vs hl hr
open Classical in
noncomputable def pb (C:gP) (F:jf) (Pr:iO) (f:Nat) (shd:Bool) (args:List AV) (h:ah):Option (AV×ah):=match shd with
 | true=>none
 | false=>if H:∃ v,fj C F Pr false f args h v h then some (pR (Classical.choose H),h) else none
theorem sQ {C:gP} {F:jf} {Pr:iO} {f:Nat} {args:List AV} {h:ah} {v:AV} (hc:fj C F Pr false f args h v h):pb C F Pr f false args h=some (pR v,h):=by
 have H:∃ v,fj C F Pr false f args h v h:=⟨v,hc⟩
 have e:pb C F Pr f false args h=some (pR (Classical.choose H),h):=dif_pos H
 rw [e,((Classical.choose_spec H).Yz hc).1]
theorem zx {C:gP} {F:jf} {Pr:iO} (T:ux Pr) (f:Nat):∀ (args:List AV) (h:ah) (v:AV) (h':ah),pb C F Pr f false args h=some (v,h')→h'=h∧∀ h2:ah,(∀ b o,h.get b=some o→h2.get b=some o)→pb C F Pr f false args h2=some (v,h2):=by
 intro args h v h' hc
 by_cases H:∃ v,fj C F Pr false f args h v h
 ·obtain ⟨v0,hv0⟩:=H
  rw [sQ hv0] at hc
  cases hc
  refine ⟨rfl,fun h2 E=>?_⟩
  obtain ⟨m,hm⟩:=hv0
  have:fj C F Pr false f args h2 v0 h2:=⟨m,fun k hk=>(xu T k f args h v0 h (hm k hk)).2 h2 E⟩
  exact sQ this
 grind [pb]
theorem EM (args0:List AV) (v0:AV):∀ (args:List AV) (h:ah) (v:AV) (h':ah),nS args0 v0 false args h=some (v,h')→h'=h∧∀ h2:ah,(∀ b o,h.get b=some o→h2.get b=some o)→nS args0 v0 false args h2=some (v,h2):=by
 grind [nS]
theorem Md {P:Program} {C:gP} {F:jf} {Pr:iO} (T:oL P C F Pr):ux Pr:=fun f p hp=>(T.y3 f p hp).Bv
theorem Be {P:Program} {C:gP} {F:jf} {Pr:iO} (T:oL P C F Pr) (f:Nat):sh P f (pb C F Pr f) where
 call:=by
  intro shd args h v h' hc
  cases shd with
  | true=>cases hc
  | false =>
    by_cases H:∃ v,fj C F Pr false f args h v h
    ·obtain ⟨v0,hv0⟩:=H
     rw [sQ hv0] at hc
     cases hc
     obtain ⟨m,hm⟩:=hv0
     have hk:=nJ T m false f args h v0 h (hm m (Nat.le_refl _))
     intro G args' e1 e2 e3 e4 e5 e6
     obtain ⟨k1,k2⟩:=hk G args' e1 e2 e3 e4 e5 e6
     exact ⟨k1,fun R hR=>k2 R fun u G' s1 s2 s3 s4=>hR u G' s1 s2 s3 fun m L=>(s4 m L).wk⟩
    grind [pb]
 Bv:=zx (Md T) f
theorem FP {n:Nat} {h h':ah} {s v':AV} {ys:List (List AV)} (ha:append n h s ys=some (v',h')) (hs:s≠.sl [] .nil):v'≠.sl [] .nil:=by
 unfold append at ha
 split at ha
 ·grind
 ·split at ha
  ·cases ha
  ·split at ha<;>grind [oF,kN,xJ]
section
variable {C:gP} {F:jf} {Pr:iO} {fa:fA} {e:Env} {α:Type} {enc : α→List AV} {H:ah} {L:List gH} {i:Nat} {w tt:Bool} {v:AV} {n:Nat} {l:List α} {ls:iT}
theorem qB {cl:Call} {s x:Operand} {t u:Nat} {ti:TI} {d:Option Nat} (ys:List α) (hS:Sep H L) (hi:L[i]?=some (.sl w tt v n (l.map enc))) (hc:cl.callee=.builtin .append) (ha:cl.args.toList=[s,x]) (hts:cl.argTypes.toList=[t,u]) (hT:nQ C [t,u]=some ti) (hSr:xU C [t,u]=true) (hn:ti.size=n)
  (hs:fM e s=v) (hx:lx { H with aq:=ls } (fM e x)=some (ys.map enc)) (hok:∀ y,(enc y).all AV.hZ=true) (ht:tt=true∨ys.length=1) (hm:l.length+ys.length≤nv) (henc:∀ x,(enc x).length=n) :
  ∃ v' H',(∀ call,gD (.call cl) ⟨C,fa,call⟩ e { H with aq:=ls } d=some (v',{ H' with aq:=ls }))∧Sep H' (L.set i (.sl w tt v' n ((l++ys).map enc)))∧(v≠.sl [] .nil→v'≠.sl [] .nil):=by
 obtain ⟨v',H',h1,h2⟩:=Af (ls:=ls) (ys:=ys.map enc) hS hi (by grind) (by grind) (by grind)
 refine ⟨v',H',fun call=>?_,by grind,FP h1⟩
 have hall:u2 (ys.map enc)=true:=by
  grind [u2]
 simp only [gD,mS,lZ,hc,ha,hts,j9,vZ,oU,List.map_cons,List.map_nil,hT,hSr,hn,hs,hx,hall,h1]
theorem qD (hS:Sep H L) (hi:L[i]?=some (.sl w tt v n (l.map enc))) (hl:l.length≤ns):∃ r:Row α,r.l=l∧(r.c=.nil↔v=.sl [] .nil)∧∀ ls m,(∀ x,gr (freeze false { H with aq:=ls } m) (enc x)=some (enc x))→freeze false { H with aq:=ls } (m+1) v=some (r.av enc):=by
 obtain ⟨hxl,⟨h0,rfl⟩ | ⟨_,rfl⟩ | ⟨b,g,j,hb,rfl,hg,htj⟩⟩:=hS.at hi
 ·have:l=[]:=List.map_eq_nil_iff.mp h0
  subst this
  exact ⟨⟨[],.nil,Nat.zero_le _,rfl,fun _=>rfl⟩,rfl,⟨fun _=>rfl,fun _=>rfl⟩,fun _ _ _=>rfl⟩
 ·exact ⟨⟨l,.exact (l.map enc).length,hl,rfl,fun h=>by cases h⟩,rfl,⟨fun h=>(by cases h),fun h=>(AV.sl.inj h).2⟩,fun _ _ _=>rfl⟩
 ·refine ⟨⟨l,.iy,hl,rfl,fun h=>by cases h⟩,rfl,⟨fun h=>(by cases h),fun h=>(by cases h)⟩,fun ls m hm=>?_⟩
  have h2:Nat.ble (0+(l.map enc).length) (l.map enc++j).length=true:=Nat.ble_eq.mpr (by simp)
  have h3:((l.map enc++j).drop 0).take (l.map enc).length=l.map enc:=by simp
  have h5:∀ ys:List (List AV),(∀ x∈ys,gr (freeze false { H with aq:=ls } m) x=some x)→jZ (freeze false { H with aq:=ls } m) ys=some ys:=by
   intro ys
   induction ys<;>grind [jZ]
  simp only [freeze,ah.iY,hg,Nat.beq_refl,h2,Bool.and_self,h3,h5 (l.map enc) (by grind),xx]
  rfl
end
theorem fE.vc {α:Type} {r:fE α}:r.isNil=true↔r.c=.nil:=by
 grind [fE.isNil]
theorem FG {X:Ctx} {e:Env} {h:ah} {d:Option Nat} {t u:Nat} {x y:Operand} {ti:TI} {cs:List AV} (hx:fM e x=.agg cs) (hy:fM e y=.agg cs) (hT:X.C.T t=some ti) (hf:rj ti (.agg cs) (.agg cs)=some true) :
  gD (.binOp .eql t x y u) X e h d=some (.bool true,h)∧gD (.binOp .neq t x y u) X e h d=some (.bool false,h):=by
 simp_all [gD,uQ,binOp,AV.int?,AV.str?,uT,iw,pg]
theorem qC {X:Ctx} {e:Env} {h:ah} {d:Option Nat} {t u:Nat} {x y:Operand} {ti:TI} {cs:List AV} (hx:fM e x=.agg cs) (hy:fM e y=.agg cs) (hT:X.C.T t=some ti) (hf:rj ti (.agg cs) (.agg cs)=jx cs cs) (hs:jx cs cs=some true):gD (.binOp .neq t x y u) X e h d=some (.bool false,h):=(FG hx hy hT (hf.trans hs)).2
theorem rW.trans {α:Type} {a b c:Row α} (h:rW a b) (g:rW b c):rW a c:=⟨h.1.trans g.1,h.2.trans g.2⟩
theorem pd.trans {a b c:fY} (h:pd a b) (g:pd b c):pd a c:=⟨h.1.trans g.1,h.2.trans g.2⟩
theorem FK {l m:List fY} (h:∀ (i:Nat) (h:i<l.length) (h2:i<m.length),pd l[i] m[i]) {k:Nat} {x x':fY} (hk:k<l.length) (hq:l[k]=x) (hx:pd x' x) :
  ∀ (i:Nat) (h:i<(l.set k x').length) (h2:i<m.length),pd (l.set k x')[i] m[i]:=by
 intro i hi h2
 rw [List.getElem_set]
 split
 ·rename_i e
  subst e
  exact hx.trans (by grind)
 grind
def CF (r p:fh):Prop:=rW r.elems p.elems∧rW r.fQ p.fQ∧rW r.signals p.signals∧(r.lines.c=.nil↔p.lines.c=.nil)∧r.lines.l.length=p.lines.l.length∧(∀ (i:Nat) (h:i<r.lines.l.length) (h2:i<p.lines.l.length),pd r.lines.l[i] p.lines.l[i])∧r.top=p.top∧r.gE=p.gE∧r.gv=p.gv∧r.gz=p.gz∧r.gO=p.gO
theorem E5 {α:Type} {r s:Row α} (h:r.c=.nil↔s.c=.nil):uX r.c=ya s.c:=by
 have h1:=r.sn
 cases hr:r.c<;>cases hs:s.c<;>simp_all [uX,ya,m5]
theorem AA {α:Type} {enc : α→List AV} (h:∀ x : α,pQ (enc x)=enc x):∀ l:List α,pN (l.map enc)=l.map enc
 | []=>rfl
 | x::l=>by simp only [List.map_cons,pN,h,AA h l]
theorem wV {α:Type} {enc : α→List AV} {r s:Row α} (h:rW r s) (he:∀ x : α,pQ (enc x)=enc x):pR (r.av enc)=s.canon.av enc:=by
 simp only [Row.av,pR,Row.canon,AA he,h.1,E5 h.2]
theorem xD:∀ {l m:List fY},l.length=m.length→(∀ (i:Nat) (h:i<l.length) (h2:i<m.length),pd l[i] m[i])→pN (l.map fY.cells)=(m.map fY.canon).map fY.cells
 | [],[],_,_=>rfl
 | [],_::_,h,_=>by simp at h
 | _::_,[],h,_=>by simp at h
 | x::l,y::m,hl,h=>by
   obtain ⟨h1,h2⟩:=h 0 (by simp) (by simp)
   simp only [List.getElem_cons_zero] at h1 h2
   have ih:=xD (l:=l) (m:=m) (by simpa using hl) fun i h3 h4=>by
    have:=h (i+1) (by simpa using h3) (by simpa using h4)
    simpa using this
   simp only [List.map_cons,pN,ih]
   congr 1
   simp only [fY.cells,fY.canon,pQ,wV h2 (enc:=fu) (fun x=>rfl),h1]
   rfl
theorem BC {r p:fh} (h:CF r p):pR (.agg r.cells)=.agg p.canon.cells:=by
 obtain ⟨h1,h2,h3,h4,h5,h6,h7,h8,h9,h10,h11⟩:=h
 have hl:pR (r.lines.av fY.cells)=(p.lines.xL fY.canon).canon.av fY.cells:=by
  simp only [Row.av,pR,xD h5 h6,Row.canon,Row.xL,E5 h4]
 simp only [fh.cells,pR,pQ,fh.canon,wV h1 (enc:=gf.cells) (fun x=>rfl),wV h2 (enc:=gj.cells) (fun x=>rfl),wV h3 (enc:=gg.cells) (fun x=>rfl),hl,h7,h8,h9,h10,h11]
theorem D9 {C:gP} {F:jf} {Pr Pr2:iO} {f:Nat} {args:List AV} {h:ah} {v:AV} (hp:Pr2 f=some (pb C F Pr f)) (hc:fj C F Pr false f args h v h):fj C F Pr2 false f args h (pR v) h:=by
 refine ⟨1,fun k hk=>?_⟩
 cases k<;>grind [jt,sQ]
def JO:AV→Bool
 | .int _ _ | .str _ | .bool _=>true
 | _=>false
theorem oa:∀ {cs:List AV},cs.all JO=true→jx cs cs=some true
 | [],_=>rfl
 | c::cs,h=>by
   simp only [List.all_cons,Bool.and_eq_true] at h
   have hc:jO c c=some true:=by
    cases c with
    | int k n =>
      show (match ma k k with | true=>some (Ae n n) | false=>none)=some true
      rw [(nf k k).mpr rfl]
      simp [m3]
    | str s =>
      show some (s==s)=some true
      simp
    | bool b=>cases b<;>rfl
    | _=>simp [JO] at h
   simp only [jx,hc,oa h.2]
section
variable {amb:Bool} {A:Int→Option bY} {N:bY→Option bY} {K:Int→Int} {R:bY→Int} {d:gp} {run leg:Int}
theorem E3 (hz:0≤oz amb A N K R d run leg):0≤run∧run<(d.runs.l.length:Int)∧0≤leg∧∀ h:run.toNat<d.runs.l.length,leg<((d.runs.l[run.toNat]).gW.l.length:Int):=by
 by_cases h0:run<0∨run≥d.runs.l.length
 ·grind [qj,tA]
 ·have hx:run.toNat<d.runs.l.length:=by omega
  by_cases h1:leg<0∨leg > (d.runs.l[run.toNat]).gW.l.length<;>grind [qj,s5,oz]
theorem C6 {r:Int} (h:r=oz amb A N K R d run leg):(0≤r→0≤run∧run<(d.runs.l.length:Int)∧0≤leg∧∀ h:run.toNat<d.runs.l.length,leg<((d.runs.l[run.toNat]).gW.l.length:Int))∧r=oz amb A N K R d run leg:=⟨fun hz=>E3 (h▸hz),h⟩
end
def kR (p:fh) (t:List bY):List Int:=(t.filter fun h=>mV p h.elem≠4).map (·.elem)
theorem BH {α β:Type} {l:List α} {k:Nat} {x : α} (hk:k<l.length) (hq:l[k]=x) (p : α→Bool) (f : α→β):((l.take (k+1)).filter p).map f=((l.take k).filter p).map f++if p x then [f x] else []:=by
 rw [List.take_add_one,List.getElem?_eq_getElem hk,hq]
 grind
theorem Hy {p:fh} {t:List bY} {l:List Int} {k:Nat} {x:bY} {n:Int} (hk:k<t.length) (hq:t[k]=x) (h:l=kR p (t.take k)) (hK:n=mV p x.elem) (hn:n≠4):l++[x.elem]=kR p (t.take (k+1)):=by
 subst hK
 unfold kR at h ⊢
 rw [BH hk hq,← h,if_pos (by grind)]
theorem L6 {p:fh} {t:List bY} {l:List Int} {k:Nat} {x:bY} {n:Int} (hk:k<t.length) (hq:t[k]=x) (h:l=kR p (t.take k)) (hK:n=mV p x.elem) (hn:¬ n≠4):l=kR p (t.take (k+1)):=by
 subst hK
 unfold kR at h ⊢
 rw [BH hk hq,← h,if_neg (by grind),List.append_nil]
theorem GH (p:fh) (t:List bY):(kR p t).length≤t.length:=by
 grind [kR]
theorem N4 {X:Ctx} {e:Env} {h:ah} {d:Option Nat} {s t:Nat} {x:Operand} {ti ti2:TI} {n:Int} (hx:fM e x=.int .i64 n) (hS:X.C.T s=some ti) (hT:X.C.T t=some ti2) (hk:ti2.kind=.int .u64) (h0:0≤n) (h1:n≤9223372036854775807):gD (.convert s t x) X e h d=some (.int .u64 n,h):=by
 have hw:oj .u64 n=n:=by
  rw [nW]
  show (if (false&&decide (n % (2 ^ 64:Int)≥(2 ^ 63:Int)))=true then n % (2 ^ 64:Int) - (2 ^ 64:Int) else n % (2 ^ 64:Int))=n
  grind
 simp_all [gD,sW,qR,AV.int?,qi,lH,iw]
theorem Gf {l:List gK} {k:Nat} {x:gK} {hk:k<l.length} (hq:l[k]=x) (h:∀ (i j:Nat) (h:j<l.length) (hij:i<j),j<k→(l[i]).name.l≠(l[j]).name.l) (hx:∀ y∈l.take k,¬ y.name.l=x.name.l) :
  ∀ (i j:Nat) (h:j<l.length) (hij:i<j),j<k+1→(l[i]).name.l≠(l[j]).name.l:=by
 intro i j hj hij h2
 rcases Nat.lt_succ_iff_lt_or_eq.mp h2 with h3 | h3
 ·grind
 ·subst h3
  rw [hq]
  exact hx _ (List.mem_take_iff_getElem.mpr ⟨i,by omega,rfl⟩)
theorem F2 {α:Type} {P : α→Prop} {l:List α} {k:Nat} (h:∀ (i:Nat) (h:i<l.length),i<k→P (l[i])) (hk:l.length≤k):∀ x∈l,P x:=by
 intro x hx
 obtain ⟨i,hi,rfl⟩:=List.mem_iff_getElem.mp hx
 grind
def iM (p:fh) (d:gp) (i:Nat):fX:=match d.runs.l[i]? with
 | none=>⟨⟨[],by decide⟩,0,⟨0,0⟩,0⟩
 | some r =>
   let a:=(oT p.signals.l r.from_).getD ⟨0,0⟩
   ⟨r.name,r.fV,a,if mV p a.elem=4 then 0 else r.left⟩
theorem EN {p:fh} {d:gp} {i:Int} {r:gK} {a:bY} {m:Int} (hi:i.toNat<d.runs.l.length) (hq:d.runs.l[i.toNat]=r) (ha:a=(oT p.signals.l r.from_).getD ⟨0,0⟩) (hm:m=if mV p a.elem=4 then 0 else r.left):(⟨r.name,r.fV,a,m⟩:fX)=iM p d i.toNat:=by
 grind [iM]
structure Tk (L:Nat→List Int) (k:Nat) (m:List (Int×Bool)) (e:Int):Prop where
 look:∀ i,i<k→∀ x∈L i,look x m=some true
 val:∀ y∈m,y.2=true
 On:e=0→∀ i j,i<j→j<k→∀ x∈L i,x∉L j
structure ri (L:Nat→List Int) (k:Nat) (r:List Int) (m:List (Int×Bool)) (e:Int):Prop where
 tk:Tk L k m e
 El:∀ x∈r,Go.Sx.look x m=some true
 RP:e=0→∀ i,i<k→∀ x∈L i,x∉r
theorem Tk.zero (L:Nat→List Int):Tk L 0 [] 0:=⟨fun i h=>by omega,by simp,fun _ i j h1 h2=>by omega⟩
theorem Tk.start {L:Nat→List Int} {k:Nat} {m:List (Int×Bool)} {e:Int} (h:Tk L k m e) (r:List Int):ri L k (r.take 0) m e:=⟨h,by simp,fun _ _ _ _ _=>by simp⟩
theorem oh {α:Type} {r:List α} {j:Nat} {x : α} (hj:j<r.length) (hq:r[j]=x):r.take (j+1)=r.take j++[x]:=by
 rw [List.take_add_one,List.getElem?_eq_getElem hj,hq]; rfl
theorem qY {m:List (Int×Bool)} {x y:Int} (h:look y m=some true):look y (put x true m)=some true:=by
 grind [o3]
theorem ri.Rx {L:Nat→List Int} {k:Nat} {r:List Int} {m:List (Int×Bool)} {e e':Int} {j:Nat} {x:Int} (h:ri L k (r.take j) m e) (hj:j<r.length) (hq:r[j]=x) (he:e'≠0):ri L k (r.take (j+1)) (put x true m) e':=by
 refine ⟨⟨fun i hi y hy=>qY (h.tk.look i hi y hy),qu (P:=fun y:Bool=>y=true) h.tk.val rfl,fun h0=>absurd h0 he⟩,?_,fun h0=>absurd h0 he⟩
 rw [oh hj hq]
 intro y hy
 rcases List.mem_append.mp hy with hy | hy
 ·exact qY (h.El y hy)
 grind [o3]
theorem ri.Zx {L:Nat→List Int} {k:Nat} {r:List Int} {m:List (Int×Bool)} {e:Int} {j:Nat} {x:Int} (h:ri L k (r.take j) m e) (hj:j<r.length) (hq:r[j]=x) (hn:look x m=none):ri L k (r.take (j+1)) (put x true m) e:=by
 refine ⟨⟨fun i hi y hy=>qY (h.tk.look i hi y hy),qu (P:=fun y:Bool=>y=true) h.tk.val rfl,h.tk.On⟩,?_,?_⟩
 ·rw [oh hj hq]
  intro y hy
  rcases List.mem_append.mp hy with hy | hy
  ·exact qY (h.El y hy)
  grind [o3]
 ·intro h0 i hi y hy hm
  rw [oh hj hq] at hm
  rcases List.mem_append.mp hm with hm | hm
  ·exact h.RP h0 i hi y hy hm
  ·simp at hm; subst hm
   rw [h.tk.look i hi y hy] at hn; cases hn
theorem ri.done {L:Nat→List Int} {k:Nat} {r:List Int} {m:List (Int×Bool)} {e:Int} {j:Nat} (h:ri L k (r.take j) m e) (hj:r.length≤j) (hr:r=L k):Tk L (k+1) m e:=by
 rw [List.take_of_length_le hj,hr] at h
 refine ⟨fun i hi x hx=>?_,h.tk.val,fun h0 i j2 hij hj2 x hx=>?_⟩
 ·rcases Nat.lt_succ_iff_lt_or_eq.mp hi with h1 | h1
  ·exact h.tk.look i h1 x hx
  ·subst h1; exact h.El x hx
 ·rcases Nat.lt_succ_iff_lt_or_eq.mp hj2 with h1 | h1
  ·exact h.tk.On h0 i j2 hij h1 x hx
  ·subst h1; exact h.RP h0 i hij x hx
def rZ (d:gp) (i:Nat):Int:=match d.runs.l[i]? with
 | none=>0
 | some r=>match d.fV.l[r.fV.toNat]? with
   | none=>0
   | some s=>s.len
theorem Bu {d:gp} {k:Nat} {x:gK} {y:fK} (hk:k<d.runs.l.length) (hq:d.runs.l[k]=x) (hs:x.fV.toNat<d.fV.l.length) (hqs:d.fV.l[x.fV.toNat]=y):y.len=rZ d k:=by
 grind [rZ]
theorem ML {Q:Nat→Prop} {k:Nat} (h:∀ i,i<k→Q i) (hk:Q k):∀ i,i<k+1→Q i:=by
 grind
theorem stQ {f:List AV→AV} {n:AV} {p:fh} {d:gp} {k:Nat} {len e:Int} {t:fX} {b:fJ} (hs:f [n,.int .i64 len,.agg t.cells]=.fz [.agg b.cells,.int .i64 e]) (hl:len=rZ d k) (ht:t=iM p d k) (he:¬ e≠0):∃ b:fJ,f [n,.int .i64 (rZ d k),.agg (iM p d k).cells]=.fz [.agg b.cells,.int .i64 0]:=by
 grind
structure fZ where
 state:Int
 front:Int
 off:Bool
 seen:Row Bool
def fZ.cells (x:fZ):List AV:=[.int .i64 x.state,.int .i64 x.front,.bool x.off,x.seen.av mw]
theorem Sep.Dl {H:ah} {L:List gH} {n k:Nat} {α:Type} {enc : α→List AV} {z : α} {w t:Bool} {v:AV} {c:List AV} (h:Sep H (.sl w t v n (List.replicate k c)::L)) (hz:c=enc z):Sep H (.sl w t v n (List.map enc (List.replicate k z))::L):=by
 simp_all
def pU (cs:List AV):Prop:=∀ c∈cs,∀ (hp:ah) (n:Nat),freeze false hp (n+2) c=some c
theorem pU.frz {cs:List AV} (h:pU cs) (hp:ah) (n:Nat):gr (freeze false hp (n+2)) cs=some cs:=by
 induction cs with
 | nil=>rfl
 | cons c cs ih =>
   simp only [gr,h c (by simp) hp n,ih fun x hx=>h x (by simp [hx])]
theorem FO {cs new:List AV} {o:Nat} (h:o+new.length≤cs.length):∃ cs',kp cs o new=some cs'∧cs'.length=cs.length∧(pU cs→pU new→pU cs'):=by
 refine ⟨cs.take o++new++cs.drop (o+new.length),?_,?_,?_⟩
 ·simp [kp,Nat.ble_eq.mpr h,mb]
 ·grind
 ·intro h1 h2 c hc
  rcases List.mem_append.mp hc with hc | hc
  ·rcases List.mem_append.mp hc with hc | hc
   ·exact h1 c (List.mem_of_mem_take hc)
   ·exact h2 c hc
  ·exact h1 c (List.mem_of_mem_drop hc)
theorem NR {H:ah} {L:List gH} {i:Nat} {v:AV} {cs:List AV} {t el n k o:Nat} {x y:Operand} {X:Ctx} {e:Env} {d:Option Nat} {ti te:TI} {h:ah} (hS:Sep H L) (hi:L[i]?=some (.obj v cs)) (hT:X.C.T t=some ti) (hk:ti.kind=.array n el) (hE:X.C.T el=some te) (hx:fM e x=kA v o) (hy:fM e y=.int .i64 (k:Int)) (hn:k<n) :
  gD (.indexAddr t x y) X e h d=some (kA v (o+k*te.size),h):=by
 obtain ⟨b,z,hb,rfl,hg⟩:=hS.at hi
 have hai:mC (.int .i64 (k:Int))=some k:=rfl
 have hlt:Nat.blt k n=true:=by simp_all
 simp only [gD,mD,lN,hT,hk,hE,hx,hy,hai,hlt,kA,wg,xH,kN,iw]
def Yy:AV→Bool
 | .int _ _ | .bool _ | .ip _ _ false=>true
 | _=>false
theorem pU.of {cs:List AV} (h:cs.all Yy=true):pU cs:=by
 intro c hc hp n
 have:=List.all_eq_true.mp h c hc
 unfold Yy at this
 grind [freeze]
theorem Ds {l:List fX} {k:Nat} {x:fX} (h2:∀ (i j:Nat) (h:j<l.length) (hij:i<j),(l[i]).name.l≠(l[j]).name.l) (hk:k<l.length) (hq:l[k]=x) (h:∃ y∈l.take k,y.name.l=x.name.l):False:=by
 obtain ⟨y,hy,he⟩:=h
 obtain ⟨i,hi,rfl⟩:=List.mem_take_iff_getElem.mp hy
 grind
def LT (tr:List fX) (p:fh) (i:Nat):List Int:=match tr[i]? with
 | none=>[]
 | some t=>kR p [t.at_]
theorem TH {l:List fJ} {tr:List fX} {k:Nat} {b:fJ} {x:fX} (h:∀ (i:Nat) (h:i<l.length) (h2:i<tr.length),(l[i]).gT.l=[(tr[i]).at_]) (hl:l.length=k) (hk:k<tr.length) (hq:tr[k]=x) (hb:b.gT.l=[x.at_]) :
  ∀ (i:Nat) (h:i<(l++[b]).length) (h2:i<tr.length),((l++[b])[i]).gT.l=[(tr[i]).at_]:=by
 grind
theorem Kr {l:List fJ} {tr:List fX} {p:fh} {k:Nat} {x:fJ} {r:List Int} (h:∀ (i:Nat) (h:i<l.length) (h2:i<tr.length),(l[i]).gT.l=[(tr[i]).at_]) {hk:k<l.length} (hq:l[k]=x) (h2:k<tr.length) (hr:r=kR p x.gT.l):r=LT tr p k:=by
 grind [LT]
def Mt (L:Nat→List Int) (k:Nat) (r:List Int) (m:List Bool):Prop:=∀ (x:Nat) (h:x<m.length),m[x]=true→(∃ i,i<k∧(x:Int)∈L i)∨(x:Int)∈r
theorem Mt.zero (L:Nat→List Int) (n:Nat):Mt L 0 [] (List.replicate n false):=by
 intro x h hx
 simp at hx
theorem Mt.set {L:Nat→List Int} {k j:Nat} {r:List Int} {m:List Bool} {x:Int} (h:Mt L k (r.take j) m) (hj:j<r.length) (hq:r[j]=x) (h0:0≤x):Mt L k (r.take (j+1)) (m.set x.toNat true):=by
 intro y hy ht
 rw [List.getElem_set] at ht
 rw [oh hj hq]
 split at ht
 ·grind
 ·rcases h y (by simpa using hy) ht with h1 | h1<;>grind
theorem Mt.done {L:Nat→List Int} {k j:Nat} {r:List Int} {m:List Bool} (h:Mt L k (r.take j) m) (hj:r.length≤j) (hr:r=L k):Mt L (k+1) [] m:=by
 intro y hy ht
 rw [List.take_of_length_le hj] at h
 rcases h y hy ht with ⟨i,hi,h1⟩ | h1<;>grind
theorem Mt.dead {L:Nat→List Int} {k j:Nat} {r:List Int} {m:List Bool} {x:Int} (h:Mt L k (r.take j) m) (hj:j<r.length) (hq:r[j]=x) (hr:r=L k) (h1:r.length≤1) (h4:∀ i,i<k→∀ y∈L i,y∉L k) (h0:0≤x) {hm:x.toNat<m.length} {z:Bool} (hz:m[x.toNat]=z) (ht:z=true):False:=by
 subst ht
 have ht:=hz
 have:j=0:=by omega
 subst this
 have hxm:x∈r:=by grind
 have hx:((x.toNat:Nat):Int)=x:=Int.toNat_of_nonneg h0
 rcases h x.toNat hm ht with ⟨i,hi,hmem⟩ | hmem<;>grind
theorem RK (tr:List fX) (p:fh) (k:Nat):(LT tr p k).length≤1:=by
 grind [LT,GH]
theorem EB {l:List fJ} {tr:List fX} (h:∀ (i:Nat) (h:i<l.length) (h2:i<tr.length),(l[i]).gT.l=[(tr[i]).at_]) (hl:l.length≤tr.length):∀ x∈l,x.gT.l.length≤1000:=by
 intro x hx
 obtain ⟨i,hi,rfl⟩:=List.mem_iff_getElem.mp hx
 grind
theorem NS {l:List fJ} {tr:List fX} {k:Nat} {x:fJ} (h:∀ (i:Nat) (h:i<l.length) (h2:i<tr.length),(l[i]).gT.l=[(tr[i]).at_]) {hk:k<l.length} (hq:l[k]=x) (h2:k<tr.length):x.gT.l.length≤1:=by
 grind
def pa (tr:List fX) (ks sl:List fK) (k:Nat):Prop:=sl.length=k∧∀ (i:Nat) (x:fX) (y:fK),tr[i]?=some x→sl[i]?=some y→ks[x.fV.toNat]?=some y
theorem pa.zero (tr:List fX) (ks:List fK):pa tr ks [] 0:=⟨rfl,fun i x y _ h=>by simp at h⟩
theorem pa.snoc {tr:List fX} {ks sl:List fK} {k:Nat} {x:fX} {y:fK} (h:pa tr ks sl k) {hk:k<tr.length} (hq:tr[k]=x) {hs:x.fV.toNat<ks.length} (hy:ks[x.fV.toNat]=y):pa tr ks (sl++[y]) (k+1):=by
 refine ⟨by simp [h.1],fun i a b ha hb=>?_⟩
 rcases Nat.lt_or_ge i sl.length with h3 | h3
 ·rw [List.getElem?_append_left h3] at hb; exact h.2 i a b ha hb
 ·have hi:i=k:=by
   have:=(List.getElem?_eq_some_iff.mp hb).1
   simp at this; have:=h.1; omega
  grind
end Go.Sx
namespace Go.Sx
open Go
theorem Sep.perm {H:ah} {L L':List gH} (h:Sep H L) (hp:L.Perm L'):Sep H L' :=
 ⟨h.lo,fun r hr=>h.ok r (hp.mem_iff.mpr hr),(hp.pairwise_iff (fun {a b} (hab:sg a.v b.v)=>hab.symm)).mp h.uA⟩
structure jD where
 b:Nat
def jD.cells (x:jD):List AV:=[.ptr x.b 0 0 0]
structure ic where
 b:Nat
 run:Int
 lg:Row iZ
 dn:Int
 tb:AV
 lb:List fJ
 tr:AV
 lr:List Int
 ts:AV
 ls:List (Row Int)
 tz:AV
 lz:List (Row Int)
def ic.oR (p:ic):List gH:=[.obj (.ptr p.b 0 0 0) [.int .i64 p.run,.int .i64 0,.int .i64 (-1),p.lg.av iZ.cells,p.tb,p.tr,p.ts,p.tz,.int .i64 p.dn],.sl true true p.tb 5 (p.lb.map fJ.cells),.sl true true p.tr 1 (p.lr.map fu),.sl true true p.ts 1 (p.ls.map (g6 fu)),.sl true true p.tz 1 (p.lz.map (g6 fu))]
def ic.ptr (p:ic):jD:=⟨p.b⟩
def gQ (ps:List ic):List gH:=ps.flatMap ic.oR
theorem gQ.split {ps:List ic} {k:Nat} {x:ic} (hk:k<ps.length) (hq:ps[k]=x):gQ ps=gQ (ps.take k)++(x.oR++gQ (ps.drop (k+1))):=by
 unfold gQ
 conv=>lhs; rw [← List.take_append_drop k ps,List.drop_eq_getElem_cons hk,hq]
 simp
theorem gQ.set {ps:List ic} {k:Nat} {y:ic} (hk:k<ps.length):gQ (ps.set k y)=gQ (ps.take k)++(y.oR++gQ (ps.drop (k+1))):=by
 rw [gQ.split (ps:=ps.set k y) (k:=k) (x:=y) (by grind) (by simp)]
 rw [List.take_set_of_le (Nat.le_refl _),List.drop_set_of_lt (by omega)]
theorem sY {A B:gH} {P X Q F:List gH}:(A::B::(P++(X++Q)++F)).Perm (X++(A::B::(P++Q++F))):=by
 have h1:(A::B::(P++(X++Q)++F))=[A,B]++P++(X++(Q++F)):=by simp
 have h2:(X++(A::B::(P++Q++F)))=X++(([A,B]++P)++(Q++F)):=by simp
 rw [h1,h2]
 exact (List.perm_append_comm_assoc _ _ _)
theorem gQ.focus {H:ah} {A B:gH} {F:List gH} {ps:List ic} {k:Nat} {x:ic} (h:Sep H (A::B::(gQ ps++F))) (hk:k<ps.length) (hq:ps[k]=x):Sep H (x.oR++(A::B::(gQ (ps.take k)++gQ (ps.drop (k+1))++F))):=by
 rw [gQ.split hk hq] at h
 exact h.perm sY
theorem gQ.close {H:ah} {A B:gH} {F:List gH} {ps:List ic} {k:Nat} {y:ic} (h:Sep H (y.oR++(A::B::(gQ (ps.take k)++gQ (ps.drop (k+1))++F)))) (hk:k<ps.length):Sep H (A::B::(gQ (ps.set k y)++F)):=by
 rw [gQ.set hk]
 exact h.perm sY.symm
theorem Sep.yY {H:ah} {L:List gH} (h:Sep H L):Sep H (.sl true true (.sl [] .nil) 9 []::.sl true true (.sl [] .nil) 5 []::.sl true true (.sl [] .nil) 1 []::.sl true true (.sl [] .nil) 1 []::.sl true true (.sl [] .nil) 1 []::L) :=
 Sep.iF (Sep.iF (Sep.iF (Sep.iF (Sep.iF h 1) 1) 1) 5) 9
theorem Al {ps:List ic} {ql:List jD} {k:Nat} {x:ic} {y:jD} (h:ps.map ic.ptr=ql) {hk:k<ps.length} (hq:ps[k]=x) {hk2:k<ql.length} (hy:ql[k]=y):y.b=x.b:=by
 grind [ic.ptr]
theorem mM {ps:List ic} {ql:List jD} {k:Nat} {x y:ic} (h:ps.map ic.ptr=ql) {hk:k<ps.length} (hq:ps[k]=x) (hb:y.b=x.b):(ps.set k y).map ic.ptr=ql:=by
 subst h
 rw [List.map_set]
 apply List.ext_getElem (by simp)
 grind [ic.ptr]
def ic.le (p:ic) (m:Nat):Prop:=p.lb.length≤m∧p.lr.length≤m∧p.ls.length≤m∧p.lz.length≤m
theorem ic.le.mono {p:ic} (h:p.le 0):p.le 1:=by
 obtain ⟨h1,h2,h3,h4⟩:=h
 exact ⟨by omega,by omega,by omega,by omega⟩
theorem oo {ps:List ic} {k m:Nat} {y:ic} (h:∀ p∈ps,p.le m) (hy:y.le m):∀ p∈ps.set k y,p.le m:=by
 grind
theorem GG {ps:List ic} {k:Nat} {y:ic} (h:∀ (i:Nat) (h:i<ps.length),(ps[i]).le 1∧(k≤i→(ps[i]).le 0)) (hk:k<ps.length) (hy:y.le 1):∀ (i:Nat) (h:i<(ps.set k y).length),((ps.set k y)[i]).le 1∧(k+1≤i→((ps.set k y)[i]).le 0):=by
 grind
end Go.Sx
namespace Go.Sx
open Go
def kH (P:Program) (N:Nat) (G0:Ga) (c:Code) (e:Env) (h:ah) (x:Ex) (e':Env) (h':ah):Prop :=
 ∀ (G:Ga) (a:Act) (Q:Exit→Act→World→Prop),G.h=h→St N G0 G e a→(∀ G' a',G'.h=h'→St N G0 G' e' a'→Q (wj x) a' G'.w)→c.wp P Q a G.w
def wG:Tr jd→(Nat→Nat)→ah→Bool
 | .leaf,_,_=>true
 | .node l v r,f,h=>(match v with
   | some (.fW g z xs)=>match h.get (f 0) with
     | some (.fW g' z' xs')=>Nat.beq g g'&&Nat.beq z z'&&my (my (mc 12)) xs xs'
     | _=>false
   | some (.map es c)=>match h.get (f 0) with
     | some (.map es' c')=>Nat.beq c c'&&my (fun p q=>mc 12 p.1 q.1&&mc 12 p.2.1 q.2.1&&Nat.beq p.2.2 q.2.2) es es'
     | _=>false
   | none=>true)&&wG l (fun n=>f (2*n+1)) h&&wG r (fun n=>f (2*n+2)) h
def xO (h2 h1:ah):Bool:=Nat.beq h2.size h1.size&&Nat.beq h2.lo h1.lo&&Nat.beq h2.lo 0&&my (fun p q=>Nat.beq p.1 q.1&&my (mc 12) p.2 q.2) h2.aq h1.aq&&wG h2.tr id h1
structure Sub (h2 h1:ah):Prop where
 size:h2.size=h1.size
 lo:h2.lo=h1.lo
 aq:h2.aq=h1.aq
 get:∀ b o,h2.get b=some o→h1.get b=some o
theorem uj:∀ (t:Tr jd) (f:Nat→Nat) (h:ah),wG t f h=true→∀ (n:Nat) (o:jd),t.get n=some o→h.get (f n)=some o
 | .leaf,_,_,_,n,o,h=>by simp [Tr.get] at h
 | .node l v r,f,h,ha,n,o,hg=>by
   simp only [wG,Bool.and_eq_true] at ha
   obtain ⟨⟨h1,h2⟩,h3⟩:=ha
   cases n with
   | zero =>
     simp only [Tr.get] at hg
     subst hg
     cases o with
     | fW g z xs =>
       simp only at h1
       split at h1
       ·rename_i g' z' xs' hget
        simp only [Bool.and_eq_true] at h1
        rw [hget,Nat.eq_of_beq_eq_true h1.1.1,Nat.eq_of_beq_eq_true h1.1.2,kr (fun _ _=>kr (mK 12) _ _) _ _ h1.2]
       ·cases h1
     | map es c =>
       simp only at h1
       split at h1
       ·rename_i es' c' hget
        simp only [Bool.and_eq_true] at h1
        have:es=es':=kr (fun p q hpq=>by
         simp only [Bool.and_eq_true] at hpq
         exact Prod.ext (mK 12 _ _ hpq.1.1) (Prod.ext (mK 12 _ _ hpq.1.2) (Nat.eq_of_beq_eq_true hpq.2))) _ _ h1.2
        rw [hget,Nat.eq_of_beq_eq_true h1.1,this]
       ·cases h1
   | succ m =>
     simp only [Tr.get] at hg
     split at hg
     ·rename_i hm
      have hm:=Nat.eq_of_beq_eq_true hm
      have:=uj l _ h h2 (m / 2) o hg
      rw [show 2*(m / 2)+1=m+1 by omega] at this
      exact this
     ·rename_i hm
      have hm:m % 2≠0:=Nat.ne_of_beq_eq_false hm
      have:=uj r _ h h3 (m / 2) o hg
      rw [show 2*(m / 2)+2=m+1 by omega] at this
      exact this
theorem DT {h2 h1:ah} (h:xO h2 h1=true):Sub h2 h1:=by
 simp only [xO,Bool.and_eq_true] at h
 obtain ⟨⟨⟨⟨a1,a2⟩,a3⟩,a4⟩,a5⟩:=h
 refine ⟨Nat.eq_of_beq_eq_true a1,Nat.eq_of_beq_eq_true a2,kr (fun p q hpq=>by
  simp only [Bool.and_eq_true] at hpq
  exact Prod.ext (Nat.eq_of_beq_eq_true hpq.1) (kr (mK 12) _ _ hpq.2)) _ _ a4,?_⟩
 grind [ah.get,uj]
section
variable {P:Program} {X:Ctx} {N:Nat} {G0:Ga}
theorem St.drop {G:Ga} {e:Env} {a:Act} {h2:ah} (hS:St N G0 G e a) (hs:Sub h2 G.h) (h0:G0.h.size=0):St N G0 ⟨G.w,G.T,h2,G.pi,G.L⟩ e a:=by
 have E:Ext G ⟨G.w,G.T,h2,G.pi,G.L⟩:=⟨fun _ _ h=>h,fun _ _ _=>rfl,by rw [hs.size]; omega,fun b _ g z xs h=>⟨g,z,xs,hs.get b _ h,Nat.le_refl _,fun _=>⟨rfl,fun _ h=>h⟩⟩,fun b _ es c h=>⟨es,c,hs.get b _ h,fun _ h=>h⟩,fun _ _ h=>h⟩
 refine ⟨⟨?_,hS.fr.L⟩,?_,hS.er.mono E,hS.df,hS.sz⟩
 ·have S:=hS.fr.S
  refine ⟨⟨S.ext.T,S.ext.fi,by omega,fun b hb=>by omega,fun b hb=>by omega,S.ext.aq⟩,S.os,S.output,S.tape,S.iX,S.frame,S.kn,S.kZ,S.oI,?_,fun b hb=>by omega,S.nz,S.ou,S.oW⟩
  exact hs.lo.trans S.lo
 ·have W:=hS.wr
  refine ⟨fun b l g z xs hp hg=>(W.fW b l g z xs hp (hs.get b _ hg)).mono E rfl,fun b l es c hp hg=>(W.map b l es c hp (hs.get b _ hg)).mono E rfl,?_,?_,W.kC,W.nX,W.mv,W.LT,W.mY,?_,W.lu,?_,?_⟩
  ·intro d B cs hd hcs
   have hcs:gR h2.aq d=some cs:=hcs
   rw [hs.aq] at hcs
   exact (W.loc d B cs hd hcs).mono E rfl
  ·intro b l h
   refine ⟨(W.iV b l h).1,?_⟩
   show b<h2.size
   rw [hs.size]; exact (W.iV b l h).2
  ·intro d B h
   refine ⟨(W.j4 d B h).1,?_⟩
   show (gR h2.aq d).isSome=true
   rw [hs.aq]; exact (W.j4 d B h).2
  ·show h2.lo≤h2.size
   rw [hs.lo,hs.size]; exact W.lo
  ·intro b o h
   show b<h2.size
   rw [hs.size]; exact W.lt b o (hs.get b o h)
theorem rn (hm:P.follows .mixedOrders=true) (hC:g5 P X.C) (hK:lB P X.call) (hI:l3 X.call) {n:Nat} {c:Code} {an:jr} {e:Env} {h:ah} {x:Ex} {e':Env} {h':ah} (hr:gX X (iP n) c an e h=some (x,e',h')) (hok:codeOk N X.fa.gx c an=true) :
  kH P N G0 c e h x e' h':=fun G a Q hG hS hQ=>sP hm hC hK hI n c an e h x e' h' hr hok G a Q hG hS hQ
inductive rE (f:Env→ah→RC):Env→ah→Ex→Env→ah→Prop
 | last {e h x e' h'} (k:Nat):ow k f e h=some (x,e',h')→x≠.ig→rE f e h x e' h'
 | step {e h e1 h1 h2 x e' h'} (k:Nat):ow (k+1) f e h=some (.ig,e1,h1)→Sub h2 h1→rE f e1 h2 x e' h'→rE f e h x e' h'
def nB (k:Nat) (f:Env→ah→RC) (e:Env) (h:ah) (e1:Env) (h2:ah):Bool:=match ow (k+1) f e h with
 | some (.ig,e',h')=>my (fun p q=>Nat.beq p.1 q.1&&mc 12 p.2 q.2) e1 e'&&xO h2 h'
 | _=>false
theorem rE.piece {f:Env→ah→RC} {e:Env} {h:ah} {e1:Env} {h2:ah} {x:Ex} {e':Env} {h':ah} (k:Nat) (hp:nB k f e h e1 h2=true) (hc:rE f e1 h2 x e' h'):rE f e h x e' h':=by
 unfold nB at hp
 split at hp
 ·rename_i e0 h0 hi
  simp only [Bool.and_eq_true] at hp
  have:e1=e0:=kr (fun p q hpq=>by
   simp only [Bool.and_eq_true] at hpq
   exact Prod.ext (Nat.eq_of_beq_eq_true hpq.1) (mK 12 _ _ hpq.2)) _ _ hp.1
  subst this
  exact .step k hi (DT hp.2) hc
 grind
theorem A5 {c:Code} {n0:Nat} (ih:rO P X N G0 (iP n0) c) {live:List Nat} {y:jr} (hok:codeOk N X.fa.gx c y=true) {J:Nat→Act→World→Prop} {Q:Exit→Act→World→Prop} {n:Nat}
  {e:Env} {h:ah} {x:Ex} {e':Env} {h':ah} (hr:jA live (gX X (iP n0) c y) e h=some (x,e',h')) {G:Ga} {a:Act} (hG:G.h=h) (hS:St N G0 G e a)
  (hQ:∀ G' a',G'.h=h'→St N G0 G' e' a'→Exit.then (fun a' w'=>∃ m,m<n∧J m a' w') Q (wj x) a' G'.w):c.wp P (Exit.then (fun a' w'=>∃ m,m<n∧J m a' w') Q) a G.w:=by
 rw [lT] at hr
 subst hG
 exact ih y _ _ _ _ _ hr hok (G.gV (fU live G.h.aq) (mA live G.L)) a _ rfl (hS.jA live) hQ
theorem A9 {c:Code} {n0:Nat} (ih:rO P X N G0 (iP n0) c) {live:List Nat} {y:jr} (hok:codeOk N X.fa.gx c y=true) (h0:G0.h.size=0) {e:Env} {h:ah} {x:Ex} {e':Env} {h':ah}
  (hc:rE (jA live (gX X (iP n0) c y)) e h x e' h'):kH P N G0 (.loop c) e h x e' h':=by
 have count:∃ t,∃ R:Nat→Env→ah→Prop,R t e h∧∀ n e h,R n e h→∃ x1 e1 h1,jA live (gX X (iP n0) c y) e h=some (x1,e1,h1) ∧
   ((x1=.ig∧∃ m h2,m<n∧Sub h2 h1∧R m e1 h2)∨(x1≠.ig∧x1=x∧e1=e'∧h1=h')):=by
  have subrefl:∀ h:ah,Sub h h:=fun h=>⟨rfl,rfl,rfl,fun _ _ h=>h⟩
  induction hc with
  | @last e h x e' h' k hi hx =>
    refine ⟨k,fun n e h=>ow n (jA live (gX X (iP n0) c y)) e h=some (x,e',h'),hi,?_⟩
    intro n e h hn
    cases n with
    | zero =>
      grind [ow]
    | succ n =>
      simp only [ow] at hn
      split at hn
      ·rename_i e2 h2 hf
       exact ⟨.ig,e2,h2,hf,.inl ⟨rfl,n,h2,Nat.lt_succ_self _,subrefl _,hn⟩⟩
      grind
  | @step e h e1 h1 h2 x e' h' k hi hs hc ihc =>
    obtain ⟨t,R,hR,hstep⟩:=ihc
    refine ⟨t+(k+1),fun n e h=>R n e h∨∃ j,n=t+j∧0<j∧ow j (jA live (gX X (iP n0) c y)) e h=some (.ig,e1,h1),?_,?_⟩
    ·grind
    ·intro n e h hn
     rcases hn with hn | ⟨j,rfl,hj,hn⟩
     ·obtain ⟨x1,e2,h3,a1,a2⟩:=hstep n e h hn
      refine ⟨x1,e2,h3,a1,?_⟩
      rcases a2 with ⟨b1,m,h4,b2,b3,b4⟩ | b
      ·exact .inl ⟨b1,m,h4,b2,b3,.inl b4⟩
      grind
     ·cases j with
      | zero=>omega
      | succ j =>
        simp only [ow] at hn
        split at hn
        ·rename_i e2 h3 hf
         refine ⟨.ig,e2,h3,hf,.inl ⟨rfl,?_⟩⟩
         cases j with
         | zero =>
           simp only [ow,Option.some.injEq,Prod.mk.injEq,true_and] at hn
           obtain ⟨rfl,rfl⟩:=hn
           exact ⟨t,h2,by omega,hs,.inl hR⟩
         | succ j=>exact ⟨t+(j+1),h3,by omega,subrefl _,.inr ⟨j+1,rfl,Nat.succ_pos _,hn⟩⟩
        grind
 obtain ⟨t,R,hR,hstep⟩:=count
 intro G a Q hG hS hQ
 refine wy (fun m a w=>∃ G e,G.w=w∧St N G0 G e a∧R m e G.h) ?_ t a G.w ⟨G,e,rfl,hS,by grind⟩
 rintro n a _ ⟨G,e,rfl,hS,hR⟩
 obtain ⟨x1,e1,h1,hf,hor⟩:=hstep n e G.h hR
 refine A5 ih hok hf rfl hS ?_
 intro G' a' hG' hS'
 rcases hor with ⟨rfl,m,h2,hlt,hs,hR2⟩ | ⟨hne,rfl,rfl,rfl⟩
 ·subst hG'
  exact ⟨m,hlt,⟨G'.w,G'.T,h2,G'.pi,G'.L⟩,e1,rfl,hS'.drop hs h0,hR2⟩
 ·cases x1 with
  | ig=>grind
  | ext id=>exact hQ G' a' hG' hS'
  | ret=>exact hQ G' a' hG' hS'
end
end Go.Sx
namespace Go.Sx
open Go
section
variable {P:Program} {X:Ctx} {N:Nat} {G0:Ga}
theorem BI {a b:Code} {e e1 e':Env} {h h1 h':ah} {x:Ex} (ha:kH P N G0 a e h .ig e1 h1) (hb:kH P N G0 b e1 h1 x e' h'):kH P N G0 (.seq a b) e h x e' h' :=
 fun G act _ hG hS hQ=>wp_seq (ha G act _ hG hS fun G1 a1 hG1 hS1=>hb G1 a1 _ hG1 hS1 hQ)
theorem z6 {a b:Code} {live:List Nat} {e e1 e':Env} {h h1 h':ah} {x:Ex} (ha:kH P N G0 a e h .ig e1 h1) (hb:kH P N G0 b (proj live e1) { h1 with aq:=fU live h1.aq } x e' h'):kH P N G0 (.seq a b) e h x e' h':=by
 intro G act Q hG hS hQ
 refine wp_seq (ha G act _ hG hS fun G1 a1 hG1 hS1=>?_)
 subst hG1
 exact hb (G1.gV (fU live G1.h.aq) (mA live G1.L)) a1 Q rfl (hS1.jA live) hQ
theorem zZ {a b:Code} {e e':Env} {h h':ah} {x:Ex} (ha:kH P N G0 a e h x e' h') (hx:x≠.ig):kH P N G0 (.seq a b) e h x e' h':=by
 intro G act Q hG hS hQ
 refine wp_seq (ha G act _ hG hS fun G1 a1 hG1 hS1=>?_)
 cases x with
 | ig=>grind
 | ext id=>exact hQ G1 a1 hG1 hS1
 | ret=>exact hQ G1 a1 hG1 hS1
theorem C2 {a:Code} {id:Nat} {e e1 e':Env} {h h1 h':ah} {x x1:Ex} (ha:kH P N G0 a e h x1 e1 h1) (he:atEnd id (some (x1,e1,h1))=some (x,e',h')):kH P N G0 (.block id a) e h x e' h':=by
 intro G act Q hG hS hQ
 refine wp_block (ha G act _ hG hS fun G1 a1 hG1 hS1=>?_)
 cases x1 with
 | ig=>cases he; exact hQ G1 a1 hG1 hS1
 | ret=>cases he; exact hQ G1 a1 hG1 hS1
 | ext i =>
   simp only [atEnd] at he
   show Exit.inBlock id Q (.exit i) a1 G1.w
   simp only [Exit.inBlock]
   split at he
   ·rename_i hi
    have hi:=Nat.eq_of_beq_eq_true hi
    cases he
    rw [if_pos hi]
    exact hQ G1 a1 hG1 hS1
   ·rename_i hi
    have hi:=Nat.ne_of_beq_eq_false hi
    cases he
    rw [if_neg hi]
    exact hQ G1 a1 hG1 hS1
theorem tN {k:Env→ah→RC} {r:RC} {x:Ex} {e':Env} {h':ah} (h:andThen k r=some (x,e',h')) :
  (∃ e1 h1,r=some (.ig,e1,h1)∧k e1 h1=some (x,e',h'))∨(r=some (x,e',h')∧x≠.ig):=by
 unfold andThen at h
 grind
theorem mn (hm:P.follows .mixedOrders=true) (hC:g5 P X.C) (hK:lB P X.call) (hI:l3 X.call) {n:Nat}:∀ (p:List Bool) (c:Code) (an:jr) (e:Env) (h:ah) (e0:Env) (h0:ah) (x1:Ex) (e1:Env) (h1:ah) (x:Ex) (e':Env) (h':ah),
  codeOk N X.fa.gx c an=true→o1 X (iP n) p c an e h=some (.ig,e0,h0)→kH P N G0 (pM p c an).1 e0 h0 x1 e1 h1→behind X (iP n) p c an (some (x1,e1,h1))=some (x,e',h')→kH P N G0 c e h x e' h'
 | [],c,an,e,h,e0,h0,x1,e1,h1,x,e',h',_,hu,hr,hb=>by
   simp only [o1,Option.some.injEq,Prod.mk.injEq,true_and] at hu
   obtain ⟨rfl,rfl⟩:=hu
   simp only [behind,Option.some.injEq,Prod.mk.injEq] at hb
   obtain ⟨rfl,rfl,rfl⟩:=hb
   exact hr
 | true::p,c,an,e,h,e0,h0,x1,e1,h1,x,e',h',hok,hu,hr,hb=>by
   cases c<;>try (cases hu; done)
   rename_i a b
   cases an<;>try (cases hu; done)
   ·rename_i live y z
    simp only [o1] at hu
    obtain ⟨e2,h2,k1,k2⟩:=vX hu
    rw [lT] at k2
    simp only [codeOk,Bool.and_eq_true] at hok
    exact z6 (rn hm hC hK hI k1 hok.1) (mn hm hC hK hI p b z _ _ e0 h0 x1 e1 h1 x e' h' hok.2 k2 hr hb)
   ·rename_i y z
    simp only [o1] at hu
    obtain ⟨e2,h2,k1,k2⟩:=vX hu
    simp only [codeOk,Bool.and_eq_true] at hok
    exact BI (rn hm hC hK hI k1 hok.1) (mn hm hC hK hI p b z _ _ e0 h0 x1 e1 h1 x e' h' hok.2 k2 hr hb)
 | false::p,c,an,e,h,e0,h0,x1,e1,h1,x,e',h',hok,hu,hr,hb=>by
   cases c<;>try (cases hu; done)
   ·rename_i a b
    cases an<;>try (cases hu; done)
    ·rename_i live y z
     simp only [o1] at hu
     simp only [codeOk,Bool.and_eq_true] at hok
     simp only [behind] at hb
     rcases tN hb with ⟨e2,h2,k1,k2⟩ | ⟨k1,k2⟩
     ·rw [lT] at k2
      exact z6 (mn hm hC hK hI p a y e h e0 h0 x1 e1 h1 _ _ _ hok.1 hu hr k1) (rn hm hC hK hI k2 hok.2)
     ·exact zZ (mn hm hC hK hI p a y e h e0 h0 x1 e1 h1 _ _ _ hok.1 hu hr k1) k2
    ·rename_i y z
     simp only [o1] at hu
     simp only [codeOk,Bool.and_eq_true] at hok
     simp only [behind] at hb
     rcases tN hb with ⟨e2,h2,k1,k2⟩ | ⟨k1,k2⟩
     ·exact BI (mn hm hC hK hI p a y e h e0 h0 x1 e1 h1 _ _ _ hok.1 hu hr k1) (rn hm hC hK hI k2 hok.2)
     ·exact zZ (mn hm hC hK hI p a y e h e0 h0 x1 e1 h1 _ _ _ hok.1 hu hr k1) k2
   ·rename_i id a
    have hu:o1 X (iP n) p a an e h=some (.ig,e0,h0):=by cases an<;>exact hu
    have hb:atEnd id (behind X (iP n) p a an (some (x1,e1,h1)))=some (x,e',h'):=by cases an<;>exact hb
    have hok:codeOk N X.fa.gx a an=true:=by cases an<;>exact hok
    have hr:kH P N G0 (pM p a an).1 e0 h0 x1 e1 h1:=by cases an<;>exact hr
    cases hbb:behind X (iP n) p a an (some (x1,e1,h1)) with
    | none=>rw [hbb] at hb; cases hb
    | some z =>
      obtain ⟨x2,e2,h2⟩:=z
      rw [hbb] at hb
      exact C2 (mn hm hC hK hI p a an e h e0 h0 x1 e1 h1 _ _ _ hok hu hr hbb) hb
theorem Ba {C : gP} {f : Nat} {fa : fA} (hC : g5 P C) {fn : Func} (hfn : P.funcs[f]? = some fn) (hbody : fn.body = some fa.body) (hres : fn.results.toList = fa.res) (hname : (fn.name == "runtime.NumGoroutine") = false) {args : List AV} {x : Ex} {e' : Env} {h' : ah} {v : AV} {h : ah}
  (hr:∀ G0:Ga,G0.h=ah.empty→kH P fn.ntmps G0 fa.body (params 0 args) ah.empty x e' h') (hv:frozen h (leave C fa.res (some (x,e',h')))=some (v,h)) (hargs:∀ h:ah,kx h args=some args):yR P f args h v h:=by
 intro G args' hG hlo hL hW hl hrel
 refine ⟨⟨fn,hfn,by grind,hname⟩,?_⟩
 intro R hR
 subst hG
 obtain ⟨k1,k2⟩:=tR hW (hargs G.h) hl hrel
 have hW1:=Bz hW
 have main:∀ v0 h1,leave.leave1 C fa.res e' h'=some (v0,h1)→freeze false h1 8 v0=some v→(x=.ig∨x=.ret)→Calls P f args' G.w R:=by
  intro v0 h1 hlv hfz hx
  refine calls_of_wp (w:=(mO G).w) hfn hbody ?_
  have hfr:Fr (mO G) (mO G):=by
   refine ⟨⟨⟨fun _ _ h=>h,fun _ _ _=>rfl,Nat.le_refl _,fun _ _ g z xs h=>⟨g,z,xs,h,Nat.le_refl _,fun _=>⟨rfl,fun _ h=>h⟩⟩,fun _ _ es c h=>⟨es,c,h,fun _ h=>h⟩,fun d B h=>(by cases h)⟩,rfl,rfl,rfl,Nat.le_refl _,fun _ _ _ _=>rfl,
    fun _ l h=>.inl ⟨l,h,rfl⟩,fun _ _ h=>(by cases h),fun _ _ h=>.inl h,rfl,fun _ _ _=>rfl,fun _ _ h=>(by cases h),fun _ _ h=>(by cases h),fun d c _ hd=>(by cases hd)⟩,fun d B h=>(by cases h)⟩
  have hSt:St fn.ntmps (mO G) (mO G) (params 0 args) { tmps:=args'++Array.replicate (fn.ntmps - args'.size) undef,defers:=[] } :=
   ⟨hfr,hW1,yt k1 k2 _,rfl,by grind⟩
  refine hr (mO G) rfl (mO G) _ _ rfl hSt ?_
  intro G1 a1 hG1 hS1
  have hpost:∃ u,(results fn a1.tmps).run P G1.w=.ok u G1.w∧R (.returned u) G1.w:=by
   rw [← hG1,← hres] at hlv
   obtain ⟨e1,u,e2,e3⟩:=uc hS1.wr hC hS1.er hlv
   refine ⟨u,e2,?_⟩
   have S2:=hS1.fr.S
   have W2:WR (G1.gV [] fun _=>none):=hS1.wr.y7 (fun d B h=>by cases h) (fun d B h=>by cases h)
   obtain ⟨S3,W3⟩:=yJ hW hL S2 W2
   have hfz2:freeze false (G1.gV [] fun _=>none).h 8 v0=some v:=by
    refine tw (h:=h1) ?_ _ _ _ hfz
    intro b o hb
    rw [e1] at hb
    exact hb
   exact hR u (pH G (G1.gV [] fun _=>none)) S3 W3 (fun m=>rfl) (fun m L=>(wK S2 W2 hfz2 e3.gV).gV.vr)
  rcases hx with rfl | rfl
  ·exact ⟨hS1.df,hpost⟩
  ·exact ⟨hS1.df,hpost⟩
 have fin:∀ v0 h1,leave C fa.res (some (x,e',h'))=some (v0,h1)→freeze false h1 8 v0=some v:=by
  grind [frozen]
 cases x with
 | ig =>
   cases hq:leave C fa.res (some (.ig,e',h')) with
   | none=>rw [hq] at hv; cases hv
   | some y =>
     obtain ⟨v0,h1⟩:=y
     exact main v0 h1 hq (fin v0 h1 hq) (.inl rfl)
 | ret =>
   cases hq:leave C fa.res (some (.ret,e',h')) with
   | none=>rw [hq] at hv; cases hv
   | some y =>
     obtain ⟨v0,h1⟩:=y
     exact main v0 h1 hq (fin v0 h1 hq) (.inr rfl)
 | ext id=>cases hv
theorem H0 {f:Nat} {args0:List AV} {v0:AV} (h:∀ h1,h1.aq=[]→yR P f args0 h1 v0 h1):sh P f (nS args0 v0) where
 call:=by
  intro shd args h1 v h' hc
  unfold nS at hc
  split at hc
  ·rename_i _ ha
   cases hc
   have:=kr (mK 12) _ _ ha
   subst this
   intro G args' hG hlo
   exact h h1 hlo G args' hG hlo
  grind
 Bv:=by
  grind [nS]
end
end Go.Sx
