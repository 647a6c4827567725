/- Proves rules for the walks and their soundness. -/
import GoSem.ClaimChange
import Derived.Shelf.SlIterI.Nil
import Derived.Shelf.SortM.Plain
import Derived.Shelf.SortM.SortNone
import Derived.Lib.RowBridge
import Derived.Test.YtpelnddplemngaaGreatHaa
import Derived.Test.YtpelnddplemngaaGreatHae
set_option linter.all false
namespace Go.Sx
open Go
def tv (n:Int):Prop:=-9223372036854775808<=n/\n<=9223372036854775807
def yZ (n:Int):Prop:=0<=n/\n<40
def o7 (l:List ko) (n:Int):Prop:=yZ n/\(n=0\/n<(l.length:Int))
def yZ.tv {n:Int} (h:yZ n):tv n:=⟨by have:=h.1; omega,by have:=h.2; omega⟩
def VE (p:bG) (e:Int):Prop:=0<=e/\e<(p.elems.l.length:Int)
def JV (p:bG):Prop:=∀ j∈p.jd.l,VE p j.a.elem/\VE p j.b.elem
def Jk (p:bG):Prop:=(∀ x∈p.lines.l,∀ e∈x.elems.l,VE p e)/\∀ (i j:Nat) (h:j<p.lines.l.length) (hij:i<j),∀ e∈(p.lines.l[i]).elems.l,e∉(p.lines.l[j]).elems.l
def IQ (p:bG):Prop:=∀ e∈p.elems.l,(1<=e.kind/\e.kind<=4)/\(e.kind=4->e.len=0)
structure Nq (p:bG):Prop where
 jv:JV p
 ln:Jk p
 kd:IQ p
def JG (p:bG):Prop:=(∀ j∈p.jd.l,tv j.a.elem/\tv j.b.elem)/\∀ x∈p.lines.l,∀ z∈x.elems.l,tv z
def lS (p:bG):Prop:=p.elems.l.length<=60/\p.jd.l.length<=120/\p.signals.l.length<=60/\p.lines.l.length<=20/\(∀ x∈p.lines.l,x.elems.l.length<=60)/\(∀ j∈p.jd.l,tv j.a.elem/\tv j.b.elem)/\∀ x∈p.lines.l,∀ z∈x.elems.l,tv z
theorem lS.elems {p:bG} (h:lS p):p.elems.l.length<=60:=h.1
def lS.jd {p:bG} (h:lS p):p.jd.l.length<=120:=h.2.1
theorem lS.signals {p:bG} (h:lS p):p.signals.l.length<=60:=h.2.2.1
def lS.lines {p:bG} (h:lS p):p.lines.l.length<=20:=h.2.2.2.1
def lS.line {p:bG} (h:lS p):∀ x∈p.lines.l,x.elems.l.length<=60:=h.2.2.2.2.1
def nr {κ β:Type} [DecidableEq κ] {k : κ} {x : β} {l:List (κ×β)} (h:look k l=some x):(k,x)∈l:=by
 induction l<;>grind [look]
def Gw {κ β:Type} [DecidableEq κ] {k : κ} {x : β} {l:List (κ×β)} {y : κ×β} (h:y∈put k x l):y=(k,x)\/y∈l:=by
 induction l<;>grind [put]
def ri {κ β:Type} [DecidableEq κ] {k : κ} {x : β} {l:List (κ×β)} {P : β->Prop} (hl:∀ y∈l,P y.2) (hx:P x):∀ y∈put k x l,P y.2:=by
 intro y hy
 rcases Gw hy with rfl | hy<;>grind
theorem Jb {κ β:Type} [DecidableEq κ] {k : κ} {x : β} {l:List (κ×β)}:(put k x l).length<=l.length+1:=by
 induction l<;>grind [put]
def wU {κ β:Type} (l:List (κ×β)):Prop:=(l.map Prod.fst).Nodup
theorem Ch {κ β:Type} [DecidableEq κ] {k : κ} {l:List (κ×β)} (h:look k l=none):k∉l.map Prod.fst:=by
 induction l<;>grind [look]
theorem G9 {κ β:Type} [DecidableEq κ] {k : κ} {x : β} {l:List (κ×β)} (h:look k l=none):put k x l=l++[(k,x)]:=by
 induction l<;>grind [look,put]
def C3 {α:Type} [DecidableEq α]:∀ {a b:List α},a.Nodup->(∀ x∈a,x∈b)->a.length<=b.length
 | [],_,_,_=>Nat.zero_le _
 | x::a,b,hn,hs=>by
   have hx:x∈b:=hs x List.mem_cons_self
   have h1:=C3 (a:=a) (b:=b.erase x) (List.nodup_cons.mp hn).2 (by
    grind)
   grind
def kN (p:bG) (e:Int):Int:=if e<0 then 0 else match p.elems.l[e.toNat]? with
 | some x=>x.kind
 | none=>0
theorem sU {p:bG} {e:Int} (h:e<0\/e>=p.elems.l.length):kN p e=0:=by
 grind [kN]
def AO {p:bG} {e:Int} {x:ko} (h0:0<=e) (hx:e.toNat<p.elems.l.length) (hq:p.elems.l[e.toNat]=x):kN p e=x.kind:=by
 grind [kN]
def lI:List kD->iM->Option iM
 | [],_=>none
 | j::l,x=>if j.a=x then some j.b else if j.b=x then some j.a else lI l x
theorem zi {a b:iM} (h:a.elem=b.elem/\a.en=b.en):a=b:=by
 cases a<;>simp_all
def LN {l:List kD} {y:iM} {k:Nat} {x:kD} (hx:k<l.length) (hq:l[k]=x) (h1:¬(x.a.elem=y.elem/\x.a.en=y.en)) (h2:¬(x.b.elem=y.elem/\x.b.en=y.en)):lI (l.drop (k+1)) y=lI (l.drop k) y:=by
 rw [List.drop_eq_getElem_cons hx,hq,lI,if_neg (by grind),if_neg (by grind)]
def LO {l:List kD} {y:iM} {k:Nat} {x:kD} (hx:k<l.length) (hq:l[k]=x) (h1:x.a.elem=y.elem/\x.a.en=y.en):lI (l.drop k) y=some x.b:=by
 rw [List.drop_eq_getElem_cons hx,hq,lI,if_pos (zi h1)]
def Km {l:List kD} {y:iM} {k:Nat} {x:kD} (hx:k<l.length) (hq:l[k]=x) (h1:¬(x.a.elem=y.elem/\x.a.en=y.en)) (h2:x.b.elem=y.elem/\x.b.en=y.en):lI (l.drop k) y=some x.a:=by
 rw [List.drop_eq_getElem_cons hx,hq,lI,if_neg (by grind),if_pos (zi h2)]
def OB {l:List kD} {y:iM} {k:Nat} (hx:l.length<=k):lI (l.drop k) y=none:=by
 rw [List.drop_eq_nil_of_le hx]; rfl
def mr (x:iM):Nat->List kb->Option Int
 | _,[]=>none
 | i,s::l=>if s.at_=x then some i else mr x (i+1) l
def nP (l:List kb) (x:iM):Option Int:=mr x 0 l
def CG {l:List kb} {y:iM} {k:Nat} {x:kb} (hx:k<l.length) (hq:l[k]=x) (h1:¬(x.at_.elem=y.elem/\x.at_.en=y.en)):mr y (k+1) (l.drop (k+1))=mr y k (l.drop k):=by
 rw [List.drop_eq_getElem_cons hx,hq,mr,if_neg (by grind)]
theorem Dl {l:List kb} {y:iM} {k:Nat} {x:kb} (hx:k<l.length) (hq:l[k]=x) (h1:x.at_.elem=y.elem/\x.at_.en=y.en):mr y k (l.drop k)=some (k:Int):=by
 rw [List.drop_eq_getElem_cons hx,hq,mr,if_pos (zi h1)]
theorem Dj {l:List kb} {y:iM} {k:Nat} (hx:l.length<=k):mr y k (l.drop k)=none:=by
 rw [List.drop_eq_nil_of_le hx]; rfl
def nk (l:List kb) (i:Int):Option iM:=if i<0 then none else (l[i.toNat]?).map (·.at_)
def NW {l:List kb} {e:Int} (h:e<0\/e>=l.length):nk l e=none:=by
 grind [nk]
def Uk {l:List kb} {e:Int} {x:kb} (h0:0<=e) (hx:e.toNat<l.length) (hq:l[e.toNat]=x):nk l e=some x.at_:=by
 grind [nk]
def tE:Nat->List (Row j8)->Nat
 | _,[]=>0
 | i,r::l=>r.l.length*(2 ^ (12 - i) - 1)+tE (i+1) l
def Td (l:List (Row j8)):∃ n,n=tE 0 l:=⟨_,rfl⟩
noncomputable def wt (l:List (Row j8)):Nat:=Classical.choose (Td l)
theorem yQ (l:List (Row j8)):wt l=tE 0 l:=Classical.choose_spec (Td l)
def Gr (n:Nat):∃ m,m=2 ^ (13 - n) - 1:=⟨_,rfl⟩
noncomputable def uw (n:Nat):Nat:=Classical.choose (Gr n)
theorem xA (n:Nat):uw n=2 ^ (13 - n) - 1:=Classical.choose_spec (Gr n)
theorem Vw:wt []=0:=by rw [yQ]; rfl
theorem V3:uw 0=8191:=by rw [xA]
theorem D5 (w:Row j8):∀ (l:List (Row j8)) (i:Nat),tE i (l++[w])=tE i l+w.l.length*(2 ^ (12 - (i+l.length)) - 1)
 | [],i=>by simp [tE]
 | r::l,i=>by
   simp only [List.cons_append,tE,D5 w l (i+1),List.length_cons]
   rw [show i+1+l.length=i+(l.length+1) from by omega]; omega
def AD {n:Nat} (h:n<=12):1<=uw n:=by
 rw [xA]
 have:2 ^ 1<=2 ^ (13 - n):=Nat.pow_le_pow_right (by omega) (by omega)
 omega
def T8 {l:List (Row j8)} {w:Row j8} (hn:l.length<12) (hw:w.l.length<=2):wt (l++[w])+1<=wt l+uw l.length:=by
 rw [yQ,yQ,xA]
 rw [D5,Nat.zero_add]
 have h1:13 - l.length=(12 - l.length)+1:=by omega
 have h2:1<=2 ^ (12 - l.length):=Nat.one_le_two_pow
 rw [h1,Nat.pow_succ]
 have h3:w.l.length*(2 ^ (12 - l.length) - 1)<=2*(2 ^ (12 - l.length) - 1):=Nat.mul_le_mul_right _ hw
 omega
theorem DX:∀ {l:List (Row j8)} {i k:Nat} (hk:k+1=l.length) (_:(l[k]'(by omega)).l.length=0),tE i (l.take k)=tE i l
 | [],_,_,hk,_=>by simp
 | [r],i,k,hk,h0=>by
   grind [tE]
 | r::s::l,i,k,hk,h0=>by
   obtain ⟨k,rfl⟩:∃ k',k=k'+1:=⟨k - 1,by simp at hk; omega⟩
   simp only [List.getElem_cons_succ] at h0
   rw [List.take_succ_cons,tE,tE,DX (l:=s::l) (by simpa using hk) h0]
theorem GD:∀ {l:List (Row j8)} {i k:Nat} {r r':Row j8} (hk:k<l.length) (_:l[k]=r) (_:1<=r.l.length) (_:r'.l.length+1=r.l.length),tE i (l.set k r')+(2 ^ (12 - (i+k)) - 1)=tE i l
 | [],_,_,_,_,hk,_,_,_=>by simp at hk
 | x::l,i,0,r,r',_,hr,h1,h2=>by
   grind [tE]
 | x::l,i,k+1,r,r',hk,hr,h1,h2=>by
   simp only [List.getElem_cons_succ] at hr
   simp only [List.set_cons_succ,tE]
   have:=GD (l:=l) (i:=i+1) (k:=k) (by simpa using hk) hr h1 h2
   rw [show i+1+k=i+(k+1) from by omega] at this
   omega
theorem Un {l:List (Row j8)} {k:Nat} {r:Row j8} (hk:k<l.length) (hk1:k+1=l.length) (hr:l[k]=r) (h0:r.l.length=0):wt (l.take k)=wt l:=by grind [yQ,DX]
def Vs {l:List (Row j8)} {k:Nat} {r r':Row j8} (hk:k<l.length) (hk1:k+1=l.length) (hr:l[k]=r) (h1:1<=r.l.length) (h2:r'.l.length+1=r.l.length):wt (l.set k r')+uw l.length=wt l:=by
 grind [GD,yQ,xA]
def y6 (l:List kD):Prop:=∀ (i:Nat) (h:i<l.length),lI (l.take i) (l[i]).a=none/\lI (l.take i) (l[i]).b=none/\(l[i]).a≠(l[i]).b
def yl (l:List kb):Prop:=∀ (i:Nat) (h:i<l.length),∀ y∈l.take i,y.at_≠(l[i]).at_
theorem KV (l:List kD) (j:kD) (x:iM):lI (l++[j]) x=match lI l x with
  | some y=>some y
  | none=>if j.a=x then some j.b else if j.b=x then some j.a else none:=by
 induction l<;>grind [lI]
theorem ID {l:List kD} {j:kD} {m:List (iM×iM)} (hD:∀ x,look x m=lI l x) (ha:look j.a m=none) (hb:look j.b m=none) (hne:j.a≠j.b) (x:iM):look x (put j.b j.a (put j.a j.b m))=lI (l++[j]) x:=by
 grind [nb,KV,look]
theorem z6 {l:List kD} {j:kD} {m:List (iM×iM)} {k:Nat} (hk:k<l.length) (hj:l[k]=j) (hD:∀ x,look x m=lI (l.take k) x) (ha:look j.a m=none) (hb:look j.b m=none) (hne:¬(j.a.elem=j.b.elem/\j.a.en=j.b.en)):∀ x,look x (put j.b j.a (put j.a j.b m))=lI (l.take (k+1)) x:=by
 intro x
 have:l.take (k+1)=l.take k++[j]:=by rw [List.take_succ_eq_append_getElem hk,hj]
 grind [ID]
def E5 {l:List kD} {j:kD} {m:List (iM×iM)} {k:Nat} (hk:k<l.length) (hj:l[k]=j) (hD:∀ x,look x m=lI (l.take k) x) (hJ:∀ (i:Nat) (h:i<l.length),i<k->lI (l.take i) (l[i]).a=none/\lI (l.take i) (l[i]).b=none/\(l[i]).a≠(l[i]).b) (ha:look j.a m=none) (hb:look j.b m=none) (hne:¬(j.a.elem=j.b.elem/\j.a.en=j.b.en)) :
  ∀ (i:Nat) (h:i<l.length),i<k+1->lI (l.take i) (l[i]).a=none/\lI (l.take i) (l[i]).b=none/\(l[i]).a≠(l[i]).b:=by
 grind
def NC {l:List kb} {n k:Nat} (hV:∀ (i:Nat) (h:i<l.length),i<k->0<=(l[i]).at_.elem/\(l[i]).at_.elem<(n:Int)/\0<=(l[i]).at_.en) (hk:l.length<=k):∀ s∈l,0<=s.at_.elem/\s.at_.elem<(n:Int)/\0<=s.at_.en:=by
 intro s hs
 obtain ⟨i,hi,rfl⟩:=List.mem_iff_getElem.mp hs
 grind
def C8 {l:List kb} {n k:Nat} {x:kb} {hk:k<l.length} (hq:l[k]=x) (hV:∀ (i:Nat) (h:i<l.length),i<k->0<=(l[i]).at_.elem/\(l[i]).at_.elem<(n:Int)/\0<=(l[i]).at_.en) (hx:0<=x.at_.elem/\x.at_.elem<(n:Int)/\0<=x.at_.en):∀ (i:Nat) (h:i<l.length),i<k+1->0<=(l[i]).at_.elem/\(l[i]).at_.elem<(n:Int)/\0<=(l[i]).at_.en:=by
 grind
def C0 {l:List kb} {k:Nat} {x:kb} {m:List (iM×Bool)} (hk:k<l.length) (hq:l[k]=x) (hD:∀ y:iM,(∃ s,s∈l.take k/\s.at_=y)->look y m=some true):∀ y:iM,(∃ s,s∈l.take (k+1)/\s.at_=y)->look y (put x.at_ true m)=some true:=by
 rintro y ⟨s,hs,rfl⟩
 rw [nb]
 split
 ·rfl
 ·rename_i hne
  rw [List.take_succ_eq_append_getElem hk,hq] at hs
  grind
def C7 {l:List kb} {k:Nat} {x:kb} {m:List (iM×Bool)} (hk:k<l.length) (hq:l[k]=x) (hD:∀ y:iM,(∃ s,s∈l.take k/\s.at_=y)->look y m=some true) (hJ:∀ (i:Nat) (h:i<l.length),i<k->∀ y∈l.take i,y.at_≠(l[i]).at_) (hn:look x.at_ m=none):∀ (i:Nat) (h:i<l.length),i<k+1->∀ y∈l.take i,y.at_≠(l[i]).at_:=by
 grind
def GX {α:Type} {P : α->Prop} {l:List α} {k:Nat} {x : α} (hl:∀ y∈l,P y) (hx:P x):∀ y∈l.set k x,P y:=by
 grind
def BS {e:Env} {h:aT} {t d o:Nat} {x y:Operand} {X:Ctx} {dd:Option Nat} {ti:TI} {r:AV} {new cs cs':List AV} (hT:X.C.T t=some ti) (hx:iZ e x=.la d o) (hy:iZ e y=r) (hnew:cellsOf ti r=some new) (hok:new.all AV.kK=true) (hl:ka h.iI d=some cs) (hsp:nu cs o new=some cs'):jL (.store t x y) X e h dd=some (.undef,{ h with iI:=uK h.iI d cs' }):=by
 simp only [jL,yc,wF,hT,hx,hy,wa,hnew,hok,yv,NQ,hl,hsp]
section
variable {C:jZ} {F:lA} {Pr:kU} {fa:iN} {Q:Ex->Env->aT->Prop} {e:Env} {h:aT}
end
section
variable {C:jZ} {F:lA} {Pr:kU} {fa:iN} {Q:Ex->Env->aT->Prop} {e:Env} {h:aT}
def AR {a b:Code} {live:List Nat} {x y:lK} (P:Env->aT->Prop) (K:∀ E Z,P E Z->Wp C F Pr fa b y Q E Z) (w:Wp C F Pr fa a x (vJ (λe h=>P (proj live e) { h with iI:=lz live h.iI }) Q) e h):Wp C F Pr fa (.seq a b) (.seq live x y) Q e h:=by
 refine Gz (w.mono ?_)
 intro x1 e1 h1 hx
 cases x1 with
 | kE=>exact K _ _ hx
 | ext id=>exact hx
 | ret=>exact hx
end
def PM {r:List AV} {l:List (List AV)} (h:r.all AV.zd=true) (hl:so l=true):so (r::l)=true:=by
 grind [so]
def vy (d:iO):Prop:=d.runs.l.length<=8/\∀ r∈d.runs.l,r.iY.l.length<=12/\0<=r.iU/\r.iU<(d.iU.l.length:Int)
def ml {α:Type} {P : α->Prop} {l:List α} {k:Nat} {x : α} {hk:k<l.length} (hq:l[k]=x) (hV:∀ (i:Nat) (h:i<l.length),i<k->P (l[i])) (hx:P x):∀ (i:Nat) (h:i<l.length),i<k+1->P (l[i]):=by
 grind
def qU {α:Type} {P : α->Prop} {l:List α} {x : α} (hl:∀ y∈l,P y) (hx:P x):∀ y∈l++[x],P y:=by
 grind
def Uv {α:Type} {P : α->Prop} {l m:List α} (hl:∀ y∈l,P y) (hm:∀ y∈m,P y):∀ y∈l++m,P y:=by
 grind
def M1 {l:List (Row j8)} {k:Nat} {r:Row j8} (hk:k<l.length) (hk1:k+1=l.length) (hr:l[k]=r) (h0:r.l.length=0):wt (l.take (l.length - 1))=wt l:=by
 rw [show l.length - 1=k from by omega]; grind [Un]
def M7 {κ β:Type} [DecidableEq κ] {k : κ} {x : β} {l:List (κ×β)} (h:wU l) (hn:look k l=none):wU (put k x l):=by
 grind [wU,G9,Ch]
def univ (n:iX):List iM:=⟨0,0⟩::n.next.map Prod.snd
theorem NX {n:iX} {x y:iM} (h:look x n.next=some y):y∈univ n:=by
 have:=nr h
 exact List.mem_cons_of_mem _ (List.mem_map.mpr ⟨_,this,rfl⟩)
def Kc {κ β:Type} [DecidableEq κ] {k : κ} {x : β} {l:List (κ×β)} {U:List κ} (h:∀ y∈l.map Prod.fst,y∈U) (hk:k∈U):∀ y∈(put k x l).map Prod.fst,y∈U:=by
 intro y hy
 obtain ⟨z,hz,rfl⟩:=List.mem_map.mp hy
 rcases Gw hz with rfl | hz<;>grind
def uy {n:iX} {x y:iM} {b:Bool} (h:(b=true->look x n.next=some y)/\(b=false->look x n.next=none)/\(b=false->y=⟨0,0⟩)):y∈univ n:=by
 cases b with
 | true=>grind [NX]
 | false=>rw [h.2.2 rfl]; exact List.mem_cons_self
def Ot {l:List kD} {j:kD} {m:List (iM×iM)} {k:Nat} (hk:k<l.length) (hj:l[k]=j) (hJ:y6 l) (hD:∀ x,look x m=lI (l.take k) x):∀ x,look x (put j.b j.a (put j.a j.b m))=lI (l.take (k+1)) x:=by
 obtain ⟨h1,h2,h3⟩:=hJ k hk
 grind [z6,zi]
def No {κ β:Type} [DecidableEq κ] {a b : κ} {x y : β} {l:List (κ×β)} {k:Nat} (h:l.length<=2*k):(put a x (put b y l)).length<=2*(k+1):=by
 grind [Jb,put]
theorem wj (x:iM) (s:kb):∀ (l:List kb) (i:Nat),mr x i (l++[s])=match mr x i l with
  | some y=>some y
  | none=>if s.at_=x then some ((i+l.length:Nat):Int) else none
 | [],i=>by rfl
 | a::l,i=>by
   simp only [List.cons_append,mr]
   split
   ·rfl
   ·rw [wj x s l (i+1)]
    simp only [List.length_cons,show i+1+l.length=i+(l.length+1) from by omega]
theorem wG {x:iM}:∀ {l:List kb} {i:Nat},(∀ s∈l,s.at_≠x)->mr x i l=none
 | [],_,_=>rfl
 | a::l,i,h=>by
   simp only [mr]
   rw [if_neg (h a List.mem_cons_self)]
   exact wG λs hs=>h s (List.mem_cons_of_mem _ hs)
def Jq {l:List kb} {s:kb} {m:List (iM×Int)} {k:Nat} (hk:k<l.length) (hj:l[k]=s) (hS:yl l) (hR:∀ x,look x m=nP (l.take k) x):∀ x,look x (put s.at_ (k:Int) m)=nP (l.take (k+1)) x:=by
 intro x
 have h1:=hS k hk
 rw [hj] at h1
 rw [nb,List.take_succ_eq_append_getElem hk,hj]
 grind [nP,wj,wG,look]
def Cj:m6->m6
 | .nil=>.nil
 | _=>.jc
def Row.canon {α:Type} (r:Row α):Row α:=⟨r.l,Cj r.c,r.ok,by cases r.c<;>rfl,λh=>r.nl (by cases hc:r.c<;>first | rfl | (rw [hc] at h; cases h))⟩
def jN.canon (x:jN):jN:={ x with elems:=x.elems.canon }
def Row.yP {α β:Type} (f : α->β) (r:Row α):Row β:=⟨r.l.map f,r.c,by rw [List.length_map]; exact r.ok,r.sn,λh=>by rw [r.nl h]; rfl⟩
def bG.canon (p:bG):bG:={ p with elems:=p.elems.canon,jd:=p.jd.canon,signals:=p.signals.canon,lines:=(p.lines.yP jN.canon).canon }
theorem Row.Xn {α:Type} {r s:Row α} (h1:r.l=s.l) (h2:r.c=s.c):r=s:=by
 cases r<;>simp_all
theorem De (c:m6):Cj (Cj c)=Cj c:=by cases c<;>rfl
theorem Row.wh {α:Type} (r:Row α):r.canon.canon=r.canon:=Row.Xn rfl (De _)
theorem jN.wh (x:jN):x.canon.canon=x.canon:=by
 grind [jN.canon,Row.wh]
theorem bG.wh (p:bG):p.canon.canon=p.canon:=by
 simp_all [jN.canon,canon,Row.Xn,Row.canon,Row.yP,De,bG.canon,Row.wh]
def vU {α:Type} (r s:Row α):Prop:=r.l=s.l/\(r.c=.nil↔s.c=.nil)
def sF (x y:jN):Prop:=x.name=y.name/\vU x.elems y.elems
def zx (m:List (Int×Int×Int)) (p:bG):Prop:=(∀ e y,look e m=some y->∃ (i:Nat) (h:i<p.lines.l.length),y.1=(i:Int)/\e∈(p.lines.l[i]).elems.l)/\∀ (i:Nat) (h:i<p.lines.l.length),∀ e∈(p.lines.l[i]).elems.l,∃ q,look e m=some ((i:Int),q)
structure ou (n:iX) (p:bG):Prop where
 ki:n.p=p.canon
 e40:n.p.elems.l.length<=40
 elems:n.p.elems.l=p.elems.l
 signals:n.p.signals.l=p.signals.l
 Ed:lS n.p
 rg:∀ y∈univ n,o7 n.p.elems.l y.elem
 x:Nq p
 lin:zx n.line p
 next:∀ x,look x n.next=lI p.jd.l x
 reads:∀ x,look x n.reads=nP p.signals.l x
 len:n.next.length<=240
 sigs:yl p.signals.l
 afo:∀ s∈p.signals.l,0<=s.at_.elem/\s.at_.elem<(p.elems.l.length:Int)/\0<=s.at_.en
def Ms {q p:bG} {next:List (iM×iM)} {reads:List (iM×Int)} {line:List (Int×Int×Int)} {lead:List (Int×Int)} {k m:Nat}
  (hq:q.elems.l=p.elems.l/\q.jd.l=p.jd.l/\q.signals.l=p.signals.l/\q.lines.l.length=p.lines.l.length/\(∀ x∈q.lines.l,x.elems.l.length<=60)/\q=p.canon) (h1:lS p)
  (hc:y6 p.jd.l/\yl p.signals.l/\(∀ s∈p.signals.l,0<=s.at_.elem/\s.at_.elem<(p.elems.l.length:Int)/\0<=s.at_.en)/\p.elems.l.length<=40/\p.signals.l.length<=24/\p.jd.l.length<=80/\Nq p)
  (hD:∀ x,look x next=lI (p.jd.l.take k) x) (hR:∀ x,look x reads=nP (p.signals.l.take m) x) (hN:next.length<=2*k) (hG:∀ y∈next,o7 p.elems.l y.2.elem) (hk:p.jd.l.length<=k/\k<=p.jd.l.length) (hm:p.signals.l.length<=m) (hL:zx line p):ou ⟨q,next,reads,line,lead⟩ p:=by
 obtain ⟨e1,e2,e3,e4,e5,e6⟩:=hq
 obtain ⟨f1,f2,f3,f4,f5,f6,f7⟩:=h1
 have e7:∀ x∈q.lines.l,∀ z∈x.elems.l,tv z:=by
  subst e6
  intro x hx
  simp only [bG.canon,Row.canon,Row.yP,List.mem_map] at hx
  obtain ⟨y,hy,rfl⟩:=hx
  exact f7 y hy
 refine ⟨e6,by grind,e1,e3,⟨by grind,by grind,by grind,by grind,e5,by rw [e2]; exact f6,e7⟩,?_,hc.2.2.2.2.2.2,hL,?_,?_,by grind,hc.2.1,hc.2.2.1⟩
 ·intro y hy
  rcases List.mem_cons.mp hy with rfl | hy
  ·exact ⟨⟨by decide,by decide⟩,.inl rfl⟩
  ·obtain ⟨z,hz,rfl⟩:=List.mem_map.mp hy
   have hz2:=hG z hz
   unfold o7 at hz2 ⊢
   rwa [e1]
 ·grind
 ·intro x; show look x reads = _; rw [hR,List.take_of_length_le hm]
def vy.LQ {d:iO} (h:vy d):∀ r∈d.runs.l,0<=r.iU/\r.iU<(d.iU.l.length:Int):=λr hr=>(h.2 r hr).2
def ow (E:List ko) (r:ja):Prop:=(∀ s∈r.steps.l,o7 E s.elem)/\r.mB.l.length<=12/\(∀ x∈r.mB.l,yZ x)/\r.guards.l.length<=1000/\r.holds.l.length<=1000
def Az {E:List ko} {r:ja} {l l2:List jg} (h:r.steps.l=l2) (h2:l2=l) (hS:∀ s∈l,o7 E s.elem) (hz:r.guards.l=[]/\r.mB.l=[]/\r.holds.l=[]):ow E r:=by
 obtain ⟨z1,z2,z3⟩:=hz
 refine ⟨by rw [h,h2]; exact hS,?_,?_,?_,?_⟩<;>simp [z1,z2,z3]
def MQ {E:List ko} {r a:ja} (h:r.steps.l=a.steps.l) (hg:ow E a) (hz:r.mB.l.length<=12/\(∀ x∈r.mB.l,yZ x)/\r.guards.l.length<=1000/\r.holds.l.length<=1000):ow E r :=
 ⟨by rw [h]; exact hg.1,hz.1,hz.2.1,hz.2.2.1,hz.2.2.2⟩
def Ve {E:List ko} {l:List jg} {k:Nat} {x x2:jg} (h:∀ s∈l,o7 E s.elem) {hk:k<l.length} (hq:l[k]=x) (he:x2.elem=x.elem):∀ s∈l.set k x2,o7 E s.elem:=by
 intro s hs
 rcases List.mem_or_eq_of_mem_set hs with hs | rfl
 ·exact h s hs
 ·rw [he,<- hq]; exact h _ (List.getElem_mem _)
end Go.Sx
namespace Go.Sx
open Go
inductive Ty where
 | int | bool | str
 | slice (e:Ty)
 | struct (fs:List Ty)
mutual
def Ty.size:Ty->Nat
 | .struct fs=>Ty.vc fs
 | _=>1
def Ty.vc:List Ty->Nat
 | []=>0
 | t::ts=>t.size+Ty.vc ts
end
mutual
def uS (P:Program):Ty->TypeId->Bool
 | .int,t=>match P.underlying t with
   | some (.int .i64)=>true
   | _=>false
 | .bool,t=>match P.underlying t with
   | some .bool=>true
   | _=>false
 | .str,t=>match P.underlying t with
   | some .string=>true
   | _=>false
 | .slice e,t=>match P.underlying t with
   | some (.slice te)=>uS P e te&&Nat.beq (P.cellsOf te) e.size&&Nat.blt 0 e.size
   | _=>false
 | .struct fs,t=>match P.underlying t with
   | some (.struct fds)=>Ey P fs fds.toList 0&&Nat.beq (P.cellsOf t) (Ty.vc fs)
   | _=>false
def Ey (P:Program):List Ty->List Field->Nat->Bool
 | [],[],_=>true
 | t::ts,f::fs,o=>uS P t f.type&&Nat.beq f.offset o&&Nat.beq (P.cellsOf f.type) t.size&&Ey P ts fs (o+t.size)
 | _,_,_=>false
end
mutual
def Fit:Ty->List AV->Prop
 | .int,cs=>∃ n,cs=[.int .i64 n]/\tv n
 | .bool,cs=>∃ b,cs=[.bool b]
 | .str,cs=>∃ s,cs=[.str s]/\s.length<=rX
 | .slice e,cs=>∃ xs c,cs=[.sl xs c]/\(∀ x∈xs,Fit e x)/\xs.length<=rX/\p6 c=false/\(c=.nil->xs=[])
 | .struct fs,cs=>qX fs cs
def qX:List Ty->List AV->Prop
 | [],cs=>cs=[]
 | t::ts,cs=>∃ a b,cs=a++b/\Fit t a/\qX ts b
end
def zf {α β:Type} {f : α->Option β}:∀ {l:List α} {r:List β},l.mapM f=some r->r.length=l.length/\∀ i (h:i<l.length),∃ y,f l[i]=some y/\r[i]?=some y
 | [],r,h=>by
   grind
 | a::l,r,h=>by
   rw [List.mapM_cons] at h
   cases ha:f a with
   | none=>rw [ha] at h; cases h
   | some y =>
     rw [ha] at h
     cases hl:l.mapM f with
     | none=>rw [hl] at h; cases h
     | some r' =>
       rw [hl] at h
       have:r=y::r':=(Option.some.inj h).symm
       subst this
       obtain ⟨h1,h2⟩:=zf hl
       refine ⟨by simp [h1],λi hi=>?_⟩
       cases i with
       | zero=>exact ⟨y,ha,rfl⟩
       | succ i=>exact h2 i (by simpa using hi)
def Aa {α:Type} {p:Nat->α->Prop}:∀ (n:Nat),(∀ i,i<n->∃ x,p i x)->∃ l:List α,l.length=n/\∀ i x,l[i]?=some x->p i x
 | 0,_=>⟨[],rfl,λi x h=>by simp at h⟩
 | n+1,h=>by
   obtain ⟨l,hl,hp⟩:=Aa n λi hi=>h i (by omega)
   obtain ⟨x,hx⟩:=h n (by omega)
   refine ⟨l++[x],by simp [hl],λi y hy=>?_⟩
   grind
theorem Ng {w:World} {a:Addr} {n:Nat} {cs:List Value} (h:w.cells? 0 a n=some cs):cs.length=n/\∀ j,j<n->∃ v,w.cell? (a.add j)=some v/\cs[j]?=some v:=by
 unfold World.cells? at h
 rw [if_pos (Nat.zero_le _)] at h
 obtain ⟨h1,h2⟩:=zf h
 grind
def GS {w:World} {a:Addr} {v:Value} (h:w.cell? a=some v):a.spot=none/\∃ c e fr,w.heap[a.block]?=some (.cells c e fr)/\c[a.off]?=some v:=by
 unfold World.cell? at h
 split at h<;>simp_all
section
variable {H:Type} {enc:TypeId×Value->H} {P:Program} {w:World} {spare:Nat->Bool} {held:Bool}
abbrev TW (w:World):Bool->Nat->Prop:=λ_ B=>B<w.heap.size
def Reads (w:World) (ty:Ty) (cs:List Value):Prop:=∃ xs:List AV,xs.length=cs.length/\cs.length=ty.size/\Fit ty xs/\(∀ (i:Nat) (x:AV) (v:Value),xs[i]?=some x->cs[i]?=some v->PR w (TW w) false x v/\v.oneCell'=true)
theorem K3 (a:Addr) (i j:Nat) (h:a.spot=none):(a.add i).add j=⟨a.block,a.off+i+j,none⟩:=by
 obtain ⟨b,o,s⟩:=a
 grind [Addr.add]
def rj {ty:Ty} (hs:ty.size=1) {x:AV} {v:Value} (hf:Fit ty [x]) (hp:PR w (TW w) false x v) (h1:v.oneCell'=true):Reads w ty [v]:=by
 refine ⟨[x],rfl,by simp [hs],hf,?_⟩
 grind
def y3 {fuel:Nat} (ih:∀ (ty:Ty) (t:TypeId) (cs:List Value) (r:DataW H×List MemPlace),uS P ty t=true->DataW.trod enc P w 0 spare held fuel t cs=some r->Reads w ty cs) (cs:List Value) :
  ∀ (tys:List Ty) (fds:List Field) (o:Nat),Ey P tys fds o=true->o+Ty.vc tys=cs.length->(∀ f∈fds,∃ r,DataW.trod enc P w 0 spare held fuel f.type ((cs.drop f.offset).take (P.cellsOf f.type))=some r) ->
    ∃ xs:List AV,xs.length=Ty.vc tys/\qX tys xs/\(∀ (i:Nat) (x:AV) (v:Value),xs[i]?=some x->cs[o+i]?=some v->PR w (TW w) false x v/\v.oneCell'=true)
 | [],fds,o,hf,hl,hr=>⟨[],rfl,rfl,λi x v h=>by simp at h⟩
 | t::ts,[],o,hf,hl,hr=>by simp [Ey] at hf
 | t::ts,f::fds,o,hf,hl,hr=>by
   simp only [Ey,Bool.and_eq_true] at hf
   obtain ⟨⟨⟨h1,h2⟩,h3⟩,h4⟩:=hf
   have h2:=Nat.eq_of_beq_eq_true h2
   have h3:=Nat.eq_of_beq_eq_true h3
   simp only [Ty.vc] at hl
   obtain ⟨r,hr1⟩:=hr f List.mem_cons_self
   obtain ⟨xs,e1,e2,e3,e4⟩:=ih t f.type _ r h1 hr1
   obtain ⟨ys,g1,g2,g3⟩:=y3 ih cs ts fds (o+t.size) h4 (by omega) (λf hf=>hr f (List.mem_cons_of_mem _ hf))
   have hx:xs.length=t.size:=by omega
   refine ⟨xs++ys,by grind [Ty.vc],⟨xs,ys,rfl,e3,g2⟩,?_⟩
   grind
def BO:∀ (fuel:Nat) (ty:Ty) (t:TypeId) (cs:List Value) (r:DataW H×List MemPlace),uS P ty t=true->DataW.trod enc P w 0 spare held fuel t cs=some r->Reads w ty cs:=by
 intro fuel
 induction fuel with
 | zero=>intro ty t cs r _ h; simp [DataW.trod] at h
 | succ fuel ih =>
   intro ty t cs r ht h
   cases ty with
   | int =>
     simp only [uS] at ht
     split at ht
     ·rename_i hU
      rcases cs with _ | ⟨v,_ | ⟨v2,rest⟩⟩
      ·simp [DataW.trod,hU] at h
      ·cases v<;>simp [DataW.trod,hU] at h
       rename_i k n
       obtain ⟨⟨rfl,hwf⟩,_⟩:=h
       simp only [Lit.wf,Bool.and_eq_true,decide_eq_true_eq] at hwf
       exact rj rfl ⟨n,rfl,hwf⟩ (.int _ _ n) rfl
      ·simp [DataW.trod,hU] at h
     grind
   | bool =>
     simp only [uS] at ht
     split at ht
     ·rename_i hU
      rcases cs with _ | ⟨v,_ | ⟨v2,rest⟩⟩
      ·simp [DataW.trod,hU] at h
      ·cases v<;>simp [DataW.trod,hU] at h
       rename_i b
       exact rj rfl ⟨b,rfl⟩ (.bool _ b) rfl
      ·simp [DataW.trod,hU] at h
     grind
   | str =>
     simp only [uS] at ht
     split at ht
     ·rename_i hU
      rcases cs with _ | ⟨v,_ | ⟨v2,rest⟩⟩
      ·simp [DataW.trod,hU] at h
      ·cases v<;>simp [DataW.trod,hU] at h
       rename_i s
       refine rj rfl ⟨s.data.toList,rfl,?_⟩ (.str _ _ s rfl) rfl
       simp_all [maxLen]
      ·simp [DataW.trod,hU] at h
     grind
   | slice e =>
     simp only [uS] at ht
     split at ht
     ·rename_i te hU
      simp only [Bool.and_eq_true] at ht
      obtain ⟨⟨ht,hsz⟩,hpos⟩:=ht
      have hsz:=Nat.eq_of_beq_eq_true hsz
      have hpos:0<e.size:=Nat.ble_eq.mp hpos
      rcases cs with _ | ⟨v,_ | ⟨v2,rest⟩⟩
      ·simp [DataW.trod,hU] at h
      ·cases v<;>try (simp [DataW.trod,hU] at h; done)
       rename_i a len cap
       cases a with
       | none =>
         cases len<;>cases cap<;>try (simp [DataW.trod,hU] at h; done)
         exact rj rfl ⟨[],.nil,rfl,by simp,by simp,rfl,λ_=>rfl⟩ (.slnil _) rfl
       | some a =>
         simp only [DataW.trod,hU] at h
         split at h
         ·rename_i hc
          obtain ⟨_,hlc,hcm⟩:=hc
          have hcb:cap<=rX:=by
           grind [maxLen]
          cases hm:(List.range len).mapM (λi=>(w.cells? 0 (a.add (i*P.cellsOf te)) (P.cellsOf te)).bind (DataW.trod enc P w 0 spare held fuel te)) with
          | none=>grind
          | some elems =>
            obtain ⟨_,hel⟩:=zf hm
            have hat:∀ i,i<len->∃ (xs:List AV) (vs:List Value),xs.length=e.size/\vs.length=e.size/\Fit e xs/\(∀ (j:Nat) (x:AV) (v:Value),xs[j]?=some x->vs[j]?=some v->PR w (TW w) false x v/\v.oneCell'=true) /\
              ∀ j,j<e.size->∃ v,w.cell? ((a.add (i*e.size)).add j)=some v/\vs[j]?=some v:=by
             intro i hi
             obtain ⟨y,hy,_⟩:=hel i (by grind)
             simp only [List.getElem_range] at hy
             cases hcs:w.cells? 0 (a.add (i*P.cellsOf te)) (P.cellsOf te) with
             | none=>grind
             | some vs =>
               rw [hcs] at hy
               obtain ⟨xs,e1,e2,e3,e4⟩:=ih e te vs y ht hy
               grind [Ng]
            cases len with
            | zero=>exact rj rfl ⟨[],.jc,rfl,by simp,by simp,rfl,λh=>by cases h⟩ (.ng _ .jc a cap (λh=>by cases h) (Nat.zero_le _)) rfl
            | succ L3 =>
              obtain ⟨xs0,vs0,_,_,_,_,hv0⟩:=hat 0 (by omega)
              obtain ⟨v00,hv00,_⟩:=hv0 0 hpos
              obtain ⟨hsp,c,et,fr,hB,_⟩:=GS hv00
              have hspot:a.spot=none:=by
               grind [Addr.add]
              have hB:w.heap[a.block]?=some (.cells c et fr):=by
               grind [Addr.add]
              obtain ⟨rows,hrl,hrp⟩:=Aa (p:=λi xs=>xs.length=e.size/\Fit e xs/\∀ (j:Nat) (x:AV),xs[j]?=some x->∃ v,c[a.off+i*e.size+j]?=some v/\PR w (TW w) false x v/\v.oneCell'=true) (L3+1) (by
               intro i hi
               obtain ⟨xs,vs,q1,q2,q3,q4,q5⟩:=hat i hi
               refine ⟨xs,q1,q3,λj x hx=>?_⟩
               have hj:j<e.size:=by grind
               obtain ⟨v,hv,hvj⟩:=q5 j hj
               obtain ⟨_,c',et',fr',hB',hcv⟩:=GS hv
               grind [K3])
              have hpr:PR w (TW w) false (.sl rows .jc) (.slice (some ⟨a.block,a.off,none⟩) rows.length cap):=by
               refine .sl false rows .jc a.block a.off c et fr cap e.size (λi j=>(c[a.off+i*e.size+j]?).getD .nilFunc) (λh=>by cases h) hB ?_ (by rw [hrl]; exact hlc) (by omega) ?_ ?_ ?_ ?_
               ·grind
               ·grind
               ·grind
               ·grind
               ·intro i cs' j x hcs' hx
                obtain ⟨v,hv,hp,_⟩:=(hrp i cs' hcs').2.2 j x hx
                rw [hv]; exact hp
              rw [hrl] at hpr
              have ha:a=⟨a.block,a.off,none⟩:=by obtain ⟨b,o,s⟩:=a; grind
              rw [<- ha] at hpr
              refine rj rfl ⟨rows,.jc,rfl,?_,by omega,rfl,λh=>by cases h⟩ hpr rfl
              intro x hx
              obtain ⟨i,hi⟩:=List.getElem?_of_mem hx
              grind
         ·cases h
      ·simp [DataW.trod,hU] at h
     grind
   | struct fs =>
     simp only [uS] at ht
     split at ht
     ·rename_i fds hU
      simp only [Bool.and_eq_true] at ht
      obtain ⟨hfs,hsz⟩:=ht
      have hsz:=Nat.eq_of_beq_eq_true hsz
      have hcs:cs.length=Ty.vc fs/\∀ f∈fds.toList,∃ r,DataW.trod enc P w 0 spare held fuel f.type ((cs.drop f.offset).take (P.cellsOf f.type))=some r:=by
       have key:(if cs.length=P.cellsOf t then (fds.toList.mapM λf=>DataW.trod enc P w 0 spare held fuel f.type ((cs.drop f.offset).take (P.cellsOf f.type))).map λxs=>(DataW.agg (xs.map (·.1)),xs.flatMap (·.2)) else none)=some r:=by
        rw [<- h]
        conv=>rhs; unfold DataW.trod
        rw [hU]
       split at key
       ·rename_i hl
        refine ⟨by omega,λf hf=>?_⟩
        cases hm:fds.toList.mapM λf=>DataW.trod enc P w 0 spare held fuel f.type ((cs.drop f.offset).take (P.cellsOf f.type)) with
        | none=>grind
        | some l =>
          obtain ⟨_,h2⟩:=zf hm
          obtain ⟨i,hi,rfl⟩:=List.mem_iff_getElem.mp hf
          grind
       grind
      obtain ⟨xs,x1,x2,x3⟩:=y3 ih cs fs fds.toList 0 hfs (by omega) hcs.2
      refine ⟨xs,by omega,hcs.1,x2,?_⟩
      grind
     grind
end
end Go.Sx
namespace Go.Sx
open Go
def zC:Ty:=.struct [.int,.int]
def JO:Ty:=.struct [.str,.int,.int]
def Ji:Ty:=.struct [zC,zC]
def ML:Ty:=.struct [.str,zC,.bool]
def Ju:Ty:=.struct [.str,.slice .int]
def DI:Ty:=.struct [.slice JO,.slice Ji,.slice ML,.slice Ju,.int,.int,.int,.int,.bool]
def DY:Ty:=.struct [.str,.int,.int,.int,.int]
def Oi:Ty:=.struct [.bool,.int,.int,.int]
def OA:Ty:=.struct [.str,.int,.int,.int,.slice Oi]
def DA:Ty:=.struct [.int,.slice DY,.slice OA]
def xn {α:Type} {enc : α->List AV} {Q : α->Prop} {e:Ty} (he:∀ xs,Fit e xs->∃ x : α,xs=enc x/\Q x) {cs:List AV} (h:Fit (.slice e) cs):∃ r:Row α,cs=[r.av enc]/\∀ x∈r.l,Q x:=by
 simp only [Fit] at h
 obtain ⟨xs,c,rfl,h1,h2,h3,h4⟩:=h
 have:∀ xs:List (List AV),(∀ x∈xs,Fit e x)->∃ l:List α,xs=l.map enc/\∀ x∈l,Q x:=by
  intro xs
  induction xs with
  | nil=>exact λ_=>⟨[],rfl,by simp⟩
  | cons a xs ih =>
    intro h
    obtain ⟨y,hy,hq⟩:=he a (h a List.mem_cons_self)
    obtain ⟨l,hl,hl2⟩:=ih λx hx=>h x (List.mem_cons_of_mem _ hx)
    exact ⟨y::l,by grind,by simp_all⟩
 obtain ⟨l,rfl,hQ⟩:=this xs h1
 exact ⟨⟨l,c,by grind,h3,λhc=>by grind⟩,rfl,hQ⟩
def wq {α:Type} {enc : α->List AV} {e:Ty} (he:∀ xs,Fit e xs->∃ x : α,xs=enc x) {cs:List AV} (h:Fit (.slice e) cs):∃ r:Row α,cs=[r.av enc]:=by
 obtain ⟨r,hr,_⟩:=xn (Q:=λ_=>True) (λxs hx=>(he xs hx).imp λ_ h=>⟨h,trivial⟩) h
 exact ⟨r,hr⟩
def wN {cs:List AV} (h:Fit .int cs):∃ n:Int,cs=j4 n:=by unfold Fit at h; exact h.imp λ_ h=>h.1
def Ns {cs:List AV} (h:Fit .int cs):∃ n:Int,cs=j4 n/\tv n:=by unfold Fit at h; exact h
def yh {cs:List AV} (h:Fit zC cs):∃ x:iM,cs=x.ag/\tv x.elem:=by
 simp only [zC,Fit,qX] at h
 obtain ⟨_,_,rfl,⟨a,rfl,ha⟩,_,_,rfl,⟨b,rfl,hb⟩,rfl⟩:=h
 exact ⟨⟨a,b⟩,rfl,ha⟩
def Nh {cs:List AV} (h:Fit zC cs):∃ x:iM,cs=x.ag:=(yh h).imp λ_ h=>h.1
def On {cs:List AV} (h:Fit JO cs):∃ x:ko,cs=x.ag:=by
 simp only [JO,Fit,qX] at h
 obtain ⟨_,_,rfl,⟨s,rfl,hs⟩,_,_,rfl,⟨a,rfl,_⟩,_,_,rfl,⟨b,rfl,_⟩,rfl⟩:=h
 exact ⟨⟨⟨s,hs⟩,a,b⟩,rfl⟩
def Ob {cs:List AV} (h:Fit Ji cs):∃ x:kD,cs=x.ag/\tv x.a.elem/\tv x.b.elem:=by
 simp only [Ji,qX] at h
 unfold Fit at h
 simp only [qX] at h
 obtain ⟨_,_,rfl,h1,_,_,rfl,h2,rfl⟩:=h
 obtain ⟨x,rfl,hx⟩:=yh h1
 obtain ⟨y,rfl,hy⟩:=yh h2
 exact ⟨⟨x,y⟩,rfl,hx,hy⟩
def TX {cs:List AV} (h:Fit ML cs):∃ x:kb,cs=x.ag:=by
 simp only [ML,Fit,qX] at h
 obtain ⟨_,_,rfl,⟨s,rfl,hs⟩,_,_,rfl,h2,_,_,rfl,⟨b,rfl⟩,rfl⟩:=h
 obtain ⟨y,rfl⟩:=Nh h2
 exact ⟨⟨⟨s,hs⟩,y,b⟩,rfl⟩
def MT {cs:List AV} (h:Fit Ju cs):∃ x:jN,cs=x.ag/\∀ z∈x.elems.l,tv z:=by
 simp only [Ju,qX] at h
 unfold Fit at h
 simp only [qX] at h
 obtain ⟨_,_,rfl,h1,_,_,rfl,h2,rfl⟩:=h
 simp only [Fit] at h1
 obtain ⟨s,rfl,hs⟩:=h1
 obtain ⟨r,rfl,hr⟩:=xn (λ_=>Ns) h2
 exact ⟨⟨⟨s,hs⟩,r⟩,rfl,hr⟩
def Kf {cs:List AV} (h:Fit DY cs):∃ x:jr,cs=x.ag:=by
 simp only [DY,Fit,qX] at h
 obtain ⟨_,_,rfl,⟨s,rfl,hs⟩,_,_,rfl,⟨a,rfl,_⟩,_,_,rfl,⟨b,rfl,_⟩,_,_,rfl,⟨c,rfl,_⟩,_,_,rfl,⟨d,rfl,_⟩,rfl⟩:=h
 exact ⟨⟨⟨s,hs⟩,a,b,c,d⟩,rfl⟩
def Ua {cs:List AV} (h:Fit Oi cs):∃ x:jR,cs=x.ag:=by
 simp only [Oi,Fit,qX] at h
 obtain ⟨_,_,rfl,⟨t,rfl⟩,_,_,rfl,⟨a,rfl,_⟩,_,_,rfl,⟨b,rfl,_⟩,_,_,rfl,⟨c,rfl,_⟩,rfl⟩:=h
 exact ⟨⟨t,a,b,c⟩,rfl⟩
def UC {cs:List AV} (h:Fit OA cs):∃ x:jC,cs=x.ag:=by
 unfold OA Fit at h
 simp only [qX] at h
 obtain ⟨_,_,rfl,h1,_,_,rfl,h2,_,_,rfl,h3,_,_,rfl,h4,_,_,rfl,h5,rfl⟩:=h
 simp only [Fit] at h1 h2 h3 h4
 obtain ⟨s,rfl,hs⟩:=h1
 obtain ⟨a,rfl,_⟩:=h2
 obtain ⟨b,rfl,_⟩:=h3
 obtain ⟨c,rfl,_⟩:=h4
 obtain ⟨r,rfl⟩:=wq (λ_=>Ua) h5
 exact ⟨⟨⟨s,hs⟩,a,b,c,r⟩,rfl⟩
def Mg {cs:List AV} (h:Fit DA cs):∃ x:iO,cs=x.ag:=by
 unfold DA Fit at h
 simp only [qX] at h
 obtain ⟨_,_,rfl,h1,_,_,rfl,h2,_,_,rfl,h3,rfl⟩:=h
 obtain ⟨a,rfl⟩:=wN h1
 obtain ⟨r,rfl⟩:=wq (λ_=>Kf) h2
 obtain ⟨s,rfl⟩:=wq (λ_=>UC) h3
 exact ⟨⟨a,r,s⟩,rfl⟩
def Mc {cs:List AV} (h:Fit DI cs):∃ x:bG,cs=x.ag/\JG x:=by
 unfold DI Fit at h
 simp only [qX] at h
 obtain ⟨_,_,rfl,h1,_,_,rfl,h2,_,_,rfl,h3,_,_,rfl,h4,_,_,rfl,h5,_,_,rfl,h6,_,_,rfl,h7,_,_,rfl,h8,_,_,rfl,h9,rfl⟩:=h
 obtain ⟨r1,rfl⟩:=wq (λ_=>On) h1
 obtain ⟨r2,rfl,hj⟩:=xn (λ_=>Ob) h2
 obtain ⟨r3,rfl⟩:=wq (λ_=>TX) h3
 obtain ⟨r4,rfl,hl⟩:=xn (λ_=>MT) h4
 obtain ⟨a,rfl⟩:=wN h5
 obtain ⟨b,rfl⟩:=wN h6
 obtain ⟨c,rfl⟩:=wN h7
 obtain ⟨d,rfl⟩:=wN h8
 simp only [Fit] at h9
 obtain ⟨t,rfl⟩:=h9
 exact ⟨⟨r1,r2,r3,r4,a,b,c,d,t⟩,rfl,hj,hl⟩
section
variable {w:World}
def C6 {ty:Ty} {v:Value} (h:Reads w ty v.cells.toList) (h2:2<=ty.size):∃ xs,Fit ty xs/\PR w (TW w) false (.agg xs) v:=by
 obtain ⟨xs,h1,hs,hf,hp⟩:=h
 have hsz:2<=v.cells.size:=by
  grind
 cases v with
 | agg cs =>
   refine ⟨xs,hf,.agg false xs cs (by grind [Value.cells]) ?_ ?_⟩
   ·intro i y hy
    have hi:i<xs.length:=by
     grind [Value.cells]
    exact (hp i xs[i] y (by simp [hi]) (by grind [Value.cells])).2
   grind [Value.cells]
 | _=>simp [Value.cells] at hsz
end
end Go.Sx
namespace Go.Sx
open Go Go.Proofs Go.RowKit Go.Maps Go.WideElems Go.WideShapes
def AQ (x:Int):List Int->List Int
 | []=>[x]
 | y::l=>if x<=y then x::y::l else y::AQ x l
def kT:List Int->List Int
 | []=>[]
 | x::l=>AQ x (kT l)
def JF:AV->Option Int
 | .int .i64 n=>if -9223372036854775808<=n/\n<=9223372036854775807 then some n else none
 | _=>none
def xy:List (AV×AV)->Option (List Int)
 | []=>some []
 | p::l=>match JF p.1 with
   | some n=>match xy l with
     | some ks=>some (n::ks)
     | none=>none
   | none=>none
def Ci:List Int->Bool
 | []=>true
 | x::l=>!(l.contains x)&&Ci l
def Nj:List Int->AV
 | []=>.sl [] .nil
 | l=>.sl (l.map λn=>[.int .i64 n]) .jc
def w0 (shd:Bool) (l:List Int) (h:aT):AV×aT:=match shd,l with
 | true,x::l=>(.hs h.size 0 0 (l.length+1),h.push (.iQ 0 1 ((x::l).map λn=>[.int .i64 n])))
 | _,l=>(Nj l,h)
def pS (shd:Bool) (ks:Option (List Int)) (h:aT):R2:=match ks with
 | some ks=>match Ci ks&&Nat.ble ks.length 1000000 with
   | true=>some (w0 shd (kT ks) h)
   | false=>none
 | none=>none
def acK (p:AV×AV×Nat):AV×AV:=(p.1,p.2.1)
def qi (shd:Bool) (args:List AV) (h:aT):R2:=match args with
 | [.kJ]=>some (.sl [] .nil,h)
 | [.fm es _]=>pS shd (xy es) h
 | [.hm b]=>match h.get b with
   | some (.map es _)=>pS shd (xy (es.map acK)) h
   | _=>none
 | _=>none
def yY (x:Int):∀ l,(AQ x l).Perm (x::l)
 | []=>.refl _
 | y::l=>by
   unfold AQ
   split
   ·exact .refl _
   ·exact ((yY x l).cons y).trans (.swap x y l)
theorem sB:∀ l,(kT l).Perm l
 | []=>.refl _
 | x::l=>(yY x _).trans ((sB l).cons x)
def zO (x:Int):∀ {l:List Int},l.Pairwise (·<=·)->(AQ x l).Pairwise (·<=·)
 | [],_=>by simp [AQ]
 | y::l,h=>by
   unfold AQ
   rw [List.pairwise_cons] at h
   split
   ·rename_i hxy
    refine List.pairwise_cons.2 ⟨λz hz=>?_,List.pairwise_cons.2 h⟩
    rcases List.mem_cons.1 hz with rfl | hz
    ·exact hxy
    ·exact Int.le_trans hxy (h.1 z hz)
   ·refine List.pairwise_cons.2 ⟨λz hz=>?_,zO x h.2⟩
    rcases List.mem_cons.1 ((yY x l).mem_iff.1 hz) with rfl | hz
    ·omega
    ·exact h.1 z hz
def xY:∀ l,(kT l).Pairwise (·<=·)
 | []=>.nil
 | x::l=>zO x (xY l)
theorem CU {l l':List Int} (h:l.Perm l'):l.mergeSort leI=kT l':=by
 rw [mergeSort_of_perm_i (h.trans (sB l').symm)]
 exact List.mergeSort_of_pairwise ((xY l').imp (by simp [leI]))
theorem CY {v:AV} {n:Int} (h:JF v=some n):v=.int .i64 n/\-9223372036854775808<=n/\n<=9223372036854775807:=by
 unfold JF at h
 grind
def B1:∀ {es:List (AV×AV)} {ks:List Int},xy es=some ks->es.map (·.1)=ks.map (AV.int .i64)/\∀ n∈ks,-9223372036854775808<=n/\n<=9223372036854775807
 | [],ks,h=>by simp only [xy,Option.some.injEq] at h; subst h; simp
 | p::l,ks,h=>by
   unfold xy at h
   split at h
   ·rename_i n hn
    split at h
    ·rename_i ks' hk
     obtain ⟨e1,h1⟩:=CY hn
     obtain ⟨e2,h2⟩:=B1 hk
     simp only [Option.some.injEq] at h
     subst h
     refine ⟨by simp [e1,e2],λm hm=>?_⟩
     rcases List.mem_cons.1 hm with rfl | hm
     ·exact h1
     ·exact h2 m hm
    ·cases h
   ·cases h
def Bl:∀ {l:List Int},Ci l=true->l.Nodup
 | [],_=>.nil
 | x::l,h=>by
   simp only [Ci,Bool.and_eq_true,Bool.not_eq_true',List.contains_eq_mem,decide_eq_false_iff_not] at h
   exact List.nodup_cons.2 ⟨h.1,Bl h.2⟩
def B0 {G:Ga} (hW:WR G) {w':World} (hb:Below G.w.heap.size G.w w') (Tn:Bool->Nat->Prop) (hT:∀ s B,Tn s B->G.w.heap.size<=B/\B<w'.heap.size) :
  let G':Ga:=⟨w',λs B=>G.T s B\/Tn s B,G.h,G.pi,G.L⟩
  Step G G'/\WR G':=by
 intro G'
 have hold:∀ B,B<G.w.heap.size->G'.w.heap[B]?=G.w.heap[B]?:=hb.block
 have E:Ext G G':=⟨λ_ _ h=>.inl h,λs B h=>hold B (hW.nc s B h),Nat.le_refl _,λb _ g z xs h=>⟨g,z,xs,h,Nat.le_refl _,λ_=>⟨rfl,λ_ h=>h⟩⟩,λb _ es c h=>⟨es,c,h,λ_ h=>h⟩,λ_ _ h=>h⟩
 obtain ⟨k1,k2,k3⟩:=hW.keep E hold
 have hs:=hb.size
 refine ⟨⟨E,hb.os,hb.output,hb.tape,hb.size,λB h _ _=>hold B h,λb l h=>.inl ⟨l,h,rfl⟩,λb l h=>.inl (by show (G.pi b).isSome=true; rw [show G.pi b=some l from h]; rfl),?_,rfl,λ_ _ _=>rfl,λ_ _ h=>.inl h,λd B h=>.inl (by rw [show G.L d=some B from h]; rfl),λ_ _ _ h=>h⟩,k1,k2,k3,?_,hW.mK,?_,hW.oE,?_,hW.o9,?_,?_,hW.lo,hW.lt⟩
 ·rintro s B (h | h)
  ·exact .inl h
  ·exact .inr (hT s B h).1
 ·exact λb l h=>⟨Nat.lt_of_lt_of_le (hW.kY b l h).1 hs,(hW.kY b l h).2⟩
 ·rintro s b l h (ht | ht)
  ·exact hW.qp s b l h ht
  ·have:=(hW.kY b l h).1; have:=(hT _ _ ht).1; omega
 ·rintro s d B h (ht | ht)
  ·exact hW.LT s d B h ht
  ·have:=(hW.me d B h).1; have:=(hT _ _ ht).1; omega
 ·exact λd B h=>⟨Nat.lt_of_lt_of_le (hW.me d B h).1 hs,(hW.me d B h).2⟩
 ·rintro s B (h | h)
  ·exact Nat.lt_of_lt_of_le (hW.nc s B h) hs
  ·exact (hT s B h).2
section
variable {G:Ga} {w':World}
def TY (hW:WR G) {g cap z:Nat} {xs:List (List AV)} (hb:Below G.w.heap.size G.w w') (hg:G.w.heap.size<=g) (hlt:g<w'.heap.size)
  (hblk:∀ G',Ext G G'->G'.w=w'->nG G' ⟨g,0,cap⟩ z xs) :
  Step G ⟨w',G.T,G.h.push (.iQ 0 z xs),mR G.pi G.h.size (some ⟨g,0,cap⟩),G.L⟩/\WR ⟨w',G.T,G.h.push (.iQ 0 z xs),mR G.pi G.h.size (some ⟨g,0,cap⟩),G.L⟩:=by
 obtain ⟨s1,hV⟩:=Dq hW (.iQ 0 z xs)
 have hp0:G.pi G.h.size=none:=Bk hW (Nat.le_refl _)
 have hget:(G.h.push (.iQ 0 z xs)).get G.h.size=some (.iQ 0 z xs):=by rw [aT.po _ _ _ hW.lo,if_pos rfl]
 have hup:∀ b l,G.pi b=some l->mR G.pi G.h.size (some ⟨g,0,cap⟩) b=some l:=by
  grind [m4]
 have hold:∀ B,B<G.w.heap.size->w'.heap[B]?=G.w.heap[B]?:=hb.block
 have hs:=hb.size
 have E:Ext ⟨G.w,G.T,G.h.push (.iQ 0 z xs),G.pi,G.L⟩ ⟨w',G.T,G.h.push (.iQ 0 z xs),mR G.pi G.h.size (some ⟨g,0,cap⟩),G.L⟩ :=
  ⟨λ_ _ h=>h,λs B hB=>hold B (hW.nc s B hB),Nat.le_refl _,λb _ g z xs h=>⟨g,z,xs,h,Nat.le_refl _,λ_=>⟨rfl,hup b⟩⟩,λb _ es c h=>⟨es,c,h,hup b⟩,λ_ _ h=>h⟩
 obtain ⟨k1,k2,k3⟩:=hV.keep E (λB hB=>hold B hB)
 have hdom:∀ b l,mR G.pi G.h.size (some ⟨g,0,cap⟩) b=some l->(b=G.h.size/\l=⟨g,0,cap⟩)\/(b≠G.h.size/\G.pi b=some l):=by
  grind [lH,m4]
 have hF:tl ⟨G.w,G.T,G.h.push (.iQ 0 z xs),G.pi,G.L⟩ ⟨w',G.T,G.h.push (.iQ 0 z xs),mR G.pi G.h.size (some ⟨g,0,cap⟩),G.L⟩ (·=G.h.size) (λ_=>False):=by
  refine ⟨E,hb.os,hb.output,hb.tape,hs,λB hB=>hold B hB,?_,?_,rfl,rfl,λ_ _ h=>.inl h,λ_ _ h=>.inl (Option.isSome_iff_exists.2 ⟨_,h⟩)⟩
  ·grind
  ·grind
 refine ⟨s1.fill hF (by omega) (λ_ h=>h.elim),?_⟩
 have hL:=hblk _ (s1.ext.trans E) rfl
 constructor
 ·intro b l g' z' xs' hp hg'
  rcases hdom b l hp with ⟨rfl,rfl⟩ | ⟨_,hp⟩
  ·rw [hget] at hg'
   cases hg'
   exact hL
  ·exact k1 b l g' z' xs' hp hg'
 ·intro b l es c hp hg'
  rcases hdom b l hp with ⟨rfl,rfl⟩ | ⟨_,hp⟩
  ·rw [hget] at hg'; cases hg'
  ·exact k2 b l es c hp hg'
 ·exact k3
 ·intro b l hp
  rcases hdom b l hp with ⟨rfl,rfl⟩ | ⟨_,hp⟩
  ·exact ⟨hlt,hV.lt _ _ hget⟩
  ·have:=hV.kY b l hp
   exact ⟨Nat.lt_of_lt_of_le this.1 hs,this.2⟩
 ·intro b b' l l' hp hp' he
  rcases hdom b l hp with ⟨rfl,rfl⟩ | ⟨_,hq⟩
  ·rcases hdom b' l' hp' with ⟨rfl,rfl⟩ | ⟨_,hq'⟩
   ·rfl
   ·have:=(hW.kY b' l' hq').1
    grind
  ·rcases hdom b' l' hp' with ⟨rfl,rfl⟩ | ⟨_,hq'⟩
   ·have:=(hW.kY b l hq).1
    grind
   ·exact hW.mK b b' l l' hq hq' he
 ·intro s b l hp hT
  rcases hdom b l hp with ⟨rfl,rfl⟩ | ⟨_,hp⟩
  ·have:=hW.nc s _ hT
   grind
  ·exact hW.qp s b l hp hT
 ·exact hW.oE
 ·exact hW.LT
 ·intro d B b l hd hp
  rcases hdom b l hp with ⟨rfl,rfl⟩ | ⟨_,hp⟩
  ·have:=(hW.me d B hd).1
   grind
  ·exact hW.o9 d B b l hd hp
 ·intro d B hd
  have:=hV.me d B hd
  exact ⟨Nat.lt_of_lt_of_le this.1 hs,this.2⟩
 ·intro s B hB
  exact Nat.lt_of_lt_of_le (hW.nc s B hB) hs
 ·exact hV.lo
 ·exact hV.lt
end
def z7 {P:Program} {f kt:Nat} (hk:P.underlying kt=some (.int .i64))     (h1:∀ (b nn:Nat) (D0:DataW Unit) (w:World),w.ownsMap P kt (λ_=>some (.nil,[])) b nn D0->Maps.size D0<=maxLen->Maps.size D0*8<=140737488355328->      Calls P f #[.map (some b)] w λe w'=>∃ (v:Value) (ss:List Int),e=.returned v/\ss.Perm (intKeys D0)/\      w'.ownsRow w.heap.size kt 1 v ss.length ((ss.mergeSort leI).map encZ)/\(v=.slice none 0 0↔ss=[])/\Below w.heap.size w w')
  {G:Ga} (hW:WR G) {es:List (AV×AV)} {ks:List Int} (hks:xy es=some ks) (hn:(Ci ks&&Nat.ble ks.length 1000000)=true)
  {r:Nat} {ents:Array MapEntry} {clk:Nat} (hB:G.w.heap[r]?=some (.map ents clk)) (hll:es.length=ents.size) (hyo:MO ents clk)
  (hkk:∀ (i:Nat) (p:AV×AV) (e:MapEntry),es[i]?=some p->ents[i]?=some e->∃ m,PR G.w G.T m p.1 e.key)
  (shd:Bool) {R:Ending->World->Prop} (hR:∀ u G',Step G G'->WR G'->G'.h=(w0 shd (kT ks) G.h).2->(∀ m L,VR (G'.j5 m L) (w0 shd (kT ks) G.h).1 u)->R (.returned u) G'.w) :
  Calls P f #[.map (some r)] G.w R:=by
 simp only [Bool.and_eq_true,Nat.ble_eq] at hn
 obtain ⟨hn,hlen⟩:=hn
 have hnd:=Bl hn
 obtain ⟨hmap,hrg⟩:=B1 hks
 have hel:es.length=ks.length:=by simpa using congrArg List.length hmap
 have hkey:ents.toList.map (·.key)=ks.map encZ:=by
  apply List.ext_getElem?
  intro i
  simp only [List.getElem?_map,Array.getElem?_toList]
  cases he:ents[i]? with
  | none =>
    have:ks.length<=i:=by rw [<- hel,hll]; exact Array.getElem?_eq_none_iff.1 he
    rw [List.getElem?_eq_none this]; rfl
  | some e =>
    have hi:i<es.length:=by rw [hll]; exact (Array.getElem?_eq_some_iff.1 he).1
    obtain ⟨m,hp⟩:=hkk i es[i] e (by simp [hi]) he
    have hq:(es.map (·.1))[i]?=some es[i].1:=by simp [hi]
    rw [hmap,List.getElem?_map] at hq
    cases hki:ks[i]? with
    | none=>rw [hki] at hq; cases hq
    | some n =>
      rw [hki] at hq
      simp only [Option.map_some,Option.some.injEq] at hq
      rw [<- hq] at hp
      have hx:e.key=.int .i64 n:=by
       generalize e.key=kv at hp
       cases hp; rfl
      simp [hx]
 have hrd:∀ x∈ents.toList,∃ n∈ks,x.key=encZ n/\rd P kt (λ_=>some ((.nil,[]):DataW Unit×List MemPlace)) x=some (.int .i64 n,.nil):=by
  intro x hx
  have:x.key∈ks.map encZ:=hkey▸List.mem_map_of_mem hx
  obtain ⟨n,hn,he⟩:=List.mem_map.1 this
  refine ⟨n,hn,he.symm,?_⟩
  have hw:(Lit.int .i64 n).wf=true:=by
   have:=hrg n hn
   have e1:IntKind.i64.min = -9223372036854775808:=by decide
   have e2:IntKind.i64.max=9223372036854775807:=by decide
   simp only [Lit.wf,e1,e2,Bool.and_eq_true,decide_eq_true_eq]
   exact this
  unfold rd
  rw [<- he,keyOf_int_mk hk hw]; rfl
 have hsz:ents.size=ks.length:=by omega
 have hown:G.w.ownsMap P kt (λ_=>some (.nil,[])) r ents.size (.map ((ents.toList.map (rg P kt (λ_=>some ((.nil,[]):DataW Unit×List MemPlace)))).foldr DataW.insert [])) :=
  ⟨ents,clk,hB,⟨by rw [hsz]; exact Nat.le_trans hlen (by decide),⟨λx hx=>by obtain ⟨i,hi⟩:=List.getElem?_of_mem hx; exact hyo.1 i x (by simpa using hi),hyo.2,by rw [hkey]; exact List.Pairwise.map _ (λa b hab h=>hab (encZ_inj h)) hnd⟩,λx hx=>by obtain ⟨n,_,_,h⟩:=hrd x hx; exact ⟨_,h⟩⟩,Nat.le_refl _,rfl⟩
 have hik:(intKeys (.map ((ents.toList.map (rg P kt (λ_=>some ((.nil,[]):DataW Unit×List MemPlace)))).foldr DataW.insert []))).Perm ks:=by
  refine ((sorted_perm _).map (λp:Lit×DataW Unit=>intOf p.1)).trans ?_
  rw [List.map_map]
  have:ents.toList.map ((λp:Lit×DataW Unit=>intOf p.1) ∘ rg P kt (λ_=>some ((.nil,[]):DataW Unit×List MemPlace)))=(ents.toList.map (·.key)).map (λv=>match v with | .int _ n=>n | _=>0):=by
   rw [List.map_map]
   refine List.map_congr_left λx hx=>?_
   obtain ⟨n,_,e,h⟩:=hrd x hx
   simp only [Function.comp,rg_of h,e,intOf]
  rw [this,hkey,List.map_map]
  exact .of_eq (by simp [Function.comp_def])
 have hs0:Maps.size (.map ((ents.toList.map (rg P kt (λ_=>some ((.nil,[]):DataW Unit×List MemPlace)))).foldr DataW.insert []))=ks.length:=by
  have:=hik.length_eq
  simpa [intKeys,Maps.size] using this
 refine (h1 r _ _ G.w hown (by rw [hs0]; exact Nat.le_trans hlen (by decide)) (by rw [hs0]; omega)).mono ?_
 rintro e w' ⟨v,ss,rfl,hss,hrow,hnil,hb⟩
 rw [CU (hss.trans hik)] at hrow
 have sZ:ss.length=(kT ks).length:=by rw [(hss.trans hik).length_eq,(sB ks).length_eq]
 rcases hrow.2 with ⟨rfl,hz⟩ | ⟨g,cap,cur,rfl,hbase,hgb,r1,r2,r3,r4⟩
 ·obtain ⟨S1,W1⟩:=B0 hW hb (λ_ _=>False) (λ_ _ h=>h.elim)
  have:kT ks=[]:=List.eq_nil_of_length_eq_zero (by omega)
  have hr0:w0 shd (kT ks) G.h=(.sl [] .nil,G.h):=by rw [this]; cases shd<;>rfl
  exact hR _ _ S1 W1 (by rw [hr0]) (λm L=>by rw [hr0]; exact VR.j5 (.jE rfl (.slnil _)) rfl)
 ·have hglt:g<w'.heap.size:=(Array.getElem?_eq_some_iff.1 hgb).1
  have hne:kT ks≠[]:=by
   intro h0
   have:ss=[]:=List.eq_nil_of_length_eq_zero (by rw [sZ,h0]; rfl)
   cases hnil.2 this
  have hrw:Nj (kT ks)=.sl ((kT ks).map λn=>[.int .i64 n]) .jc:=by
   cases hq:kT ks with
   | nil=>exact (hne hq).elim
   | cons a l=>rfl
  have hcell:∀ (i:Nat) (n:Int),(kT ks)[i]?=some n->cur[i]?=some (.int .i64 n):=by
   intro i n hn
   have hi:i<(kT ks).length:=(List.getElem?_eq_some_iff.1 hn).1
   have h2:(cur.toList.take (ss.length*1))[i]?=((kT ks).map encZ)[i]?:=by rw [r4]
   rw [List.getElem?_take_of_lt (by omega),List.getElem?_map,hn] at h2
   simpa using h2
  have hlist:∀ (i:Nat) (cs:List AV),((kT ks).map λn=>([.int .i64 n]:List AV))[i]?=some cs->∃ n,(kT ks)[i]?=some n/\cs=[.int .i64 n]:=by
   intro i cs h
   rw [List.getElem?_map] at h
   cases hq:(kT ks)[i]? with
   | none=>rw [hq] at h; cases h
   | some n=>rw [hq] at h; exact ⟨n,rfl,by simpa using h.symm⟩
  cases shd with
  | false =>
    obtain ⟨S1,W1⟩:=B0 hW hb (λs B=>s=false/\B=g) (λ_ _ h=>by rw [h.2]; exact ⟨hbase,hglt⟩)
    have key:PR w' (λs B=>G.T s B\/s=false/\B=g) true (.sl ((kT ks).map λn=>[.int .i64 n]) .jc) (.slice (some ⟨g,0,none⟩) ((kT ks).map λn=>([.int .i64 n]:List AV)).length cap):=by
     refine .sl _ _ .jc g 0 cur kt (0,0) cap 1 (λi _=>.int .i64 ((kT ks).getD i 0)) (λh=>by cases h) hgb (.inr ⟨rfl,rfl⟩) ?_ ?_ ?_ ?_ ?_ ?_
     ·show _<=_; rw [List.length_map,<- sZ]; exact r1
     ·rw [List.length_map,<- sZ]; exact r1
     ·intro i cs h; obtain ⟨n,_,rfl⟩:=hlist i cs h; rfl
     ·intro i cs j x h hj
      obtain ⟨n,hn,rfl⟩:=hlist i cs h
      cases j with
      | zero=>simp only [Nat.zero_add,Nat.mul_one,Nat.add_zero]; rw [hcell i n hn,List.getD_eq_getElem?_getD,hn]; rfl
      | succ j=>cases hj
     ·intro i cs j x _ _; rfl
     ·intro i cs j x h hj
      obtain ⟨n,hn,rfl⟩:=hlist i cs h
      cases j with
      | zero =>
        simp only [List.getElem?_cons_zero,Option.some.injEq] at hj
        subst hj
        rw [List.getD_eq_getElem?_getD,hn]
        exact .int _ _ _
      | succ j=>cases hj
    rw [List.length_map,<- sZ] at key
    exact hR _ _ S1 W1 rfl (λm L=>by rw [show w0 false (kT ks) G.h=(Nj (kT ks),G.h) from rfl,hrw]; exact VR.j5 (.jE rfl key) rfl)
  | true =>
    have hr1:w0 true (kT ks) G.h=(.hs G.h.size 0 0 ss.length,G.h.push (.iQ 0 1 ((kT ks).map λn=>[.int .i64 n]))):=by
     rw [sZ]
     cases hq:kT ks with
     | nil=>exact (hne hq).elim
     | cons a l=>rfl
    obtain ⟨S1,W1⟩:=TY (cap:=cap) (z:=1) (xs:=(kT ks).map λn=>[.int .i64 n]) hW hb hbase hglt (by
     intro G' E e
     refine ⟨cur,kt,by rw [e]; exact hgb,by rw [List.length_map,<- sZ]; exact r1,by show 0+cap*1<=_; omega,?_,?_⟩
     ·intro i cs h; obtain ⟨n,_,rfl⟩:=hlist i cs h; rfl
     ·intro i cs j x h hj
      obtain ⟨n,hn,rfl⟩:=hlist i cs h
      cases j with
      | zero =>
        simp only [List.getElem?_cons_zero,Option.some.injEq] at hj
        subst hj
        refine ⟨.int .i64 n,?_,rfl,⟨.jE rfl (.int _ _ _),rfl⟩⟩
        simp only [Nat.zero_add,Nat.mul_one,Nat.add_zero]
        exact hcell i n hn
      | succ j=>cases hj)
    refine hR _ _ S1 W1 (by rw [hr1]) (λm L=>?_)
    rw [hr1]
    refine VR.j5 (.hs _ 0 0 _ _ cap ?_ (λ_ _ _ _=>Nat.zero_le _) r1 ?_) rfl
    ·show G.h.size<(G.h.push _).size
     rw [aT.size_push]
     exact Nat.lt_succ_self _
    ·intro z xs _
     exact ⟨_,lH _ _ _,by simp,λ_=>by simp⟩
def vx {shd:Bool} {ks:Option (List Int)} {h:aT} {v:AV} {h':aT} (hc:pS shd ks h=some (v,h')):∃ l,ks=some l/\(Ci l&&Nat.ble l.length 1000000)=true/\w0 shd (kT l) h=(v,h'):=by
 unfold pS at hc
 grind
def Jw:∀ (args:List AV) (h:aT) (v:AV) (h':aT),qi false args h=some (v,h')->h'=h/\∀ h2:aT,(∀ b o,h.get b=some o->h2.get b=some o)->qi false args h2=some (v,h2):=by
 intro args h v h' hc
 unfold qi at hc
 split at hc
 ·cases hc; exact ⟨rfl,λ_ _=>rfl⟩
 ·obtain ⟨ks,hks,hn,hrz⟩:=vx hc
  cases hrz
  exact ⟨rfl,λh2 _=>by simp only [qi,pS,hks,hn]; rfl⟩
 ·split at hc
  ·rename_i hget
   obtain ⟨ks,hks,hn,hrz⟩:=vx hc
   cases hrz
   exact ⟨rfl,λh2 hh=>by simp only [qi,pS,hh _ _ hget,hks,hn]; rfl⟩
  ·cases hc
 ·cases hc
theorem Df {P : Program} {f kt : Nat} (hex : ∃ fn, P.funcs[f]? = some fn ∧ fn.body.isNone = false ∧ (fn.name == "runtime.NumGoroutine") = false)
  (hk:P.underlying kt=some (.int .i64))
  (h1:∀ (b nn:Nat) (D0:DataW Unit) (w:World),w.ownsMap P kt (λ_=>some (.nil,[])) b nn D0->Maps.size D0<=maxLen->Maps.size D0*8<=140737488355328 ->
    Calls P f #[.map (some b)] w λe w'=>∃ (v:Value) (ss:List Int),e=.returned v/\ss.Perm (intKeys D0) /\
    w'.ownsRow w.heap.size kt 1 v ss.length ((ss.mergeSort leI).map encZ)/\(v=.slice none 0 0↔ss=[])/\Below w.heap.size w w')
  (h0:∀ w:World,Calls P f #[.map none] w λe w'=>e=.returned (.slice none 0 0)/\Below w.heap.size w w'):nT P f qi where
 call:=by
  intro shd args h v h' hc G args' hG hlo hL hW hl hr
  refine ⟨hex,?_⟩
  intro R hR
  subst hG
  have one:∀ x:AV,args=[x]->∃ y,args' = #[y]/\VC G x y:=by
   rintro x rfl
   cases args' with | mk l =>
   cases l with
   | nil=>simp at hl
   | cons y l =>
     cases l with
     | nil=>exact ⟨y,rfl,hr 0 x y rfl rfl⟩
     | cons _ _=>simp at hl
  unfold qi at hc
  split at hc
  ·obtain ⟨y,rfl,hy⟩:=one _ rfl
   cases hc
   have hv:=hy.vr
   cases hv with
   | jE _ hp =>
     cases hp
     refine (h0 G.w).mono ?_
     rintro e w' ⟨rfl,hb⟩
     obtain ⟨S1,W1⟩:=B0 hW hb (λ_ _=>False) (λ_ _ h=>h.elim)
     exact hR _ _ S1 W1 (λm=>rfl) (λm L=>VR.j5 (.jE rfl (.slnil _)) rfl)
  ·obtain ⟨y,rfl,hy⟩:=one _ rfl
   obtain ⟨ks,hks,hn,hrz⟩:=vx hc
   have hv:=hy.vr
   cases hv with
   | jE _ hp =>
     cases hp with
     | fm _ _ _ r ents clk _ hB hI hll hyo hko hkk hvv =>
       exact z7 hk h1 hW hks hn hB hll hyo (λi p e hp he=>⟨_,hkk i p e hp he⟩) shd (λu G' S W e hv=>hR u G' S W (λm=>by rw [e,hrz]) (by rw [hrz] at hv; exact hv))
  ·obtain ⟨y,rfl,hy⟩:=one _ rfl
   split at hc
   ·rename_i es c hget
    obtain ⟨ks,hks,hn,hrz⟩:=vx hc
    obtain ⟨l,ents,hpi,rfl,hB,hent,hyo⟩:=rE hW hy.vr hget
    have hlen:es.length=ents.size:=by simpa using hent.1
    have he2:∀ (i:Nat) (p:AV×AV×Nat) (e:MapEntry),es[i]?=some p->ents[i]?=some e->p.1.pM=true/\PR G.w G.T false p.1 e.key/\VC G p.2.1 e.val/\p.2.2=e.born:=λi p e hp he=>hent.2 i p e hp (by simpa using he)
    refine z7 hk h1 hW hks hn hB (by simpa using hlen) (hyo.V2 hlen λi p e hp he=>(he2 i p e hp he).2.2.2) (λi p e hp he=>?_) shd (λu G' S W e hv=>hR u G' S W (λm=>by rw [e,hrz]) (by rw [hrz] at hv; exact hv))
    rw [List.getElem?_map] at hp
    cases hq:es[i]? with
    | none=>rw [hq] at hp; cases hp
    | some q =>
      rw [hq] at hp
      cases hp
      exact ⟨_,(he2 i q e hq he).2.1⟩
   ·cases hc
  ·cases hc
 BR:=Jw
end Go.Sx
namespace Go.Sx
open Go Go.Proofs Go.RowKit Go.Maps Go.Sort
def Iq:List AV->Option Int
 | [v]=>JF v
 | _=>none
def tQ:List (List AV)->Option (List Int)
 | []=>some []
 | c::l=>match Iq c with
   | some n=>match tQ l with
     | some ks=>some (n::ks)
     | none=>none
   | none=>none
def putAt (xs:List (List AV)) (o l:Nat) (ys:List (List AV)):List (List AV):=xs.take o++ys++xs.drop (o+l)
def nv (l:List Int):List (List AV):=l.map λn=>[.int .i64 n]
def w5 (shd:Bool) (args:List AV) (h:aT):R2:=match args with
 | [.sl [] _]=>some (.jl [],h)
 | [.hs b g o l]=>match l with
   | 0=>some (.jl [],h)
   | k+1=>match shd with
     | false=>none
     | true=>match h.get b with
       | some (.iQ g' z xs)=>match Nat.beq g g'&&(Nat.beq z 1&&(Nat.ble (o+(k+1)) xs.length&&Nat.ble (k+1) 1000000)) with
         | true=>match tQ ((xs.drop o).take (k+1)) with
           | some ks=>some (.jl [],h.set b (.iQ g' z (putAt xs o (k+1) (nv (kT ks)))))
           | none=>none
         | false=>none
       | _=>none
 | _=>none
theorem Jm {c:List AV} {n:Int} (h:Iq c=some n):c=[.int .i64 n]:=by
 unfold Iq at h
 split at h
 ·rw [(CY h).1]
 ·cases h
theorem xg:∀ {l:List (List AV)} {ks:List Int},tQ l=some ks->l=nv ks
 | [],ks,h=>by simp only [tQ,Option.some.injEq] at h; subst h; rfl
 | c::l,ks,h=>by
   unfold tQ at h
   split at h
   ·rename_i n hn
    split at h
    ·rename_i ks' hk
     simp only [Option.some.injEq] at h
     subst h
     rw [Jm hn,xg hk]; rfl
    ·cases h
   ·cases h
theorem CK {xs ys:List (List AV)} {o l i:Nat} (hy:ys.length=l) (hl:o+l<=xs.length):(putAt xs o l ys)[i]?=if o<=i/\i<o+l then ys[i - o]? else xs[i]?:=by
 unfold putAt
 rw [List.append_assoc,List.getElem?_append]
 have h1:(xs.take o).length=o:=by rw [List.length_take]; omega
 rw [h1]
 split
 ·rename_i hi
  rw [if_neg (by omega),List.getElem?_take_of_lt hi]
 ·rename_i hi
  rw [List.getElem?_append,hy]
  split
  ·rw [if_pos (by omega)]
  ·rw [if_neg (by omega),List.getElem?_drop]
   congr 1
   omega
theorem LP {xs ys:List (List AV)} {o l:Nat} (hy:ys.length=l) (hl:o+l<=xs.length):(putAt xs o l ys).length=xs.length:=by
 unfold putAt
 simp only [List.length_append,List.length_take,List.length_drop]
 omega
def NF {G:Ga} (hW:WR G) {b g z:Nat} {xs xs':List (List AV)} {L:Loc} (hp:G.pi b=some L) (hget:G.h.get b=some (.iQ g z xs)) {w1 w':World} {c':Array Value} {e:TypeId}
  (hP:qx G.w w1 L.B (.cells c' e (0,0))) (hb:Below w1.heap.size w1 w') (hblk:∀ G',Ext G G'->G'.w.heap[L.B]?=some (.cells c' e (0,0))->nG G' L z xs') :
  ∃ T',Step G ⟨w',T',G.h.set b (.iQ g z xs'),G.pi,G.L⟩/\WR ⟨w',T',G.h.set b (.iQ g z xs'),G.pi,G.L⟩:=by
 obtain ⟨s1,W1⟩:=ui (ob:=.iQ g z xs') hW hp hP (.inl ⟨g,z,xs,xs',hget,rfl⟩) (by rintro _ _ _ ⟨⟩; exact hblk) (by rintro _ _ ⟨⟩)
 obtain ⟨s2,W2⟩:=B0 W1 hb (λ_ _=>False) (λ_ _ h=>h.elim)
 exact ⟨_,s1.trans s2,W2⟩
theorem KB {G:Ga} {n:Int} {v:Value} (h:VC G (.int .i64 n) v):v=.int .i64 n:=by
 cases h.vr with
 | jE _ hp=>cases hp; rfl
def C9 {G:Ga} (hW:WR G) {b g o l:Nat} {xs:List (List AV)} (hget:G.h.get b=some (.iQ g 1 xs)) (hle:o+l<=xs.length) {ks:List Int} (hks:tQ ((xs.drop o).take l)=some ks) {L:Loc} (hp:G.pi b=some L) :
  ks.length=l/\Holds (Value.int .i64) G.w L.B (L.base+o*1) ks.toArray:=by
 obtain ⟨c,e,hB,hcap,hsz,hz,hc⟩:=hW.iQ b L g 1 xs hp hget
 have hrow:=xg hks
 have hlen:ks.length=l:=by
  have:=congrArg List.length hrow
  simp only [nv,List.length_map,List.length_take,List.length_drop] at this
  omega
 have hel:∀ (i:Nat) (n:Int),ks[i]?=some n->xs[o+i]?=some [.int .i64 n]:=by
  intro i n hn
  have hi:i<l:=by rw [<- hlen]; exact (List.getElem?_eq_some_iff.1 hn).1
  have h2:((xs.drop o).take l)[i]?=(nv ks)[i]?:=by rw [hrow]
  rw [List.getElem?_take_of_lt hi,List.getElem?_drop,nv,List.getElem?_map,hn] at h2
  exact h2
 have hcell:∀ (i:Nat) (n:Int),ks[i]?=some n->c[L.base+o*1+i]?=some (.int .i64 n):=by
  intro i n hn
  obtain ⟨v,hv,_,hvc⟩:=hc (o+i) _ 0 _ (hel i n hn) rfl
  rw [KB hvc] at hv
  rw [<- hv]
  congr 1
  omega
 refine ⟨hlen,λj hj=>?_⟩
 have hj:j<ks.length:=by simpa using hj
 refine ⟨?_,?_⟩
 ·have:=hcell j ks[j] (by simp [hj])
  simp only [World.cell?,hB]
  rw [this]
  simp [hj]
 ·simp [World.frozen?,hB]
def Ha {G:Ga} (hW:WR G) {b g o l:Nat} {xs:List (List AV)} (hget:G.h.get b=some (.iQ g 1 xs)) (hle:o+l<=xs.length) {L:Loc} (hp:G.pi b=some L) (ys:List Int) (sZ:ys.length=l) (n:Nat) (os:Array Obj) :
  ∃ T',Step G ⟨grow (putRow (Value.int .i64) (Sort.ahead G.w n) L.B (L.base+o*1) ys.toArray) os,T',G.h.set b (.iQ g 1 (putAt xs o l (nv ys))),G.pi,G.L⟩ /\
    WR ⟨grow (putRow (Value.int .i64) (Sort.ahead G.w n) L.B (L.base+o*1) ys.toArray) os,T',G.h.set b (.iQ g 1 (putAt xs o l (nv ys))),G.pi,G.L⟩:=by
 obtain ⟨c,e,hB,hcap,hsz,hz,hc⟩:=hW.iQ b L g 1 xs hp hget
 have hcs:(nv ys).length=l:=by simp [nv,sZ]
 have hP:qx G.w (putRow (Value.int .i64) (Sort.ahead G.w n) L.B (L.base+o*1) ys.toArray) L.B (.cells (putCells (Value.int .i64) (L.base+o*1) ys.toArray c) e (0,0)):=by
  refine ⟨?_,λk hk=>?_,by simp,rfl,rfl,rfl⟩
  ·simp [putRow,mapBlock,Array.getElem?_modify,hB,onCells]
  ·simp [putRow,mapBlock,Array.getElem?_modify,Ne.symm hk]
 have hbl:Below (putRow (Value.int .i64) (Sort.ahead G.w n) L.B (L.base+o*1) ys.toArray).heap.size (putRow (Value.int .i64) (Sort.ahead G.w n) L.B (L.base+o*1) ys.toArray) (grow (putRow (Value.int .i64) (Sort.ahead G.w n) L.B (L.base+o*1) ys.toArray) os) :=
  ⟨rfl,rfl,rfl,by simp,λk hk=>heap_grow_old _ _ hk⟩
 refine NF (xs':=putAt xs o l (nv ys)) hW hp hget hP hbl ?_
 intro G' E hw
 refine ⟨_,_,hw,by rw [LP hcs hle]; exact hcap,by simp only [putCells,Array.size_mapIdx]; exact hsz,?_,?_⟩
 ·intro i cs h
  rw [CK hcs hle] at h
  split at h
  ·simp only [nv,List.getElem?_map,Option.map_eq_some_iff] at h
   obtain ⟨m,_,rfl⟩:=h; rfl
  ·exact hz i cs h
 ·intro i cs j x h hj
  rw [CK hcs hle] at h
  split at h
  ·rename_i hi
   simp only [nv,List.getElem?_map,Option.map_eq_some_iff] at h
   obtain ⟨m,hm,rfl⟩:=h
   cases j with
   | succ j=>cases hj
   | zero =>
     simp only [List.getElem?_cons_zero,Option.some.injEq] at hj
     subst hj
     have hcs2:L.base+i*1+0<c.size:=by
      have:=Nat.mul_le_mul_right 1 hcap
      omega
     refine ⟨.int .i64 m,?_,rfl,⟨.jE rfl (.int _ _ _),rfl⟩⟩
     simp only [putCells,Array.getElem?_mapIdx,Array.getElem?_eq_getElem hcs2,Option.map_some,List.size_toArray,sZ]
     rw [if_pos ⟨by omega,by omega⟩,show L.base+i*1+0 - (L.base+o*1)=i - o by omega]
     have hm2:=List.getElem?_eq_some_iff.1 hm
     obtain ⟨hm3,hm4⟩:=hm2
     simp [hm3,hm4]
  ·rename_i hi
   have hz1:=hz i cs h
   have hj0:j=0:=by
    have:=(List.getElem?_eq_some_iff.1 hj).1
    omega
   subst hj0
   obtain ⟨v,hv,ho,hvc⟩:=hc i cs 0 x h hj
   refine ⟨v,?_,ho,hvc.mono E⟩
   simp only [putCells,Array.getElem?_mapIdx,hv,Option.map_some,List.size_toArray,sZ]
   rw [if_neg (by omega)]
def LH {P:Program} {f:Nat}
  (h1:∀ (iQ off cap:Nat) (zs:List Int) (w:World),Holds (Value.int .i64) w iQ off zs.toArray->iQ<w.heap.size->zs.length<4611686018427387904 ->
    Calls P f #[.slice (some ⟨iQ,off,none⟩) zs.length cap] w λe w'=>e=.returned (.tuple #[])/\∃ n os,w'=grow (putRow (Value.int .i64) (Sort.ahead w n) iQ off (zs.mergeSort λx y=>decide (x<=y)).toArray) os)
  {G:Ga} (hW:WR G) {b g o l:Nat} {xs:List (List AV)} (hget:G.h.get b=some (.iQ g 1 xs)) (hle:o+l<=xs.length) (hl:l<=1000000) {ks:List Int} (hks:tQ ((xs.drop o).take l)=some ks) {L:Loc} (hp:G.pi b=some L) {cap':Nat}
  {R:Ending->World->Prop} (hR:∀ G',Step G G'->WR G'->G'.h=G.h.set b (.iQ g 1 (putAt xs o l (nv (kT ks))))->R (.returned (.tuple #[])) G'.w) :
  Calls P f #[.slice (some ⟨L.B,L.base+o*1,none⟩) l cap'] G.w R:=by
 obtain ⟨hlen,hH⟩:=C9 hW hget hle hks hp
 have hlt:L.B<G.w.heap.size:=(hW.kY b L hp).1
 rw [<- hlen]
 refine (h1 L.B (L.base+o*1) cap' ks G.w hH hlt (by omega)).mono ?_
 rintro e' w' ⟨rfl,n,os,rfl⟩
 have hso:(ks.mergeSort λx y=>decide (x<=y))=kT ks:=CU (.refl _)
 have sZ:(kT ks).length=l:=by rw [(sB ks).length_eq,hlen]
 rw [hso]
 obtain ⟨T',S1,W1⟩:=Ha hW hget hle hp (kT ks) sZ n os
 exact hR _ S1 W1 rfl
def A4 (ks:List Int):List Int:=Lib.compact ks++List.replicate (ks.length - (Lib.compact ks).length) 0
theorem KW (ks:List Int):(A4 ks).length=ks.length:=by
 have:=Lib.compact_length_le ks
 simp only [A4,List.length_append,List.length_replicate]
 omega
def Lb {P:Program} {f:Nat}
  (h1:∀ (iQ off cap:Nat) (zs:List Int) (w:World),Holds (Value.int .i64) w iQ off zs.toArray->zs.length<=9223372036854775807->zs.length<=cap ->
    Calls P f #[.slice (some ⟨iQ,off,none⟩) zs.length cap] w λe w'=>e=.returned (.slice (some ⟨iQ,off,none⟩) (Lib.compact zs).length cap)/\∃ q,w'=putRow (Value.int .i64) (Sort.ahead w q) iQ off (Lib.compact zs++List.replicate (zs.length - (Lib.compact zs).length) 0).toArray)
  {G:Ga} (hW:WR G) {b g o l:Nat} {xs:List (List AV)} (hget:G.h.get b=some (.iQ g 1 xs)) (hle:o+l<=xs.length) (hl:l<=1000000) {ks:List Int} (hks:tQ ((xs.drop o).take l)=some ks) {L:Loc} (hp:G.pi b=some L) {cap':Nat} (hcl:l<=cap')
  {R:Ending->World->Prop} (hR:∀ G',Step G G'->WR G'->G'.pi=G.pi->G'.h=G.h.set b (.iQ g 1 (putAt xs o l (nv (A4 ks))))->R (.returned (.slice (some ⟨L.B,L.base+o*1,none⟩) (Lib.compact ks).length cap')) G'.w) :
  Calls P f #[.slice (some ⟨L.B,L.base+o*1,none⟩) l cap'] G.w R:=by
 obtain ⟨hlen,hH⟩:=C9 hW hget hle hks hp
 rw [<- hlen]
 refine (h1 L.B (L.base+o*1) cap' ks G.w hH (by omega) (by omega)).mono ?_
 rintro e' w' ⟨rfl,n,rfl⟩
 obtain ⟨T',S1,W1⟩:=Ha hW hget hle hp (A4 ks) (by rw [KW,hlen]) n #[]
 rw [grow_empty] at S1 W1
 exact hR _ S1 W1 rfl rfl
def xC (shd:Bool) (args:List AV) (h:aT):R2:=match args with
 | [.sl [] c]=>some (.sl [] c,h)
 | [.hs b g o l]=>match l with
   | 0=>some (.hs b g o 0,h)
   | k+1=>match shd with
     | false=>none
     | true=>match h.get b with
       | some (.iQ g' z xs)=>match Nat.beq g g'&&(Nat.beq z 1&&(Nat.ble (o+(k+1)) xs.length&&Nat.ble (k+1) 1000000)) with
         | true=>match tQ ((xs.drop o).take (k+1)) with
           | some ks=>some (.hs b g o (Lib.compact ks).length,h.set b (.iQ g' z (putAt xs o (k+1) (nv (A4 ks)))))
           | none=>none
         | false=>none
       | _=>none
 | _=>none
def Of:∀ (args:List AV) (h:aT) (v:AV) (h':aT),xC false args h=some (v,h')->h'=h/\∀ h2:aT,(∀ b o,h.get b=some o->h2.get b=some o)->xC false args h2=some (v,h2):=by
 intro args h v h' hc
 unfold xC at hc
 split at hc
 ·cases hc; exact ⟨rfl,λ_ _=>rfl⟩
 ·split at hc
  ·cases hc; exact ⟨rfl,λ_ _=>rfl⟩
  ·cases hc
 ·cases hc
theorem F2 {P : Program} {f : Nat} (hex : ∃ fn, P.funcs[f]? = some fn ∧ fn.body.isNone = false ∧ (fn.name == "runtime.NumGoroutine") = false)
  (h1:∀ (iQ off cap:Nat) (zs:List Int) (w:World),Holds (Value.int .i64) w iQ off zs.toArray->zs.length<=9223372036854775807->zs.length<=cap ->
    Calls P f #[.slice (some ⟨iQ,off,none⟩) zs.length cap] w λe w'=>e=.returned (.slice (some ⟨iQ,off,none⟩) (Lib.compact zs).length cap)/\∃ q,w'=putRow (Value.int .i64) (Sort.ahead w q) iQ off (Lib.compact zs++List.replicate (zs.length - (Lib.compact zs).length) 0).toArray)
  (h0:∀ (p:Option Addr) (cap:Nat) (w:World),Calls P f #[.slice p 0 cap] w λe w'=>e=.returned (.slice p 0 cap)/\w'=w):nT P f xC where
 call:=by
  intro shd args h v h' hc G args' hG hlo hL hW hl hr
  refine ⟨hex,?_⟩
  intro R hR
  subst hG
  have one:∀ x:AV,args=[x]->∃ y,args' = #[y]/\VC G x y:=by
   rintro x rfl
   cases args' with | mk l =>
   cases l with
   | nil=>simp at hl
   | cons y l =>
     cases l with
     | nil=>exact ⟨y,rfl,hr 0 x y rfl rfl⟩
     | cons _ _=>simp at hl
  unfold xC at hc
  split at hc
  ·obtain ⟨y,rfl,hy⟩:=one _ rfl
   cases hc
   have hv:=hy.vr
   cases hv with
   | jE hi hp =>
     have key:∃ p cap,y=.slice p 0 cap:=by cases hp<;>exact ⟨_,_,rfl⟩
     obtain ⟨p,cap,rfl⟩:=key
     refine (h0 _ _ G.w).mono ?_
     rintro e w' ⟨rfl,rfl⟩
     exact hR _ _ (Step.refl G) hW (λm=>rfl) (λm L=>VR.j5 (.jE hi hp) rfl)
  ·obtain ⟨y,rfl,hy⟩:=one _ rfl
   rename_i b g o l
   have hv:=hy.vr
   split at hc
   ·cases hc
    have key:∃ p cap,y=.slice p 0 cap:=by
     cases hv with
     | jE hi _=>cases hi
     | hs=>exact ⟨_,_,rfl⟩
    obtain ⟨p,cap,rfl⟩:=key
    refine (h0 _ _ G.w).mono ?_
    rintro e w' ⟨rfl,rfl⟩
    exact hR _ _ (Step.refl G) hW (λm=>rfl) (λm L=>VR.j5 hv rfl)
   ·rename_i k
    split at hc
    ·cases hc
    ·split at hc
     ·rename_i g' z xs hget
      split at hc
      ·rename_i hq
       simp only [Bool.and_eq_true,Nat.ble_eq] at hq
       obtain ⟨q1,q2,q3,q5⟩:=hq
       obtain rfl:=Nat.eq_of_beq_eq_true q1
       obtain rfl:=Nat.eq_of_beq_eq_true q2
       split at hc
       ·rename_i ks hks
        cases hc
        have hlen:=(xg hks)
        have hlen:ks.length=k+1:=by
         have:=congrArg List.length hlen
         simp only [nv,List.length_map,List.length_take,List.length_drop] at this
         omega
        have hcl:=Lib.compact_length_le ks
        cases hv with
        | jE hi _=>cases hi
        | hs _ _ _ _ a cap' hb hg hle hh =>
        obtain ⟨L,hp,hcap,ha⟩:=hh _ _ hget
        rw [ha (by omega)]
        refine Lb h1 hW hget q3 q5 hks hp hle (λG' S W epi e=>hR _ _ S W (λm=>by rw [e]) (λm L0=>VR.j5 ?_ rfl))
        refine .hs b g o _ _ cap' (by rw [e]; simpa using hb) ?_ (by omega) ?_
        ·intro g0 z xs' hx
         rw [e,aT.lZ] at hx
         split at hx
         ·cases hx; exact Nat.le_refl _
         ·exact hg _ _ _ hx
        ·intro z xs' hx
         rw [e,aT.lZ] at hx
         split at hx
         ·cases hx
          exact ⟨L,by rw [epi]; exact hp,hcap,λ_=>rfl⟩
         ·rename_i hne
          exact (hne ⟨rfl,aT.nO hget⟩).elim
       ·cases hc
      ·cases hc
     ·cases hc
  ·cases hc
 BR:=Of
def LV:∀ (args:List AV) (h:aT) (v:AV) (h':aT),w5 false args h=some (v,h')->h'=h/\∀ h2:aT,(∀ b o,h.get b=some o->h2.get b=some o)->w5 false args h2=some (v,h2):=by
 intro args h v h' hc
 unfold w5 at hc
 split at hc
 ·cases hc; exact ⟨rfl,λ_ _=>rfl⟩
 ·split at hc
  ·cases hc; exact ⟨rfl,λ_ _=>rfl⟩
  ·cases hc
 ·cases hc
theorem F5 {P : Program} {f : Nat} (hex : ∃ fn, P.funcs[f]? = some fn ∧ fn.body.isNone = false ∧ (fn.name == "runtime.NumGoroutine") = false)
  (h1:∀ (iQ off cap:Nat) (zs:List Int) (w:World),Holds (Value.int .i64) w iQ off zs.toArray->iQ<w.heap.size->zs.length<4611686018427387904 ->
    Calls P f #[.slice (some ⟨iQ,off,none⟩) zs.length cap] w λe w'=>e=.returned (.tuple #[])/\∃ n os,w'=grow (putRow (Value.int .i64) (Sort.ahead w n) iQ off (zs.mergeSort λx y=>decide (x<=y)).toArray) os)
  (h0:∀ (p:Option Addr) (cap:Nat) (w:World),Calls P f #[.slice p 0 cap] w λe w'=>e=.returned (.tuple #[])/\w'=w):nT P f w5 where
 call:=by
  intro shd args h v h' hc G args' hG hlo hL hW hl hr
  refine ⟨hex,?_⟩
  intro R hR
  subst hG
  have one:∀ x:AV,args=[x]->∃ y,args' = #[y]/\VC G x y:=by
   rintro x rfl
   cases args' with | mk l =>
   cases l with
   | nil=>simp at hl
   | cons y l =>
     cases l with
     | nil=>exact ⟨y,rfl,hr 0 x y rfl rfl⟩
     | cons _ _=>simp at hl
  unfold w5 at hc
  split at hc
  ·obtain ⟨y,rfl,hy⟩:=one _ rfl
   cases hc
   have hv:=hy.vr
   cases hv with
   | jE _ hp =>
     have key:∃ p cap,y=.slice p 0 cap:=by cases hp<;>exact ⟨_,_,rfl⟩
     obtain ⟨p,cap,rfl⟩:=key
     refine (h0 _ _ G.w).mono ?_
     rintro e w' ⟨rfl,rfl⟩
     exact hR _ _ (Step.refl G) hW (λm=>rfl) (λm L=>.jl [] #[] rfl (by simp))
  ·obtain ⟨y,rfl,hy⟩:=one _ rfl
   rename_i b g o l
   have hv:=hy.vr
   cases hv with
   | jE hi _=>cases hi
   | hs _ _ _ _ a cap' hb hg hle hh =>
   split at hc
   ·cases hc
    refine (h0 _ _ G.w).mono ?_
    rintro e w' ⟨rfl,rfl⟩
    exact hR _ _ (Step.refl G) hW (λm=>rfl) (λm L=>.jl [] #[] rfl (by simp))
   ·rename_i k
    split at hc
    ·cases hc
    ·split at hc
     ·rename_i g' z xs hget
      split at hc
      ·rename_i hq
       simp only [Bool.and_eq_true,Nat.ble_eq] at hq
       obtain ⟨q1,q2,q3,q5⟩:=hq
       obtain rfl:=Nat.eq_of_beq_eq_true q1
       obtain rfl:=Nat.eq_of_beq_eq_true q2
       split at hc
       ·rename_i ks hks
        cases hc
        obtain ⟨L,hp,hcap,ha⟩:=hh _ _ hget
        rw [ha (by omega)]
        exact LH h1 hW hget q3 q5 hks hp (λG' S W e=>hR _ _ S W (λm=>by rw [e]) (λm L=>.jl [] #[] rfl (by simp)))
       ·cases hc
      ·cases hc
     ·cases hc
  ·cases hc
 BR:=LV
end Go.Sx
namespace Go.Sx
open Go
section
variable (X:Ctx) (lp:zA)
def qw:List Bool->Code->lK->Env->aT->RC
 | [],_,_,e,h=>some (.kE,e,h)
 | true::p,.seq a b,.sq x y,e,h=>andThen (qw p b y) (kj X lp a x e h)
 | true::p,.seq a b,.seq live x y,e,h=>andThen (lQ live (qw p b y)) (kj X lp a x e h)
 | false::p,.seq a _,.sq x _,e,h=>qw p a x e h
 | false::p,.seq a _,.seq _ x _,e,h=>qw p a x e h
 | false::p,.block _ a,an,e,h=>qw p a an e h
 | false::p,.scope a,an,e,h=>qw p a an e h
 | _,_,_,_,_=>none
def behind:List Bool->Code->lK->RC->RC
 | [],_,_,r=>r
 | true::p,.seq _ b,.sq _ y,r=>behind p b y r
 | true::p,.seq _ b,.seq _ _ y,r=>behind p b y r
 | false::p,.seq a b,.sq x y,r=>andThen (kj X lp b y) (behind p a x r)
 | false::p,.seq a b,.seq live x y,r=>andThen (lQ live (kj X lp b y)) (behind p a x r)
 | false::p,.block id a,an,r=>atEnd id (behind p a an r)
 | false::p,.scope a,an,r=>behind p a an r
 | _,_,_,r=>r
end
def pQ:List Bool->Code->lK->Code×lK
 | [],c,an=>(c,an)
 | true::p,.seq _ b,.sq _ y=>pQ p b y
 | true::p,.seq _ b,.seq _ _ y=>pQ p b y
 | false::p,.seq a _,.sq x _=>pQ p a x
 | false::p,.seq a _,.seq _ x _=>pQ p a x
 | false::p,.block _ a,an=>pQ p a an
 | false::p,.scope a,an=>pQ p a an
 | _,c,an=>(c,an)
section
variable {X:Ctx} {lp:zA}
def zY {k:Env->aT->RC} {r:RC} {e0:Env} {h0:aT} (h:andThen k r=some (.kE,e0,h0)):∃ e h,r=some (.kE,e,h)/\k e h=some (.kE,e0,h0):=by
 unfold andThen at h
 grind
def qO:Nat->(Env->aT->RC)->Env->aT->RC
 | 0,_,e,h=>some (.kE,e,h)
 | n+1,f,e,h=>match f e h with
   | some (.kE,e,h)=>qO n f e h
   | r=>r
end
def tW (args0:List AV) (v0:AV) (shd:Bool) (args:List AV) (h:aT):R2:=match shd,oK (og 12) args0 args with
 | false,true=>some (v0,h)
 | _,_=>none
def Ad {P:Program} {C:jZ} {F:lA} {Pr:kU} (T:qK P C F Pr) {f n:Nat} {args0:List AV} {v0:AV} {h0:aT} (h:l3 C F Pr n false f args0 aT.empty=some (v0,h0)):nT P f (tW args0 v0) where
 call:=by
  intro shd args h1 v h' hc
  unfold tW at hc
  split at hc
  ·rename_i _ ha
   cases hc
   have:=mP (oQ 12) _ _ ha
   subst this
   obtain ⟨_,k⟩:=p4 T n f args0 aT.empty v0 h0 h
   exact oF T n false f args0 h1 v0 h1 (k h1 (λb o hb=>by grind [C2]))
  grind
 BR:=by
  grind [tW]
end Go.Sx
namespace Go.Sx
open Go
def mv (P:Program) (N:Nat) (G0:Ga) (c:Code) (e:Env) (h:aT) (x:Ex) (e':Env) (h':aT):Prop :=
 ∀ (G:Ga) (a:Act) (Q:Exit->Act->World->Prop),G.h=h->St N G0 G e a->(∀ G' a',G'.h=h'->St N G0 G' e' a'->Q (AK x) a' G'.w)->c.wp P Q a G.w
def B3:Tr kH->(Nat->Nat)->aT->Bool
 | .leaf,_,_=>true
 | .node l v r,f,h=>(match v with
   | some (.iQ g z xs)=>match h.get (f 0) with
     | some (.iQ g' z' xs')=>Nat.beq g g'&&Nat.beq z z'&&oK (oK (og 12)) xs xs'
     | _=>false
   | some (.map es c)=>match h.get (f 0) with
     | some (.map es' c')=>Nat.beq c c'&&oK (λp q=>og 12 p.1 q.1&&og 12 p.2.1 q.2.1&&Nat.beq p.2.2 q.2.2) es es'
     | _=>false
   | none=>true)&&B3 l (λn=>f (2*n+1)) h&&B3 r (λn=>f (2*n+2)) h
def Cq (h2 h1:aT):Bool:=Nat.beq h2.size h1.size&&Nat.beq h2.lo h1.lo&&Nat.beq h2.lo 0&&oK (λp q=>Nat.beq p.1 q.1&&oK (og 12) p.2 q.2) h2.iI h1.iI&&B3 h2.tr id h1
structure Sub (h2 h1:aT):Prop where
 size:h2.size=h1.size
 lo:h2.lo=h1.lo
 iI:h2.iI=h1.iI
 get:∀ b o,h2.get b=some o->h1.get b=some o
theorem y4:∀ (t:Tr kH) (f:Nat->Nat) (h:aT),B3 t f h=true->∀ (n:Nat) (o:kH),t.get n=some o->h.get (f n)=some o
 | .leaf,_,_,_,n,o,h=>by simp [Tr.get] at h
 | .node l v r,f,h,ha,n,o,hg=>by
   simp only [B3,Bool.and_eq_true] at ha
   obtain ⟨⟨h1,h2⟩,h3⟩:=ha
   cases n with
   | zero =>
     simp only [Tr.get] at hg
     subst hg
     cases o with
     | iQ g z xs =>
       simp only at h1
       split at h1
       ·rename_i g' z' xs' hget
        simp only [Bool.and_eq_true] at h1
        rw [hget,Nat.eq_of_beq_eq_true h1.1.1,Nat.eq_of_beq_eq_true h1.1.2,mP (λ_ _=>mP (oQ 12) _ _) _ _ h1.2]
       ·cases h1
     | map es c =>
       simp only at h1
       split at h1
       ·rename_i es' c' hget
        simp only [Bool.and_eq_true] at h1
        have:es=es':=mP (λp q hpq=>by
         simp only [Bool.and_eq_true] at hpq
         exact Prod.ext (oQ 12 _ _ hpq.1.1) (Prod.ext (oQ 12 _ _ hpq.1.2) (Nat.eq_of_beq_eq_true hpq.2))) _ _ h1.2
        rw [hget,Nat.eq_of_beq_eq_true h1.1,this]
       ·cases h1
   | succ m =>
     simp only [Tr.get] at hg
     split at hg
     ·rename_i hm
      have hm:=Nat.eq_of_beq_eq_true hm
      have:=y4 l _ h h2 (m / 2) o hg
      rw [show 2*(m / 2)+1=m+1 by omega] at this
      exact this
     ·rename_i hm
      have hm:m % 2≠0:=Nat.ne_of_beq_eq_false hm
      have:=y4 r _ h h3 (m / 2) o hg
      rw [show 2*(m / 2)+2=m+1 by omega] at this
      exact this
def JI {h2 h1:aT} (h:Cq h2 h1=true):Sub h2 h1:=by
 simp only [Cq,Bool.and_eq_true] at h
 obtain ⟨⟨⟨⟨a1,a2⟩,a3⟩,a4⟩,a5⟩:=h
 refine ⟨Nat.eq_of_beq_eq_true a1,Nat.eq_of_beq_eq_true a2,mP (λp q hpq=>by
  simp only [Bool.and_eq_true] at hpq
  exact Prod.ext (Nat.eq_of_beq_eq_true hpq.1) (mP (oQ 12) _ _ hpq.2)) _ _ a4,?_⟩
 grind [aT.get,y4]
section
variable {P:Program} {X:Ctx} {N:Nat} {G0:Ga}
theorem St.drop {G:Ga} {e:Env} {a:Act} {h2:aT} (hS:St N G0 G e a) (hs:Sub h2 G.h) (h0:G0.h.size=0):St N G0 ⟨G.w,G.T,h2,G.pi,G.L⟩ e a:=by
 have E:Ext G ⟨G.w,G.T,h2,G.pi,G.L⟩:=⟨λ_ _ h=>h,λ_ _ _=>rfl,by rw [hs.size]; omega,λb _ g z xs h=>⟨g,z,xs,hs.get b _ h,Nat.le_refl _,λ_=>⟨rfl,λ_ h=>h⟩⟩,λb _ es c h=>⟨es,c,hs.get b _ h,λ_ h=>h⟩,λ_ _ h=>h⟩
 refine ⟨⟨?_,hS.fr.L⟩,?_,hS.er.mono E,hS.df,hS.sz⟩
 ·have S:=hS.fr.S
  refine ⟨⟨S.ext.T,S.ext.keep,by omega,λb hb=>by omega,λb hb=>by omega,S.ext.iI⟩,S.os,S.output,S.tape,S.lv,S.frame,S.mW,S.nF,S.sa,?_,λb hb=>by omega,S.qu,S.rJ,S.sx⟩
  exact hs.lo.trans S.lo
 ·have W:=hS.wr
  refine ⟨λb l g z xs hp hg=>(W.iQ b l g z xs hp (hs.get b _ hg)).mono E rfl,λb l es c hp hg=>(W.map b l es c hp (hs.get b _ hg)).mono E rfl,?_,?_,W.mK,W.qp,W.oE,W.LT,W.o9,?_,W.nc,?_,?_⟩
  ·intro d B cs hd hcs
   have hcs:ka h2.iI d=some cs:=hcs
   rw [hs.iI] at hcs
   exact (W.loc d B cs hd hcs).mono E rfl
  ·intro b l h
   refine ⟨(W.kY b l h).1,?_⟩
   show b<h2.size
   rw [hs.size]; exact (W.kY b l h).2
  ·intro d B h
   refine ⟨(W.me d B h).1,?_⟩
   show (ka h2.iI d).isSome=true
   rw [hs.iI]; exact (W.me d B h).2
  ·show h2.lo<=h2.size
   rw [hs.lo,hs.size]; exact W.lo
  ·intro b o h
   show b<h2.size
   rw [hs.size]; exact W.lt b o (hs.get b o h)
def vK (hm:P.follows .mixedOrders=true) (hC:kx P X.C) (hK:nR P X.call) (hI:oP X.call) {n:Nat} {c:Code} {an:lK} {e:Env} {h:aT} {x:Ex} {e':Env} {h':aT} (hr:kj X (kP n) c an e h=some (x,e',h')) (hok:codeOk N X.fa.jw c an=true) :
  mv P N G0 c e h x e' h':=λG a Q hG hS hQ=>tH hm hC hK hI n c an e h x e' h' hr hok G a Q hG hS hQ
inductive tS (f:Env->aT->RC):Env->aT->Ex->Env->aT->Prop
 | last {e h x e' h'} (k:Nat):qO k f e h=some (x,e',h')->x≠.kE->tS f e h x e' h'
 | step {e h e1 h1 h2 x e' h'} (k:Nat):qO (k+1) f e h=some (.kE,e1,h1)->Sub h2 h1->tS f e1 h2 x e' h'->tS f e h x e' h'
def JJ (n:Nat) (a b:AV):Bool:=match a with
 | .jl []=>(match b with
   | .jl []=>true
   | _=>false)
 | a=>og n a b
def Oc {n:Nat} {a b:AV} (h:JJ n a b=true):a=b:=by
 unfold JJ at h
 split at h
 ·split at h
  ·rfl
  ·cases h
 ·exact oQ n _ _ h
def my (k:Nat) (f:Env->aT->RC) (e:Env) (h:aT) (e1:Env) (h2:aT):Bool:=match qO (k+1) f e h with
 | some (.kE,e',h')=>oK (λp q=>Nat.beq p.1 q.1&&JJ 12 p.2 q.2) e1 e'&&Cq h2 h'
 | _=>false
def tS.piece {f:Env->aT->RC} {e:Env} {h:aT} {e1:Env} {h2:aT} {x:Ex} {e':Env} {h':aT} (k:Nat) (hp:my k f e h e1 h2=true) (hc:tS f e1 h2 x e' h'):tS f e h x e' h':=by
 unfold my at hp
 split at hp
 ·rename_i e0 h0 hi
  simp only [Bool.and_eq_true] at hp
  have:e1=e0:=mP (λp q hpq=>by
   simp only [Bool.and_eq_true] at hpq
   exact Prod.ext (Nat.eq_of_beq_eq_true hpq.1) (Oc hpq.2)) _ _ hp.1
  subst this
  exact .step k hi (JI hp.2) hc
 grind
def Gn {c:Code} {n0:Nat} (ih:vH P X N G0 (kP n0) c) {live:List Nat} {y:lK} (hok:codeOk N X.fa.jw c y=true) {J:Nat->Act->World->Prop} {Q:Exit->Act->World->Prop} {n:Nat}
  {e:Env} {h:aT} {x:Ex} {e':Env} {h':aT} (hr:lQ live (kj X (kP n0) c y) e h=some (x,e',h')) {G:Ga} {a:Act} (hG:G.h=h) (hS:St N G0 G e a)
  (hQ:∀ G' a',G'.h=h'->St N G0 G' e' a'->Exit.then (λa' w'=>∃ m,m<n/\J m a' w') Q (AK x) a' G'.w):c.wp P (Exit.then (λa' w'=>∃ m,m<n/\J m a' w') Q) a G.w:=by
 rw [oJ] at hr
 subst hG
 exact ih y _ _ _ _ _ hr hok (G.j5 (lz live G.h.iI) (pt live G.L)) a _ rfl (hS.lQ live) hQ
def zU {c:Code} {n0:Nat} (ih:vH P X N G0 (kP n0) c) {live:List Nat} {y:lK} (hok:codeOk N X.fa.jw c y=true) (h0:G0.h.size=0) {e:Env} {h:aT} {x:Ex} {e':Env} {h':aT}
  (hc:tS (lQ live (kj X (kP n0) c y)) e h x e' h'):mv P N G0 (.loop c) e h x e' h':=by
 have count:∃ t,∃ R:Nat->Env->aT->Prop,R t e h/\∀ n e h,R n e h->∃ x1 e1 h1,lQ live (kj X (kP n0) c y) e h=some (x1,e1,h1) /\
   ((x1=.kE/\∃ m h2,m<n/\Sub h2 h1/\R m e1 h2)\/(x1≠.kE/\x1=x/\e1=e'/\h1=h')):=by
  have subrefl:∀ h:aT,Sub h h:=λh=>⟨rfl,rfl,rfl,λ_ _ h=>h⟩
  induction hc with
  | @last e h x e' h' k hi hx =>
    refine ⟨k,λn e h=>qO n (lQ live (kj X (kP n0) c y)) e h=some (x,e',h'),hi,?_⟩
    intro n e h hn
    cases n with
    | zero =>
      grind [qO]
    | succ n =>
      simp only [qO] at hn
      split at hn
      ·rename_i e2 h2 hf
       exact ⟨.kE,e2,h2,hf,.inl ⟨rfl,n,h2,Nat.lt_succ_self _,subrefl _,hn⟩⟩
      grind
  | @step e h e1 h1 h2 x e' h' k hi hs hc ihc =>
    obtain ⟨t,R,hR,hstep⟩:=ihc
    refine ⟨t+(k+1),λn e h=>R n e h\/∃ j,n=t+j/\0<j/\qO j (lQ live (kj X (kP n0) c y)) e h=some (.kE,e1,h1),?_,?_⟩
    ·grind
    ·intro n e h hn
     rcases hn with hn | ⟨j,rfl,hj,hn⟩
     ·obtain ⟨x1,e2,h3,a1,a2⟩:=hstep n e h hn
      refine ⟨x1,e2,h3,a1,?_⟩
      rcases a2 with ⟨b1,m,h4,b2,b3,b4⟩ | b
      ·exact .inl ⟨b1,m,h4,b2,b3,.inl b4⟩
      grind
     ·cases j with
      | zero=>omega
      | succ j =>
        simp only [qO] at hn
        split at hn
        ·rename_i e2 h3 hf
         refine ⟨.kE,e2,h3,hf,.inl ⟨rfl,?_⟩⟩
         cases j with
         | zero =>
           simp only [qO,Option.some.injEq,Prod.mk.injEq,true_and] at hn
           obtain ⟨rfl,rfl⟩:=hn
           exact ⟨t,h2,by omega,hs,.inl hR⟩
         | succ j=>exact ⟨t+(j+1),h3,by omega,subrefl _,.inr ⟨j+1,rfl,Nat.succ_pos _,hn⟩⟩
        grind
 obtain ⟨t,R,hR,hstep⟩:=count
 intro G a Q hG hS hQ
 refine Am (λm a w=>∃ G e,G.w=w/\St N G0 G e a/\R m e G.h) ?_ t a G.w ⟨G,e,rfl,hS,by grind⟩
 rintro n a _ ⟨G,e,rfl,hS,hR⟩
 obtain ⟨x1,e1,h1,hf,hor⟩:=hstep n e G.h hR
 refine Gn ih hok hf rfl hS ?_
 intro G' a' hG' hS'
 rcases hor with ⟨rfl,m,h2,hlt,hs,hR2⟩ | ⟨hne,rfl,rfl,rfl⟩
 ·subst hG'
  exact ⟨m,hlt,⟨G'.w,G'.T,h2,G'.pi,G'.L⟩,e1,rfl,hS'.drop hs h0,hR2⟩
 ·cases x1 with
  | kE=>grind
  | ext id=>exact hQ G' a' hG' hS'
  | ret=>exact hQ G' a' hG' hS'
end
end Go.Sx
namespace Go.Sx
open Go
section
variable {P:Program} {X:Ctx} {N:Nat} {G0:Ga}
def Hh {a b:Code} {e e1 e':Env} {h h1 h':aT} {x:Ex} (ha:mv P N G0 a e h .kE e1 h1) (hb:mv P N G0 b e1 h1 x e' h'):mv P N G0 (.seq a b) e h x e' h' :=
 λG act _ hG hS hQ=>wp_seq (ha G act _ hG hS λG1 a1 hG1 hS1=>hb G1 a1 _ hG1 hS1 hQ)
def Ew {a b:Code} {live:List Nat} {e e1 e':Env} {h h1 h':aT} {x:Ex} (ha:mv P N G0 a e h .kE e1 h1) (hb:mv P N G0 b (proj live e1) { h1 with iI:=lz live h1.iI } x e' h'):mv P N G0 (.seq a b) e h x e' h':=by
 intro G act Q hG hS hQ
 refine wp_seq (ha G act _ hG hS λG1 a1 hG1 hS1=>?_)
 subst hG1
 exact hb (G1.j5 (lz live G1.h.iI) (pt live G1.L)) a1 Q rfl (hS1.lQ live) hQ
def En {a b:Code} {e e':Env} {h h':aT} {x:Ex} (ha:mv P N G0 a e h x e' h') (hx:x≠.kE):mv P N G0 (.seq a b) e h x e' h':=by
 intro G act Q hG hS hQ
 refine wp_seq (ha G act _ hG hS λG1 a1 hG1 hS1=>?_)
 cases x with
 | kE=>grind
 | ext id=>exact hQ G1 a1 hG1 hS1
 | ret=>exact hQ G1 a1 hG1 hS1
def JS {a:Code} {id:Nat} {e e1 e':Env} {h h1 h':aT} {x x1:Ex} (ha:mv P N G0 a e h x1 e1 h1) (he:atEnd id (some (x1,e1,h1))=some (x,e',h')):mv P N G0 (.block id a) e h x e' h':=by
 intro G act Q hG hS hQ
 refine wp_block (ha G act _ hG hS λG1 a1 hG1 hS1=>?_)
 cases x1 with
 | kE=>cases he; exact hQ G1 a1 hG1 hS1
 | ret=>cases he; exact hQ G1 a1 hG1 hS1
 | ext i =>
   simp only [atEnd] at he
   show Exit.inBlock id Q (.exit i) a1 G1.w
   simp only [Exit.inBlock]
   split at he
   ·rename_i hi
    have hi:=Nat.eq_of_beq_eq_true hi
    cases he
    rw [if_pos hi]
    exact hQ G1 a1 hG1 hS1
   ·rename_i hi
    have hi:=Nat.ne_of_beq_eq_false hi
    cases he
    rw [if_neg hi]
    exact hQ G1 a1 hG1 hS1
def Hq {a:Code} {e e1:Env} {h h1:aT} {x1:Ex} (ha:mv P N G0 a e h x1 e1 h1):mv P N G0 (.scope a) e h x1 e1 h1:=by
 intro G act Q hG hS hQ
 refine wp_scope_straight (ha G act _ hG hS λG1 a1 hG1 hS1=>?_)
 cases x1 with
 | kE=>exact hQ G1 a1 hG1 hS1
 | ext i=>exact hQ G1 a1 hG1 hS1
 | ret=>exact hQ G1 a1 hG1 hS1
def xR {k:Env->aT->RC} {r:RC} {x:Ex} {e':Env} {h':aT} (h:andThen k r=some (x,e',h')) :
  (∃ e1 h1,r=some (.kE,e1,h1)/\k e1 h1=some (x,e',h'))\/(r=some (x,e',h')/\x≠.kE):=by
 unfold andThen at h
 grind
def nJ (hm:P.follows .mixedOrders=true) (hC:kx P X.C) (hK:nR P X.call) (hI:oP X.call) {n:Nat}:∀ (p:List Bool) (c:Code) (an:lK) (e:Env) (h:aT) (e0:Env) (h0:aT) (x1:Ex) (e1:Env) (h1:aT) (x:Ex) (e':Env) (h':aT),
  codeOk N X.fa.jw c an=true->qw X (kP n) p c an e h=some (.kE,e0,h0)->mv P N G0 (pQ p c an).1 e0 h0 x1 e1 h1->behind X (kP n) p c an (some (x1,e1,h1))=some (x,e',h')->mv P N G0 c e h x e' h'
 | [],c,an,e,h,e0,h0,x1,e1,h1,x,e',h',_,hu,hr,hb=>by
   simp only [qw,Option.some.injEq,Prod.mk.injEq,true_and] at hu
   obtain ⟨rfl,rfl⟩:=hu
   simp only [behind,Option.some.injEq,Prod.mk.injEq] at hb
   obtain ⟨rfl,rfl,rfl⟩:=hb
   exact hr
 | true::p,c,an,e,h,e0,h0,x1,e1,h1,x,e',h',hok,hu,hr,hb=>by
   cases c<;>try (cases hu; done)
   rename_i a b
   cases an<;>try (cases hu; done)
   ·rename_i live y z
    simp only [qw] at hu
    obtain ⟨e2,h2,k1,k2⟩:=zY hu
    rw [oJ] at k2
    simp only [codeOk,Bool.and_eq_true] at hok
    exact Ew (vK hm hC hK hI k1 hok.1) (nJ hm hC hK hI p b z _ _ e0 h0 x1 e1 h1 x e' h' hok.2 k2 hr hb)
   ·rename_i y z
    simp only [qw] at hu
    obtain ⟨e2,h2,k1,k2⟩:=zY hu
    simp only [codeOk,Bool.and_eq_true] at hok
    exact Hh (vK hm hC hK hI k1 hok.1) (nJ hm hC hK hI p b z _ _ e0 h0 x1 e1 h1 x e' h' hok.2 k2 hr hb)
 | false::p,c,an,e,h,e0,h0,x1,e1,h1,x,e',h',hok,hu,hr,hb=>by
   cases c<;>try (cases hu; done)
   ·rename_i a b
    cases an<;>try (cases hu; done)
    ·rename_i live y z
     simp only [qw] at hu
     simp only [codeOk,Bool.and_eq_true] at hok
     simp only [behind] at hb
     rcases xR hb with ⟨e2,h2,k1,k2⟩ | ⟨k1,k2⟩
     ·rw [oJ] at k2
      exact Ew (nJ hm hC hK hI p a y e h e0 h0 x1 e1 h1 _ _ _ hok.1 hu hr k1) (vK hm hC hK hI k2 hok.2)
     ·exact En (nJ hm hC hK hI p a y e h e0 h0 x1 e1 h1 _ _ _ hok.1 hu hr k1) k2
    ·rename_i y z
     simp only [qw] at hu
     simp only [codeOk,Bool.and_eq_true] at hok
     simp only [behind] at hb
     rcases xR hb with ⟨e2,h2,k1,k2⟩ | ⟨k1,k2⟩
     ·exact Hh (nJ hm hC hK hI p a y e h e0 h0 x1 e1 h1 _ _ _ hok.1 hu hr k1) (vK hm hC hK hI k2 hok.2)
     ·exact En (nJ hm hC hK hI p a y e h e0 h0 x1 e1 h1 _ _ _ hok.1 hu hr k1) k2
   ·rename_i id a
    have hu:qw X (kP n) p a an e h=some (.kE,e0,h0):=by cases an<;>exact hu
    have hb:atEnd id (behind X (kP n) p a an (some (x1,e1,h1)))=some (x,e',h'):=by cases an<;>exact hb
    have hok:codeOk N X.fa.jw a an=true:=by cases an<;>exact hok
    have hr:mv P N G0 (pQ p a an).1 e0 h0 x1 e1 h1:=by cases an<;>exact hr
    cases hbb:behind X (kP n) p a an (some (x1,e1,h1)) with
    | none=>rw [hbb] at hb; cases hb
    | some z =>
      obtain ⟨x2,e2,h2⟩:=z
      rw [hbb] at hb
      exact JS (nJ hm hC hK hI p a an e h e0 h0 x1 e1 h1 _ _ _ hok hu hr hbb) hb
   ·rename_i a
    have hu:qw X (kP n) p a an e h=some (.kE,e0,h0):=by cases an<;>exact hu
    have hb:behind X (kP n) p a an (some (x1,e1,h1))=some (x,e',h'):=by cases an<;>exact hb
    have hok:codeOk N X.fa.jw a an=true:=by cases an<;>exact hok
    have hr:mv P N G0 (pQ p a an).1 e0 h0 x1 e1 h1:=by cases an<;>exact hr
    exact Hq (nJ hm hC hK hI p a an e h e0 h0 x1 e1 h1 _ _ _ hok hu hr hb)
end
end Go.Sx
namespace Go.Sx
open Go
section
variable {C:jZ} {F:lA} {Pr:kU} {fa:iN} {Q:Ex->Env->aT->Prop} {e:Env} {h h1:aT} {all rest:List Oper} {o:Oper} {q:Env->aT->Prop} {v:AV} {sch:List (Nat×List Nat)} {i:Nat} {a b:Code} {x y an:lK} {live:List Nat}
def oV (w:kO C F Pr fa all rest q (jn e o v) h1) (hw:jt all e o=some true:=by rfl) (hop:∀ call,jL o.op ⟨C,fa,call⟩ e h o.dst=some (v,h1):=by exact λ_=>rfl):kO C F Pr fa all (o::rest) q e h:=iT hw hop w
def rV (w:kX C F Pr fa all sch q (jn e o v) h1) (ho:all[i]?=some o:=by rfl) (hw:jt all e o=some true:=by rfl) (hop:∀ call,jL o.op ⟨C,fa,call⟩ e h o.dst=some (v,h1):=by exact λ_=>rfl):kX C F Pr fa all ((i,[])::sch) q e h:=jh ho hw hop w
def oS (w:kO C F Pr fa all rest q (jn e o (.jl [])) h) (hw:jt all e o=some false:=by rfl):kO C F Pr fa all (o::rest) q e h:=N5 hw w
def rS (w:kX C F Pr fa all sch q (jn e o (.jl [])) h) (ho:all[i]?=some o:=by rfl) (hw:jt all e o=some false:=by rfl):kX C F Pr fa all ((i,[])::sch) q e h:=Mm ho hw w
def oN (w:q e h):kO C F Pr fa all [] q e h:=TR w
def rN (w:q e h):kX C F Pr fa all [] q e h:=Ut w
def qq (w:Wp C F Pr fa a x (vJ (Wp C F Pr fa b y Q) Q) e h):Wp C F Pr fa (.seq a b) (.sq x y) Q e h:=V8 w
def qs (w:Wp C F Pr fa a x (vJ (λe h=>Wp C F Pr fa b y Q (proj live e) { h with iI:=lz live h.iI }) Q) e h):Wp C F Pr fa (.seq a b) (.seq live x y) Q e h:=Gz w
def qk (w:Q .kE e h):Wp C F Pr fa .skip an Q e h:=N3 w
def ql {l:Nat} (w:Q .kE e h):Wp C F Pr fa (.label l) an Q e h:=Lt w
def qe {id:Nat} (w:Q (.ext id) e h):Wp C F Pr fa (.exit id) an Q e h:=Ou w
def qr (w:Q .ret e h):Wp C F Pr fa .ret an Q e h:=T2 w
def qb {id:Nat} (w:Wp C F Pr fa a an (HJ id Q) e h):Wp C F Pr fa (.block id a) an Q e h:=Kl w
def qg {id:Nat} {ops:Array Oper} (w:kO C F Pr fa ops.toList ops.toList (Q .kE) e h):Wp C F Pr fa (.region id ops false) an Q e h:=Ig w
def qd {id:Nat} {ops:Array Oper} (w:kX C F Pr fa ops.toList sch (Q .kE) e h):Wp C F Pr fa (.region id ops true) (.oU sch) Q e h:=Ki w
def qT {c:Operand} (w:Wp C F Pr fa a x Q e h) (hc:iZ e c=.bool true:=by rfl):Wp C F Pr fa (.cond c a b) (.two x y) Q e h:=FO hc (λ_=>w) (λh=>by cases h)
def qF {c:Operand} (w:Wp C F Pr fa b y Q e h) (hc:iZ e c=.bool false:=by rfl):Wp C F Pr fa (.cond c a b) (.two x y) Q e h:=FO hc (λh=>by cases h) (λ_=>w)
def jk {a b:Int} (w1:a<b->kO C F Pr fa all rest q (jn e o (.bool true)) h) (w2:¬ (a<b)->kO C F Pr fa all rest q (jn e o (.bool false)) h) {t u:Nat} {x y:Operand} {k k':IntKind} (ho:o.op=.binOp .lss t x y u:=by rfl) (hw:jt all e o=some true:=by rfl) (hx:iZ e x=.int k a:=by rfl) (hy:iZ e y=.int k' b:=by rfl) (hk:pa k k'=true:=by rfl):kO C F Pr fa all (o::rest) q e h:=om hw (λ_=>by rw [ho]; exact j9 hx hy hk (GM _ a b)) w1 w2
def qY {a b:Int} (w1:a<b->kX C F Pr fa all sch q (jn e o (.bool true)) h) (w2:¬ (a<b)->kX C F Pr fa all sch q (jn e o (.bool false)) h) {t u:Nat} {x y:Operand} {k k':IntKind} (hi:all[i]?=some o:=by rfl) (ho:o.op=.binOp .lss t x y u:=by rfl) (hw:jt all e o=some true:=by rfl) (hx:iZ e x=.int k a:=by rfl) (hy:iZ e y=.int k' b:=by rfl) (hk:pa k k'=true:=by rfl):kX C F Pr fa all ((i,[])::sch) q e h:=o3 hi hw (λ_=>by rw [ho]; exact j9 hx hy hk (GM _ a b)) w1 w2
def sj {a b:Int} (w1:a<=b->kO C F Pr fa all rest q (jn e o (.bool true)) h) (w2:¬ (a<=b)->kO C F Pr fa all rest q (jn e o (.bool false)) h) {t u:Nat} {x y:Operand} {k k':IntKind} (ho:o.op=.binOp .leq t x y u:=by rfl) (hw:jt all e o=some true:=by rfl) (hx:iZ e x=.int k a:=by rfl) (hy:iZ e y=.int k' b:=by rfl) (hk:pa k k'=true:=by rfl):kO C F Pr fa all (o::rest) q e h:=om hw (λ_=>by rw [ho]; exact j9 hx hy hk (Ul _ a b)) w1 w2
def kn {a b:Int} (w1:a > b->kO C F Pr fa all rest q (jn e o (.bool true)) h) (w2:¬ (a > b)->kO C F Pr fa all rest q (jn e o (.bool false)) h) {t u:Nat} {x y:Operand} {k k':IntKind} (ho:o.op=.binOp .gtr t x y u:=by rfl) (hw:jt all e o=some true:=by rfl) (hx:iZ e x=.int k a:=by rfl) (hy:iZ e y=.int k' b:=by rfl) (hk:pa k k'=true:=by rfl):kO C F Pr fa all (o::rest) q e h:=om hw (λ_=>by rw [ho]; exact j9 hx hy hk (He _ a b)) w1 w2
def afG {a b:Int} (w1:a > b->kX C F Pr fa all sch q (jn e o (.bool true)) h) (w2:¬ (a > b)->kX C F Pr fa all sch q (jn e o (.bool false)) h) {t u:Nat} {x y:Operand} {k k':IntKind} (hi:all[i]?=some o:=by rfl) (ho:o.op=.binOp .gtr t x y u:=by rfl) (hw:jt all e o=some true:=by rfl) (hx:iZ e x=.int k a:=by rfl) (hy:iZ e y=.int k' b:=by rfl) (hk:pa k k'=true:=by rfl):kX C F Pr fa all ((i,[])::sch) q e h:=o3 hi hw (λ_=>by rw [ho]; exact j9 hx hy hk (He _ a b)) w1 w2
def lP {a b:Int} (w1:a>=b->kO C F Pr fa all rest q (jn e o (.bool true)) h) (w2:¬ (a>=b)->kO C F Pr fa all rest q (jn e o (.bool false)) h) {t u:Nat} {x y:Operand} {k k':IntKind} (ho:o.op=.binOp .geq t x y u:=by rfl) (hw:jt all e o=some true:=by rfl) (hx:iZ e x=.int k a:=by rfl) (hy:iZ e y=.int k' b:=by rfl) (hk:pa k k'=true:=by rfl):kO C F Pr fa all (o::rest) q e h:=om hw (λ_=>by rw [ho]; exact j9 hx hy hk (GA _ a b)) w1 w2
def vQ {a b:Int} (w1:a>=b->kX C F Pr fa all sch q (jn e o (.bool true)) h) (w2:¬ (a>=b)->kX C F Pr fa all sch q (jn e o (.bool false)) h) {t u:Nat} {x y:Operand} {k k':IntKind} (hi:all[i]?=some o:=by rfl) (ho:o.op=.binOp .geq t x y u:=by rfl) (hw:jt all e o=some true:=by rfl) (hx:iZ e x=.int k a:=by rfl) (hy:iZ e y=.int k' b:=by rfl) (hk:pa k k'=true:=by rfl):kX C F Pr fa all ((i,[])::sch) q e h:=o3 hi hw (λ_=>by rw [ho]; exact j9 hx hy hk (GA _ a b)) w1 w2
def jz {a b:Int} (w1:a=b->kO C F Pr fa all rest q (jn e o (.bool true)) h) (w2:¬ (a=b)->kO C F Pr fa all rest q (jn e o (.bool false)) h) {t u:Nat} {x y:Operand} {k k':IntKind} (ho:o.op=.binOp .eql t x y u:=by rfl) (hw:jt all e o=some true:=by rfl) (hx:iZ e x=.int k a:=by rfl) (hy:iZ e y=.int k' b:=by rfl) (hk:pa k k'=true:=by rfl):kO C F Pr fa all (o::rest) q e h:=om hw (λ_=>by rw [ho]; exact j9 hx hy hk (GH _ a b)) w1 w2
def Cx {a b:Int} (w1:a=b->kX C F Pr fa all sch q (jn e o (.bool true)) h) (w2:¬ (a=b)->kX C F Pr fa all sch q (jn e o (.bool false)) h) {t u:Nat} {x y:Operand} {k k':IntKind} (hi:all[i]?=some o:=by rfl) (ho:o.op=.binOp .eql t x y u:=by rfl) (hw:jt all e o=some true:=by rfl) (hx:iZ e x=.int k a:=by rfl) (hy:iZ e y=.int k' b:=by rfl) (hk:pa k k'=true:=by rfl):kX C F Pr fa all ((i,[])::sch) q e h:=o3 hi hw (λ_=>by rw [ho]; exact j9 hx hy hk (GH _ a b)) w1 w2
def lb {a b:Int} (w1:a≠b->kO C F Pr fa all rest q (jn e o (.bool true)) h) (w2:¬ (a≠b)->kO C F Pr fa all rest q (jn e o (.bool false)) h) {t u:Nat} {x y:Operand} {k k':IntKind} (ho:o.op=.binOp .neq t x y u:=by rfl) (hw:jt all e o=some true:=by rfl) (hx:iZ e x=.int k a:=by rfl) (hy:iZ e y=.int k' b:=by rfl) (hk:pa k k'=true:=by rfl):kO C F Pr fa all (o::rest) q e h:=om hw (λ_=>by rw [ho]; exact j9 hx hy hk (G5 _ a b)) w1 w2
def AB {a b:Int} (w1:a≠b->kX C F Pr fa all sch q (jn e o (.bool true)) h) (w2:¬ (a≠b)->kX C F Pr fa all sch q (jn e o (.bool false)) h) {t u:Nat} {x y:Operand} {k k':IntKind} (hi:all[i]?=some o:=by rfl) (ho:o.op=.binOp .neq t x y u:=by rfl) (hw:jt all e o=some true:=by rfl) (hx:iZ e x=.int k a:=by rfl) (hy:iZ e y=.int k' b:=by rfl) (hk:pa k k'=true:=by rfl):kX C F Pr fa all ((i,[])::sch) q e h:=o3 hi hw (λ_=>by rw [ho]; exact j9 hx hy hk (G5 _ a b)) w1 w2
def oC {f:Nat} {args:List AV} {R:AV->Prop} (w:∀ h:aT,∃ v,ji C F Pr false f args h v h/\R v) (next:∀ v,R v->kO C F Pr fa all rest q (jn e o v) h) {g:Operand} {c:Call} (ho:o.op=.call c:=by rfl) (hw:jt all e o=some true:=by rfl) (hf:c.callee=.value g:=by rfl) (hg:iZ e g=.jQ f [] []:=by rfl) (ha:c.args.toList.map (iZ e)=args:=by rfl) (hok:args.all AV.nA=true:=by rfl) (hs:fa.jw.elem f=false:=by rfl):kO C F Pr fa all (o::rest) q e h:=NZ ho hw hf hg ha hok hs w next
def rC {f:Nat} {args:List AV} {R:AV->Prop} (w:∀ h:aT,∃ v,ji C F Pr false f args h v h/\R v) (next:∀ v,R v->kX C F Pr fa all sch q (jn e o v) h) {g:Operand} {c:Call} (hi:all[i]?=some o:=by rfl) (ho:o.op=.call c:=by rfl) (hw:jt all e o=some true:=by rfl) (hf:c.callee=.value g:=by rfl) (hg:iZ e g=.jQ f [] []:=by rfl) (ha:c.args.toList.map (iZ e)=args:=by rfl) (hok:args.all AV.nA=true:=by rfl) (hs:fa.jw.elem f=false:=by rfl):kX C F Pr fa all ((i,[])::sch) q e h:=Mq hi hw ho hf hg ha hok hs w next
end
def Row.lk {α:Type} (r:Row α):r.l.length<=9223372036854775807:=r.ok
def jm.lk {α:Type} (r:jm α):r.l.length<=9223372036854775807:=r.ok
def ns.lk (r:ns):r.l.length<=9223372036854775807:=r.ok
abbrev iv (n:Int):AV:=.int .i64 n
theorem FZ:(∀ sn hp n k a,freeze sn hp (n+1) (.int k a)=some (.int k a))/\(∀ sn hp n b,freeze sn hp (n+1) (.bool b)=some (.bool b))/\(∀ sn hp n s,freeze sn hp (n+1) (.str s)=some (.str s)) /\
  (∀ (α:Type) (enc : α->List AV) hp n r,freeze true hp (n+1) (jm.av enc r)=some (jm.av enc r))/\(∀ (α:Type) (enc : α->List AV) sn hp n r,freeze sn hp (n+1) (Row.av enc r)=some (Row.av enc r)) /\
  (∀ hp n c o s,freeze true hp (n+1) (.ip c o s)=some (.ip c o s))/\(∀ sn hp n c o,freeze sn hp (n+1) (.ip c o false)=some (.ip c o false))/\(∀ hp n c s,freeze true hp (n+1) (.fm c s)=some (.fm c s))/\(∀ sn hp n c,freeze sn hp (n+1) (.fm c false)=some (.fm c false)) /\
  (∀ sn hp n,freeze sn hp (n+1) (.sl [] .nil)=some (.sl [] .nil))/\(∀ sn hp n,freeze sn hp (n+1) .ky=some .ky)/\(∀ sn hp n,freeze sn hp (n+1) .kJ=some .kJ)/\(∀ sn hp n m xs,freeze sn hp (n+1) (.sl xs (.exact m))=some (.sl xs (.exact m))) /\
  (∀ sn hp n l,freeze sn hp (n+1) (.agg l)=(match jJ (freeze sn hp n) l with
    | some l=>some (.agg l)
    | none=>none))/\(∀ sn hp n l,freeze sn hp (n+1) (.jl l)=(match jJ (freeze sn hp n) l with
    | some l=>some (.jl l)
    | none=>none))/\(∀ x:iM,x.ag=[.int .i64 x.elem,.int .i64 x.en])/\(∀ x:jO,x.ag=[.int .i64 x.elem,.int .i64 x.pos])/\(∀ x:j8,x.ag=[.int .i64 x.out,.int .i64 x.pos])/\(∀ x:jg,x.ag=[.int .i64 x.elem,.int .i64 x.oB,.int .i64 x.out])/\(∀ x:ko,x.ag=[.str x.name.l,.int .i64 x.kind,.int .i64 x.len])/\(∀ x:jR,x.ag=[.bool x.Al,.int .i64 x.at_,.int .i64 x.end_,.int .i64 x.to]) /\
  (∀ x:ja,x.ag=[.int .i64 x.from_,.int .i64 x.to,.int .i64 x.end_,x.steps.av jg.ag,x.l8.av jO.ag,x.guards.av jO.ag,x.mB.av j4,x.holds.av j4,.bool x.bare])/\(∀ x:sN,x.ag=[.int .i64 x.from_,.int .i64 x.to,.int .i64 x.end_,x.steps.av jg.ag,x.l8.av jO.ag,x.guards.av jO.ag,x.mB.av j4,x.holds.av j4,.bool x.bare]) /\
  (∀ x:nC,x.ag=[.int .i64 x.vC,x.steps.av jg.ag,x.pos.av j4,x.left.av (mj j8.ag)])/\(∀ p:bG,p.ag=[p.elems.av ko.ag,p.jd.av kD.ag,p.signals.av kb.ag,p.lines.av jN.ag,.int .i64 p.top,.int .i64 p.jT,.int .i64 p.kq,.int .i64 p.jX,.bool p.kI])/\(∀ x:jY,x.ag=x.ki.ag++[x.roads.av ja.ag]) /\
  (∀ x:lE,x.ag=[.int .i64 x.mode,x.mY.av iM.ag,.int .i64 x.left,.int .i64 x.yk,.int .i64 x.v])/\(∀ x:kF,x.ag=[.str x.name.l,.int .i64 x.iU,.int .i64 x.at_.elem,.int .i64 x.at_.en,.int .i64 x.left])/\(∀ x:jN,x.ag=[.str x.name.l,x.elems.av j4])/\(∀ x:jC,x.ag=[.str x.name.l,.int .i64 x.iU,.int .i64 x.from_,.int .i64 x.left,x.iY.av jR.ag])/\(∀ x:iO,x.ag=[.int .i64 x.uu,x.iU.av jr.ag,x.runs.av jC.ag]) /\
  (∀ (f:AV->Option AV),jJ f []=some [])/\(∀ (f:AV->Option AV) v l,jJ f (v::l)=(match f v with
    | none=>none
    | some w=>match jJ f l with
      | none=>none
      | some l'=>some (w::l')))/\(∀ (a b:List AV) v,(v::a)++b=v::(a++b))/\(∀ b:List AV,[]++b=b):=by
 refine ⟨λ_ _ _ _ _=>rfl,λ_ _ _ _=>rfl,λ_ _ _ _=>rfl,λ_ _ _ _ r=>Fy r,λ_ _ _ _ _ r=>ug r,λ_ _ _ _ _=>GV _ _ _,λ_ _ _ _ _=>Ux _ _,λ_ _ _ _=>Gt _ _,λ_ _ _ _=>UD _,λ_ _ _=>rfl,λ_ _ _=>rfl,λ_ _ _=>rfl,λ_ _ _ _ _=>rfl,λ_ _ _ _=>rfl,λ_ _ _ _=>rfl,?_⟩
 exact ⟨λ_=>rfl,λ_=>rfl,λ_=>rfl,λ_=>rfl,λ_=>rfl,λ_=>rfl,λ_=>rfl,λ_=>rfl,λ_=>rfl,λ_=>rfl,λ_=>rfl,λ_=>rfl,λ_=>rfl,λ_=>rfl,λ_=>rfl,λ_=>rfl,λ_=>rfl,λ_ _ _=>rfl,λ_ _ _=>rfl,λ_=>rfl⟩
end Go.Sx
namespace Go.Sx
open Go
def J9 (amb:Bool) (a b:Option iM) (to:Int):Option iM:=match a,b with
 | some _,none=>some ⟨to,1⟩
 | none,some _=>some ⟨to,0⟩
 | _,_=>if amb=true then some ⟨to,-1⟩ else none
def pk (amb:Bool) (A:Int->Option iM) (N:iM->Option iM) (l:jR):Option iM:=if l.end_=1 then A l.to else if l.end_=3 then J9 amb (N ⟨l.to,0⟩) (N ⟨l.to,1⟩) l.to else none
def wb (amb:Bool) (A:Int->Option iM) (N:iM->Option iM) (r:jC) (leg:Int):Option iM:=if leg=0 then A r.from_ else match r.iY.l[(leg - 1).toNat]? with
 | none=>none
 | some l=>pk amb A N l
def lx (amb:Bool) (A:Int->Option iM) (N:iM->Option iM) (d:iO) (run leg:Int):Option iM:=if run<0 then none else match d.runs.l[run.toNat]? with
 | none=>none
 | some r=>if leg<0\/leg > r.iY.l.length then none else wb amb A N r leg
section
variable {amb:Bool} {A:Int->Option iM} {N:iM->Option iM} {d:iO} {run leg:Int} {x:jC} {y:jR}
theorem tX (h:run<0\/run>=d.runs.l.length):lx amb A N d run leg=none:=by
 grind [lx]
theorem yG (h0:0<=run) (hx:run.toNat<d.runs.l.length) (hq:d.runs.l[run.toNat]=x):lx amb A N d run leg=if leg<0\/leg > x.iY.l.length then none else wb amb A N x leg:=by
 grind [lx]
theorem tJ (h0:0<=run) (hx:run.toNat<d.runs.l.length) (hq:d.runs.l[run.toNat]=x) (h:leg<0\/leg > x.iY.l.length):lx amb A N d run leg=none:=by
 grind [yG]
def T5 {hx:run.toNat<d.runs.l.length} (hq:d.runs.l[run.toNat]=x) (h:leg<(x.iY.l.length:Int)):∀ h:run.toNat<d.runs.l.length,leg<((d.runs.l[run.toNat]).iY.l.length:Int):=by
 grind
def C4 (h:leg<0):lx amb A N d run leg=none:=by
 grind [lx]
theorem D8 (h0:0<=run) (hx:run.toNat<d.runs.l.length) (hq:d.runs.l[run.toNat]=x) (h:leg=0):lx amb A N d run leg=A x.from_:=by
 rw [yG h0 hx hq,if_neg (by omega),wb,if_pos h]
theorem Ea (h0:0<=run) (hx:run.toNat<d.runs.l.length) (hq:d.runs.l[run.toNat]=x) (h1:0<leg) (h2:leg<=x.iY.l.length) (hy:(leg - 1).toNat<x.iY.l.length) (hz:x.iY.l[(leg - 1).toNat]=y):lx amb A N d run leg=pk amb A N y:=by
 rw [yG h0 hx hq,if_neg (by omega),wb,if_neg (by omega),List.getElem?_eq_getElem hy,hz]
theorem zv (h:y.end_=1):pk amb A N y=A y.to:=by grind [pk]
theorem zu (h:¬ y.end_=1) (h3:y.end_=3):pk amb A N y=J9 amb (N ⟨y.to,0⟩) (N ⟨y.to,1⟩) y.to:=by grind [pk]
theorem Ck (h:¬ y.end_=1) (h3:¬ y.end_=3):pk amb A N y=none:=by grind [pk]
end
def Dv (amb:Bool) (K:Int->Int) (R:iM->Int) (h:iM) (l:jR):Int:=if l.Al=true then if K h.elem=1 then R ⟨h.elem,IntKind.i64.wrap (1 - h.en)⟩ else -1 else R h
def nz (amb:Bool) (A:Int->Option iM) (N:iM->Option iM) (K:Int->Int) (R:iM->Int) (d:iO) (run leg:Int):Int:=match lx amb A N d run leg with
 | none=>-1
 | some h=>if amb=true/\h.en<0 then -1 else match d.runs.l[run.toNat]? with
   | none=>-1
   | some r=>match r.iY.l[leg.toNat]? with
     | none=>-1
     | some l=>Dv amb K R h l
def Cy (d:iO) (run leg:Int):Prop:=run<0\/run>=d.runs.l.length\/leg<0\/∃ h:run.toNat<d.runs.l.length,leg > ((d.runs.l[run.toNat]).iY.l.length:Int)
section
variable {amb:Bool} {A:Int->Option iM} {N:iM->Option iM} {K:Int->Int} {R:iM->Int} {d:iO} {run leg:Int} {x:jC} {y:jR} {h:iM}
theorem pf (hh:lx amb A N d run leg=none):nz amb A N K R d run leg = -1:=by rw [nz,hh]
def KQ (hl:Cy d run leg):lx amb A N d run leg=none:=by
 by_cases h0:run<0\/run>=d.runs.l.length
 ·exact tX h0
 ·have hx:run.toNat<d.runs.l.length:=by omega
  refine tJ (by omega) hx rfl ?_
  rcases hl with hl | hl | hl | ⟨_,hl⟩<;>grind
theorem Dd (hh:lx true A N d run leg=some h) (hn:h.en<0):nz true A N K R d run leg = -1:=by grind [nz]
def C5 (hx:run.toNat<d.runs.l.length) (hq:d.runs.l[run.toNat]=x) (hl:leg>=x.iY.l.length):nz amb A N K R d run leg = -1:=by
 grind [nz]
theorem BM (hh:lx amb A N d run leg=some h) (hn:amb=false\/¬ h.en<0) (hx:run.toNat<d.runs.l.length) (hq:d.runs.l[run.toNat]=x) (hy:leg.toNat<x.iY.l.length) (hz:x.iY.l[leg.toNat]=y):nz amb A N K R d run leg=Dv amb K R h y:=by
 grind [nz]
theorem ME (hA:∀ i h,A i=some h->0<=h.en):nz false A N K R d run leg=nz true A N K R d run leg:=by
 have hl:∀ l:jR,(pk false A N l=none/\pk true A N l=none)\/(∃ h,pk false A N l=none/\pk true A N l=some h/\h.en<0)\/∃ h,pk false A N l=some h/\pk true A N l=some h/\0<=h.en:=by
  intro l
  by_cases h1:l.end_=1
  ·rw [zv h1,zv h1]
   cases h:A l.to<;>grind
  ·by_cases h3:l.end_=3
   ·rw [zu h1 h3,zu h1 h3]
    cases N ⟨l.to,0⟩<;>cases N ⟨l.to,1⟩<;>simp [J9]
   grind [Ck]
 have hg:(lx false A N d run leg=none/\lx true A N d run leg=none)\/(∃ h,lx false A N d run leg=none/\lx true A N d run leg=some h/\h.en<0)\/∃ h,lx false A N d run leg=some h/\lx true A N d run leg=some h/\0<=h.en:=by
  unfold lx
  split
  ·simp
  ·cases d.runs.l[run.toNat]? with
   | none=>simp
   | some r =>
     simp only
     split
     ·simp
     ·unfold wb
      split
      ·cases h:A r.from_<;>grind
      ·cases r.iY.l[(leg - 1).toNat]?<;>grind
 rcases hg with ⟨h1,h2⟩ | ⟨h,h1,h2,h3⟩ | ⟨h,h1,h2,h3⟩
 ·grind [pf]
 ·grind [pf,Dd]
 ·simp only [nz,h1,h2,Bool.false_eq_true,false_and,true_and,if_false]
  rw [if_neg (by omega)]
  rfl
end
def Uh {p:bG} (h:∀ s∈p.signals.l,0<=s.at_.elem/\s.at_.elem<(p.elems.l.length:Int)/\0<=s.at_.en):∀ i x,nk p.signals.l i=some x->0<=x.en:=by
 grind [nk]
end Go.Sx
