/- Proves rules for the walks and their soundness. -/
import GoSem.ClaimChange
import Derived.Shelf.SlIterI.Nil
import Derived.Shelf.SortM.Plain
import Derived.Shelf.SortM.SortNone
import Derived.Test.YtihofefpkjfmnaaGreatTaa
import Derived.Test.YtihofefpkjfmnaaGreatTae
set_option linter.all false
namespace Go.Sx
open Go
def m4 (n:Int):Prop:=-9223372036854775808<=n/\n<=9223372036854775807
def JG (p:iF):Prop:=(∀ j∈p.kg.l,m4 j.a.elem/\m4 j.b.elem)/\∀ x∈p.lines.l,∀ z∈x.elems.l,m4 z
def mB (p:iF):Prop:=p.elems.l.length<=60/\p.kg.l.length<=120/\p.signals.l.length<=60/\p.lines.l.length<=20/\(∀ x∈p.lines.l,x.elems.l.length<=60)/\(∀ j∈p.kg.l,m4 j.a.elem/\m4 j.b.elem)/\∀ x∈p.lines.l,∀ z∈x.elems.l,m4 z
theorem mB.elems {p:iF} (h:mB p):p.elems.l.length<=60:=h.1
def mB.kg {p:iF} (h:mB p):p.kg.l.length<=120:=h.2.1
theorem mB.signals {p:iF} (h:mB p):p.signals.l.length<=60:=h.2.2.1
def mB.lines {p:iF} (h:mB p):p.lines.l.length<=20:=h.2.2.2.1
def mB.line {p:iF} (h:mB p):∀ x∈p.lines.l,x.elems.l.length<=60:=h.2.2.2.2.1
def mB.UN {p:iF} (h:mB p):∀ j∈p.kg.l,m4 j.a.elem/\m4 j.b.elem:=h.2.2.2.2.2.1
def mB.U4 {p:iF} (h:mB p):∀ x∈p.lines.l,∀ z∈x.elems.l,m4 z:=h.2.2.2.2.2.2
def pJ {κ β:Type} [DecidableEq κ] {k : κ} {x : β} {l:List (κ×β)} (h:look k l=some x):(k,x)∈l:=by
 induction l<;>grind [look]
def BK {κ β:Type} [DecidableEq κ] {k : κ} {x : β} {l:List (κ×β)} {y : κ×β} (h:y∈put k x l):y=(k,x)\/y∈l:=by
 induction l<;>grind [put]
def sw {κ β:Type} [DecidableEq κ] {k : κ} {x : β} {l:List (κ×β)} {P : β->Prop} (hl:∀ y∈l,P y.2) (hx:P x):∀ y∈put k x l,P y.2:=by
 intro y hy
 rcases BK hy with rfl | hy<;>grind
theorem Ii {κ β:Type} [DecidableEq κ] {k : κ} {x : β} {l:List (κ×β)}:(put k x l).length<=l.length+1:=by
 induction l<;>grind [put]
def oc {κ β:Type} (l:List (κ×β)):Prop:=(l.map Prod.fst).Nodup
theorem BQ {κ β:Type} [DecidableEq κ] {k : κ} {l:List (κ×β)} (h:look k l=none):k∉l.map Prod.fst:=by
 induction l<;>grind [look]
theorem FO {κ β:Type} [DecidableEq κ] {k : κ} {x : β} {l:List (κ×β)} (h:look k l=none):put k x l=l++[(k,x)]:=by
 induction l<;>grind [look,put]
def Co {α:Type} [DecidableEq α]:∀ {a b:List α},a.Nodup->(∀ x∈a,x∈b)->a.length<=b.length
 | [],_,_,_=>Nat.zero_le _
 | x::a,b,hn,hs=>by
   have hx:x∈b:=hs x List.mem_cons_self
   have h1:=Co (a:=a) (b:=b.erase x) (List.nodup_cons.mp hn).2 (by
    grind)
   grind
def qh (p:iF) (e:Int):Int:=if e<0 then 0 else match p.elems.l[e.toNat]? with
 | some x=>x.kind
 | none=>0
theorem B3 {p:iF} {e:Int} (h:e<0\/e>=p.elems.l.length):qh p e=0:=by
 grind [qh]
def LF {p:iF} {e:Int} {x:lV} (h0:0<=e) (hx:e.toNat<p.elems.l.length) (hq:p.elems.l[e.toNat]=x):qh p e=x.kind:=by
 grind [qh]
def nN:List lQ->jT->Option jT
 | [],_=>none
 | j::l,x=>if j.a=x then some j.b else if j.b=x then some j.a else nN l x
theorem zu {a b:jT} (h:a.elem=b.elem/\a.en=b.en):a=b:=by
 cases a<;>simp_all
def Kg {l:List lQ} {y:jT} {k:Nat} {x:lQ} (hx:k<l.length) (hq:l[k]=x) (h1:¬(x.a.elem=y.elem/\x.a.en=y.en)) (h2:¬(x.b.elem=y.elem/\x.b.en=y.en)):nN (l.drop (k+1)) y=nN (l.drop k) y:=by
 rw [List.drop_eq_getElem_cons hx,hq,nN,if_neg (by grind),if_neg (by grind)]
def KX {l:List lQ} {y:jT} {k:Nat} {x:lQ} (hx:k<l.length) (hq:l[k]=x) (h1:x.a.elem=y.elem/\x.a.en=y.en):nN (l.drop k) y=some x.b:=by
 rw [List.drop_eq_getElem_cons hx,hq,nN,if_pos (zu h1)]
def Kv {l:List lQ} {y:jT} {k:Nat} {x:lQ} (hx:k<l.length) (hq:l[k]=x) (h1:¬(x.a.elem=y.elem/\x.a.en=y.en)) (h2:x.b.elem=y.elem/\x.b.en=y.en):nN (l.drop k) y=some x.a:=by
 rw [List.drop_eq_getElem_cons hx,hq,nN,if_neg (by grind),if_pos (zu h2)]
def Nm {l:List lQ} {y:jT} {k:Nat} (hx:l.length<=k):nN (l.drop k) y=none:=by
 rw [List.drop_eq_nil_of_le hx]; rfl
def om (x:jT):Nat->List lP->Option Int
 | _,[]=>none
 | i,s::l=>if s.at_=x then some i else om x (i+1) l
def rE (l:List lP) (x:jT):Option Int:=om x 0 l
def BN {l:List lP} {y:jT} {k:Nat} {x:lP} (hx:k<l.length) (hq:l[k]=x) (h1:¬(x.at_.elem=y.elem/\x.at_.en=y.en)):om y (k+1) (l.drop (k+1))=om y k (l.drop k):=by
 rw [List.drop_eq_getElem_cons hx,hq,om,if_neg (by grind)]
theorem Cw {l:List lP} {y:jT} {k:Nat} {x:lP} (hx:k<l.length) (hq:l[k]=x) (h1:x.at_.elem=y.elem/\x.at_.en=y.en):om y k (l.drop k)=some (k:Int):=by
 rw [List.drop_eq_getElem_cons hx,hq,om,if_pos (zu h1)]
theorem Cp {l:List lP} {y:jT} {k:Nat} (hx:l.length<=k):om y k (l.drop k)=none:=by
 rw [List.drop_eq_nil_of_le hx]; rfl
def q8 (l:List lP) (i:Int):Option jT:=if i<0 then none else (l[i.toNat]?).map (·.at_)
def D8 {l:List lP} {e:Int} (h:e<0\/e>=l.length):q8 l e=none:=by
 grind [q8]
theorem BL {l:List lP} {e:Int} {x:lP} (h0:0<=e) (hx:e.toNat<l.length) (hq:l[e.toNat]=x):q8 l e=some x.at_:=by
 grind [q8]
def uo:Nat->List (Row lX)->Nat
 | _,[]=>0
 | i,r::l=>r.l.length*(2 ^ (12 - i) - 1)+uo (i+1) l
def Oc (l:List (Row lX)):∃ n,n=uo 0 l:=⟨_,rfl⟩
noncomputable def wt (l:List (Row lX)):Nat:=Classical.choose (Oc l)
theorem yL (l:List (Row lX)):wt l=uo 0 l:=Classical.choose_spec (Oc l)
def FD (n:Nat):∃ m,m=2 ^ (13 - n) - 1:=⟨_,rfl⟩
noncomputable def u0 (n:Nat):Nat:=Classical.choose (FD n)
theorem ya (n:Nat):u0 n=2 ^ (13 - n) - 1:=Classical.choose_spec (FD n)
theorem Ri:wt []=0:=by rw [yL]; rfl
theorem Rl:u0 0=8191:=by rw [ya]
theorem Ec (w:Row lX):∀ (l:List (Row lX)) (i:Nat),uo i (l++[w])=uo i l+w.l.length*(2 ^ (12 - (i+l.length)) - 1)
 | [],i=>by simp [uo]
 | r::l,i=>by
   simp only [List.cons_append,uo,Ec w l (i+1),List.length_cons]
   rw [show i+1+l.length=i+(l.length+1) from by omega]; omega
def Al {n:Nat} (h:n<=12):1<=u0 n:=by
 rw [ya]
 have:2 ^ 1<=2 ^ (13 - n):=Nat.pow_le_pow_right (by omega) (by omega)
 omega
def O9 {l:List (Row lX)} {w:Row lX} (hn:l.length<12) (hw:w.l.length<=2):wt (l++[w])+1<=wt l+u0 l.length:=by
 rw [yL,yL,ya]
 rw [Ec,Nat.zero_add]
 have h1:13 - l.length=(12 - l.length)+1:=by omega
 have h2:1<=2 ^ (12 - l.length):=Nat.one_le_two_pow
 rw [h1,Nat.pow_succ]
 have h3:w.l.length*(2 ^ (12 - l.length) - 1)<=2*(2 ^ (12 - l.length) - 1):=Nat.mul_le_mul_right _ hw
 omega
theorem DK:∀ {l:List (Row lX)} {i k:Nat} (hk:k+1=l.length) (_:(l[k]'(by omega)).l.length=0),uo i (l.take k)=uo i l
 | [],_,_,hk,_=>by simp
 | [r],i,k,hk,h0=>by
   grind [uo]
 | r::s::l,i,k,hk,h0=>by
   obtain ⟨k,rfl⟩:∃ k',k=k'+1:=⟨k - 1,by simp at hk; omega⟩
   simp only [List.getElem_cons_succ] at h0
   rw [List.take_succ_cons,uo,uo,DK (l:=s::l) (by simpa using hk) h0]
theorem Fu:∀ {l:List (Row lX)} {i k:Nat} {r r':Row lX} (hk:k<l.length) (_:l[k]=r) (_:1<=r.l.length) (_:r'.l.length+1=r.l.length),uo i (l.set k r')+(2 ^ (12 - (i+k)) - 1)=uo i l
 | [],_,_,_,_,hk,_,_,_=>by simp at hk
 | x::l,i,0,r,r',_,hr,h1,h2=>by
   grind [uo]
 | x::l,i,k+1,r,r',hk,hr,h1,h2=>by
   simp only [List.getElem_cons_succ] at hr
   simp only [List.set_cons_succ,uo]
   have:=Fu (l:=l) (i:=i+1) (k:=k) (by simpa using hk) hr h1 h2
   rw [show i+1+k=i+(k+1) from by omega] at this
   omega
theorem Pa {l:List (Row lX)} {k:Nat} {r:Row lX} (hk:k<l.length) (hk1:k+1=l.length) (hr:l[k]=r) (h0:r.l.length=0):wt (l.take k)=wt l:=by grind [yL,DK]
def Rq {l:List (Row lX)} {k:Nat} {r r':Row lX} (hk:k<l.length) (hk1:k+1=l.length) (hr:l[k]=r) (h1:1<=r.l.length) (h2:r'.l.length+1=r.l.length):wt (l.set k r')+u0 l.length=wt l:=by
 grind [Fu,yL,ya]
def zI (l:List lQ):Prop:=∀ (i:Nat) (h:i<l.length),nN (l.take i) (l[i]).a=none/\nN (l.take i) (l[i]).b=none/\(l[i]).a≠(l[i]).b
def yS (l:List lP):Prop:=∀ (i:Nat) (h:i<l.length),∀ y∈l.take i,y.at_≠(l[i]).at_
theorem Kk (l:List lQ) (j:lQ) (x:jT):nN (l++[j]) x=match nN l x with
  | some y=>some y
  | none=>if j.a=x then some j.b else if j.b=x then some j.a else none:=by
 induction l<;>grind [nN]
theorem Gy {l:List lQ} {j:lQ} {m:List (jT×jT)} (hD:∀ x,look x m=nN l x) (ha:look j.a m=none) (hb:look j.b m=none) (hne:j.a≠j.b) (x:jT):look x (put j.b j.a (put j.a j.b m))=nN (l++[j]) x:=by
 grind [tq,Kk,look]
theorem zX {l:List lQ} {j:lQ} {m:List (jT×jT)} {k:Nat} (hk:k<l.length) (hj:l[k]=j) (hD:∀ x,look x m=nN (l.take k) x) (ha:look j.a m=none) (hb:look j.b m=none) (hne:¬(j.a.elem=j.b.elem/\j.a.en=j.b.en)):∀ x,look x (put j.b j.a (put j.a j.b m))=nN (l.take (k+1)) x:=by
 intro x
 have:l.take (k+1)=l.take k++[j]:=by rw [List.take_succ_eq_append_getElem hk,hj]
 grind [Gy]
def Dq {l:List lQ} {j:lQ} {m:List (jT×jT)} {k:Nat} (hk:k<l.length) (hj:l[k]=j) (hD:∀ x,look x m=nN (l.take k) x) (hJ:∀ (i:Nat) (h:i<l.length),i<k->nN (l.take i) (l[i]).a=none/\nN (l.take i) (l[i]).b=none/\(l[i]).a≠(l[i]).b) (ha:look j.a m=none) (hb:look j.b m=none) (hne:¬(j.a.elem=j.b.elem/\j.a.en=j.b.en)) :
  ∀ (i:Nat) (h:i<l.length),i<k+1->nN (l.take i) (l[i]).a=none/\nN (l.take i) (l[i]).b=none/\(l[i]).a≠(l[i]).b:=by
 grind
def Ng {l:List lP} {n k:Nat} (hV:∀ (i:Nat) (h:i<l.length),i<k->0<=(l[i]).at_.elem/\(l[i]).at_.elem<(n:Int)/\0<=(l[i]).at_.en) (hk:l.length<=k):∀ s∈l,0<=s.at_.elem/\s.at_.elem<(n:Int)/\0<=s.at_.en:=by
 intro s hs
 obtain ⟨i,hi,rfl⟩:=List.mem_iff_getElem.mp hs
 grind
def Cj {l:List lP} {n k:Nat} {x:lP} {hk:k<l.length} (hq:l[k]=x) (hV:∀ (i:Nat) (h:i<l.length),i<k->0<=(l[i]).at_.elem/\(l[i]).at_.elem<(n:Int)/\0<=(l[i]).at_.en) (hx:0<=x.at_.elem/\x.at_.elem<(n:Int)/\0<=x.at_.en):∀ (i:Nat) (h:i<l.length),i<k+1->0<=(l[i]).at_.elem/\(l[i]).at_.elem<(n:Int)/\0<=(l[i]).at_.en:=by
 grind
def B7 {l:List lP} {k:Nat} {x:lP} {m:List (jT×Bool)} (hk:k<l.length) (hq:l[k]=x) (hD:∀ y:jT,(∃ s,s∈l.take k/\s.at_=y)->look y m=some true):∀ y:jT,(∃ s,s∈l.take (k+1)/\s.at_=y)->look y (put x.at_ true m)=some true:=by
 rintro y ⟨s,hs,rfl⟩
 rw [tq]
 split
 ·rfl
 ·rename_i hne
  rw [List.take_succ_eq_append_getElem hk,hq] at hs
  grind
def Cc {l:List lP} {k:Nat} {x:lP} {m:List (jT×Bool)} (hk:k<l.length) (hq:l[k]=x) (hD:∀ y:jT,(∃ s,s∈l.take k/\s.at_=y)->look y m=some true) (hJ:∀ (i:Nat) (h:i<l.length),i<k->∀ y∈l.take i,y.at_≠(l[i]).at_) (hn:look x.at_ m=none):∀ (i:Nat) (h:i<l.length),i<k+1->∀ y∈l.take i,y.at_≠(l[i]).at_:=by
 grind
def wP {α:Type} {P : α->Prop} {l:List α} {k:Nat} {x : α} (hl:∀ y∈l,P y) (hx:P x):∀ y∈l.set k x,P y:=by
 grind
def qi {e:Env} {h:aT} {t d o:Nat} {x y:Operand} {X:Ctx} {dd:Option Nat} {ti:TI} {r:AV} {new cs cs':List AV} (hT:X.C.T t=some ti) (hx:ky e x=.la d o) (hy:ky e y=r) (hnew:cellsOf ti r=some new) (hok:new.all AV.mC=true) (hl:l8 h.cH d=some cs) (hsp:pe cs o new=some cs'):lB (.store t x y) X e h dd=some (.undef,{ h with cH:=u2 h.cH d cs' }):=by
 simp only [lB,yV,w9,hT,hx,hy,wI,hnew,hok,yJ,Nj,hl,hsp]
section
variable {C:lW} {F:nd} {Pr:mO} {fa:kb} {Q:Ex->Env->aT->Prop} {e:Env} {h:aT}
end
section
variable {C:lW} {F:nd} {Pr:mO} {fa:kb} {Q:Ex->Env->aT->Prop} {e:Env} {h:aT}
def xR {a b:Code} {live:List Nat} {x y:ou} (P:Env->aT->Prop) (K:∀ E Z,P E Z->Wp C F Pr fa b y Q E Z) (w:Wp C F Pr fa a x (vN (λe h=>P (proj live e) { h with cH:=nv live h.cH }) Q) e h):Wp C F Pr fa (.seq a b) (.seq live x y) Q e h:=by
 refine E7 (w.mono ?_)
 intro x1 e1 h1 hx
 cases x1 with
 | ns=>exact K _ _ hx
 | ext id=>exact hx
 | ret=>exact hx
end
def yp {r:List AV} {l:List (List AV)} (h:r.all AV.zw=true) (hl:tj l=true):tj (r::l)=true:=by
 grind [tj]
def tv (d:jV):Prop:=d.runs.l.length<=8/\∀ r∈d.runs.l,r.kH.l.length<=12/\0<=r.j3/\r.j3<(d.j3.l.length:Int)
def rm {α:Type} {P : α->Prop} {l:List α} {k:Nat} {x : α} {hk:k<l.length} (hq:l[k]=x) (hV:∀ (i:Nat) (h:i<l.length),i<k->P (l[i])) (hx:P x):∀ (i:Nat) (h:i<l.length),i<k+1->P (l[i]):=by
 grind
def Ns {d:jV} {k m:Nat} (h1:d.runs.l.length<=8) (hA:∀ (i:Nat) (h:i<d.runs.l.length),i<k->(d.runs.l[i]).kH.l.length<=12) (hB:∀ (i:Nat) (h:i<d.runs.l.length),i<m->0<=(d.runs.l[i]).j3/\(d.runs.l[i]).j3<(d.j3.l.length:Int)) (hk:d.runs.l.length<=k/\d.runs.l.length<=m):tv d:=by
 refine ⟨h1,λr hr=>?_⟩
 obtain ⟨i,hi,rfl⟩:=List.mem_iff_getElem.mp hr
 grind
def pI {α:Type} {P : α->Prop} {l:List α} {x : α} (hl:∀ y∈l,P y) (hx:P x):∀ y∈l++[x],P y:=by
 grind
def Pk {α:Type} {P : α->Prop} {l m:List α} (hl:∀ y∈l,P y) (hm:∀ y∈m,P y):∀ y∈l++m,P y:=by
 grind
def MD {l:List (Row lX)} {k:Nat} {r:Row lX} (hk:k<l.length) (hk1:k+1=l.length) (hr:l[k]=r) (h0:r.l.length=0):wt (l.take (l.length - 1))=wt l:=by
 rw [show l.length - 1=k from by omega]; grind [Pa]
def Dy {κ β:Type} [DecidableEq κ] {k : κ} {x : β} {l:List (κ×β)} (h:oc l) (hn:look k l=none):oc (put k x l):=by
 grind [oc,FO,BQ]
def univ (n:iS):List jT:=⟨0,0⟩::n.next.map Prod.snd
theorem Mc {n:iS} {x y:jT} (h:look x n.next=some y):y∈univ n:=by
 have:=pJ h
 exact List.mem_cons_of_mem _ (List.mem_map.mpr ⟨_,this,rfl⟩)
def KS {κ β:Type} [DecidableEq κ] {k : κ} {x : β} {l:List (κ×β)} {U:List κ} (h:∀ y∈l.map Prod.fst,y∈U) (hk:k∈U):∀ y∈(put k x l).map Prod.fst,y∈U:=by
 intro y hy
 obtain ⟨z,hz,rfl⟩:=List.mem_map.mp hy
 rcases BK hz with rfl | hz<;>grind
def u9 {n:iS} {x y:jT} {b:Bool} (h:(b=true->look x n.next=some y)/\(b=false->look x n.next=none)/\(b=false->y=⟨0,0⟩)):y∈univ n:=by
 cases b with
 | true=>grind [Mc]
 | false=>rw [h.2.2 rfl]; exact List.mem_cons_self
def Nq {l:List lQ} {j:lQ} {m:List (jT×jT)} {k:Nat} (hk:k<l.length) (hj:l[k]=j) (hJ:zI l) (hD:∀ x,look x m=nN (l.take k) x):∀ x,look x (put j.b j.a (put j.a j.b m))=nN (l.take (k+1)) x:=by
 obtain ⟨h1,h2,h3⟩:=hJ k hk
 grind [zX,zu]
def Lt {κ β:Type} [DecidableEq κ] {a b : κ} {x y : β} {l:List (κ×β)} {k:Nat} (h:l.length<=2*k):(put a x (put b y l)).length<=2*(k+1):=by
 grind [Ii,put]
theorem w0 (x:jT) (s:lP):∀ (l:List lP) (i:Nat),om x i (l++[s])=match om x i l with
  | some y=>some y
  | none=>if s.at_=x then some ((i+l.length:Nat):Int) else none
 | [],i=>by rfl
 | a::l,i=>by
   simp only [List.cons_append,om]
   split
   ·rfl
   ·rw [w0 x s l (i+1)]
    simp only [List.length_cons,show i+1+l.length=i+(l.length+1) from by omega]
theorem wW {x:jT}:∀ {l:List lP} {i:Nat},(∀ s∈l,s.at_≠x)->om x i l=none
 | [],_,_=>rfl
 | a::l,i,h=>by
   simp only [om]
   rw [if_neg (h a List.mem_cons_self)]
   exact wW λs hs=>h s (List.mem_cons_of_mem _ hs)
def HV {l:List lP} {s:lP} {m:List (jT×Int)} {k:Nat} (hk:k<l.length) (hj:l[k]=s) (hS:yS l) (hR:∀ x,look x m=rE (l.take k) x):∀ x,look x (put s.at_ (k:Int) m)=rE (l.take (k+1)) x:=by
 intro x
 have h1:=hS k hk
 rw [hj] at h1
 rw [tq,List.take_succ_eq_append_getElem hk,hj]
 grind [rE,w0,wW,look]
def BG:pb->pb
 | .nil=>.nil
 | _=>.oH
def Row.canon {α:Type} (r:Row α):Row α:=⟨r.l,BG r.c,r.ok,by cases r.c<;>rfl,λh=>r.nl (by cases hc:r.c<;>first | rfl | (rw [hc] at h; cases h))⟩
def lr.canon (x:lr):lr:={ x with elems:=x.elems.canon }
def Row.xP {α β:Type} (f : α->β) (r:Row α):Row β:=⟨r.l.map f,r.c,by rw [List.length_map]; exact r.ok,r.sn,λh=>by rw [r.nl h]; rfl⟩
def iF.canon (p:iF):iF:={ p with elems:=p.elems.canon,kg:=p.kg.canon,signals:=p.signals.canon,lines:=(p.lines.xP lr.canon).canon }
theorem Row.Qz {α:Type} {r s:Row α} (h1:r.l=s.l) (h2:r.c=s.c):r=s:=by
 cases r<;>simp_all
theorem Cb (c:pb):BG (BG c)=BG c:=by cases c<;>rfl
theorem Row.wK {α:Type} (r:Row α):r.canon.canon=r.canon:=Row.Qz rfl (Cb _)
theorem lr.wK (x:lr):x.canon.canon=x.canon:=by
 grind [lr.canon,Row.wK]
theorem iF.wK (p:iF):p.canon.canon=p.canon:=by
 simp_all [lr.canon,canon,Row.Qz,Row.canon,Row.xP,Cb,iF.canon,Row.wK]
def wF {α:Type} (r s:Row α):Prop:=r.l=s.l/\(r.c=.nil↔s.c=.nil)
def tC (x y:lr):Prop:=x.name=y.name/\wF x.elems y.elems
structure ot (n:iS) (p:iF):Prop where
 dO:n.p=p.canon
 Wf:n.p.elems.l.length<=40
 elems:n.p.elems.l=p.elems.l
 signals:n.p.signals.l=p.signals.l
 vD:mB n.p
 rg:∀ y∈univ n,m4 y.elem
 next:∀ x,look x n.next=nN p.kg.l x
 reads:∀ x,look x n.reads=rE p.signals.l x
 len:n.next.length<=240
 sigs:yS p.signals.l
 aaX:∀ s∈p.signals.l,0<=s.at_.elem/\s.at_.elem<(p.elems.l.length:Int)/\0<=s.at_.en
def LJ {q p:iF} {next:List (jT×jT)} {reads:List (jT×Int)} {line:List (Int×Int×Int)} {lead:List (Int×Int)} {k m:Nat}
  (hq:q.elems.l=p.elems.l/\q.kg.l=p.kg.l/\q.signals.l=p.signals.l/\q.lines.l.length=p.lines.l.length/\(∀ x∈q.lines.l,x.elems.l.length<=60)/\q=p.canon) (h1:mB p)
  (hc:zI p.kg.l/\yS p.signals.l/\(∀ s∈p.signals.l,0<=s.at_.elem/\s.at_.elem<(p.elems.l.length:Int)/\0<=s.at_.en)/\p.elems.l.length<=40/\p.signals.l.length<=24/\p.kg.l.length<=80)
  (hD:∀ x,look x next=nN (p.kg.l.take k) x) (hR:∀ x,look x reads=rE (p.signals.l.take m) x) (hN:next.length<=2*k) (hG:∀ y∈next,m4 y.2.elem) (hk:p.kg.l.length<=k/\k<=p.kg.l.length) (hm:p.signals.l.length<=m):ot ⟨q,next,reads,line,lead⟩ p:=by
 obtain ⟨e1,e2,e3,e4,e5,e6⟩:=hq
 obtain ⟨f1,f2,f3,f4,f5,f6,f7⟩:=h1
 have e7:∀ x∈q.lines.l,∀ z∈x.elems.l,m4 z:=by
  subst e6
  intro x hx
  simp only [iF.canon,Row.canon,Row.xP,List.mem_map] at hx
  obtain ⟨y,hy,rfl⟩:=hx
  exact f7 y hy
 refine ⟨e6,by grind,e1,e3,⟨by grind,by grind,by grind,by grind,e5,by rw [e2]; exact f6,e7⟩,?_,?_,?_,by grind,hc.2.1,hc.2.2.1⟩
 ·intro y hy
  rcases List.mem_cons.mp hy with rfl | hy
  ·exact ⟨by decide,by decide⟩
  ·obtain ⟨z,hz,rfl⟩:=List.mem_map.mp hy
   exact hG z hz
 ·grind
 ·intro x; show look x reads = _; rw [hR,List.take_of_length_le hm]
def tv.Wa {d:jV} (h:tv d):∀ r∈d.runs.l,0<=r.j3/\r.j3<(d.j3.l.length:Int):=λr hr=>(h.2 r hr).2
def pD (r:kz):Prop:=(∀ s∈r.steps.l,m4 s.elem)/\r.nr.l.length<=12/\(∀ x∈r.nr.l,m4 x)/\r.guards.l.length<=1000/\r.holds.l.length<=1000
def Ad {r:kz} {l l2:List kL} (h:r.steps.l=l2) (h2:l2=l) (hS:∀ s∈l,m4 s.elem) (hz:r.guards.l=[]/\r.nr.l=[]/\r.holds.l=[]):pD r:=by
 obtain ⟨z1,z2,z3⟩:=hz
 refine ⟨by rw [h,h2]; exact hS,?_,?_,?_,?_⟩<;>simp [z1,z2,z3]
def L1 {r a:kz} (h:r.steps.l=a.steps.l) (hg:pD a) (hz:r.nr.l.length<=12/\(∀ x∈r.nr.l,m4 x)/\r.guards.l.length<=1000/\r.holds.l.length<=1000):pD r :=
 ⟨by rw [h]; exact hg.1,hz.1,hz.2.1,hz.2.2.1,hz.2.2.2⟩
def Q7 {l:List kL} {k:Nat} {x x2:kL} (h:∀ s∈l,m4 s.elem) {hk:k<l.length} (hq:l[k]=x) (he:x2.elem=x.elem):∀ s∈l.set k x2,m4 s.elem:=by
 intro s hs
 rcases List.mem_or_eq_of_mem_set hs with hs | rfl
 ·exact h s hs
 ·rw [he,<- hq]; exact h _ (List.getElem_mem _)
end Go.Sx
namespace Go.Sx
open Go
inductive Ty where
 | int | bool | str
 | slice (e:Ty)
 | struct (fs:List Ty)
mutual
def Ty.size:Ty->Nat
 | .struct fs=>Ty.vU fs
 | _=>1
def Ty.vU:List Ty->Nat
 | []=>0
 | t::ts=>t.size+Ty.vU ts
end
mutual
def ue (P:Program):Ty->TypeId->Bool
 | .int,t=>match P.underlying t with
   | some (.int .i64)=>true
   | _=>false
 | .bool,t=>match P.underlying t with
   | some .bool=>true
   | _=>false
 | .str,t=>match P.underlying t with
   | some .string=>true
   | _=>false
 | .slice e,t=>match P.underlying t with
   | some (.slice te)=>ue P e te&&Nat.beq (P.cellsOf te) e.size&&Nat.blt 0 e.size
   | _=>false
 | .struct fs,t=>match P.underlying t with
   | some (.struct fds)=>Dm P fs fds.toList 0&&Nat.beq (P.cellsOf t) (Ty.vU fs)
   | _=>false
def Dm (P:Program):List Ty->List Field->Nat->Bool
 | [],[],_=>true
 | t::ts,f::fs,o=>ue P t f.type&&Nat.beq f.offset o&&Nat.beq (P.cellsOf f.type) t.size&&Dm P ts fs (o+t.size)
 | _,_,_=>false
end
mutual
def Fit:Ty->List AV->Prop
 | .int,cs=>∃ n,cs=[.int .i64 n]/\m4 n
 | .bool,cs=>∃ b,cs=[.bool b]
 | .str,cs=>∃ s,cs=[.str s]/\s.length<=ry
 | .slice e,cs=>∃ xs c,cs=[.sl xs c]/\(∀ x∈xs,Fit e x)/\xs.length<=ry/\qW c=false/\(c=.nil->xs=[])
 | .struct fs,cs=>sh fs cs
def sh:List Ty->List AV->Prop
 | [],cs=>cs=[]
 | t::ts,cs=>∃ a b,cs=a++b/\Fit t a/\sh ts b
end
def zG {α β:Type} {f : α->Option β}:∀ {l:List α} {r:List β},l.mapM f=some r->r.length=l.length/\∀ i (h:i<l.length),∃ y,f l[i]=some y/\r[i]?=some y
 | [],r,h=>by
   grind
 | a::l,r,h=>by
   rw [List.mapM_cons] at h
   cases ha:f a with
   | none=>rw [ha] at h; cases h
   | some y =>
     rw [ha] at h
     cases hl:l.mapM f with
     | none=>rw [hl] at h; cases h
     | some r' =>
       rw [hl] at h
       have:r=y::r':=(Option.some.inj h).symm
       subst this
       obtain ⟨h1,h2⟩:=zG hl
       refine ⟨by simp [h1],λi hi=>?_⟩
       cases i with
       | zero=>exact ⟨y,ha,rfl⟩
       | succ i=>exact h2 i (by simpa using hi)
def zS {α:Type} {p:Nat->α->Prop}:∀ (n:Nat),(∀ i,i<n->∃ x,p i x)->∃ l:List α,l.length=n/\∀ i x,l[i]?=some x->p i x
 | 0,_=>⟨[],rfl,λi x h=>by simp at h⟩
 | n+1,h=>by
   obtain ⟨l,hl,hp⟩:=zS n λi hi=>h i (by omega)
   obtain ⟨x,hx⟩:=h n (by omega)
   refine ⟨l++[x],by simp [hl],λi y hy=>?_⟩
   grind
theorem Ln {w:World} {a:Addr} {n:Nat} {cs:List Value} (h:w.cells? 0 a n=some cs):cs.length=n/\∀ j,j<n->∃ v,w.cell? (a.add j)=some v/\cs[j]?=some v:=by
 unfold World.cells? at h
 rw [if_pos (Nat.zero_le _)] at h
 obtain ⟨h1,h2⟩:=zG h
 grind
def Fc {w:World} {a:Addr} {v:Value} (h:w.cell? a=some v):a.spot=none/\∃ c e fr,w.heap[a.block]?=some (.cells c e fr)/\c[a.off]?=some v:=by
 unfold World.cell? at h
 split at h<;>simp_all
section
variable {H:Type} {enc:TypeId×Value->H} {P:Program} {w:World} {spare:Nat->Bool} {held:Bool}
abbrev TW (w:World):Bool->Nat->Prop:=λ_ B=>B<w.heap.size
def Reads (w:World) (ty:Ty) (cs:List Value):Prop:=∃ xs:List AV,xs.length=cs.length/\cs.length=ty.size/\Fit ty xs/\(∀ (i:Nat) (x:AV) (v:Value),xs[i]?=some x->cs[i]?=some v->PR w (TW w) false x v/\v.oneCell'=true)
theorem JK (a:Addr) (i j:Nat) (h:a.spot=none):(a.add i).add j=⟨a.block,a.off+i+j,none⟩:=by
 obtain ⟨b,o,s⟩:=a
 grind [Addr.add]
def su {ty:Ty} (hs:ty.size=1) {x:AV} {v:Value} (hf:Fit ty [x]) (hp:PR w (TW w) false x v) (h1:v.oneCell'=true):Reads w ty [v]:=by
 refine ⟨[x],rfl,by simp [hs],hf,?_⟩
 grind
def y7 {fuel:Nat} (ih:∀ (ty:Ty) (t:TypeId) (cs:List Value) (r:DataW H×List MemPlace),ue P ty t=true->DataW.trod enc P w 0 spare held fuel t cs=some r->Reads w ty cs) (cs:List Value) :
  ∀ (tys:List Ty) (fds:List Field) (o:Nat),Dm P tys fds o=true->o+Ty.vU tys=cs.length->(∀ f∈fds,∃ r,DataW.trod enc P w 0 spare held fuel f.type ((cs.drop f.offset).take (P.cellsOf f.type))=some r) ->
    ∃ xs:List AV,xs.length=Ty.vU tys/\sh tys xs/\(∀ (i:Nat) (x:AV) (v:Value),xs[i]?=some x->cs[o+i]?=some v->PR w (TW w) false x v/\v.oneCell'=true)
 | [],fds,o,hf,hl,hr=>⟨[],rfl,rfl,λi x v h=>by simp at h⟩
 | t::ts,[],o,hf,hl,hr=>by simp [Dm] at hf
 | t::ts,f::fds,o,hf,hl,hr=>by
   simp only [Dm,Bool.and_eq_true] at hf
   obtain ⟨⟨⟨h1,h2⟩,h3⟩,h4⟩:=hf
   have h2:=Nat.eq_of_beq_eq_true h2
   have h3:=Nat.eq_of_beq_eq_true h3
   simp only [Ty.vU] at hl
   obtain ⟨r,hr1⟩:=hr f List.mem_cons_self
   obtain ⟨xs,e1,e2,e3,e4⟩:=ih t f.type _ r h1 hr1
   obtain ⟨ys,g1,g2,g3⟩:=y7 ih cs ts fds (o+t.size) h4 (by omega) (λf hf=>hr f (List.mem_cons_of_mem _ hf))
   have hx:xs.length=t.size:=by omega
   refine ⟨xs++ys,by grind [Ty.vU],⟨xs,ys,rfl,e3,g2⟩,?_⟩
   grind
def uH:∀ (fuel:Nat) (ty:Ty) (t:TypeId) (cs:List Value) (r:DataW H×List MemPlace),ue P ty t=true->DataW.trod enc P w 0 spare held fuel t cs=some r->Reads w ty cs:=by
 intro fuel
 induction fuel with
 | zero=>intro ty t cs r _ h; simp [DataW.trod] at h
 | succ fuel ih =>
   intro ty t cs r ht h
   cases ty with
   | int =>
     simp only [ue] at ht
     split at ht
     ·rename_i hU
      rcases cs with _ | ⟨v,_ | ⟨v2,rest⟩⟩
      ·simp [DataW.trod,hU] at h
      ·cases v<;>simp [DataW.trod,hU] at h
       rename_i k n
       obtain ⟨⟨rfl,hwf⟩,_⟩:=h
       simp only [Lit.wf,Bool.and_eq_true,decide_eq_true_eq] at hwf
       exact su rfl ⟨n,rfl,hwf⟩ (.int _ _ n) rfl
      ·simp [DataW.trod,hU] at h
     grind
   | bool =>
     simp only [ue] at ht
     split at ht
     ·rename_i hU
      rcases cs with _ | ⟨v,_ | ⟨v2,rest⟩⟩
      ·simp [DataW.trod,hU] at h
      ·cases v<;>simp [DataW.trod,hU] at h
       rename_i b
       exact su rfl ⟨b,rfl⟩ (.bool _ b) rfl
      ·simp [DataW.trod,hU] at h
     grind
   | str =>
     simp only [ue] at ht
     split at ht
     ·rename_i hU
      rcases cs with _ | ⟨v,_ | ⟨v2,rest⟩⟩
      ·simp [DataW.trod,hU] at h
      ·cases v<;>simp [DataW.trod,hU] at h
       rename_i s
       refine su rfl ⟨s.data.toList,rfl,?_⟩ (.str _ _ s rfl) rfl
       simp_all [maxLen]
      ·simp [DataW.trod,hU] at h
     grind
   | slice e =>
     simp only [ue] at ht
     split at ht
     ·rename_i te hU
      simp only [Bool.and_eq_true] at ht
      obtain ⟨⟨ht,hsz⟩,hpos⟩:=ht
      have hsz:=Nat.eq_of_beq_eq_true hsz
      have hpos:0<e.size:=Nat.ble_eq.mp hpos
      rcases cs with _ | ⟨v,_ | ⟨v2,rest⟩⟩
      ·simp [DataW.trod,hU] at h
      ·cases v<;>try (simp [DataW.trod,hU] at h; done)
       rename_i a len cap
       cases a with
       | none =>
         cases len<;>cases cap<;>try (simp [DataW.trod,hU] at h; done)
         exact su rfl ⟨[],.nil,rfl,by simp,by simp,rfl,λ_=>rfl⟩ (.slnil _) rfl
       | some a =>
         simp only [DataW.trod,hU] at h
         split at h
         ·rename_i hc
          obtain ⟨_,hlc,hcm⟩:=hc
          have hcb:cap<=ry:=by
           grind [maxLen]
          cases hm:(List.range len).mapM (λi=>(w.cells? 0 (a.add (i*P.cellsOf te)) (P.cellsOf te)).bind (DataW.trod enc P w 0 spare held fuel te)) with
          | none=>grind
          | some elems =>
            obtain ⟨_,hel⟩:=zG hm
            have hat:∀ i,i<len->∃ (xs:List AV) (vs:List Value),xs.length=e.size/\vs.length=e.size/\Fit e xs/\(∀ (j:Nat) (x:AV) (v:Value),xs[j]?=some x->vs[j]?=some v->PR w (TW w) false x v/\v.oneCell'=true) /\
              ∀ j,j<e.size->∃ v,w.cell? ((a.add (i*e.size)).add j)=some v/\vs[j]?=some v:=by
             intro i hi
             obtain ⟨y,hy,_⟩:=hel i (by grind)
             simp only [List.getElem_range] at hy
             cases hcs:w.cells? 0 (a.add (i*P.cellsOf te)) (P.cellsOf te) with
             | none=>grind
             | some vs =>
               rw [hcs] at hy
               obtain ⟨xs,e1,e2,e3,e4⟩:=ih e te vs y ht hy
               grind [Ln]
            cases len with
            | zero=>exact su rfl ⟨[],.oH,rfl,by simp,by simp,rfl,λh=>by cases h⟩ (.px _ .oH a cap (λh=>by cases h) (Nat.zero_le _)) rfl
            | succ NX =>
              obtain ⟨xs0,vs0,_,_,_,_,hv0⟩:=hat 0 (by omega)
              obtain ⟨v00,hv00,_⟩:=hv0 0 hpos
              obtain ⟨hsp,c,et,fr,hB,_⟩:=Fc hv00
              have hspot:a.spot=none:=by
               grind [Addr.add]
              have hB:w.heap[a.block]?=some (.cells c et fr):=by
               grind [Addr.add]
              obtain ⟨rows,hrl,hrp⟩:=zS (p:=λi xs=>xs.length=e.size/\Fit e xs/\∀ (j:Nat) (x:AV),xs[j]?=some x->∃ v,c[a.off+i*e.size+j]?=some v/\PR w (TW w) false x v/\v.oneCell'=true) (NX+1) (by
               intro i hi
               obtain ⟨xs,vs,q1,q2,q3,q4,q5⟩:=hat i hi
               refine ⟨xs,q1,q3,λj x hx=>?_⟩
               have hj:j<e.size:=by grind
               obtain ⟨v,hv,hvj⟩:=q5 j hj
               obtain ⟨_,c',et',fr',hB',hcv⟩:=Fc hv
               grind [JK])
              have hpr:PR w (TW w) false (.sl rows .oH) (.slice (some ⟨a.block,a.off,none⟩) rows.length cap):=by
               refine .sl false rows .oH a.block a.off c et fr cap e.size (λi j=>(c[a.off+i*e.size+j]?).getD .nilFunc) (λh=>by cases h) hB ?_ (by rw [hrl]; exact hlc) (by omega) ?_ ?_ ?_ ?_
               ·grind
               ·grind
               ·grind
               ·grind
               ·intro i cs' j x hcs' hx
                obtain ⟨v,hv,hp,_⟩:=(hrp i cs' hcs').2.2 j x hx
                rw [hv]; exact hp
              rw [hrl] at hpr
              have ha:a=⟨a.block,a.off,none⟩:=by obtain ⟨b,o,s⟩:=a; grind
              rw [<- ha] at hpr
              refine su rfl ⟨rows,.oH,rfl,?_,by omega,rfl,λh=>by cases h⟩ hpr rfl
              intro x hx
              obtain ⟨i,hi⟩:=List.getElem?_of_mem hx
              grind
         ·cases h
      ·simp [DataW.trod,hU] at h
     grind
   | struct fs =>
     simp only [ue] at ht
     split at ht
     ·rename_i fds hU
      simp only [Bool.and_eq_true] at ht
      obtain ⟨hfs,hsz⟩:=ht
      have hsz:=Nat.eq_of_beq_eq_true hsz
      have hcs:cs.length=Ty.vU fs/\∀ f∈fds.toList,∃ r,DataW.trod enc P w 0 spare held fuel f.type ((cs.drop f.offset).take (P.cellsOf f.type))=some r:=by
       have key:(if cs.length=P.cellsOf t then (fds.toList.mapM λf=>DataW.trod enc P w 0 spare held fuel f.type ((cs.drop f.offset).take (P.cellsOf f.type))).map λxs=>(DataW.agg (xs.map (·.1)),xs.flatMap (·.2)) else none)=some r:=by
        rw [<- h]
        conv=>rhs; unfold DataW.trod
        rw [hU]
       split at key
       ·rename_i hl
        refine ⟨by omega,λf hf=>?_⟩
        cases hm:fds.toList.mapM λf=>DataW.trod enc P w 0 spare held fuel f.type ((cs.drop f.offset).take (P.cellsOf f.type)) with
        | none=>grind
        | some l =>
          obtain ⟨_,h2⟩:=zG hm
          obtain ⟨i,hi,rfl⟩:=List.mem_iff_getElem.mp hf
          grind
       grind
      obtain ⟨xs,x1,x2,x3⟩:=y7 ih cs fs fds.toList 0 hfs (by omega) hcs.2
      refine ⟨xs,by omega,hcs.1,x2,?_⟩
      grind
     grind
end
end Go.Sx
namespace Go.Sx
open Go
def zl:Ty:=.struct [.int,.int]
def Gn:Ty:=.struct [.str,.int,.int]
def Jd:Ty:=.struct [zl,zl]
def MX:Ty:=.struct [.str,zl,.bool]
def G9:Ty:=.struct [.str,.slice .int]
def CL:Ty:=.struct [.slice Gn,.slice Jd,.slice MX,.slice G9,.int,.int,.int,.int,.bool]
def DI:Ty:=.struct [.str,.int,.int,.int,.int]
def L7:Ty:=.struct [.bool,.int,.int,.int]
def MR:Ty:=.struct [.str,.int,.int,.int,.slice L7]
def CS:Ty:=.struct [.int,.slice DI,.slice MR]
def xJ {α:Type} {enc : α->List AV} {Q : α->Prop} {e:Ty} (he:∀ xs,Fit e xs->∃ x : α,xs=enc x/\Q x) {cs:List AV} (h:Fit (.slice e) cs):∃ r:Row α,cs=[r.av enc]/\∀ x∈r.l,Q x:=by
 simp only [Fit] at h
 obtain ⟨xs,c,rfl,h1,h2,h3,h4⟩:=h
 have:∀ xs:List (List AV),(∀ x∈xs,Fit e x)->∃ l:List α,xs=l.map enc/\∀ x∈l,Q x:=by
  intro xs
  induction xs with
  | nil=>exact λ_=>⟨[],rfl,by simp⟩
  | cons a xs ih =>
    intro h
    obtain ⟨y,hy,hq⟩:=he a (h a List.mem_cons_self)
    obtain ⟨l,hl,hl2⟩:=ih λx hx=>h x (List.mem_cons_of_mem _ hx)
    exact ⟨y::l,by grind,by simp_all⟩
 obtain ⟨l,rfl,hQ⟩:=this xs h1
 exact ⟨⟨l,c,by grind,h3,λhc=>by grind⟩,rfl,hQ⟩
def ta {α:Type} {enc : α->List AV} {e:Ty} (he:∀ xs,Fit e xs->∃ x : α,xs=enc x) {cs:List AV} (h:Fit (.slice e) cs):∃ r:Row α,cs=[r.av enc]:=by
 obtain ⟨r,hr,_⟩:=xJ (Q:=λ_=>True) (λxs hx=>(he xs hx).imp λ_ h=>⟨h,trivial⟩) h
 exact ⟨r,hr⟩
def sZ {cs:List AV} (h:Fit .int cs):∃ n:Int,cs=j6 n:=by unfold Fit at h; exact h.imp λ_ h=>h.1
def Mu {cs:List AV} (h:Fit .int cs):∃ n:Int,cs=j6 n/\m4 n:=by unfold Fit at h; exact h
def zd {cs:List AV} (h:Fit zl cs):∃ x:jT,cs=x.ag/\m4 x.elem:=by
 simp only [zl,Fit,sh] at h
 obtain ⟨_,_,rfl,⟨a,rfl,ha⟩,_,_,rfl,⟨b,rfl,hb⟩,rfl⟩:=h
 exact ⟨⟨a,b⟩,rfl,ha⟩
def M6 {cs:List AV} (h:Fit zl cs):∃ x:jT,cs=x.ag:=(zd h).imp λ_ h=>h.1
def NU {cs:List AV} (h:Fit Gn cs):∃ x:lV,cs=x.ag:=by
 simp only [Gn,Fit,sh] at h
 obtain ⟨_,_,rfl,⟨s,rfl,hs⟩,_,_,rfl,⟨a,rfl,_⟩,_,_,rfl,⟨b,rfl,_⟩,rfl⟩:=h
 exact ⟨⟨⟨s,hs⟩,a,b⟩,rfl⟩
def NK {cs:List AV} (h:Fit Jd cs):∃ x:lQ,cs=x.ag/\m4 x.a.elem/\m4 x.b.elem:=by
 simp only [Jd,sh] at h
 unfold Fit at h
 simp only [sh] at h
 obtain ⟨_,_,rfl,h1,_,_,rfl,h2,rfl⟩:=h
 obtain ⟨x,rfl,hx⟩:=zd h1
 obtain ⟨y,rfl,hy⟩:=zd h2
 exact ⟨⟨x,y⟩,rfl,hx,hy⟩
def O5 {cs:List AV} (h:Fit MX cs):∃ x:lP,cs=x.ag:=by
 simp only [MX,Fit,sh] at h
 obtain ⟨_,_,rfl,⟨s,rfl,hs⟩,_,_,rfl,h2,_,_,rfl,⟨b,rfl⟩,rfl⟩:=h
 obtain ⟨y,rfl⟩:=M6 h2
 exact ⟨⟨⟨s,hs⟩,y,b⟩,rfl⟩
def M4 {cs:List AV} (h:Fit G9 cs):∃ x:lr,cs=x.ag/\∀ z∈x.elems.l,m4 z:=by
 simp only [G9,sh] at h
 unfold Fit at h
 simp only [sh] at h
 obtain ⟨_,_,rfl,h1,_,_,rfl,h2,rfl⟩:=h
 simp only [Fit] at h1
 obtain ⟨s,rfl,hs⟩:=h1
 obtain ⟨r,rfl,hr⟩:=xJ (λ_=>Mu) h2
 exact ⟨⟨⟨s,hs⟩,r⟩,rfl,hr⟩
def JL {cs:List AV} (h:Fit DI cs):∃ x:j4,cs=x.ag:=by
 simp only [DI,Fit,sh] at h
 obtain ⟨_,_,rfl,⟨s,rfl,hs⟩,_,_,rfl,⟨a,rfl,_⟩,_,_,rfl,⟨b,rfl,_⟩,_,_,rfl,⟨c,rfl,_⟩,_,_,rfl,⟨d,rfl,_⟩,rfl⟩:=h
 exact ⟨⟨⟨s,hs⟩,a,b,c,d⟩,rfl⟩
def Pd {cs:List AV} (h:Fit L7 cs):∃ x:lU,cs=x.ag:=by
 simp only [L7,Fit,sh] at h
 obtain ⟨_,_,rfl,⟨t,rfl⟩,_,_,rfl,⟨a,rfl,_⟩,_,_,rfl,⟨b,rfl,_⟩,_,_,rfl,⟨c,rfl,_⟩,rfl⟩:=h
 exact ⟨⟨t,a,b,c⟩,rfl⟩
def Pj {cs:List AV} (h:Fit MR cs):∃ x:lj,cs=x.ag:=by
 unfold MR Fit at h
 simp only [sh] at h
 obtain ⟨_,_,rfl,h1,_,_,rfl,h2,_,_,rfl,h3,_,_,rfl,h4,_,_,rfl,h5,rfl⟩:=h
 simp only [Fit] at h1 h2 h3 h4
 obtain ⟨s,rfl,hs⟩:=h1
 obtain ⟨a,rfl,_⟩:=h2
 obtain ⟨b,rfl,_⟩:=h3
 obtain ⟨c,rfl,_⟩:=h4
 obtain ⟨r,rfl⟩:=ta (λ_=>Pd) h5
 exact ⟨⟨⟨s,hs⟩,a,b,c,r⟩,rfl⟩
def K7 {cs:List AV} (h:Fit CS cs):∃ x:jV,cs=x.ag:=by
 unfold CS Fit at h
 simp only [sh] at h
 obtain ⟨_,_,rfl,h1,_,_,rfl,h2,_,_,rfl,h3,rfl⟩:=h
 obtain ⟨a,rfl⟩:=sZ h1
 obtain ⟨r,rfl⟩:=ta (λ_=>JL) h2
 obtain ⟨s,rfl⟩:=ta (λ_=>Pj) h3
 exact ⟨⟨a,r,s⟩,rfl⟩
def NP {cs:List AV} (h:Fit CL cs):∃ x:iF,cs=x.ag/\JG x:=by
 unfold CL Fit at h
 simp only [sh] at h
 obtain ⟨_,_,rfl,h1,_,_,rfl,h2,_,_,rfl,h3,_,_,rfl,h4,_,_,rfl,h5,_,_,rfl,h6,_,_,rfl,h7,_,_,rfl,h8,_,_,rfl,h9,rfl⟩:=h
 obtain ⟨r1,rfl⟩:=ta (λ_=>NU) h1
 obtain ⟨r2,rfl,hj⟩:=xJ (λ_=>NK) h2
 obtain ⟨r3,rfl⟩:=ta (λ_=>O5) h3
 obtain ⟨r4,rfl,hl⟩:=xJ (λ_=>M4) h4
 obtain ⟨a,rfl⟩:=sZ h5
 obtain ⟨b,rfl⟩:=sZ h6
 obtain ⟨c,rfl⟩:=sZ h7
 obtain ⟨d,rfl⟩:=sZ h8
 simp only [Fit] at h9
 obtain ⟨t,rfl⟩:=h9
 exact ⟨⟨r1,r2,r3,r4,a,b,c,d,t⟩,rfl,hj,hl⟩
section
variable {w:World}
def B9 {ty:Ty} {v:Value} (h:Reads w ty v.cells.toList) (h2:2<=ty.size):∃ xs,Fit ty xs/\PR w (TW w) false (.agg xs) v:=by
 obtain ⟨xs,h1,hs,hf,hp⟩:=h
 have hsz:2<=v.cells.size:=by
  grind
 cases v with
 | agg cs =>
   refine ⟨xs,hf,.agg false xs cs (by grind [Value.cells]) ?_ ?_⟩
   ·intro i y hy
    have hi:i<xs.length:=by
     grind [Value.cells]
    exact (hp i xs[i] y (by simp [hi]) (by grind [Value.cells])).2
   grind [Value.cells]
 | _=>simp [Value.cells] at hsz
end
end Go.Sx
namespace Go.Sx
open Go Go.Proofs Go.RowKit Go.Maps Go.WideElems Go.WideShapes
def Ay (x:Int):List Int->List Int
 | []=>[x]
 | y::l=>if x<=y then x::y::l else y::Ay x l
def mS:List Int->List Int
 | []=>[]
 | x::l=>Ay x (mS l)
def Jo:AV->Option Int
 | .int .i64 n=>if -9223372036854775808<=n/\n<=9223372036854775807 then some n else none
 | _=>none
def tD:List (AV×AV)->Option (List Int)
 | []=>some []
 | p::l=>match Jo p.1 with
   | some n=>match tD l with
     | some ks=>some (n::ks)
     | none=>none
   | none=>none
def xI:List Int->Bool
 | []=>true
 | x::l=>!(l.contains x)&&xI l
def MG:List Int->AV
 | []=>.sl [] .nil
 | l=>.sl (l.map λn=>[.int .i64 n]) .oH
def tF (shd:Bool) (l:List Int) (h:aT):AV×aT:=match shd,l with
 | true,x::l=>(.hs h.size 0 0 (l.length+1),h.push (.lN 0 1 ((x::l).map λn=>[.int .i64 n])))
 | _,l=>(MG l,h)
def q9 (shd:Bool) (ks:Option (List Int)) (h:aT):R2:=match ks with
 | some ks=>match xI ks&&Nat.ble ks.length 1000000 with
   | true=>some (tF shd (mS ks) h)
   | false=>none
 | none=>none
def Hc (p:AV×AV×Nat):AV×AV:=(p.1,p.2.1)
def pC (shd:Bool) (args:List AV) (h:aT):R2:=match args with
 | [.mD]=>some (.sl [] .nil,h)
 | [.fm es _]=>q9 shd (tD es) h
 | [.hm b]=>match h.get b with
   | some (.map es _)=>q9 shd (tD (es.map Hc)) h
   | _=>none
 | _=>none
def y8 (x:Int):∀ l,(Ay x l).Perm (x::l)
 | []=>.refl _
 | y::l=>by
   unfold Ay
   split
   ·exact .refl _
   ·exact ((y8 x l).cons y).trans (.swap x y l)
theorem tG:∀ l,(mS l).Perm l
 | []=>.refl _
 | x::l=>(y8 x _).trans ((tG l).cons x)
def zU (x:Int):∀ {l:List Int},l.Pairwise (·<=·)->(Ay x l).Pairwise (·<=·)
 | [],_=>by simp [Ay]
 | y::l,h=>by
   unfold Ay
   rw [List.pairwise_cons] at h
   split
   ·rename_i hxy
    refine List.pairwise_cons.2 ⟨λz hz=>?_,List.pairwise_cons.2 h⟩
    rcases List.mem_cons.1 hz with rfl | hz
    ·exact hxy
    ·exact Int.le_trans hxy (h.1 z hz)
   ·refine List.pairwise_cons.2 ⟨λz hz=>?_,zU x h.2⟩
    rcases List.mem_cons.1 ((y8 x l).mem_iff.1 hz) with rfl | hz
    ·omega
    ·exact h.1 z hz
def yh:∀ l,(mS l).Pairwise (·<=·)
 | []=>.nil
 | x::l=>zU x (yh l)
theorem KJ {l l':List Int} (h:l.Perm l'):l.mergeSort leI=mS l':=by
 rw [mergeSort_of_perm_i (h.trans (tG l').symm)]
 exact List.mergeSort_of_pairwise ((yh l').imp (by simp [leI]))
def Kp {v:AV} {n:Int} (h:Jo v=some n):v=.int .i64 n/\-9223372036854775808<=n/\n<=9223372036854775807:=by
 unfold Jo at h
 grind
def Be:∀ {es:List (AV×AV)} {ks:List Int},tD es=some ks->es.map (·.1)=ks.map (AV.int .i64)/\∀ n∈ks,-9223372036854775808<=n/\n<=9223372036854775807
 | [],ks,h=>by simp only [tD,Option.some.injEq] at h; subst h; simp
 | p::l,ks,h=>by
   unfold tD at h
   split at h
   ·rename_i n hn
    split at h
    ·rename_i ks' hk
     obtain ⟨e1,h1⟩:=Kp hn
     obtain ⟨e2,h2⟩:=Be hk
     simp only [Option.some.injEq] at h
     subst h
     refine ⟨by simp [e1,e2],λm hm=>?_⟩
     rcases List.mem_cons.1 hm with rfl | hm
     ·exact h1
     ·exact h2 m hm
    ·cases h
   ·cases h
def Bb:∀ {l:List Int},xI l=true->l.Nodup
 | [],_=>.nil
 | x::l,h=>by
   simp only [xI,Bool.and_eq_true,Bool.not_eq_true',List.contains_eq_mem,decide_eq_false_iff_not] at h
   exact List.nodup_cons.2 ⟨h.1,Bb h.2⟩
def Eu {G:Ga} (hW:WR G) {w':World} (hb:Below G.w.heap.size G.w w') (Tn:Bool->Nat->Prop) (hT:∀ s B,Tn s B->G.w.heap.size<=B/\B<w'.heap.size) :
  let G':Ga:=⟨w',λs B=>G.T s B\/Tn s B,G.h,G.pi,G.L⟩
  Step G G'/\WR G':=by
 intro G'
 have hold:∀ B,B<G.w.heap.size->G'.w.heap[B]?=G.w.heap[B]?:=hb.block
 have E:Ext G G':=⟨λ_ _ h=>.inl h,λs B h=>hold B (hW.pj s B h),Nat.le_refl _,λb _ g z xs h=>⟨g,z,xs,h,Nat.le_refl _,λ_=>⟨rfl,λ_ h=>h⟩⟩,λb _ es c h=>⟨es,c,h,λ_ h=>h⟩,λ_ _ h=>h⟩
 obtain ⟨k1,k2,k3⟩:=hW.mw E hold
 have hs:=hb.size
 refine ⟨⟨E,hb.os,hb.output,hb.tape,hb.size,λB h _ _=>hold B h,λb l h=>.inl ⟨l,h,rfl⟩,λb l h=>.inl (by show (G.pi b).isSome=true; rw [show G.pi b=some l from h]; rfl),?_,rfl,λ_ _ _=>rfl,λ_ _ h=>.inl h,λd B h=>.inl (by rw [show G.L d=some B from h]; rfl),λ_ _ _ h=>h⟩,k1,k2,k3,?_,hW.oQ,?_,hW.qo,?_,hW.qI,?_,?_,hW.lo,hW.lt⟩
 ·rintro s B (h | h)
  ·exact .inl h
  ·exact .inr (hT s B h).1
 ·exact λb l h=>⟨Nat.lt_of_lt_of_le (hW.mX b l h).1 hs,(hW.mX b l h).2⟩
 ·rintro s b l h (ht | ht)
  ·exact hW.rO s b l h ht
  ·have:=(hW.mX b l h).1; have:=(hT _ _ ht).1; omega
 ·rintro s d B h (ht | ht)
  ·exact hW.LT s d B h ht
  ·have:=(hW.nY d B h).1; have:=(hT _ _ ht).1; omega
 ·exact λd B h=>⟨Nat.lt_of_lt_of_le (hW.nY d B h).1 hs,(hW.nY d B h).2⟩
 ·rintro s B (h | h)
  ·exact Nat.lt_of_lt_of_le (hW.pj s B h) hs
  ·exact (hT s B h).2
section
variable {G:Ga} {w':World}
def PC (hW:WR G) {g cap z:Nat} {xs:List (List AV)} (hb:Below G.w.heap.size G.w w') (hg:G.w.heap.size<=g) (hlt:g<w'.heap.size)
  (hblk:∀ G',Ext G G'->G'.w=w'->pU G' ⟨g,0,cap⟩ z xs) :
  Step G ⟨w',G.T,G.h.push (.lN 0 z xs),oO G.pi G.h.size (some ⟨g,0,cap⟩),G.L⟩/\WR ⟨w',G.T,G.h.push (.lN 0 z xs),oO G.pi G.h.size (some ⟨g,0,cap⟩),G.L⟩:=by
 obtain ⟨s1,hV⟩:=CD hW (.lN 0 z xs)
 have hp0:G.pi G.h.size=none:=A4 hW (Nat.le_refl _)
 have hget:(G.h.push (.lN 0 z xs)).get G.h.size=some (.lN 0 z xs):=by rw [aT.pG _ _ _ hW.lo,if_pos rfl]
 have hup:∀ b l,G.pi b=some l->oO G.pi G.h.size (some ⟨g,0,cap⟩) b=some l:=by
  grind [pc]
 have hold:∀ B,B<G.w.heap.size->w'.heap[B]?=G.w.heap[B]?:=hb.block
 have hs:=hb.size
 have E:Ext ⟨G.w,G.T,G.h.push (.lN 0 z xs),G.pi,G.L⟩ ⟨w',G.T,G.h.push (.lN 0 z xs),oO G.pi G.h.size (some ⟨g,0,cap⟩),G.L⟩ :=
  ⟨λ_ _ h=>h,λs B hB=>hold B (hW.pj s B hB),Nat.le_refl _,λb _ g z xs h=>⟨g,z,xs,h,Nat.le_refl _,λ_=>⟨rfl,hup b⟩⟩,λb _ es c h=>⟨es,c,h,hup b⟩,λ_ _ h=>h⟩
 obtain ⟨k1,k2,k3⟩:=hV.mw E (λB hB=>hold B hB)
 have hdom:∀ b l,oO G.pi G.h.size (some ⟨g,0,cap⟩) b=some l->(b=G.h.size/\l=⟨g,0,cap⟩)\/(b≠G.h.size/\G.pi b=some l):=by
  grind [nA,pc]
 have hF:uf ⟨G.w,G.T,G.h.push (.lN 0 z xs),G.pi,G.L⟩ ⟨w',G.T,G.h.push (.lN 0 z xs),oO G.pi G.h.size (some ⟨g,0,cap⟩),G.L⟩ (·=G.h.size) (λ_=>False):=by
  refine ⟨E,hb.os,hb.output,hb.tape,hs,λB hB=>hold B hB,?_,?_,rfl,rfl,λ_ _ h=>.inl h,λ_ _ h=>.inl (Option.isSome_iff_exists.2 ⟨_,h⟩)⟩
  ·grind
  ·grind
 refine ⟨s1.fill hF (by omega) (λ_ h=>h.elim),?_⟩
 have hL:=hblk _ (s1.ext.trans E) rfl
 constructor
 ·intro b l g' z' xs' hp hg'
  rcases hdom b l hp with ⟨rfl,rfl⟩ | ⟨_,hp⟩
  ·rw [hget] at hg'
   cases hg'
   exact hL
  ·exact k1 b l g' z' xs' hp hg'
 ·intro b l es c hp hg'
  rcases hdom b l hp with ⟨rfl,rfl⟩ | ⟨_,hp⟩
  ·rw [hget] at hg'; cases hg'
  ·exact k2 b l es c hp hg'
 ·exact k3
 ·intro b l hp
  rcases hdom b l hp with ⟨rfl,rfl⟩ | ⟨_,hp⟩
  ·exact ⟨hlt,hV.lt _ _ hget⟩
  ·have:=hV.mX b l hp
   exact ⟨Nat.lt_of_lt_of_le this.1 hs,this.2⟩
 ·intro b b' l l' hp hp' he
  rcases hdom b l hp with ⟨rfl,rfl⟩ | ⟨_,hq⟩
  ·rcases hdom b' l' hp' with ⟨rfl,rfl⟩ | ⟨_,hq'⟩
   ·rfl
   ·have:=(hW.mX b' l' hq').1
    grind
  ·rcases hdom b' l' hp' with ⟨rfl,rfl⟩ | ⟨_,hq'⟩
   ·have:=(hW.mX b l hq).1
    grind
   ·exact hW.oQ b b' l l' hq hq' he
 ·intro s b l hp hT
  rcases hdom b l hp with ⟨rfl,rfl⟩ | ⟨_,hp⟩
  ·have:=hW.pj s _ hT
   grind
  ·exact hW.rO s b l hp hT
 ·exact hW.qo
 ·exact hW.LT
 ·intro d B b l hd hp
  rcases hdom b l hp with ⟨rfl,rfl⟩ | ⟨_,hp⟩
  ·have:=(hW.nY d B hd).1
   grind
  ·exact hW.qI d B b l hd hp
 ·intro d B hd
  have:=hV.nY d B hd
  exact ⟨Nat.lt_of_lt_of_le this.1 hs,this.2⟩
 ·intro s B hB
  exact Nat.lt_of_lt_of_le (hW.pj s B hB) hs
 ·exact hV.lo
 ·exact hV.lt
end
def z7 {P:Program} {f kt:Nat} (hk:P.underlying kt=some (.int .i64))     (h1:∀ (b nn:Nat) (D0:DataW Unit) (w:World),w.ownsMap P kt (λ_=>some (.nil,[])) b nn D0->Maps.size D0<=maxLen->Maps.size D0*8<=140737488355328->      Calls P f #[.map (some b)] w λe w'=>∃ (v:Value) (ss:List Int),e=.returned v/\ss.Perm (intKeys D0)/\      w'.ownsRow w.heap.size kt 1 v ss.length ((ss.mergeSort leI).map encZ)/\(v=.slice none 0 0↔ss=[])/\Below w.heap.size w w')
  {G:Ga} (hW:WR G) {es:List (AV×AV)} {ks:List Int} (hks:tD es=some ks) (hn:(xI ks&&Nat.ble ks.length 1000000)=true)
  {r:Nat} {ents:Array MapEntry} {clk:Nat} (hB:G.w.heap[r]?=some (.map ents clk)) (hll:es.length=ents.size) (hyo:Lb ents clk)
  (hkk:∀ (i:Nat) (p:AV×AV) (e:MapEntry),es[i]?=some p->ents[i]?=some e->∃ m,PR G.w G.T m p.1 e.key)
  (shd:Bool) {R:Ending->World->Prop} (hR:∀ u G',Step G G'->WR G'->G'.h=(tF shd (mS ks) G.h).2->(∀ m L,VR (G'.mi m L) (tF shd (mS ks) G.h).1 u)->R (.returned u) G'.w) :
  Calls P f #[.map (some r)] G.w R:=by
 simp only [Bool.and_eq_true,Nat.ble_eq] at hn
 obtain ⟨hn,hlen⟩:=hn
 have hnd:=Bb hn
 obtain ⟨hmap,hrg⟩:=Be hks
 have hel:es.length=ks.length:=by simpa using congrArg List.length hmap
 have hkey:ents.toList.map (·.key)=ks.map encZ:=by
  apply List.ext_getElem?
  intro i
  simp only [List.getElem?_map,Array.getElem?_toList]
  cases he:ents[i]? with
  | none =>
    have:ks.length<=i:=by rw [<- hel,hll]; exact Array.getElem?_eq_none_iff.1 he
    rw [List.getElem?_eq_none this]; rfl
  | some e =>
    have hi:i<es.length:=by rw [hll]; exact (Array.getElem?_eq_some_iff.1 he).1
    obtain ⟨m,hp⟩:=hkk i es[i] e (by simp [hi]) he
    have hq:(es.map (·.1))[i]?=some es[i].1:=by simp [hi]
    rw [hmap,List.getElem?_map] at hq
    cases hki:ks[i]? with
    | none=>rw [hki] at hq; cases hq
    | some n =>
      rw [hki] at hq
      simp only [Option.map_some,Option.some.injEq] at hq
      rw [<- hq] at hp
      have hx:e.key=.int .i64 n:=by
       generalize e.key=kv at hp
       cases hp; rfl
      simp [hx]
 have hrd:∀ x∈ents.toList,∃ n∈ks,x.key=encZ n/\rd P kt (λ_=>some ((.nil,[]):DataW Unit×List MemPlace)) x=some (.int .i64 n,.nil):=by
  intro x hx
  have:x.key∈ks.map encZ:=hkey▸List.mem_map_of_mem hx
  obtain ⟨n,hn,he⟩:=List.mem_map.1 this
  refine ⟨n,hn,he.symm,?_⟩
  have hw:(Lit.int .i64 n).wf=true:=by
   have:=hrg n hn
   have e1:IntKind.i64.min = -9223372036854775808:=by decide
   have e2:IntKind.i64.max=9223372036854775807:=by decide
   simp only [Lit.wf,e1,e2,Bool.and_eq_true,decide_eq_true_eq]
   exact this
  unfold rd
  rw [<- he,keyOf_int_mk hk hw]; rfl
 have hsz:ents.size=ks.length:=by omega
 have hown:G.w.ownsMap P kt (λ_=>some (.nil,[])) r ents.size (.map ((ents.toList.map (rg P kt (λ_=>some ((.nil,[]):DataW Unit×List MemPlace)))).foldr DataW.insert [])) :=
  ⟨ents,clk,hB,⟨by rw [hsz]; exact Nat.le_trans hlen (by decide),⟨λx hx=>by obtain ⟨i,hi⟩:=List.getElem?_of_mem hx; exact hyo.1 i x (by simpa using hi),hyo.2,by rw [hkey]; exact List.Pairwise.map _ (λa b hab h=>hab (encZ_inj h)) hnd⟩,λx hx=>by obtain ⟨n,_,_,h⟩:=hrd x hx; exact ⟨_,h⟩⟩,Nat.le_refl _,rfl⟩
 have hik:(intKeys (.map ((ents.toList.map (rg P kt (λ_=>some ((.nil,[]):DataW Unit×List MemPlace)))).foldr DataW.insert []))).Perm ks:=by
  refine ((sorted_perm _).map (λp:Lit×DataW Unit=>intOf p.1)).trans ?_
  rw [List.map_map]
  have:ents.toList.map ((λp:Lit×DataW Unit=>intOf p.1) ∘ rg P kt (λ_=>some ((.nil,[]):DataW Unit×List MemPlace)))=(ents.toList.map (·.key)).map (λv=>match v with | .int _ n=>n | _=>0):=by
   rw [List.map_map]
   refine List.map_congr_left λx hx=>?_
   obtain ⟨n,_,e,h⟩:=hrd x hx
   simp only [Function.comp,rg_of h,e,intOf]
  rw [this,hkey,List.map_map]
  exact .of_eq (by simp [Function.comp_def])
 have hs0:Maps.size (.map ((ents.toList.map (rg P kt (λ_=>some ((.nil,[]):DataW Unit×List MemPlace)))).foldr DataW.insert []))=ks.length:=by
  have:=hik.length_eq
  simpa [intKeys,Maps.size] using this
 refine (h1 r _ _ G.w hown (by rw [hs0]; exact Nat.le_trans hlen (by decide)) (by rw [hs0]; omega)).mono ?_
 rintro e w' ⟨v,ss,rfl,hss,hrow,hnil,hb⟩
 rw [KJ (hss.trans hik)] at hrow
 have yK:ss.length=(mS ks).length:=by rw [(hss.trans hik).length_eq,(tG ks).length_eq]
 rcases hrow.2 with ⟨rfl,hz⟩ | ⟨g,cap,cur,rfl,hbase,hgb,r1,r2,r3,r4⟩
 ·obtain ⟨S1,W1⟩:=Eu hW hb (λ_ _=>False) (λ_ _ h=>h.elim)
  have:mS ks=[]:=List.eq_nil_of_length_eq_zero (by omega)
  have hr0:tF shd (mS ks) G.h=(.sl [] .nil,G.h):=by rw [this]; cases shd<;>rfl
  exact hR _ _ S1 W1 (by rw [hr0]) (λm L=>by rw [hr0]; exact VR.mi (.lD rfl (.slnil _)) rfl)
 ·have hglt:g<w'.heap.size:=(Array.getElem?_eq_some_iff.1 hgb).1
  have hne:mS ks≠[]:=by
   intro h0
   have:ss=[]:=List.eq_nil_of_length_eq_zero (by rw [yK,h0]; rfl)
   cases hnil.2 this
  have hrw:MG (mS ks)=.sl ((mS ks).map λn=>[.int .i64 n]) .oH:=by
   cases hq:mS ks with
   | nil=>exact (hne hq).elim
   | cons a l=>rfl
  have hcell:∀ (i:Nat) (n:Int),(mS ks)[i]?=some n->cur[i]?=some (.int .i64 n):=by
   intro i n hn
   have hi:i<(mS ks).length:=(List.getElem?_eq_some_iff.1 hn).1
   have h2:(cur.toList.take (ss.length*1))[i]?=((mS ks).map encZ)[i]?:=by rw [r4]
   rw [List.getElem?_take_of_lt (by omega),List.getElem?_map,hn] at h2
   simpa using h2
  have hlist:∀ (i:Nat) (cs:List AV),((mS ks).map λn=>([.int .i64 n]:List AV))[i]?=some cs->∃ n,(mS ks)[i]?=some n/\cs=[.int .i64 n]:=by
   intro i cs h
   rw [List.getElem?_map] at h
   cases hq:(mS ks)[i]? with
   | none=>rw [hq] at h; cases h
   | some n=>rw [hq] at h; exact ⟨n,rfl,by simpa using h.symm⟩
  cases shd with
  | false =>
    obtain ⟨S1,W1⟩:=Eu hW hb (λs B=>s=false/\B=g) (λ_ _ h=>by rw [h.2]; exact ⟨hbase,hglt⟩)
    have key:PR w' (λs B=>G.T s B\/s=false/\B=g) true (.sl ((mS ks).map λn=>[.int .i64 n]) .oH) (.slice (some ⟨g,0,none⟩) ((mS ks).map λn=>([.int .i64 n]:List AV)).length cap):=by
     refine .sl _ _ .oH g 0 cur kt (0,0) cap 1 (λi _=>.int .i64 ((mS ks).getD i 0)) (λh=>by cases h) hgb (.inr ⟨rfl,rfl⟩) ?_ ?_ ?_ ?_ ?_ ?_
     ·show _<=_; rw [List.length_map,<- yK]; exact r1
     ·rw [List.length_map,<- yK]; exact r1
     ·intro i cs h; obtain ⟨n,_,rfl⟩:=hlist i cs h; rfl
     ·intro i cs j x h hj
      obtain ⟨n,hn,rfl⟩:=hlist i cs h
      cases j with
      | zero=>simp only [Nat.zero_add,Nat.mul_one,Nat.add_zero]; rw [hcell i n hn,List.getD_eq_getElem?_getD,hn]; rfl
      | succ j=>cases hj
     ·intro i cs j x _ _; rfl
     ·intro i cs j x h hj
      obtain ⟨n,hn,rfl⟩:=hlist i cs h
      cases j with
      | zero =>
        simp only [List.getElem?_cons_zero,Option.some.injEq] at hj
        subst hj
        rw [List.getD_eq_getElem?_getD,hn]
        exact .int _ _ _
      | succ j=>cases hj
    rw [List.length_map,<- yK] at key
    exact hR _ _ S1 W1 rfl (λm L=>by rw [show tF false (mS ks) G.h=(MG (mS ks),G.h) from rfl,hrw]; exact VR.mi (.lD rfl key) rfl)
  | true =>
    have hr1:tF true (mS ks) G.h=(.hs G.h.size 0 0 ss.length,G.h.push (.lN 0 1 ((mS ks).map λn=>[.int .i64 n]))):=by
     rw [yK]
     cases hq:mS ks with
     | nil=>exact (hne hq).elim
     | cons a l=>rfl
    obtain ⟨S1,W1⟩:=PC (cap:=cap) (z:=1) (xs:=(mS ks).map λn=>[.int .i64 n]) hW hb hbase hglt (by
     intro G' E e
     refine ⟨cur,kt,by rw [e]; exact hgb,by rw [List.length_map,<- yK]; exact r1,by show 0+cap*1<=_; omega,?_,?_⟩
     ·intro i cs h; obtain ⟨n,_,rfl⟩:=hlist i cs h; rfl
     ·intro i cs j x h hj
      obtain ⟨n,hn,rfl⟩:=hlist i cs h
      cases j with
      | zero =>
        simp only [List.getElem?_cons_zero,Option.some.injEq] at hj
        subst hj
        refine ⟨.int .i64 n,?_,rfl,⟨.lD rfl (.int _ _ _),rfl⟩⟩
        simp only [Nat.zero_add,Nat.mul_one,Nat.add_zero]
        exact hcell i n hn
      | succ j=>cases hj)
    refine hR _ _ S1 W1 (by rw [hr1]) (λm L=>?_)
    rw [hr1]
    refine VR.mi (.hs _ 0 0 _ _ cap ?_ (λ_ _ _ _=>Nat.zero_le _) r1 ?_) rfl
    ·show G.h.size<(G.h.push _).size
     rw [aT.size_push]
     exact Nat.lt_succ_self _
    ·intro z xs _
     exact ⟨_,nA _ _ _,by simp,λ_=>by simp⟩
def vK {shd:Bool} {ks:Option (List Int)} {h:aT} {v:AV} {h':aT} (hc:q9 shd ks h=some (v,h')):∃ l,ks=some l/\(xI l&&Nat.ble l.length 1000000)=true/\tF shd (mS l) h=(v,h'):=by
 unfold q9 at hc
 grind
def By:∀ (args:List AV) (h:aT) (v:AV) (h':aT),pC false args h=some (v,h')->h'=h/\∀ h2:aT,(∀ b o,h.get b=some o->h2.get b=some o)->pC false args h2=some (v,h2):=by
 intro args h v h' hc
 unfold pC at hc
 split at hc
 ·cases hc; exact ⟨rfl,λ_ _=>rfl⟩
 ·obtain ⟨ks,hks,hn,hrz⟩:=vK hc
  cases hrz
  exact ⟨rfl,λh2 _=>by simp only [pC,q9,hks,hn]; rfl⟩
 ·split at hc
  ·rename_i hget
   obtain ⟨ks,hks,hn,hrz⟩:=vK hc
   cases hrz
   exact ⟨rfl,λh2 hh=>by simp only [pC,q9,hh _ _ hget,hks,hn]; rfl⟩
  ·cases hc
 ·cases hc
theorem Cs {P : Program} {f kt : Nat} (hex : ∃ fn, P.funcs[f]? = some fn ∧ fn.body.isNone = false ∧ (fn.name == "runtime.NumGoroutine") = false)
  (hk:P.underlying kt=some (.int .i64))
  (h1:∀ (b nn:Nat) (D0:DataW Unit) (w:World),w.ownsMap P kt (λ_=>some (.nil,[])) b nn D0->Maps.size D0<=maxLen->Maps.size D0*8<=140737488355328 ->
    Calls P f #[.map (some b)] w λe w'=>∃ (v:Value) (ss:List Int),e=.returned v/\ss.Perm (intKeys D0) /\
    w'.ownsRow w.heap.size kt 1 v ss.length ((ss.mergeSort leI).map encZ)/\(v=.slice none 0 0↔ss=[])/\Below w.heap.size w w')
  (h0:∀ w:World,Calls P f #[.map none] w λe w'=>e=.returned (.slice none 0 0)/\Below w.heap.size w w'):sQ P f pC where
 call:=by
  intro shd args h v h' hc G args' hG hlo hL hW hl hr
  refine ⟨hex,?_⟩
  intro R hR
  subst hG
  have one:∀ x:AV,args=[x]->∃ y,args' = #[y]/\VC G x y:=by
   rintro x rfl
   cases args' with | mk l =>
   cases l with
   | nil=>simp at hl
   | cons y l =>
     cases l with
     | nil=>exact ⟨y,rfl,hr 0 x y rfl rfl⟩
     | cons _ _=>simp at hl
  unfold pC at hc
  split at hc
  ·obtain ⟨y,rfl,hy⟩:=one _ rfl
   cases hc
   have hv:=hy.vr
   cases hv with
   | lD _ hp =>
     cases hp
     refine (h0 G.w).mono ?_
     rintro e w' ⟨rfl,hb⟩
     obtain ⟨S1,W1⟩:=Eu hW hb (λ_ _=>False) (λ_ _ h=>h.elim)
     exact hR _ _ S1 W1 (λm=>rfl) (λm L=>VR.mi (.lD rfl (.slnil _)) rfl)
  ·obtain ⟨y,rfl,hy⟩:=one _ rfl
   obtain ⟨ks,hks,hn,hrz⟩:=vK hc
   have hv:=hy.vr
   cases hv with
   | lD _ hp =>
     cases hp with
     | fm _ _ _ r ents clk _ hB hI hll hyo hko hkk hvv =>
       exact z7 hk h1 hW hks hn hB hll hyo (λi p e hp he=>⟨_,hkk i p e hp he⟩) shd (λu G' S W e hv=>hR u G' S W (λm=>by rw [e,hrz]) (by rw [hrz] at hv; exact hv))
  ·obtain ⟨y,rfl,hy⟩:=one _ rfl
   split at hc
   ·rename_i es c hget
    obtain ⟨ks,hks,hn,hrz⟩:=vK hc
    obtain ⟨l,ents,hpi,rfl,hB,hent,hyo⟩:=sH hW hy.vr hget
    have hlen:es.length=ents.size:=by simpa using hent.1
    have he2:∀ (i:Nat) (p:AV×AV×Nat) (e:MapEntry),es[i]?=some p->ents[i]?=some e->p.1.rj=true/\PR G.w G.T false p.1 e.key/\VC G p.2.1 e.val/\p.2.2=e.born:=λi p e hp he=>hent.2 i p e hp (by simpa using he)
    refine z7 hk h1 hW hks hn hB (by simpa using hlen) (hyo.QO hlen λi p e hp he=>(he2 i p e hp he).2.2.2) (λi p e hp he=>?_) shd (λu G' S W e hv=>hR u G' S W (λm=>by rw [e,hrz]) (by rw [hrz] at hv; exact hv))
    rw [List.getElem?_map] at hp
    cases hq:es[i]? with
    | none=>rw [hq] at hp; cases hp
    | some q =>
      rw [hq] at hp
      cases hp
      exact ⟨_,(he2 i q e hq he).2.1⟩
   ·cases hc
  ·cases hc
 Fv:=By
end Go.Sx
namespace Go.Sx
open Go
section
variable (X:Ctx) (lp:zC)
end
section
variable {X:Ctx} {lp:zC}
def CG:Nat->(Env->aT->RC)->Env->aT->RC
 | 0,_,e,h=>some (.ns,e,h)
 | n+1,f,e,h=>match f e h with
   | some (.ns,e,h)=>CG n f e h
   | r=>r
end
def ur (args0:List AV) (v0:AV) (shd:Bool) (args:List AV) (h:aT):R2:=match shd,pX (pV 12) args0 args with
 | false,true=>some (v0,h)
 | _,_=>none
def zR {P:Program} {C:lW} {F:nd} {Pr:mO} (T:sF P C F Pr) {f n:Nat} {args0:List AV} {v0:AV} {h0:aT} (h:nM C F Pr n false f args0 aT.empty=some (v0,h0)):sQ P f (ur args0 v0) where
 call:=by
  intro shd args h1 v h' hc
  unfold ur at hc
  split at hc
  ·rename_i _ ha
   cases hc
   have:=pA (rF 12) _ _ ha
   subst this
   obtain ⟨_,k⟩:=za T n f args0 aT.empty v0 h0 h
   exact wo T n false f args0 h1 v0 h1 (k h1 (λb o hb=>by grind [Cm]))
  grind
 Fv:=by
  grind [ur]
end Go.Sx
namespace Go.Sx
open Go
def Bc:Tr oR->(Nat->Nat)->aT->Bool
 | .leaf,_,_=>true
 | .node l v r,f,h=>(match v with
   | some (.lN g z xs)=>match h.get (f 0) with
     | some (.lN g' z' xs')=>Nat.beq g g'&&Nat.beq z z'&&pX (pX (pV 12)) xs xs'
     | _=>false
   | some (.map es c)=>match h.get (f 0) with
     | some (.map es' c')=>Nat.beq c c'&&pX (λp q=>pV 12 p.1 q.1&&pV 12 p.2.1 q.2.1&&Nat.beq p.2.2 q.2.2) es es'
     | _=>false
   | none=>true)&&Bc l (λn=>f (2*n+1)) h&&Bc r (λn=>f (2*n+2)) h
def BS (h2 h1:aT):Bool:=Nat.beq h2.size h1.size&&Nat.beq h2.lo h1.lo&&Nat.beq h2.lo 0&&pX (λp q=>Nat.beq p.1 q.1&&pX (pV 12) p.2 q.2) h2.cH h1.cH&&Bc h2.tr id h1
structure Sub (h2 h1:aT):Prop where
 size:h2.size=h1.size
 lo:h2.lo=h1.lo
 cH:h2.cH=h1.cH
 get:∀ b o,h2.get b=some o->h1.get b=some o
theorem yD:∀ (t:Tr oR) (f:Nat->Nat) (h:aT),Bc t f h=true->∀ (n:Nat) (o:oR),t.get n=some o->h.get (f n)=some o
 | .leaf,_,_,_,n,o,h=>by simp [Tr.get] at h
 | .node l v r,f,h,ha,n,o,hg=>by
   simp only [Bc,Bool.and_eq_true] at ha
   obtain ⟨⟨h1,h2⟩,h3⟩:=ha
   cases n with
   | zero =>
     simp only [Tr.get] at hg
     subst hg
     cases o with
     | lN g z xs =>
       simp only at h1
       split at h1
       ·rename_i g' z' xs' hget
        simp only [Bool.and_eq_true] at h1
        rw [hget,Nat.eq_of_beq_eq_true h1.1.1,Nat.eq_of_beq_eq_true h1.1.2,pA (λ_ _=>pA (rF 12) _ _) _ _ h1.2]
       ·cases h1
     | map es c =>
       simp only at h1
       split at h1
       ·rename_i es' c' hget
        simp only [Bool.and_eq_true] at h1
        have:es=es':=pA (λp q hpq=>by
         simp only [Bool.and_eq_true] at hpq
         exact Prod.ext (rF 12 _ _ hpq.1.1) (Prod.ext (rF 12 _ _ hpq.1.2) (Nat.eq_of_beq_eq_true hpq.2))) _ _ h1.2
        rw [hget,Nat.eq_of_beq_eq_true h1.1,this]
       ·cases h1
   | succ m =>
     simp only [Tr.get] at hg
     split at hg
     ·rename_i hm
      have hm:=Nat.eq_of_beq_eq_true hm
      have:=yD l _ h h2 (m / 2) o hg
      rw [show 2*(m / 2)+1=m+1 by omega] at this
      exact this
     ·rename_i hm
      have hm:m % 2≠0:=Nat.ne_of_beq_eq_false hm
      have:=yD r _ h h3 (m / 2) o hg
      rw [show 2*(m / 2)+2=m+1 by omega] at this
      exact this
def GC {h2 h1:aT} (h:BS h2 h1=true):Sub h2 h1:=by
 simp only [BS,Bool.and_eq_true] at h
 obtain ⟨⟨⟨⟨a1,a2⟩,a3⟩,a4⟩,a5⟩:=h
 refine ⟨Nat.eq_of_beq_eq_true a1,Nat.eq_of_beq_eq_true a2,pA (λp q hpq=>by
  simp only [Bool.and_eq_true] at hpq
  exact Prod.ext (Nat.eq_of_beq_eq_true hpq.1) (pA (rF 12) _ _ hpq.2)) _ _ a4,?_⟩
 grind [aT.get,yD]
section
variable {P:Program} {X:Ctx} {N:Nat} {G0:Ga}
theorem St.drop {G:Ga} {e:Env} {a:Act} {h2:aT} (hS:St N G0 G e a) (hs:Sub h2 G.h) (h0:G0.h.size=0):St N G0 ⟨G.w,G.T,h2,G.pi,G.L⟩ e a:=by
 have E:Ext G ⟨G.w,G.T,h2,G.pi,G.L⟩:=⟨λ_ _ h=>h,λ_ _ _=>rfl,by rw [hs.size]; omega,λb _ g z xs h=>⟨g,z,xs,hs.get b _ h,Nat.le_refl _,λ_=>⟨rfl,λ_ h=>h⟩⟩,λb _ es c h=>⟨es,c,hs.get b _ h,λ_ h=>h⟩,λ_ _ h=>h⟩
 refine ⟨⟨?_,hS.fr.L⟩,?_,hS.er.mono E,hS.df,hS.sz⟩
 ·have S:=hS.fr.S
  refine ⟨⟨S.ext.T,S.ext.mw,by omega,λb hb=>by omega,λb hb=>by omega,S.ext.cH⟩,S.os,S.output,S.tape,S.nh,S.frame,S.pa,S.pN,S.sO,?_,λb hb=>by omega,S.rQ,S.sR,S.th⟩
  exact hs.lo.trans S.lo
 ·have W:=hS.wr
  refine ⟨λb l g z xs hp hg=>(W.lN b l g z xs hp (hs.get b _ hg)).mono E rfl,λb l es c hp hg=>(W.map b l es c hp (hs.get b _ hg)).mono E rfl,?_,?_,W.oQ,W.rO,W.qo,W.LT,W.qI,?_,W.pj,?_,?_⟩
  ·intro d B cs hd hcs
   have hcs:l8 h2.cH d=some cs:=hcs
   rw [hs.cH] at hcs
   exact (W.loc d B cs hd hcs).mono E rfl
  ·intro b l h
   refine ⟨(W.mX b l h).1,?_⟩
   show b<h2.size
   rw [hs.size]; exact (W.mX b l h).2
  ·intro d B h
   refine ⟨(W.nY d B h).1,?_⟩
   show (l8 h2.cH d).isSome=true
   rw [hs.cH]; exact (W.nY d B h).2
  ·show h2.lo<=h2.size
   rw [hs.lo,hs.size]; exact W.lo
  ·intro b o h
   show b<h2.size
   rw [hs.size]; exact W.lt b o (hs.get b o h)
inductive zm (f:Env->aT->RC):Env->aT->Ex->Env->aT->Prop
 | last {e h x e' h'} (k:Nat):CG k f e h=some (x,e',h')->x≠.ns->zm f e h x e' h'
 | step {e h e1 h1 h2 x e' h'} (k:Nat):CG (k+1) f e h=some (.ns,e1,h1)->Sub h2 h1->zm f e1 h2 x e' h'->zm f e h x e' h'
def JF (k:Nat) (f:Env->aT->RC) (e:Env) (h:aT) (e1:Env) (h2:aT):Bool:=match CG (k+1) f e h with
 | some (.ns,e',h')=>pX (λp q=>Nat.beq p.1 q.1&&pV 12 p.2 q.2) e1 e'&&BS h2 h'
 | _=>false
def zm.piece {f:Env->aT->RC} {e:Env} {h:aT} {e1:Env} {h2:aT} {x:Ex} {e':Env} {h':aT} (k:Nat) (hp:JF k f e h e1 h2=true) (hc:zm f e1 h2 x e' h'):zm f e h x e' h':=by
 unfold JF at hp
 split at hp
 ·rename_i e0 h0 hi
  simp only [Bool.and_eq_true] at hp
  have:e1=e0:=pA (λp q hpq=>by
   simp only [Bool.and_eq_true] at hpq
   exact Prod.ext (Nat.eq_of_beq_eq_true hpq.1) (rF 12 _ _ hpq.2)) _ _ hp.1
  subst this
  exact .step k hi (GC hp.2) hc
 grind
end
end Go.Sx
namespace Go.Sx
open Go
section
variable {P:Program} {X:Ctx} {N:Nat} {G0:Ga}
end
end Go.Sx
namespace Go.Sx
open Go
section
variable {C:lW} {F:nd} {Pr:mO} {fa:kb} {Q:Ex->Env->aT->Prop} {e:Env} {h h1:aT} {all rest:List Oper} {o:Oper} {q:Env->aT->Prop} {v:AV} {sch:List (Nat×List Nat)} {i:Nat} {a b:Code} {x y an:ou} {live:List Nat}
def oV (w:mH C F Pr fa all rest q (kJ e o v) h1) (hw:kT all e o=some true:=by rfl) (hop:∀ call,lB o.op ⟨C,fa,call⟩ e h o.dst=some (v,h1):=by exact λ_=>rfl):mH C F Pr fa all (o::rest) q e h:=jP hw hop w
def rV (w:mz C F Pr fa all sch q (kJ e o v) h1) (ho:all[i]?=some o:=by rfl) (hw:kT all e o=some true:=by rfl) (hop:∀ call,lB o.op ⟨C,fa,call⟩ e h o.dst=some (v,h1):=by exact λ_=>rfl):mz C F Pr fa all ((i,[])::sch) q e h:=kp ho hw hop w
def oS (w:mH C F Pr fa all rest q (kJ e o (.kq [])) h) (hw:kT all e o=some false:=by rfl):mH C F Pr fa all (o::rest) q e h:=LP hw w
def rS (w:mz C F Pr fa all sch q (kJ e o (.kq [])) h) (ho:all[i]?=some o:=by rfl) (hw:kT all e o=some false:=by rfl):mz C F Pr fa all ((i,[])::sch) q e h:=L8 ho hw w
def oN (w:q e h):mH C F Pr fa all [] q e h:=Pw w
def rN (w:q e h):mz C F Pr fa all [] q e h:=Pl w
def qq (w:Wp C F Pr fa a x (vN (Wp C F Pr fa b y Q) Q) e h):Wp C F Pr fa (.seq a b) (.sq x y) Q e h:=Qe w
def qs (w:Wp C F Pr fa a x (vN (λe h=>Wp C F Pr fa b y Q (proj live e) { h with cH:=nv live h.cH }) Q) e h):Wp C F Pr fa (.seq a b) (.seq live x y) Q e h:=E7 w
def qk (w:Q .ns e h):Wp C F Pr fa .skip an Q e h:=Ld w
def ql {l:Nat} (w:Q .ns e h):Wp C F Pr fa (.label l) an Q e h:=Ks w
def qe {id:Nat} (w:Q (.ext id) e h):Wp C F Pr fa (.exit id) an Q e h:=Nt w
def qr (w:Q .ret e h):Wp C F Pr fa .ret an Q e h:=PI w
def qb {id:Nat} (w:Wp C F Pr fa a an (GZ id Q) e h):Wp C F Pr fa (.block id a) an Q e h:=KA w
def qg {id:Nat} {ops:Array Oper} (w:mH C F Pr fa ops.toList ops.toList (Q .ns) e h):Wp C F Pr fa (.region id ops false) an Q e h:=Ij w
def qd {id:Nat} {ops:Array Oper} (w:mz C F Pr fa ops.toList sch (Q .ns) e h):Wp C F Pr fa (.region id ops true) (.sD sch) Q e h:=Kb w
def qT {c:Operand} (w:Wp C F Pr fa a x Q e h) (hc:ky e c=.bool true:=by rfl):Wp C F Pr fa (.cond c a b) (.two x y) Q e h:=De hc (λ_=>w) (λh=>by cases h)
def qF {c:Operand} (w:Wp C F Pr fa b y Q e h) (hc:ky e c=.bool false:=by rfl):Wp C F Pr fa (.cond c a b) (.two x y) Q e h:=De hc (λh=>by cases h) (λ_=>w)
def kx {a b:Int} (w1:a<b->mH C F Pr fa all rest q (kJ e o (.bool true)) h) (w2:¬ (a<b)->mH C F Pr fa all rest q (kJ e o (.bool false)) h) {t u:Nat} {x y:Operand} {k k':IntKind} (ho:o.op=.binOp .lss t x y u:=by rfl) (hw:kT all e o=some true:=by rfl) (hx:ky e x=.int k a:=by rfl) (hy:ky e y=.int k' b:=by rfl) (hk:pZ k k'=true:=by rfl):mH C F Pr fa all (o::rest) q e h:=oZ hw (λ_=>by rw [ho]; exact me hx hy hk (Fz _ a b)) w1 w2
def qO {a b:Int} (w1:a<b->mz C F Pr fa all sch q (kJ e o (.bool true)) h) (w2:¬ (a<b)->mz C F Pr fa all sch q (kJ e o (.bool false)) h) {t u:Nat} {x y:Operand} {k k':IntKind} (hi:all[i]?=some o:=by rfl) (ho:o.op=.binOp .lss t x y u:=by rfl) (hw:kT all e o=some true:=by rfl) (hx:ky e x=.int k a:=by rfl) (hy:ky e y=.int k' b:=by rfl) (hk:pZ k k'=true:=by rfl):mz C F Pr fa all ((i,[])::sch) q e h:=p9 hi hw (λ_=>by rw [ho]; exact me hx hy hk (Fz _ a b)) w1 w2
def s5 {a b:Int} (w1:a<=b->mH C F Pr fa all rest q (kJ e o (.bool true)) h) (w2:¬ (a<=b)->mH C F Pr fa all rest q (kJ e o (.bool false)) h) {t u:Nat} {x y:Operand} {k k':IntKind} (ho:o.op=.binOp .leq t x y u:=by rfl) (hw:kT all e o=some true:=by rfl) (hx:ky e x=.int k a:=by rfl) (hy:ky e y=.int k' b:=by rfl) (hk:pZ k k'=true:=by rfl):mH C F Pr fa all (o::rest) q e h:=oZ hw (λ_=>by rw [ho]; exact me hx hy hk (Fy _ a b)) w1 w2
def P7 {a b:Int} (w1:a<=b->mz C F Pr fa all sch q (kJ e o (.bool true)) h) (w2:¬ (a<=b)->mz C F Pr fa all sch q (kJ e o (.bool false)) h) {t u:Nat} {x y:Operand} {k k':IntKind} (hi:all[i]?=some o:=by rfl) (ho:o.op=.binOp .leq t x y u:=by rfl) (hw:kT all e o=some true:=by rfl) (hx:ky e x=.int k a:=by rfl) (hy:ky e y=.int k' b:=by rfl) (hk:pZ k k'=true:=by rfl):mz C F Pr fa all ((i,[])::sch) q e h:=p9 hi hw (λ_=>by rw [ho]; exact me hx hy hk (Fy _ a b)) w1 w2
def ma {a b:Int} (w1:a > b->mH C F Pr fa all rest q (kJ e o (.bool true)) h) (w2:¬ (a > b)->mH C F Pr fa all rest q (kJ e o (.bool false)) h) {t u:Nat} {x y:Operand} {k k':IntKind} (ho:o.op=.binOp .gtr t x y u:=by rfl) (hw:kT all e o=some true:=by rfl) (hx:ky e x=.int k a:=by rfl) (hy:ky e y=.int k' b:=by rfl) (hk:pZ k k'=true:=by rfl):mH C F Pr fa all (o::rest) q e h:=oZ hw (λ_=>by rw [ho]; exact me hx hy hk (E5 _ a b)) w1 w2
def PS {a b:Int} (w1:a > b->mz C F Pr fa all sch q (kJ e o (.bool true)) h) (w2:¬ (a > b)->mz C F Pr fa all sch q (kJ e o (.bool false)) h) {t u:Nat} {x y:Operand} {k k':IntKind} (hi:all[i]?=some o:=by rfl) (ho:o.op=.binOp .gtr t x y u:=by rfl) (hw:kT all e o=some true:=by rfl) (hx:ky e x=.int k a:=by rfl) (hy:ky e y=.int k' b:=by rfl) (hk:pZ k k'=true:=by rfl):mz C F Pr fa all ((i,[])::sch) q e h:=p9 hi hw (λ_=>by rw [ho]; exact me hx hy hk (E5 _ a b)) w1 w2
def mV {a b:Int} (w1:a>=b->mH C F Pr fa all rest q (kJ e o (.bool true)) h) (w2:¬ (a>=b)->mH C F Pr fa all rest q (kJ e o (.bool false)) h) {t u:Nat} {x y:Operand} {k k':IntKind} (ho:o.op=.binOp .geq t x y u:=by rfl) (hw:kT all e o=some true:=by rfl) (hx:ky e x=.int k a:=by rfl) (hy:ky e y=.int k' b:=by rfl) (hk:pZ k k'=true:=by rfl):mH C F Pr fa all (o::rest) q e h:=oZ hw (λ_=>by rw [ho]; exact me hx hy hk (Ff _ a b)) w1 w2
def uO {a b:Int} (w1:a>=b->mz C F Pr fa all sch q (kJ e o (.bool true)) h) (w2:¬ (a>=b)->mz C F Pr fa all sch q (kJ e o (.bool false)) h) {t u:Nat} {x y:Operand} {k k':IntKind} (hi:all[i]?=some o:=by rfl) (ho:o.op=.binOp .geq t x y u:=by rfl) (hw:kT all e o=some true:=by rfl) (hx:ky e x=.int k a:=by rfl) (hy:ky e y=.int k' b:=by rfl) (hk:pZ k k'=true:=by rfl):mz C F Pr fa all ((i,[])::sch) q e h:=p9 hi hw (λ_=>by rw [ho]; exact me hx hy hk (Ff _ a b)) w1 w2
def kR {a b:Int} (w1:a=b->mH C F Pr fa all rest q (kJ e o (.bool true)) h) (w2:¬ (a=b)->mH C F Pr fa all rest q (kJ e o (.bool false)) h) {t u:Nat} {x y:Operand} {k k':IntKind} (ho:o.op=.binOp .eql t x y u:=by rfl) (hw:kT all e o=some true:=by rfl) (hx:ky e x=.int k a:=by rfl) (hy:ky e y=.int k' b:=by rfl) (hk:pZ k k'=true:=by rfl):mH C F Pr fa all (o::rest) q e h:=oZ hw (λ_=>by rw [ho]; exact me hx hy hk (E9 _ a b)) w1 w2
def xA {a b:Int} (w1:a=b->mz C F Pr fa all sch q (kJ e o (.bool true)) h) (w2:¬ (a=b)->mz C F Pr fa all sch q (kJ e o (.bool false)) h) {t u:Nat} {x y:Operand} {k k':IntKind} (hi:all[i]?=some o:=by rfl) (ho:o.op=.binOp .eql t x y u:=by rfl) (hw:kT all e o=some true:=by rfl) (hx:ky e x=.int k a:=by rfl) (hy:ky e y=.int k' b:=by rfl) (hk:pZ k k'=true:=by rfl):mz C F Pr fa all ((i,[])::sch) q e h:=p9 hi hw (λ_=>by rw [ho]; exact me hx hy hk (E9 _ a b)) w1 w2
def lR {a b:Int} (w1:a≠b->mH C F Pr fa all rest q (kJ e o (.bool true)) h) (w2:¬ (a≠b)->mH C F Pr fa all rest q (kJ e o (.bool false)) h) {t u:Nat} {x y:Operand} {k k':IntKind} (ho:o.op=.binOp .neq t x y u:=by rfl) (hw:kT all e o=some true:=by rfl) (hx:ky e x=.int k a:=by rfl) (hy:ky e y=.int k' b:=by rfl) (hk:pZ k k'=true:=by rfl):mH C F Pr fa all (o::rest) q e h:=oZ hw (λ_=>by rw [ho]; exact me hx hy hk (FH _ a b)) w1 w2
def u6 {a b:Int} (w1:a≠b->mz C F Pr fa all sch q (kJ e o (.bool true)) h) (w2:¬ (a≠b)->mz C F Pr fa all sch q (kJ e o (.bool false)) h) {t u:Nat} {x y:Operand} {k k':IntKind} (hi:all[i]?=some o:=by rfl) (ho:o.op=.binOp .neq t x y u:=by rfl) (hw:kT all e o=some true:=by rfl) (hx:ky e x=.int k a:=by rfl) (hy:ky e y=.int k' b:=by rfl) (hk:pZ k k'=true:=by rfl):mz C F Pr fa all ((i,[])::sch) q e h:=p9 hi hw (λ_=>by rw [ho]; exact me hx hy hk (FH _ a b)) w1 w2
def oC {f:Nat} {args:List AV} {R:AV->Prop} (w:∀ h:aT,∃ v,ka C F Pr false f args h v h/\R v) (next:∀ v,R v->mH C F Pr fa all rest q (kJ e o v) h) {g:Operand} {c:Call} (ho:o.op=.call c:=by rfl) (hw:kT all e o=some true:=by rfl) (hf:c.callee=.value g:=by rfl) (hg:ky e g=.kY f [] []:=by rfl) (ha:c.args.toList.map (ky e)=args:=by rfl) (hok:args.all AV.pq=true:=by rfl) (hs:fa.lh.elem f=false:=by rfl):mH C F Pr fa all (o::rest) q e h:=ML ho hw hf hg ha hok hs w next
def rC {f:Nat} {args:List AV} {R:AV->Prop} (w:∀ h:aT,∃ v,ka C F Pr false f args h v h/\R v) (next:∀ v,R v->mz C F Pr fa all sch q (kJ e o v) h) {g:Operand} {c:Call} (hi:all[i]?=some o:=by rfl) (ho:o.op=.call c:=by rfl) (hw:kT all e o=some true:=by rfl) (hf:c.callee=.value g:=by rfl) (hg:ky e g=.kY f [] []:=by rfl) (ha:c.args.toList.map (ky e)=args:=by rfl) (hok:args.all AV.pq=true:=by rfl) (hs:fa.lh.elem f=false:=by rfl):mz C F Pr fa all ((i,[])::sch) q e h:=Mw hi hw ho hf hg ha hok hs w next
def wa {c:Code} (E:Env) (H:aT) (L:mW) (w:Wp C F Pr fa c an Q E { H with cH:=L }) (he:e=E:=by rfl) (hh:h = { H with cH:=L }:=by rfl):Wp C F Pr fa c an Q e h:=FX he hh w
end
def Row.lk {α:Type} (r:Row α):r.l.length<=9223372036854775807:=r.ok
def jS.lk {α:Type} (r:jS α):r.l.length<=9223372036854775807:=r.ok
def pv.lk (r:pv):r.l.length<=9223372036854775807:=r.ok
abbrev iv (n:Int):AV:=.int .i64 n
theorem FZ:(∀ sn hp n k a,freeze sn hp (n+1) (.int k a)=some (.int k a))/\(∀ sn hp n b,freeze sn hp (n+1) (.bool b)=some (.bool b))/\(∀ sn hp n s,freeze sn hp (n+1) (.str s)=some (.str s)) /\
  (∀ (α:Type) (enc : α->List AV) hp n r,freeze true hp (n+1) (jS.av enc r)=some (jS.av enc r))/\(∀ (α:Type) (enc : α->List AV) sn hp n r,freeze sn hp (n+1) (Row.av enc r)=some (Row.av enc r)) /\
  (∀ hp n c o s,freeze true hp (n+1) (.ip c o s)=some (.ip c o s))/\(∀ sn hp n c o,freeze sn hp (n+1) (.ip c o false)=some (.ip c o false))/\(∀ hp n c s,freeze true hp (n+1) (.fm c s)=some (.fm c s))/\(∀ sn hp n c,freeze sn hp (n+1) (.fm c false)=some (.fm c false)) /\
  (∀ sn hp n,freeze sn hp (n+1) (.sl [] .nil)=some (.sl [] .nil))/\(∀ sn hp n,freeze sn hp (n+1) .mn=some .mn)/\(∀ sn hp n,freeze sn hp (n+1) .mD=some .mD)/\(∀ sn hp n m xs,freeze sn hp (n+1) (.sl xs (.exact m))=some (.sl xs (.exact m))) /\
  (∀ sn hp n l,freeze sn hp (n+1) (.agg l)=(match kG (freeze sn hp n) l with
    | some l=>some (.agg l)
    | none=>none))/\(∀ sn hp n l,freeze sn hp (n+1) (.kq l)=(match kG (freeze sn hp n) l with
    | some l=>some (.kq l)
    | none=>none))/\(∀ x:jT,x.ag=[.int .i64 x.elem,.int .i64 x.en])/\(∀ x:lI,x.ag=[.int .i64 x.elem,.int .i64 x.pos])/\(∀ x:lX,x.ag=[.int .i64 x.out,.int .i64 x.pos])/\(∀ x:kL,x.ag=[.int .i64 x.elem,.int .i64 x.qv,.int .i64 x.out])/\(∀ x:lV,x.ag=[.str x.name.l,.int .i64 x.kind,.int .i64 x.len])/\(∀ x:lU,x.ag=[.bool x.xW,.int .i64 x.at_,.int .i64 x.end_,.int .i64 x.to]) /\
  (∀ x:kz,x.ag=[.int .i64 x.from_,.int .i64 x.to,.int .i64 x.end_,x.steps.av kL.ag,x.nm.av lI.ag,x.guards.av lI.ag,x.nr.av j6,x.holds.av j6,.bool x.bare])/\(∀ x:tZ,x.ag=[.int .i64 x.from_,.int .i64 x.to,.int .i64 x.end_,x.steps.av kL.ag,x.nm.av lI.ag,x.guards.av lI.ag,x.nr.av j6,x.holds.av j6,.bool x.bare]) /\
  (∀ x:pP,x.ag=[.int .i64 x.wj,x.steps.av kL.ag,x.pos.av j6,x.left.av (nZ lX.ag)])/\(∀ p:iF,p.ag=[p.elems.av lV.ag,p.kg.av lQ.ag,p.signals.av lP.ag,p.lines.av lr.ag,.int .i64 p.top,.int .i64 p.kU,.int .i64 p.kK,.int .i64 p.kM,.bool p.lq])/\(∀ x:j5,x.ag=x.dO.ag++[x.roads.av kz.ag]) /\
  (∀ x:kr,x.ag=[.int .i64 x.mode,x.lJ.av jT.ag,.int .i64 x.left,.int .i64 x.wG,.int .i64 x.v])/\(∀ x:jY,x.ag=[.str x.name.l,.int .i64 x.j3,.int .i64 x.at_.elem,.int .i64 x.at_.en,.int .i64 x.left])/\(∀ x:lr,x.ag=[.str x.name.l,x.elems.av j6])/\(∀ x:lj,x.ag=[.str x.name.l,.int .i64 x.j3,.int .i64 x.from_,.int .i64 x.left,x.kH.av lU.ag])/\(∀ x:jV,x.ag=[.int .i64 x.mR,x.j3.av j4.ag,x.runs.av lj.ag]) /\
  (∀ (f:AV->Option AV),kG f []=some [])/\(∀ (f:AV->Option AV) v l,kG f (v::l)=(match f v with
    | none=>none
    | some w=>match kG f l with
      | none=>none
      | some l'=>some (w::l')))/\(∀ (a b:List AV) v,(v::a)++b=v::(a++b))/\(∀ b:List AV,[]++b=b):=by
 refine ⟨λ_ _ _ _ _=>rfl,λ_ _ _ _=>rfl,λ_ _ _ _=>rfl,λ_ _ _ _ r=>Ek r,λ_ _ _ _ _ r=>nf r,λ_ _ _ _ _=>FM _ _ _,λ_ _ _ _ _=>Pq _ _,λ_ _ _ _=>FA _ _,λ_ _ _ _=>Pm _,λ_ _ _=>rfl,λ_ _ _=>rfl,λ_ _ _=>rfl,λ_ _ _ _ _=>rfl,λ_ _ _ _=>rfl,λ_ _ _ _=>rfl,?_⟩
 exact ⟨λ_=>rfl,λ_=>rfl,λ_=>rfl,λ_=>rfl,λ_=>rfl,λ_=>rfl,λ_=>rfl,λ_=>rfl,λ_=>rfl,λ_=>rfl,λ_=>rfl,λ_=>rfl,λ_=>rfl,λ_=>rfl,λ_=>rfl,λ_=>rfl,λ_=>rfl,λ_ _ _=>rfl,λ_ _ _=>rfl,λ_=>rfl⟩
end Go.Sx
namespace Go.Sx
open Go
def OQ (amb:Bool) (a b:Option jT) (to:Int):Option jT:=match a,b with
 | some _,none=>some ⟨to,1⟩
 | none,some _=>some ⟨to,0⟩
 | _,_=>if amb=true then some ⟨to,-1⟩ else none
def vy (amb:Bool) (A:Int->Option jT) (N:jT->Option jT) (l:lU):Option jT:=if l.end_=1 then A l.to else if l.end_=3 then OQ amb (N ⟨l.to,0⟩) (N ⟨l.to,1⟩) l.to else none
def Bl (amb:Bool) (A:Int->Option jT) (N:jT->Option jT) (r:lj) (leg:Int):Option jT:=if leg=0 then A r.from_ else match r.kH.l[(leg - 1).toNat]? with
 | none=>none
 | some l=>vy amb A N l
def pd (amb:Bool) (A:Int->Option jT) (N:jT->Option jT) (d:jV) (run leg:Int):Option jT:=if run<0 then none else match d.runs.l[run.toNat]? with
 | none=>none
 | some r=>if leg<0\/leg > r.kH.l.length then none else Bl amb A N r leg
section
variable {amb:Bool} {A:Int->Option jT} {N:jT->Option jT} {d:jV} {run leg:Int} {x:lj} {y:lU}
theorem uB (h:run<0\/run>=d.runs.l.length):pd amb A N d run leg=none:=by
 grind [pd]
theorem y6 (h0:0<=run) (hx:run.toNat<d.runs.l.length) (hq:d.runs.l[run.toNat]=x):pd amb A N d run leg=if leg<0\/leg > x.kH.l.length then none else Bl amb A N x leg:=by
 grind [pd]
theorem ux (h0:0<=run) (hx:run.toNat<d.runs.l.length) (hq:d.runs.l[run.toNat]=x) (h:leg<0\/leg > x.kH.l.length):pd amb A N d run leg=none:=by
 grind [y6]
def PN {hx:run.toNat<d.runs.l.length} (hq:d.runs.l[run.toNat]=x) (h:leg<(x.kH.l.length:Int)):∀ h:run.toNat<d.runs.l.length,leg<((d.runs.l[run.toNat]).kH.l.length:Int):=by
 grind
def Cf (h:leg<0):pd amb A N d run leg=none:=by
 grind [pd]
theorem DF (h0:0<=run) (hx:run.toNat<d.runs.l.length) (hq:d.runs.l[run.toNat]=x) (h:leg=0):pd amb A N d run leg=A x.from_:=by
 rw [y6 h0 hx hq,if_neg (by omega),Bl,if_pos h]
theorem Es (h0:0<=run) (hx:run.toNat<d.runs.l.length) (hq:d.runs.l[run.toNat]=x) (h1:0<leg) (h2:leg<=x.kH.l.length) (hy:(leg - 1).toNat<x.kH.l.length) (hz:x.kH.l[(leg - 1).toNat]=y):pd amb A N d run leg=vy amb A N y:=by
 rw [y6 h0 hx hq,if_neg (by omega),Bl,if_neg (by omega),List.getElem?_eq_getElem hy,hz]
theorem Fm (h:y.end_=1):vy amb A N y=A y.to:=by grind [vy]
theorem Fo (h:¬ y.end_=1) (h3:y.end_=3):vy amb A N y=OQ amb (N ⟨y.to,0⟩) (N ⟨y.to,1⟩) y.to:=by grind [vy]
theorem Fq (h:¬ y.end_=1) (h3:¬ y.end_=3):vy amb A N y=none:=by grind [vy]
end
def Cz (amb:Bool) (K:Int->Int) (R:jT->Int) (h:jT) (l:lU):Int:=if l.xW=true then if K h.elem=1 then R ⟨h.elem,IntKind.i64.wrap (1 - h.en)⟩ else -1 else R h
def rh (amb:Bool) (A:Int->Option jT) (N:jT->Option jT) (K:Int->Int) (R:jT->Int) (d:jV) (run leg:Int):Int:=match pd amb A N d run leg with
 | none=>-1
 | some h=>if amb=true/\h.en<0 then -1 else match d.runs.l[run.toNat]? with
   | none=>-1
   | some r=>match r.kH.l[leg.toNat]? with
     | none=>-1
     | some l=>Cz amb K R h l
def Fg (d:jV) (run leg:Int):Prop:=run<0\/run>=d.runs.l.length\/leg<0\/∃ h:run.toNat<d.runs.l.length,leg > ((d.runs.l[run.toNat]).kH.l.length:Int)
section
variable {amb:Bool} {A:Int->Option jT} {N:jT->Option jT} {K:Int->Int} {R:jT->Int} {d:jV} {run leg:Int} {x:lj} {y:lU} {h:jT}
theorem sS (hh:pd amb A N d run leg=none):rh amb A N K R d run leg = -1:=by rw [rh,hh]
def KO (hl:Fg d run leg):pd amb A N d run leg=none:=by
 by_cases h0:run<0\/run>=d.runs.l.length
 ·exact uB h0
 ·have hx:run.toNat<d.runs.l.length:=by omega
  refine ux (by omega) hx rfl ?_
  rcases hl with hl | hl | hl | ⟨_,hl⟩<;>grind
def J9 (hh:pd true A N d run leg=some h) (hn:h.en<0):rh true A N K R d run leg = -1:=by grind [rh]
def Cg (hx:run.toNat<d.runs.l.length) (hq:d.runs.l[run.toNat]=x) (hl:leg>=x.kH.l.length):rh amb A N K R d run leg = -1:=by
 grind [rh]
theorem AO (hh:pd amb A N d run leg=some h) (hn:amb=false\/¬ h.en<0) (hx:run.toNat<d.runs.l.length) (hq:d.runs.l[run.toNat]=x) (hy:leg.toNat<x.kH.l.length) (hz:x.kH.l[leg.toNat]=y):rh amb A N K R d run leg=Cz amb K R h y:=by
 grind [rh]
end
def xf (b:kr):Option jT:=b.lJ.l[((b.lJ.l.length:Int) - 1).toNat]?
def HB {b:kr} (h:b.lJ.l.length=0):xf b=none:=by
 grind [xf]
def JY {b:kr} {x:jT} (hx:((b.lJ.l.length:Int) - 1).toNat<b.lJ.l.length) (hq:b.lJ.l[((b.lJ.l.length:Int) - 1).toNat]=x):xf b=some x:=by
 unfold xf; rw [List.getElem?_eq_getElem hx,hq]
end Go.Sx
namespace Go.Sx
open Go
section
variable {C:lW} {F:nd} {Pr:mO}
theorem ka.FJ {shd:Bool} {f:Nat} {args:List AV} {h h1 h2:aT} {v1 v2:AV} (a:ka C F Pr shd f args h v1 h1) (b:ka C F Pr shd f args h v2 h2):v1=v2/\h1=h2:=by
 obtain ⟨m,ha⟩:=a
 obtain ⟨n,hb⟩:=b
 have:=(ha (m+n) (by omega)).symm.trans (hb (m+n) (by omega))
 grind
def yn (Pr:mO):Prop:=∀ f p,Pr f=some p->∀ (args:List AV) (h:aT) (v:AV) (h':aT),p false args h=some (v,h')->h'=h/\∀ h2:aT,(∀ b o,h.get b=some o->h2.get b=some o)->p false args h2=some (v,h2)
def AE (T:yn Pr) (n:Nat):re (nM C F Pr n):=by
 intro f args h v h' hc
 cases n with
 | zero=>cases hc
 | succ n =>
   simp only [nM] at hc
   cases hp:Pr f with
   | some p =>
     rw [hp] at hc
     obtain ⟨k1,k2⟩:=T f p hp _ _ _ _ hc
     grind [nM]
   | none =>
     grind [Ci,nM]
open Classical in
noncomputable def res (C:lW) (F:nd) (Pr:mO) (f:Nat) (args:List AV):AV :=
 if H:∃ v,ka C F Pr false f args aT.empty v aT.empty then Classical.choose H else .undef
theorem ka.at (T:yn Pr) {f:Nat} {args:List AV} {v:AV} (h:aT) (hc:ka C F Pr false f args aT.empty v aT.empty):ka C F Pr false f args h v h:=by
 obtain ⟨m,hm⟩:=hc
 refine ⟨m,λk hk=>(AE T k f args aT.empty v _ (hm k hk)).2 h ?_⟩
 intro b o hb
 have:aT.empty.get b=none:=by
  rfl
 grind
def Qn (T:yn Pr) {f:Nat} {args:List AV} {R:AV->Prop} (w:∀ h:aT,∃ v,ka C F Pr false f args h v h/\R v) {h:aT} {v:AV} (hc:ka C F Pr false f args h v h):res C F Pr f args=v:=by
 obtain ⟨v0,h0,_⟩:=w aT.empty
 have H:∃ v,ka C F Pr false f args aT.empty v aT.empty:=⟨v0,h0⟩
 have e:res C F Pr f args=Classical.choose H:=dif_pos H
 rw [e]
 exact ((Classical.choose_spec H).at T h).FJ hc |>.1
def nC (T:yn Pr) {f:Nat} {args:List AV} {R:AV->Prop} (w:∀ h:aT,∃ v,ka C F Pr false f args h v h/\R v) (h:aT):∃ v,ka C F Pr false f args h v h/\R v/\res C F Pr f args=v:=by
 obtain ⟨v,hc,hR⟩:=w h
 exact ⟨v,hc,hR,Qn T w hc⟩
end
def yC:pb->pb
 | .exact _=>.oH
 | c=>c
mutual
def um:AV->AV
 | .sl xs c=>.sl (uc xs) (yC c)
 | .agg l=>.agg (uk l)
 | v=>v
def uk:List AV->List AV
 | []=>[]
 | v::l=>um v::uk l
def uc:List (List AV)->List (List AV)
 | []=>[]
 | x::l=>uk x::uc l
end
theorem wU:∀ (l:List AV) (i:Nat),(uk l)[i]?=(l[i]?).map um
 | [],i=>by rfl
 | v::l,0=>by rfl
 | v::l,i+1=>by simp [uk,wU l i]
theorem zo:∀ (l:List AV),(uk l).length=l.length
 | []=>rfl
 | v::l=>by simp [uk,zo l]
theorem Ej:∀ (l:List (List AV)) (i:Nat),(uc l)[i]?=(l[i]?).map uk
 | [],i=>by rfl
 | v::l,0=>by rfl
 | v::l,i+1=>by simp [uc,Ej l i]
theorem xF:∀ (l:List (List AV)),(uc l).length=l.length
 | []=>rfl
 | v::l=>by simp [uc,xF l]
theorem Fe {c:pb} {n m:Nat} (h:qf c n m) (hle:n<=m):qf (yC c) n m:=by
 cases c<;>first | exact h | exact hle
def PR.wk {w:World} {T:Bool->Nat->Prop} {m:Bool} {v:AV} {u:Value} (h:PR w T m v u):PR w T m (um v) u:=by
 induction h with
 | undef m v h=>exact .undef m v h
 | bool m b=>exact .bool m b
 | int m k n=>exact .int m k n
 | str m s b h=>exact .str m s b h
 | mn m=>exact .mn m
 | ip m cells off sn B base c e fr f hm hB hI hc h1 hr=>exact .ip m cells off sn B base c e fr f hm hB hI hc h1 hr
 | slnil m=>exact .slnil m
 | px m cap a c hm h=>exact .px m (yC cap) a c (by rw [show qZ (yC cap)=qZ cap from by cases cap<;>rfl]; exact hm) (Fe h (Nat.zero_le _))
 | sl m xs cap B base c e fr cap' esz f hm hB hI hcap hle hz hc h1 hr ih =>
   have hs:qZ (yC cap)=qZ cap:=by cases cap<;>rfl
   have ex:∀ (i:Nat) (cs:List AV),(uc xs)[i]?=some cs->∃ cs0,xs[i]?=some cs0/\cs=uk cs0:=by
    grind [Ej]
   have ex2:∀ (cs0:List AV) (j:Nat) (x:AV),(uk cs0)[j]?=some x->∃ x0,cs0[j]?=some x0/\x=um x0:=by
    grind [wU]
   have key:=PR.sl (w:=w) (T:=T) m (uc xs) (yC cap) B base c e fr cap' esz f (by grind) hB (by grind) (by grind [xF,Fe]) (by grind [xF])
    (by grind [zo])
    (by grind)
    (by grind)
    (by grind)
   rw [xF] at key
   exact key
 | mD m=>exact .mD m
 | fm m es sn r ents clk hm hB hI hl hy hko hk hv=>exact .fm m es sn r ents clk hm hB hI hl hy hko hk hv
 | nL m=>exact .nL m
 | kY m g a c a' c' ha hc hra hrc=>exact .kY m g a c a' c' ha hc hra hrc
 | agg m l vs hl h1 hr ih =>
   refine .agg m (uk l) vs (by grind [zo]) h1 ?_
   grind [wU]
def O7 {v:AV} (h:v.mG=true):(um v).mG=true:=by
 cases v<;>first | exact h | (simp [AV.mG] at h)
def VR.wk {G:Ga} {v:AV} {u:Value} (h:VR G v u):VR G (um v) u:=by
 induction h with
 | undef v=>exact .undef v
 | lD hp h=>exact .lD (O7 hp) h.wk
 | ptr b g i o a hb hg h=>exact .ptr b g i o a hb hg h
 | hs b g off len a cap' hb hg hle h=>exact .hs b g off len a cap' hb hg hle h
 | hm b r hb h=>exact .hm b r hb h
 | la d o B hd=>exact .la d o B hd
 | kY g a c a' c' ha hc hna hnc hra hrc=>exact .kY g a c a' c' ha hc hna hnc hra hrc
 | agg l vs hl hn h1 hr ih =>
   refine .agg (uk l) vs (by grind [zo]) ?_ h1 ?_
   ·intro x hx
    obtain ⟨i,hi⟩:=List.getElem?_of_mem hx
    rw [wU] at hi
    obtain ⟨x0,g1,rfl⟩:=Option.map_eq_some_iff.mp hi
    have:=hn x0 (List.mem_of_getElem? g1)
    cases x0<;>first | exact this | rfl
   grind [wU]
 | kq l vs hl hr=>exact .kq l vs hl hr
open Classical in
noncomputable def tE (C:lW) (F:nd) (Pr:mO) (f:Nat) (shd:Bool) (args:List AV) (h:aT):Option (AV×aT):=match shd with
 | true=>none
 | false=>if H:∃ v,ka C F Pr false f args h v h then some (um (Classical.choose H),h) else none
theorem xV {C:lW} {F:nd} {Pr:mO} {f:Nat} {args:List AV} {h:aT} {v:AV} (hc:ka C F Pr false f args h v h):tE C F Pr f false args h=some (um v,h):=by
 have H:∃ v,ka C F Pr false f args h v h:=⟨v,hc⟩
 have e:tE C F Pr f false args h=some (um (Classical.choose H),h):=dif_pos H
 rw [e,((Classical.choose_spec H).FJ hc).1]
def Dg {C:lW} {F:nd} {Pr:mO} (T:yn Pr) (f:Nat):∀ (args:List AV) (h:aT) (v:AV) (h':aT),tE C F Pr f false args h=some (v,h')->h'=h/\∀ h2:aT,(∀ b o,h.get b=some o->h2.get b=some o)->tE C F Pr f false args h2=some (v,h2):=by
 intro args h v h' hc
 by_cases H:∃ v,ka C F Pr false f args h v h
 ·obtain ⟨v0,hv0⟩:=H
  rw [xV hv0] at hc
  cases hc
  refine ⟨rfl,λh2 E=>?_⟩
  obtain ⟨m,hm⟩:=hv0
  have:ka C F Pr false f args h2 v0 h2:=⟨m,λk hk=>(AE T k f args h v0 h (hm k hk)).2 h2 E⟩
  exact xV this
 grind [tE]
def JZ (args0:List AV) (v0:AV):∀ (args:List AV) (h:aT) (v:AV) (h':aT),ur args0 v0 false args h=some (v,h')->h'=h/\∀ h2:aT,(∀ b o,h.get b=some o->h2.get b=some o)->ur args0 v0 false args h2=some (v,h2):=by
 grind [ur]
def Pv {P:Program} {C:lW} {F:nd} {Pr:mO} (T:sF P C F Pr):yn Pr:=λf p hp=>(T.CH f p hp).Fv
def EG {P:Program} {C:lW} {F:nd} {Pr:mO} (T:sF P C F Pr) (f:Nat):sQ P f (tE C F Pr f) where
 call:=by
  intro shd args h v h' hc
  cases shd with
  | true=>cases hc
  | false =>
    by_cases H:∃ v,ka C F Pr false f args h v h
    ·obtain ⟨v0,hv0⟩:=H
     rw [xV hv0] at hc
     cases hc
     obtain ⟨m,hm⟩:=hv0
     have hk:=wo T m false f args h v0 h (hm m (Nat.le_refl _))
     intro G args' e1 e2 e3 e4 e5 e6
     obtain ⟨k1,k2⟩:=hk G args' e1 e2 e3 e4 e5 e6
     exact ⟨k1,λR hR=>k2 R λu G' s1 s2 s3 s4=>hR u G' s1 s2 s3 λm L=>(s4 m L).wk⟩
    grind [tE]
 Fv:=Dg (Pv T) f
def KG {n:Nat} {h h':aT} {s v':AV} {ys:List (List AV)} (ha:append n h s ys=some (v',h')) (hs:s≠.sl [] .nil):v'≠.sl [] .nil:=by
 unfold append at ha
 split at ha
 ·grind
 ·split at ha
  ·cases ha
  ·split at ha<;>grind [sG,pk,Bw]
section
variable {C:lW} {F:nd} {Pr:mO} {fa:kb} {e:Env} {α:Type} {enc : α->List AV} {H:aT} {L:List lC} {i:Nat} {w tt:Bool} {v:AV} {n:Nat} {l:List α} {ls:mW}
def vd {cl:Call} {s x:Operand} {t u:Nat} {ti:TI} {d:Option Nat} (ys:List α) (hS:Sep H L) (hi:L[i]?=some (.sl w tt v n (l.map enc))) (hc:cl.callee=.builtin .append) (ha:cl.args.toList=[s,x]) (hts:cl.argTypes.toList=[t,u]) (hT:rG C [t,u]=some ti) (hSr:BO C [t,u]=true) (hn:ti.size=n)
  (hs:ky e s=v) (hx:pT { H with cH:=ls } (ky e x)=some (ys.map enc)) (hok:∀ y,(enc y).all AV.mC=true) (ht:tt=true\/ys.length=1) (hm:l.length+ys.length<=sj) (henc:∀ x,(enc x).length=n) :
  ∃ v' H',(∀ call,lB (.call cl) ⟨C,fa,call⟩ e { H with cH:=ls } d=some (v',{ H' with cH:=ls }))/\Sep H' (L.set i (.sl w tt v' n ((l++ys).map enc)))/\(v≠.sl [] .nil->v'≠.sl [] .nil):=by
 obtain ⟨v',H',h1,h2⟩:=DH (ls:=ls) (ys:=ys.map enc) hS hi (by grind) (by grind) (by grind)
 refine ⟨v',H',λcall=>?_,by grind,KG h1⟩
 have hall:zF (ys.map enc)=true:=by
  grind [zF]
 simp only [lB,qx,pY,hc,ha,hts,oi,Aw,s7,List.map_cons,List.map_nil,hT,hSr,hn,hs,hx,hall,h1]
def ve (hS:Sep H L) (hi:L[i]?=some (.sl w tt v n (l.map enc))) (hl:l.length<=ry):∃ r:Row α,r.l=l/\(r.c=.nil↔v=.sl [] .nil)/\∀ ls m,(∀ x,kG (freeze false { H with cH:=ls } m) (enc x)=some (enc x))->freeze false { H with cH:=ls } (m+1) v=some (r.av enc):=by
 obtain ⟨hxl,⟨h0,rfl⟩ | ⟨_,rfl⟩ | ⟨b,g,j,hb,rfl,hg,htj⟩⟩:=hS.at hi
 ·have:l=[]:=List.map_eq_nil_iff.mp h0
  subst this
  exact ⟨⟨[],.nil,Nat.zero_le _,rfl,λ_=>rfl⟩,rfl,⟨λ_=>rfl,λ_=>rfl⟩,λ_ _ _=>rfl⟩
 ·exact ⟨⟨l,.exact (l.map enc).length,hl,rfl,λh=>by cases h⟩,rfl,⟨λh=>(by cases h),λh=>(AV.sl.inj h).2⟩,λ_ _ _=>rfl⟩
 ·refine ⟨⟨l,.oH,hl,rfl,λh=>by cases h⟩,rfl,⟨λh=>(by cases h),λh=>(by cases h)⟩,λls m hm=>?_⟩
  have h2:Nat.ble (0+(l.map enc).length) (l.map enc++j).length=true:=Nat.ble_eq.mpr (by simp)
  have h3:((l.map enc++j).drop 0).take (l.map enc).length=l.map enc:=by simp
  have h5:∀ ys:List (List AV),(∀ x∈ys,kG (freeze false { H with cH:=ls } m) x=some x)->oX (freeze false { H with cH:=ls } m) ys=some ys:=by
   intro ys
   induction ys<;>grind [oX]
  simp only [freeze,aT.mU,hg,Nat.beq_refl,h2,Bool.and_self,h3,h5 (l.map enc) (by grind),xD]
  rfl
end
def jS.zB {α:Type} {r:jS α}:r.isNil=true↔r.c=.nil:=by
 grind [jS.isNil]
def JI {X:Ctx} {e:Env} {h:aT} {d:Option Nat} {t u:Nat} {x y:Operand} {ti:TI} {cs:List AV} (hx:ky e x=.agg cs) (hy:ky e y=.agg cs) (hT:X.C.T t=some ti) (hf:vX ti (.agg cs) (.agg cs)=some true) :
  lB (.binOp .eql t x y u) X e h d=some (.bool true,h)/\lB (.binOp .neq t x y u) X e h d=some (.bool false,h):=by
 simp_all [lB,xK,binOp,AV.int?,AV.str?,yY,mA,tz]
def K0 {X:Ctx} {e:Env} {h:aT} {d:Option Nat} {t u:Nat} {x y:Operand} {ti:TI} {cs:List AV} (hx:ky e x=.agg cs) (hy:ky e y=.agg cs) (hT:X.C.T t=some ti) (hf:vX ti (.agg cs) (.agg cs)=nR cs cs) (hs:nR cs cs=some true):lB (.binOp .neq t x y u) X e h d=some (.bool false,h):=(JI hx hy hT (hf.trans hs)).2
theorem wF.trans {α:Type} {a b c:Row α} (h:wF a b) (g:wF b c):wF a c:=⟨h.1.trans g.1,h.2.trans g.2⟩
theorem tC.trans {a b c:lr} (h:tC a b) (g:tC b c):tC a c:=⟨h.1.trans g.1,h.2.trans g.2⟩
def JU {l m:List lr} (h:∀ (i:Nat) (h:i<l.length) (h2:i<m.length),tC l[i] m[i]) {k:Nat} {x x':lr} (hk:k<l.length) (hq:l[k]=x) (hx:tC x' x) :
  ∀ (i:Nat) (h:i<(l.set k x').length) (h2:i<m.length),tC (l.set k x')[i] m[i]:=by
 intro i hi h2
 rw [List.getElem_set]
 split
 ·rename_i e
  subst e
  exact hx.trans (by grind)
 grind
def Gz (r p:iF):Prop:=wF r.elems p.elems/\wF r.kg p.kg/\wF r.signals p.signals/\(r.lines.c=.nil↔p.lines.c=.nil)/\r.lines.l.length=p.lines.l.length/\(∀ (i:Nat) (h:i<r.lines.l.length) (h2:i<p.lines.l.length),tC r.lines.l[i] p.lines.l[i])/\r.top=p.top/\r.kU=p.kU/\r.kK=p.kK/\r.kM=p.kM/\r.lq=p.lq
theorem JV {α:Type} {r s:Row α} (h:r.c=.nil↔s.c=.nil):yC r.c=BG s.c:=by
 have h1:=r.sn
 cases hr:r.c<;>cases hs:s.c<;>simp_all [yC,BG,qW]
theorem C4 {α:Type} {enc : α->List AV} (h:∀ x : α,uk (enc x)=enc x):∀ l:List α,uc (l.map enc)=l.map enc
 | []=>rfl
 | x::l=>by simp only [List.map_cons,uc,h,C4 h l]
theorem Bj {α:Type} {enc : α->List AV} {r s:Row α} (h:wF r s) (he:∀ x : α,uk (enc x)=enc x):um (r.av enc)=s.canon.av enc:=by
 simp only [Row.av,um,Row.canon,C4 he,h.1,JV h.2]
theorem A6:∀ {l m:List lr},l.length=m.length->(∀ (i:Nat) (h:i<l.length) (h2:i<m.length),tC l[i] m[i])->uc (l.map lr.ag)=(m.map lr.canon).map lr.ag
 | [],[],_,_=>rfl
 | [],_::_,h,_=>by simp at h
 | _::_,[],h,_=>by simp at h
 | x::l,y::m,hl,h=>by
   obtain ⟨h1,h2⟩:=h 0 (by simp) (by simp)
   simp only [List.getElem_cons_zero] at h1 h2
   have ih:=A6 (l:=l) (m:=m) (by simpa using hl) λi h3 h4=>by
    have:=h (i+1) (by simpa using h3) (by simpa using h4)
    simpa using this
   simp only [List.map_cons,uc,ih]
   congr 1
   simp only [lr.ag,lr.canon,uk,Bj h2 (enc:=j6) (λx=>rfl),h1]
   rfl
theorem FB {r p:iF} (h:Gz r p):um (.agg r.ag)=.agg p.canon.ag:=by
 obtain ⟨h1,h2,h3,h4,h5,h6,h7,h8,h9,h10,h11⟩:=h
 have hl:um (r.lines.av lr.ag)=(p.lines.xP lr.canon).canon.av lr.ag:=by
  simp only [Row.av,um,A6 h5 h6,Row.canon,Row.xP,JV h4]
 simp only [iF.ag,um,uk,iF.canon,Bj h1 (enc:=lV.ag) (λx=>rfl),Bj h2 (enc:=lQ.ag) (λx=>rfl),Bj h3 (enc:=lP.ag) (λx=>rfl),hl,h7,h8,h9,h10,h11]
def Gw {C:lW} {F:nd} {Pr Pr2:mO} {f:Nat} {args:List AV} {h:aT} {v:AV} (hp:Pr2 f=some (tE C F Pr f)) (hc:ka C F Pr false f args h v h):ka C F Pr2 false f args h (um v) h:=by
 refine ⟨1,λk hk=>?_⟩
 cases k<;>grind [nM,xV]
def OF:AV->Bool
 | .int _ _ | .str _ | .bool _=>true
 | _=>false
theorem Cd:∀ {cs:List AV},cs.all OF=true->nR cs cs=some true
 | [],_=>rfl
 | c::cs,h=>by
   simp only [List.all_cons,Bool.and_eq_true] at h
   have hc:og c c=some true:=by
    cases c with
    | int k n =>
      show (match pZ k k with | true=>some (CW n n) | false=>none)=some true
      rw [(rJ k k).mpr rfl]
      simp [qV]
    | str s =>
      show some (s==s)=some true
      simp
    | bool b=>cases b<;>rfl
    | _=>simp [OF] at h
   simp only [nR,hc,Cd h.2]
section
variable {amb:Bool} {A:Int->Option jT} {N:jT->Option jT} {K:Int->Int} {R:jT->Int} {d:jV} {run leg:Int}
def Kr (hz:0<=rh amb A N K R d run leg):0<=run/\run<(d.runs.l.length:Int)/\0<=leg/\∀ h:run.toNat<d.runs.l.length,leg<((d.runs.l[run.toNat]).kH.l.length:Int):=by
 by_cases h0:run<0\/run>=d.runs.l.length
 ·grind [sS,uB]
 ·have hx:run.toNat<d.runs.l.length:=by omega
  by_cases h1:leg<0\/leg > (d.runs.l[run.toNat]).kH.l.length<;>grind [sS,ux,rh]
def Gk {r:Int} (h:r=rh amb A N K R d run leg):(0<=r->0<=run/\run<(d.runs.l.length:Int)/\0<=leg/\∀ h:run.toNat<d.runs.l.length,leg<((d.runs.l[run.toNat]).kH.l.length:Int))/\r=rh amb A N K R d run leg:=⟨λhz=>Kr (h▸hz),h⟩
end
def oM (p:iF) (t:List jT):List Int:=(t.filter λh=>qh p h.elem≠4).map (·.elem)
theorem E6 {α β:Type} {l:List α} {k:Nat} {x : α} (hk:k<l.length) (hq:l[k]=x) (p : α->Bool) (f : α->β):((l.take (k+1)).filter p).map f=((l.take k).filter p).map f++if p x then [f x] else []:=by
 rw [List.take_add_one,List.getElem?_eq_getElem hk,hq]
 grind
def LR {p:iF} {t:List jT} {l:List Int} {k:Nat} {x:jT} {n:Int} (hk:k<t.length) (hq:t[k]=x) (h:l=oM p (t.take k)) (hK:n=qh p x.elem) (hn:n≠4):l++[x.elem]=oM p (t.take (k+1)):=by
 subst hK
 unfold oM at h ⊢
 rw [E6 hk hq,<- h,if_pos (by grind)]
def Py {p:iF} {t:List jT} {l:List Int} {k:Nat} {x:jT} {n:Int} (hk:k<t.length) (hq:t[k]=x) (h:l=oM p (t.take k)) (hK:n=qh p x.elem) (hn:¬ n≠4):l=oM p (t.take (k+1)):=by
 subst hK
 unfold oM at h ⊢
 rw [E6 hk hq,<- h,if_neg (by grind),List.append_nil]
theorem NZ (p:iF) (t:List jT):(oM p t).length<=t.length:=by
 grind [oM]
def QP {X:Ctx} {e:Env} {h:aT} {d:Option Nat} {s t:Nat} {x:Operand} {ti ti2:TI} {n:Int} (hx:ky e x=.int .i64 n) (hS:X.C.T s=some ti) (hT:X.C.T t=some ti2) (hk:ti2.kind=.int .u64) (h0:0<=n) (h1:n<=9223372036854775807):lB (.convert s t x) X e h d=some (.int .u64 n,h):=by
 have hw:pt .u64 n=n:=by
  rw [qR]
  show (if (false&&decide (n % (2 ^ 64:Int)>=(2 ^ 63:Int)))=true then n % (2 ^ 64:Int) - (2 ^ 64:Int) else n % (2 ^ 64:Int))=n
  grind
 simp_all [lB,vm,sY,AV.int?,sB,pH,mA]
def NV {l:List lj} {k:Nat} {x:lj} {hk:k<l.length} (hq:l[k]=x) (h:∀ (i j:Nat) (h:j<l.length) (hij:i<j),j<k->(l[i]).name.l≠(l[j]).name.l) (hx:∀ y∈l.take k,¬ y.name.l=x.name.l) :
  ∀ (i j:Nat) (h:j<l.length) (hij:i<j),j<k+1->(l[i]).name.l≠(l[j]).name.l:=by
 intro i j hj hij h2
 rcases Nat.lt_succ_iff_lt_or_eq.mp h2 with h3 | h3
 ·grind
 ·subst h3
  rw [hq]
  exact hx _ (List.mem_take_iff_getElem.mpr ⟨i,by omega,rfl⟩)
def Am {α:Type} {P : α->Prop} {l:List α} {k:Nat} (h:∀ (i:Nat) (h:i<l.length),i<k->P (l[i])) (hk:l.length<=k):∀ x∈l,P x:=by
 intro x hx
 obtain ⟨i,hi,rfl⟩:=List.mem_iff_getElem.mp hx
 grind
def mr (p:iF) (d:jV) (i:Nat):jY:=match d.runs.l[i]? with
 | none=>⟨⟨[],by decide⟩,0,⟨0,0⟩,0⟩
 | some r =>
   let a:=(q8 p.signals.l r.from_).getD ⟨0,0⟩
   ⟨r.name,r.j3,a,if qh p a.elem=4 then 0 else r.left⟩
def JC {p:iF} {d:jV} {i:Int} {r:lj} {a:jT} {m:Int} (hi:i.toNat<d.runs.l.length) (hq:d.runs.l[i.toNat]=r) (ha:a=(q8 p.signals.l r.from_).getD ⟨0,0⟩) (hm:m=if qh p a.elem=4 then 0 else r.left):(⟨r.name,r.j3,a,m⟩:jY)=mr p d i.toNat:=by
 grind [mr]
structure Tk (L:Nat->List Int) (k:Nat) (m:List (Int×Bool)) (e:Int):Prop where
 look:∀ i,i<k->∀ x∈L i,look x m=some true
 val:∀ y∈m,y.2=true
 QE:e=0->∀ i j,i<j->j<k->∀ x∈L i,x∉L j
structure we (L:Nat->List Int) (k:Nat) (r:List Int) (m:List (Int×Bool)) (e:Int):Prop where
 tk:Tk L k m e
 HR:∀ x∈r,Go.Sx.look x m=some true
 P9:e=0->∀ i,i<k->∀ x∈L i,x∉r
def Tk.zero (L:Nat->List Int):Tk L 0 [] 0:=⟨λi h=>by omega,by simp,λ_ i j h1 h2=>by omega⟩
def Tk.start {L:Nat->List Int} {k:Nat} {m:List (Int×Bool)} {e:Int} (h:Tk L k m e) (r:List Int):we L k (r.take 0) m e:=⟨h,by simp,λ_ _ _ _ _=>by simp⟩
theorem vV {α:Type} {r:List α} {j:Nat} {x : α} (hj:j<r.length) (hq:r[j]=x):r.take (j+1)=r.take j++[x]:=by
 rw [List.take_add_one,List.getElem?_eq_getElem hj,hq]; rfl
def vE {m:List (Int×Bool)} {x y:Int} (h:look y m=some true):look y (put x true m)=some true:=by
 grind [tq]
def we.hit {L:Nat->List Int} {k:Nat} {r:List Int} {m:List (Int×Bool)} {e e':Int} {j:Nat} {x:Int} (h:we L k (r.take j) m e) (hj:j<r.length) (hq:r[j]=x) (he:e'≠0):we L k (r.take (j+1)) (put x true m) e':=by
 refine ⟨⟨λi hi y hy=>vE (h.tk.look i hi y hy),sw (P:=λy:Bool=>y=true) h.tk.val rfl,λh0=>absurd h0 he⟩,?_,λh0=>absurd h0 he⟩
 rw [vV hj hq]
 intro y hy
 rcases List.mem_append.mp hy with hy | hy
 ·exact vE (h.HR y hy)
 grind [tq]
def we.Y0 {L:Nat->List Int} {k:Nat} {r:List Int} {m:List (Int×Bool)} {e:Int} {j:Nat} {x:Int} (h:we L k (r.take j) m e) (hj:j<r.length) (hq:r[j]=x) (hn:look x m=none):we L k (r.take (j+1)) (put x true m) e:=by
 refine ⟨⟨λi hi y hy=>vE (h.tk.look i hi y hy),sw (P:=λy:Bool=>y=true) h.tk.val rfl,h.tk.QE⟩,?_,?_⟩
 ·rw [vV hj hq]
  intro y hy
  rcases List.mem_append.mp hy with hy | hy
  ·exact vE (h.HR y hy)
  grind [tq]
 ·intro h0 i hi y hy hm
  rw [vV hj hq] at hm
  rcases List.mem_append.mp hm with hm | hm
  ·exact h.P9 h0 i hi y hy hm
  ·simp at hm; subst hm
   rw [h.tk.look i hi y hy] at hn; cases hn
def we.done {L:Nat->List Int} {k:Nat} {r:List Int} {m:List (Int×Bool)} {e:Int} {j:Nat} (h:we L k (r.take j) m e) (hj:r.length<=j) (hr:r=L k):Tk L (k+1) m e:=by
 rw [List.take_of_length_le hj,hr] at h
 refine ⟨λi hi x hx=>?_,h.tk.val,λh0 i j2 hij hj2 x hx=>?_⟩
 ·rcases Nat.lt_succ_iff_lt_or_eq.mp hi with h1 | h1
  ·exact h.tk.look i h1 x hx
  ·subst h1; exact h.HR x hx
 ·rcases Nat.lt_succ_iff_lt_or_eq.mp hj2 with h1 | h1
  ·exact h.tk.QE h0 i j2 hij h1 x hx
  ·subst h1; exact h.P9 h0 i hij x hx
def ua (d:jV) (i:Nat):Int:=match d.runs.l[i]? with
 | none=>0
 | some r=>match d.j3.l[r.j3.toNat]? with
   | none=>0
   | some s=>s.len
def FF {d:jV} {k:Nat} {x:lj} {y:j4} (hk:k<d.runs.l.length) (hq:d.runs.l[k]=x) (hs:x.j3.toNat<d.j3.l.length) (hqs:d.j3.l[x.j3.toNat]=y):y.len=ua d k:=by
 grind [ua]
def Pu {Q:Nat->Prop} {k:Nat} (h:∀ i,i<k->Q i) (hk:Q k):∀ i,i<k+1->Q i:=by
 grind
def stQ {f:List AV->AV} {n:AV} {p:iF} {d:jV} {k:Nat} {len e:Int} {t:jY} {b:kr} (hs:f [n,.int .i64 len,.agg t.ag]=.kq [.agg b.ag,.int .i64 e]) (hl:len=ua d k) (ht:t=mr p d k) (he:¬ e≠0):∃ b:kr,f [n,.int .i64 (ua d k),.agg (mr p d k).ag]=.kq [.agg b.ag,.int .i64 0]:=by
 grind
structure lF where
 state:Int
 front:Int
 off:Bool
 seen:Row Bool
def lF.ag (x:lF):List AV:=[.int .i64 x.state,.int .i64 x.front,.bool x.off,x.seen.av mI]
def Sep.wu {H:aT} {L:List lC} {n k:Nat} {α:Type} {enc : α->List AV} {z : α} {w t:Bool} {v:AV} {c:List AV} (h:Sep H (.sl w t v n (List.replicate k c)::L)) (hz:c=enc z):Sep H (.sl w t v n (List.map enc (List.replicate k z))::L):=by
 simp_all
def uF (cs:List AV):Prop:=∀ c∈cs,∀ (hp:aT) (n:Nat),freeze false hp (n+2) c=some c
def uF.frz {cs:List AV} (h:uF cs) (hp:aT) (n:Nat):kG (freeze false hp (n+2)) cs=some cs:=by
 induction cs with
 | nil=>rfl
 | cons c cs ih =>
   simp only [kG,h c (by simp) hp n,ih λx hx=>h x (by simp [hx])]
def Ky {cs new:List AV} {o:Nat} (h:o+new.length<=cs.length):∃ cs',pe cs o new=some cs'/\cs'.length=cs.length/\(uF cs->uF new->uF cs'):=by
 refine ⟨cs.take o++new++cs.drop (o+new.length),?_,?_,?_⟩
 ·simp [pe,Nat.ble_eq.mpr h,qB]
 ·grind
 ·intro h1 h2 c hc
  rcases List.mem_append.mp hc with hc | hc
  ·rcases List.mem_append.mp hc with hc | hc
   ·exact h1 c (List.mem_of_mem_take hc)
   ·exact h2 c hc
  ·exact h1 c (List.mem_of_mem_drop hc)
def Qk {H:aT} {L:List lC} {i:Nat} {v:AV} {cs:List AV} {t el n k o:Nat} {x y:Operand} {X:Ctx} {e:Env} {d:Option Nat} {ti te:TI} {h:aT} (hS:Sep H L) (hi:L[i]?=some (.obj v cs)) (hT:X.C.T t=some ti) (hk:ti.kind=.array n el) (hE:X.C.T el=some te) (hx:ky e x=pg v o) (hy:ky e y=.int .i64 (k:Int)) (hn:k<n) :
  lB (.indexAddr t x y) X e h d=some (pg v (o+k*te.size),h):=by
 obtain ⟨b,z,hb,rfl,hg⟩:=hS.at hi
 have hai:qy (.int .i64 (k:Int))=some k:=rfl
 have hlt:Nat.blt k n=true:=by simp_all
 simp only [lB,qU,qj,hT,hk,hE,hx,hy,hai,hlt,pg,Ap,Bk,pk,mA]
def Wl:AV->Bool
 | .int _ _ | .bool _ | .ip _ _ false=>true
 | _=>false
def uF.of {cs:List AV} (h:cs.all Wl=true):uF cs:=by
 intro c hc hp n
 have:=List.all_eq_true.mp h c hc
 unfold Wl at this
 grind [freeze]
def I5 {l:List jY} {k:Nat} {x:jY} (h2:∀ (i j:Nat) (h:j<l.length) (hij:i<j),(l[i]).name.l≠(l[j]).name.l) (hk:k<l.length) (hq:l[k]=x) (h:∃ y∈l.take k,y.name.l=x.name.l):False:=by
 obtain ⟨y,hy,he⟩:=h
 obtain ⟨i,hi,rfl⟩:=List.mem_take_iff_getElem.mp hy
 grind
def LT (tr:List jY) (p:iF) (i:Nat):List Int:=match tr[i]? with
 | none=>[]
 | some t=>oM p [t.at_]
def TZ {l:List kr} {tr:List jY} {k:Nat} {b:kr} {x:jY} (h:∀ (i:Nat) (h:i<l.length) (h2:i<tr.length),(l[i]).lJ.l=[(tr[i]).at_]) (hl:l.length=k) (hk:k<tr.length) (hq:tr[k]=x) (hb:b.lJ.l=[x.at_]) :
  ∀ (i:Nat) (h:i<(l++[b]).length) (h2:i<tr.length),((l++[b])[i]).lJ.l=[(tr[i]).at_]:=by
 grind
def Oj {l:List kr} {tr:List jY} {p:iF} {k:Nat} {x:kr} {r:List Int} (h:∀ (i:Nat) (h:i<l.length) (h2:i<tr.length),(l[i]).lJ.l=[(tr[i]).at_]) {hk:k<l.length} (hq:l[k]=x) (h2:k<tr.length) (hr:r=oM p x.lJ.l):r=LT tr p k:=by
 grind [LT]
def Mt (L:Nat->List Int) (k:Nat) (r:List Int) (m:List Bool):Prop:=∀ (x:Nat) (h:x<m.length),m[x]=true->(∃ i,i<k/\(x:Int)∈L i)\/(x:Int)∈r
def Mt.zero (L:Nat->List Int) (n:Nat):Mt L 0 [] (List.replicate n false):=by
 intro x h hx
 simp at hx
theorem Mt.set {L:Nat->List Int} {k j:Nat} {r:List Int} {m:List Bool} {x:Int} (h:Mt L k (r.take j) m) (hj:j<r.length) (hq:r[j]=x) (h0:0<=x):Mt L k (r.take (j+1)) (m.set x.toNat true):=by
 intro y hy ht
 rw [List.getElem_set] at ht
 rw [vV hj hq]
 split at ht
 ·grind
 ·rcases h y (by simpa using hy) ht with h1 | h1<;>grind
def Mt.done {L:Nat->List Int} {k j:Nat} {r:List Int} {m:List Bool} (h:Mt L k (r.take j) m) (hj:r.length<=j) (hr:r=L k):Mt L (k+1) [] m:=by
 intro y hy ht
 rw [List.take_of_length_le hj] at h
 rcases h y hy ht with ⟨i,hi,h1⟩ | h1<;>grind
def Mt.dead {L:Nat->List Int} {k j:Nat} {r:List Int} {m:List Bool} {x:Int} (h:Mt L k (r.take j) m) (hj:j<r.length) (hq:r[j]=x) (hr:r=L k) (h1:r.length<=1) (h4:∀ i,i<k->∀ y∈L i,y∉L k) (h0:0<=x) {hm:x.toNat<m.length} {z:Bool} (hz:m[x.toNat]=z) (ht:z=true):False:=by
 subst ht
 have ht:=hz
 have:j=0:=by omega
 subst this
 have hxm:x∈r:=by grind
 have hx:((x.toNat:Nat):Int)=x:=Int.toNat_of_nonneg h0
 rcases h x.toNat hm ht with ⟨i,hi,hmem⟩ | hmem<;>grind
def PX (tr:List jY) (p:iF) (k:Nat):(LT tr p k).length<=1:=by
 grind [LT,NZ]
def JM {l:List kr} {tr:List jY} (h:∀ (i:Nat) (h:i<l.length) (h2:i<tr.length),(l[i]).lJ.l=[(tr[i]).at_]) (hl:l.length<=tr.length):∀ x∈l,x.lJ.l.length<=1000:=by
 intro x hx
 obtain ⟨i,hi,rfl⟩:=List.mem_iff_getElem.mp hx
 grind
def QU {l:List kr} {tr:List jY} {k:Nat} {x:kr} (h:∀ (i:Nat) (h:i<l.length) (h2:i<tr.length),(l[i]).lJ.l=[(tr[i]).at_]) {hk:k<l.length} (hq:l[k]=x) (h2:k<tr.length):x.lJ.l.length<=1:=by
 grind
def tB (tr:List jY) (ks sl:List j4) (k:Nat):Prop:=sl.length=k/\∀ (i:Nat) (x:jY) (y:j4),tr[i]?=some x->sl[i]?=some y->ks[x.j3.toNat]?=some y
def tB.zero (tr:List jY) (ks:List j4):tB tr ks [] 0:=⟨rfl,λi x y _ h=>by simp at h⟩
def tB.snoc {tr:List jY} {ks sl:List j4} {k:Nat} {x:jY} {y:j4} (h:tB tr ks sl k) {hk:k<tr.length} (hq:tr[k]=x) {hs:x.j3.toNat<ks.length} (hy:ks[x.j3.toNat]=y):tB tr ks (sl++[y]) (k+1):=by
 refine ⟨by simp [h.1],λi a b ha hb=>?_⟩
 rcases Nat.lt_or_ge i sl.length with h3 | h3
 ·rw [List.getElem?_append_left h3] at hb; exact h.2 i a b ha hb
 ·have hi:i=k:=by
   have:=(List.getElem?_eq_some_iff.mp hb).1
   simp at this; have:=h.1; omega
  grind
end Go.Sx
