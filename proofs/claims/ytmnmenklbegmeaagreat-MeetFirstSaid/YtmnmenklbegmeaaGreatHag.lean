/- Proves rules for the walks and their soundness. -/
import Derived.Shelf.SlSortCmp.NoneTotal
import Derived.Lib.SlicesCompact
import Derived.Test.YtmnmenklbegmeaaGreatHaf
set_option linter.all false
namespace Go.Sx
open Go Go.Proofs
structure mj where
 dO:Row mM
 roads:Row Int
 steps:Row (Row Int)
 nO:Row (Row Int)
 done:Int
def mj.ay(x:mj):List AV:=[x.dO.av mM.ay,x.roads.av mD,x.steps.av (nI mD),x.nO.av (nI mD),.int .i64 x.done]
def qB(p:be)(e:Int):Prop:=0<=e/\e<(p.elems.l.length:Int)
def CA(p:be)(b:mM):Prop:=(∀h∈b.ei.l,qB p h.elem)/\(¬b.mode=2->¬b.mode=4->∀h∈b.ei.l,mY p h.elem=4)
def sN(p:be)(t:List cA)(y:Int):Prop:=∃h∈t,h.elem=y/\mY p h.elem≠4
structure wo(t:mj):Prop where
 GS:t.dO.l.length<=40
 EG:t.steps.l.length<=60
 EE:t.nO.l.length<=60
 ZJ:∀b∈t.dO.l,b.ei.l.length<=60
 row:∀s∈t.steps.l,s.l.length<=60
 roz:∀s∈t.nO.l,s.l.length<=60
structure vR(p:be)(t:mj):Prop where
 pos:0<t.dO.l.length
 EG:t.steps.l.length=t.dO.l.length
 EE:t.nO.l.length=t.dO.l.length
 C0:t.roads.l.length=t.dO.l.length
 GS:∀b∈t.dO.l,CA p b
 row:∀s∈t.steps.l,∀e∈s.l,qB p e
section
variable {p:be}{b:mM}{t:List cA}{k:Nat}{x:cA}{n:Int}{l:List Bool}{y:Int}
theorem KD{e:Int}(h:mY p e≠0):qB p e:=by
 by_cases a:e<0\/e>=p.elems.l.length;·grind[wg]
 ·exact⟨by omega,by omega⟩
theorem Ho:y∈rk p t↔sN p t y:=by grind[rk,sN]
def abV{r:List Int}(h:r=rk p (t.take k))(q:∀h∈t,qB p h.elem)(hp:p.elems.l.length<=1000):∀x∈r,pg x:=by subst h;intro y a;obtain⟨h,b,rfl,_⟩:=Ho.mp a;grind[qB,pg]
def WZ{r s:List Int}(h:s=nz r)(q:∀x∈r,pg x):∀x∈s,pg x:=by grind[rh]
def Xp{r s:List Int}(h:s=nz r):s.length=r.length:=by rw[h];exact(rh r).length_eq
def Oj{r1 r2 r3 r:List Int}(h1:r1=rk p (t.take k))(hk:t.length<=k)(h2:r2=nz r1)(h3:r3=Lib.compact r2)(hr:r=r3):rO r/\∀y,y∈r↔sN p t y:=by subst hr;rw[List.take_of_length_le hk]at h1;grind[Wy,rk,Ho]
def XH:∀y,rH (List.replicate 40 false) y↔sN p (t.take 0) y:=λy=>⟨λh=>absurd h (Lb y),λ⟨h,h1,_⟩=>by simp at h1⟩
theorem rQ{α:Type}{t:List α}{x : α}{hk:k<t.length}(hq:t[k]=x){y : α}:y∈t.take (k+1)↔y∈t.take k\/y=x:=by rw[List.take_add_one,List.getElem?_eq_getElem hk,hq,List.mem_append];simp
def ahM{hk:k<t.length}(hq:t[k]=x)(h:∀y,rH l y↔sN p (t.take k) y)(h0:0<=x.elem)(hx:x.elem.toNat<l.length)(hK:n=mY p x.elem)(hn:n≠4):∀y,rH (l.set x.elem.toNat true) y↔sN p (t.take (k+1)) y:=by
 intro y;rw[Na h0 hx,h y];constructor
 ·rintro(⟨z,a,b⟩|rfl);·exact⟨z,(rQ hq).mpr (.inl a),b⟩
  ·exact⟨x,(rQ hq).mpr (.inr rfl),rfl,hK▸hn⟩
 ·rintro⟨z,a,b,c⟩;rcases(rQ hq).mp a with a|rfl
  ·exact .inl ⟨z,a,b,c⟩
  omega
def ahi{hk:k<t.length}(hq:t[k]=x)(h:∀y,rH l y↔sN p (t.take k) y)(h0:0<=x.elem)(hx:x.elem.toNat<l.length)(hK:n=mY p x.elem)(hn:n=4):∀y,rH (l.set x.elem.toNat false) y↔sN p (t.take (k+1)) y:=by
 have c:l[x.elem.toNat]=false:=by
  cases d:l[x.elem.toNat]with
  |false=>rfl
  |true=>obtain⟨z,_,a,b⟩:=(h x.elem).mp ((V6 h0 d).mpr rfl);grind
 rw[UU hx c];intro y;rw[h y];constructor;·rintro⟨z,a,b⟩;exact⟨z,(rQ hq).mpr (.inl a),b⟩
 ·rintro⟨z,a,b,e⟩;rcases(rQ hq).mp a with a|rfl
  ·exact⟨z,a,b,e⟩
  omega
def abH{o r:List Int}{m:Nat}(h:∀y,rH l y↔sN p (t.take k) y)(hk:t.length<=k)(hT:zo l (λ_=>True) m o)(hm:l.length<=m)(hr:r=o):rO r/\∀y,y∈r↔sN p t y:=by subst hr;rw[List.take_of_length_le hk]at h;grind[J7]
def abU(q:CA p b)(h1:¬b.mode=2)(h2:¬b.mode=4):rO []/\∀y,y∈([]:List Int)↔sN p b.ei.l y :=
 ⟨.nil,λy=>⟨λh=>by simp at h,λ⟨z,hz,_,h3⟩=>absurd (q.2 h1 h2 z hz) h3⟩⟩
end
def wL(p:be)(t:mj)(R:List Int)(k:Nat)(y:Int):Prop:=∃i∈R.take k,∃b,t.dO.l[i.toNat]?=some b/\sN p b.ei.l y
def qu(p:be)(t:mj)(k y:Int):Prop :=
 0<=k/\((∃b,t.dO.l[(min k ((t.dO.l.length:Int) - 1)).toNat]?=some b/\sN p b.ei.l y)\/(∃b,t.dO.l[(min (max (k - 1) 0) ((t.dO.l.length:Int) - 1)).toNat]?=some b/\sN p b.ei.l y)\/(k<(t.dO.l.length:Int)/\∃s,t.steps.l[k.toNat]?=some s/\y∈s.l))
def vO(p:be)(t:mj)(lo hi y:Int):Prop:=∃j,lo<=j/\j<hi/\0<=j/\∃b,t.dO.l[(min j ((t.dO.l.length:Int) - 1)).toNat]?=some b/\sN p b.ei.l y
def Uj{p:be}{b:mM}{x:cA}{n:Int}{h0:0<b.ei.l.length}(hq:b.ei.l[0]=x)(hK:n=mY p x.elem)(hn:n=4)(hl:b.ei.l.length=1):CA p b:=by
 have h:∀h∈b.ei.l,h=x:=by obtain⟨y,c⟩:=anG.mp hl;grind
 have d:mY p x.elem=4:=by omega
 exact⟨λz a=>by grind[KD],λ_ _ z a=>by grind⟩
def SB{p:be}{b:mM}(hl:b.ei.l.length=0):CA p b:=by have h:=ann hl;exact⟨λz a=>(by grind),λ_ _ z a=>by grind⟩
def UR{p:be}{b:mM}(h:∀x∈b.ei.l,qB p x.elem)(hm:b.mode=2\/b.mode=4):CA p b:=⟨h,λa c=>by omega⟩
def TT{t:mj}{k m:Nat}(h1:t.dO.l.length<=40)(h2:t.steps.l.length<=60)(h3:t.nO.l.length<=60)(h4:∀(i:Nat)(h:i<t.dO.l.length),i<k->(t.dO.l[i]).ei.l.length<=60)(hk:t.dO.l.length<=k)
  (h5:∀(i:Nat) (h:i<(([]++t.steps.l)++t.nO.l).length),i<m->((([]++t.steps.l)++t.nO.l)[i]).l.length<=60) (hm:(([]++t.steps.l)++t.nO.l).length<=m):wo t:=by
 have c:=pP (P:=λb:Row Int=>b.l.length<=60) h5 hm;exact⟨h1,h2,h3,pP h4 hk,λs a=>c s (by simp[a]),λs a=>c s (by simp[a])⟩
def acT{p:be}{x y:List Int}{k:Nat}(h:∀(i:Nat)(h:i<(([]++x)++y).length),i<k->qB p ((([]++x)++y)[i]))(hk:(([]++x)++y).length<=k):∀e∈x,qB p e:=by have a:=pP (P:=qB p) h hk;grind
def amw{r:Row Int}{a b x:Int}{k:Nat}{h:k<r.l.length}(hq:r.l[k]=x)(hr:r.l=[a,b]):(k=0/\x=a)\/(k=1/\x=b):=by grind
section
variable {p:be}{t:mj}{R:List Int}{k j m m':Nat}{x a b c n:Int}{l:List Bool}{bd:mM}{r o:List Int}{y:Int}
def ad9:∀y,rH (List.replicate 40 false) y↔wL p t R 0 y:=λy=>⟨λh=>absurd h (Lb y),λ⟨i,h1,_⟩=>by simp at h1⟩
def Qx(h:∀y,rH l y↔wL p t R k y):∀y,rH l y↔wL p t R k y\/y∈r.take 0:=λy=>(h y).trans ⟨.inl,λh=>h.elim id λh=>by simp at h⟩
def T6{hk:j<r.length}(hq:r[j]=x)(h:∀y,rH l y↔wL p t R k y\/y∈r.take j)(h0:0<=x)(hx:x.toNat<l.length):∀y,rH (l.set x.toNat true) y↔wL p t R k y\/y∈r.take (j+1):=by intro y;rw[Na h0 hx,h y,rQ hq,or_assoc]
def TF(h:∀y,rH l y↔wL p t R k y\/y∈r.take j)(hj:r.length<=j)(hR:R[k]?=some x){hx:x.toNat<t.dO.l.length}(hb:t.dO.l[x.toNat]=bd)(hL:rO r/\∀y,y∈r↔sN p bd.ei.l y):∀y,rH l y↔wL p t R (k+1) y:=by
 intro y;rw[h y,List.take_of_length_le hj,hL.2 y];have c:t.dO.l[x.toNat]?=some bd:=by grind
 have f:k<R.length:=(alt.mp hR).1;have d:R[k]=x:=(alt.mp hR).2;unfold wL;constructor
 ·rintro(⟨i,a,e⟩|a);·grind
  ·exact⟨x,(rQ d).mpr (.inr rfl),bd,c,a⟩
 ·rintro⟨i,a,b,e,g⟩;rcases(rQ d).mp a with a|rfl<;>grind
def ac5(h:(k=0/\x=a)\/(k=1/\x=b)):([a,b]:List Int)[k]?=some x:=by grind
theorem NU(hj:2<=j):wL p t [a,b] j y↔(∃bd,t.dO.l[a.toNat]?=some bd/\sN p bd.ei.l y)\/(∃bd,t.dO.l[b.toNat]?=some bd/\sN p bd.ei.l y):=by unfold wL;rw[List.take_of_length_le (by omega)];simp
def Uo(hL:rO r/\∀y,y∈r↔sN p bd.ei.l y)(hm:CA p bd):∀y∈r,qB p y:=by intro y a;obtain⟨z,b,rfl,_⟩:=(hL.2 y).mp a;exact hm.1 z b
def abO(h:n<0):rO []/\∀y,y∈([]:List Int)↔qu p t n y:=⟨.nil,λy=>⟨λh=>by simp at h,λa=>by have:=a.1;omega⟩⟩
def Xm{s:Row Int}(h0:¬n<0)(hlt:n<(t.dO.l.length:Int))(ha:a=min n ((t.dO.l.length:Int) - 1))(hc:c=max (n - 1) 0)(hb:b=min c ((t.dO.l.length:Int) - 1)){hx:n.toNat<t.steps.l.length}(hs:t.steps.l[n.toNat]=s)
  (h:∀y,rH l y↔wL p t [a,b] 2 y\/y∈s.l.take j) (hj:s.l.length<=j) (hT:zo l (λ_=>True) m' o) (hm:l.length<=m') {ro:List Int} (hr:ro=o):rO ro/\∀y,y∈ro↔qu p t n y:=by
 subst hr;obtain⟨e,f⟩:=J7 hT hm;refine⟨e,λy=>?_⟩;have d:t.steps.l[n.toNat]?=some s:=by grind
 rw[f y,h y,NU (Nat.le_refl _),List.take_of_length_le hj];unfold qu;rw[ha,hb,hc,d,or_assoc];simp_all
def ake(h:∀y,rH l y↔wL p t R k y)(h1:k<=2)(h2:2<=k):∀y,rH l y↔wL p t R 2 y:=by grind
def Wu(h0:¬n<0)(hge:¬n<(t.dO.l.length:Int))(ha:a=min n ((t.dO.l.length:Int) - 1))(hc:c=max (n - 1) 0)(hb:b=min c ((t.dO.l.length:Int) - 1))
  (h:∀y,rH l y↔wL p t [a,b] j y) (hj:2<=j) (hT:zo l (λ_=>True) m' o) (hm:l.length<=m') {ro:List Int} (hr:ro=o):rO ro/\∀y,y∈ro↔qu p t n y:=by
 grind[J7,NU,qu]
end
def WG{r s:List Int}(h:s=Lib.compact r):s.length<=r.length:=by grind[Lib.compact_length_le]
section
variable {p:be}{t:mj}{k lo hi n pl x:Int}{j:Nat}{m:List (Int×Bool)}{bd:mM}{r:List Int}{L:Int->Prop}
def Lv{mm:Int}(he:mm=min n ((t.dO.l.length:Int) - 1)){hx:mm.toNat<t.dO.l.length}(hq:t.dO.l[mm.toNat]=bd):t.dO.l[(min n ((t.dO.l.length:Int) - 1)).toNat]?=some bd:=by rw[<- he,List.getElem?_eq_getElem hx,hq]
def abJ:∀y,vA [] y↔vO p t lo lo y:=λy=>⟨λh=>absurd h PJ,λ⟨j,h1,h2,_⟩=>by omega⟩
def MM(h:∀y,vA m y↔L y):∀y,vA m y↔L y\/y∈r.take 0:=λy=>(h y).trans ⟨.inl,λh=>h.elim id λh=>by simp at h⟩
def JW{hk:j<r.length}(hq:r[j]=x)(h:∀y,vA m y↔L y\/y∈r.take j):∀y,vA (put x true m) y↔L y\/y∈r.take (j+1):=by intro y;rw[abD,h y,rQ hq];grind
def Rf(h:∀y,vA m y↔vO p t lo k y\/y∈r.take j)(hj:r.length<=j)(h0:0<=k)(hl:lo<=k)(hb:t.dO.l[(min k ((t.dO.l.length:Int) - 1)).toNat]?=some bd)(hL:rO r/\∀y,y∈r↔sN p bd.ei.l y):∀y,vA m y↔vO p t lo (k+1) y:=by
 intro y;rw[h y,List.take_of_length_le hj,hL.2 y];constructor
 ·rintro(⟨i,a,e,c⟩|a);·exact⟨i,a,by omega,c⟩
  ·exact⟨k,hl,by omega,h0,bd,hb,a⟩
 ·rintro⟨i,a,e,c,b,f,g⟩;by_cases d:i<k;·exact .inl ⟨i,a,d,c,b,f,g⟩
  grind
def R8(h:∀y,vA m y↔vO p t lo k y)(hn:k<0\/t.dO.l.length=0)(hp:0<t.dO.l.length):∀y,vA m y↔vO p t lo (k+1) y:=by
 intro y;rw[h y];constructor;·rintro⟨i,a,b,c⟩;omega
 ·rintro⟨i,a,b,c,d⟩;omega
def HI{s q:List Int}(hNd:qy m)(hs:s=nz (m.map Prod.fst))(hr:q=s):rO q/\∀y,y∈q↔vA m y:=by subst hr hs;exact⟨TN hNd,λy=>(rh _).mem_iff.trans (abp hNd).symm⟩
theorem Kw{y:Int}(hn:0<=n)(hp:0<t.dO.l.length)(hpl:pl=min n (t.dO.l.length:Int)):vO p t (pl - 1) (pl+1) y↔(∃b,t.dO.l[(min n ((t.dO.l.length:Int) - 1)).toNat]?=some b/\sN p b.ei.l y)\/(∃b,t.dO.l[(min (max (n - 1) 0) ((t.dO.l.length:Int) - 1)).toNat]?=some b/\sN p b.ei.l y):=by
 constructor
 ·rintro⟨i,d,e,f,b,a,c⟩;by_cases hi:i=pl;·rw[show(min i ((t.dO.l.length:Int) - 1)).toNat=(min n ((t.dO.l.length:Int) - 1)).toNat by omega]at a;simp_all
  ·rw[show(min i ((t.dO.l.length:Int) - 1)).toNat=(min (max (n - 1) 0) ((t.dO.l.length:Int) - 1)).toNat by omega]at a;simp_all
 ·rintro(⟨b,a,c⟩|⟨b,a,c⟩);·exact⟨pl,by omega,by omega,by omega,b,by rw[show(min pl ((t.dO.l.length:Int) - 1)).toNat=(min n ((t.dO.l.length:Int) - 1)).toNat by omega];exact a,c⟩
  ·by_cases g:pl=0;·exact⟨pl,by omega,by omega,by omega,b,by rw[show(min pl ((t.dO.l.length:Int) - 1)).toNat=(min (max (n - 1) 0) ((t.dO.l.length:Int) - 1)).toNat by omega];exact a,c⟩
   ·exact⟨pl - 1,by omega,by omega,by omega,b,by rw[show(min (pl - 1) ((t.dO.l.length:Int) - 1)).toNat=(min (max (n - 1) 0) ((t.dO.l.length:Int) - 1)).toNat by omega];exact a,c⟩
def adb{s q:List Int}{w:Row Int}(hNd:qy m)(hs:s=nz (m.map Prod.fst))(hr:q=s)(hp:0<t.dO.l.length)(hpl:pl=min n (t.dO.l.length:Int))(h0:0<=pl)(hlt:pl<(t.dO.l.length:Int)){hx:pl.toNat<t.steps.l.length}(hw:t.steps.l[pl.toNat]=w)
  (h:∀y,vA m y↔vO p t (pl - 1) (pl+1) y\/y∈w.l.take j) (hj:w.l.length<=j):rO q/\∀y,y∈q↔qu p t n y:=by
 obtain⟨a,b⟩:=HI hNd hs hr;refine⟨a,λy=>?_⟩;have c:n=pl:=by omega
 have d:t.steps.l[n.toNat]?=some w:=by grind
 rw[b y,h y,List.take_of_length_le hj,Kw (by omega) hp hpl];grind[qu]
def acI{s q:List Int}(hNd:qy m)(hs:s=nz (m.map Prod.fst))(hr:q=s)(hp:0<t.dO.l.length)(hpl:pl=min n (t.dO.l.length:Int))(h0:0<=pl)(hge:¬pl<(t.dO.l.length:Int))
  (h:∀y,vA m y↔vO p t (pl - 1) hi y) (hh:hi=pl+1):rO q/\∀y,y∈q↔qu p t n y:=by
 obtain⟨a,b⟩:=HI hNd hs hr;refine⟨a,λy=>?_⟩;subst hh;grind[Kw,qu]
def ad1{s q:List Int}(hNd:qy m)(hs:s=nz (m.map Prod.fst))(hr:q=s)(h0:n<0)(hm:m.length=0):rO q/\∀y,y∈q↔qu p t n y:=by obtain⟨a,b⟩:=HI hNd hs hr;refine⟨a,λy=>?_⟩;have:=ann hm;subst this;rw[b y];exact⟨λh=>absurd h PJ,λh=>by have:=h.1;omega⟩
theorem JL{m:Int}(h:0<=m)(h2:m<=1000000):IntKind.i64.wrap (m - (1))=m - 1:=wU _ (by omega) (by omega)
def akt(h:∀y,vA m y↔vO p t lo hi y)(hh:hi=pl):∀y,vA m y↔vO p t lo pl y:=hh▸h
def Ka{e:Int}(h:qB p e)(hp:p.elems.l.length<=1000):pg e:=by grind[qB,pg]
end
def aeu{p:be}{b:mM}(h:0<b.ei.l.length/\∀x∈b.ei.l,qB p x.elem)(hm:b.mode=2\/b.mode=4):CA p b:=UR h.2 hm
end Go.Sx
namespace Go.Sx
open Go Go.Proofs Go.RowKit Go.Maps Go.Sort
def FN:List AV->Option (Int×Int)
 |[a,b]=>match Cw a with
  |some m=>match Cw b with
   |some n=>some (m,n)
   |none=>none
  |none=>none
 |_=>none
def zB:List (List AV)->Option (List (Int×Int))
 |[]=>some []
 |c::l=>match FN c with
  |some n=>match zB l with
   |some ks=>some (n::ks)
   |none=>none
  |none=>none
def pI(p:Int×Int):List AV:=[.int .i64 p.1,.int .i64 p.2]
def p6(p:Int×Int):List Value:=[.int .i64 p.1,.int .i64 p.2]
theorem OU{c:List AV}{p:Int×Int}(h:FN c=some p):c=pI p:=by
 unfold FN at h;split at h
 ·split at h
  ·rename_i m a;split at h;·rename_i n b;cases h;rw[(Cj a).1,(Cj b).1];rfl
   ·cases h
  ·cases h
 ·cases h
theorem IT:∀{l:List (List AV)} {ks:List (Int×Int)},zB l=some ks->l=ks.map pI
 |[],ks,h=>by grind[zB]
 |c::l,ks,h=>by
  unfold zB at h;split at h
  ·rename_i n a;split at h;·rename_i b d;simp only[Option.some.injEq]at h;subst h;rw[OU a,IT d];rfl
   ·cases h
  ·cases h
theorem NI{d:List (Int×Int)}{i j:Nat}{p:Int×Int}(hi:d[i]?=some p)(hj:j<2):(flatK p6 2 d.toArray)[i*2+j]! = (p6 p)[j]!:=by grind[get_flatK]
def NR{p:Int×Int}{j:Nat}{x:AV}(h:(pI p)[j]?=some x):∃n:Int,x=.int .i64 n/\(p6 p)[j]! = .int .i64 n/\j<2:=by
 match j,h with
 |0,h=>simp only[pI,List.getElem?_cons_zero,Option.some.injEq]at h;exact⟨p.1,h.symm,rfl,by omega⟩
 |1,h=>simp only[pI,List.getElem?_cons_succ,List.getElem?_cons_zero,Option.some.injEq]at h;exact⟨p.2,h.symm,rfl,by omega⟩
 |j+2,h=>simp[pI]at h
def Rw{G:Ga}(hW:WR G){b g o l:Nat}{xs:List (List AV)}(hget:G.h.get b=some (.lU g 2 xs))(hle:o+l<=xs.length){ks:List (Int×Int)}(hks:zB ((xs.drop o).take l)=some ks){L:Loc}(hp:G.pi b=some L) :
  ks.length=l/\HoldsK p6 2 G.w L.B (L.base+o*2) ks.toArray:=by
 obtain⟨c,e,E,m,y,F,z⟩:=hW.lU b L g 2 xs hp hget;have a:=IT hks;have d:ks.length=l:=by have:=congrArg List.length a;grind
 have f:∀(i:Nat) (p:Int×Int),ks[i]?=some p->xs[o+i]?=some (pI p):=by
  intro i n A;have q:i<l:=by grind
  have H:((xs.drop o).take l)[i]?=(ks.map pI)[i]?:=by rw[a]
  grind
 refine⟨d,λt C=>?_⟩;have C:t<ks.length*2:=by simp_all
 have q:t / 2<ks.length:=by omega
 have r:ks[t / 2]?=some ks[t / 2]:=by simp[q]
 have s:t % 2<2:=Nat.mod_lt _ (by omega);obtain⟨x,u⟩:∃x,(pI ks[t / 2])[t % 2]?=some x:=⟨_,anr (show t % 2<2 from s)⟩;obtain⟨n,rfl,A,_⟩:=NR u;obtain⟨v,D,_,j⟩:=z (o+t / 2) _ (t % 2) _ (f _ _ r) u;rw[E4 j]at D;have k:=NI r s;grind[World.cell?,World.frozen?]
def U7{G:Ga}(hW:WR G){b g o l:Nat}{xs:List (List AV)}(hget:G.h.get b=some (.lU g 2 xs))(hle:o+l<=xs.length){L:Loc}(hp:G.pi b=some L)(ys:List (Int×Int))(yX:ys.length=l)(n:Nat)(os:Array Obj) :
  ∃T',Step G ⟨sortWorldK p6 2 G.w L.B (L.base+o*2) n ys.toArray os,T',G.h.set b (.lU g 2 (putAt xs o l (ys.map pI))),G.pi,G.L⟩ /\
   WR ⟨sortWorldK p6 2 G.w L.B (L.base+o*2) n ys.toArray os,T',G.h.set b (.lU g 2 (putAt xs o l (ys.map pI))),G.pi,G.L⟩:=by
 obtain⟨c,e,A,a,C,D,F⟩:=hW.lU b L g 2 xs hp hget;have d:(ys.map pI).length=l:=by simp[yX]
 have q:(flatK p6 2 ys.toArray).size=l*2:=by simp[yX]
 have H:wF G.w (putRowK p6 2 (Sort.ahead G.w n) L.B (L.base+o*2) ys.toArray) L.B (.cells (putCells id (L.base+o*2) (flatK p6 2 ys.toArray) c) e (0,0)):=by
  refine⟨?_,λk r=>?_,by simp[putRowK],rfl,rfl,⟨rfl,λh=>False.elim h⟩⟩;·simp[putRowK,putRow,mapBlock,Array.getElem?_modify,A,onCells]
  ·simp[putRowK,putRow,mapBlock,Array.getElem?_modify,Ne.symm r]
 have s:Below (putRowK p6 2 (Sort.ahead G.w n) L.B (L.base+o*2) ys.toArray).heap.size (putRowK p6 2 (Sort.ahead G.w n) L.B (L.base+o*2) ys.toArray) (sortWorldK p6 2 G.w L.B (L.base+o*2) n ys.toArray os) :=
  ⟨rfl,rfl,rfl,by simp[sortWorldK],λk r=>heap_grow_old _ _ r⟩
 refine NO (xs':=putAt xs o l (ys.map pI)) hW hp hget H s ?_;intro G' E J;refine⟨_,_,J,by grind[K7],by grind[putCells],?_,?_⟩
 ·intro i t h;rw[Co d hle]at h;split at h;·simp only[List.getElem?_map,Option.map_eq_some_iff]at h;obtain⟨m,_,rfl⟩:=h;rfl
  grind
 ·intro i t j x h z;have u:=anl 2 a;rw[Co d hle]at h;split at h
  ·rename_i K;simp only[List.getElem?_map,Option.map_eq_some_iff]at h;obtain⟨m,M,rfl⟩:=h;obtain⟨n,rfl,N,f⟩:=NR z;have p:L.base+i*2+j<c.size:=by omega
   refine⟨.int .i64 n,?_,rfl,⟨.mR rfl (.int _ _ _),rfl⟩⟩;simp only[putCells,Array.getElem?_mapIdx,Array.getElem?_eq_getElem p,Option.map_some,q];rw[if_pos ⟨by omega,by omega⟩,show L.base+i*2+j - (L.base+o*2)=(i - o)*2+j by omega,NI M f,N];rfl
  ·rename_i K;have O:=D i t h;have f:j<2:=by grind
   obtain⟨v,Q,P,y⟩:=F i t j x h z;refine⟨v,?_,P,y.mono E⟩;grind[putCells]
def sM{α:Type}[Inhabited α](cf : α->α->Int)(ks:List α):List α:=(pdq (ltOf cf) ks.toArray 0 ks.length (Lib.bitLen ks.length) true true).toList
theorem FA{α:Type}[Inhabited α]{cf : α->α->Int}(hO:SWO (ltOf cf))(ks:List α):(sM cf ks).Perm ks/\(∀i j:Nat,i<j->j<ks.length->ltOf cf ((sM cf ks).toArray[j]!) ((sM cf ks).toArray[i]!)=false):=by
 have h:=pdq_sorts (ltOf cf) hO ks.toArray 0 ks.toArray.size (Lib.bitLen ks.toArray.size) true true (ang _) (abs _) (Or.inl rfl);obtain⟨⟨d,_,e⟩,b⟩:=h;simp only[List.size_toArray]at d e b;refine⟨?_,λi j c f=>?_⟩
 ·unfold sM;have k:∀a:Array α,a.size=ks.length->(a.extract 0 ks.length).toList=a.toList:=by intro a g;rw[<- g];simp
  grind
 ·have:=b i j (ang _) c f;grind[sM]
theorem La{α:Type}[Inhabited α](tp : α->Int×Int)(d:Array α):flatK (λa=>p6 (tp a)) 2 d=flatK p6 2 (d.map tp):=by grind[flatK]
def CJ{α:Type}(dec:Int×Int->Option α):List (Int×Int)->Option (List α)
 |[]=>some []
 |p::l=>match dec p with
  |some a=>match CJ dec l with
   |some r=>some (a::r)
   |none=>none
  |none=>none
theorem KO{α:Type}{dec:Int×Int->Option α}{tp : α->Int×Int}(hd:∀p a,dec p=some a->tp a=p):∀{ks:List (Int×Int)} {ds:List α},CJ dec ks=some ds->ks=ds.map tp
 |[],ds,h=>by grind[CJ]
 |p::l,ds,h=>by
  unfold CJ at h;split at h
  ·rename_i a b;split at h;·rename_i r c;simp only[Option.some.injEq]at h;subst h;rw[KO hd c,List.map_cons,hd p a b]
   ·cases h
  ·cases h
def Q1{P:Program}{f g:Nat}{α:Type}[Inhabited α]{tp : α->Int×Int}{cf : α->α->Int}(hO:SWO (ltOf cf))
  (h1:∀(lU off cap:Nat) (d:Array α) (w:World),HoldsK (λa=>p6 (tp a)) 2 w lU off d->lU<w.heap.size->d.size<4611686018427387904 ->
    Calls P f #[.slice (some ⟨lU,off,none⟩) d.size cap,.func (.func g) #[] #[]] w λe w'=>e=.returned (.tuple #[])/\∃n os,w'=sortWorldK (λa=>p6 (tp a)) 2 w lU off n (pdq (ltOf cf) d 0 d.size (Lib.bitLen d.size) true true) os)
  {G:Ga} (hW:WR G) {b gg o l:Nat} {xs:List (List AV)} (hget:G.h.get b=some (.lU gg 2 xs)) (hle:o+l<=xs.length) (hl:l<=1000000) {ds:List α} (hks:zB ((xs.drop o).take l)=some (ds.map tp)) {L:Loc} (hp:G.pi b=some L) {cap':Nat}
  {R:Ending->World->Prop} (hR:∀G',Step G G'->WR G'->G'.h=G.h.set b (.lU gg 2 (putAt xs o l (((sM cf ds).map tp).map pI)))->R (.returned (.tuple #[])) G'.w) :
  Calls P f #[.slice (some ⟨L.B,L.base+o*2,none⟩) l cap',.func (.func g) #[] #[]] G.w R:=by
 obtain⟨c,k⟩:=Rw hW hget hle hks hp;rw[List.length_map]at c;have i:L.B<G.w.heap.size:=(hW.oW b L hp).1;have j:HoldsK (λa=>p6 (tp a)) 2 G.w L.B (L.base+o*2) ds.toArray:=by simp_all[HoldsK,La]
 rw[<- c];refine(h1 L.B (L.base+o*2) cap' ds.toArray G.w j i (by grind)).mono ?_;rintro e' w' ⟨rfl,n,os,rfl⟩;obtain⟨T',S1,W1⟩:=U7 hW hget hle hp ((sM cf ds).map tp) (by rw[List.length_map,(FA hO ds).1.length_eq,c]) n os;have e:sortWorldK (λa=>p6 (tp a)) 2 G.w L.B (L.base+o*2) n (pdq (ltOf cf) ds.toArray 0 ds.toArray.size (Lib.bitLen ds.toArray.size) true true) os=sortWorldK p6 2 G.w L.B (L.base+o*2) n ((sM cf ds).map tp).toArray os:=by unfold sortWorldK putRowK;rw[La,<- List.map_toArray];rfl
 grind
def pG{α:Type}[Inhabited α](tp : α->Int×Int)(dec:Int×Int->Option α)(g:Nat)(cf : α->α->Int)(shd:Bool)(args:List AV)(h:aT):R2:=match args with
 |[.sl [] _,.mH g' [] []]=>match Nat.beq g' g with
  |true=>some (.mw [],h)
  |false=>none
 |[.hs b gg o l,.mH g' [] []]=>match Nat.beq g' g with
  |false=>none
  |true=>match l with
   |0=>some (.mw [],h)
   |k+1=>match shd with
    |false=>none
    |true=>match h.get b with
     |some (.lU gg' z xs)=>match Nat.beq gg gg'&&(Nat.beq z 2&&(Nat.ble (o+(k+1)) xs.length&&Nat.ble (k+1) 1000000))with
      |true=>match zB ((xs.drop o).take (k+1))with
       |some ks=>match CJ dec ks with
        |some ds=>some (.mw [],h.set b (.lU gg' z (putAt xs o (k+1) (((sM cf ds).map tp).map pI))))
        |none=>none
       |none=>none
      |false=>none
     |_=>none
 |_=>none
def Cb{α:Type}[Inhabited α](tp : α->Int×Int)(dec:Int×Int->Option α)(g:Nat)(cf : α->α->Int):∀(args:List AV)(h:aT) (v:AV) (h':aT),pG tp dec g cf false args h=some (v,h')->h'=h/\∀h2:aT,(∀b o,h.get b=some o->h2.get b=some o)->pG tp dec g cf false args h2=some (v,h2):=by intro args h v h' a;unfold pG at a;grind[pG]
def afE{G:Ga}{g:Nat}{v:Value}(h:VC G (.mH g [] []) v):v=.func (.func g) #[] #[]:=by
 cases h.vr with
 |mR hi _=>cases hi
 |mH _ _ _ a' c' ha hc=>grind
theorem Bo {P : Program} {f g : Nat} {α : Type} [Inhabited α] {tp : α → Int × Int} {dec : Int × Int → Option α} (hd : ∀ p a, dec p = some a → tp a = p) {cf : α → α → Int} (hO : SWO (ltOf cf)) (hex : ∃ fn, P.funcs[f]? = some fn ∧ fn.body.isNone = false ∧ (fn.name == "runtime.NumGoroutine") = false)
  (h1:∀(lU off cap:Nat) (d:Array α) (w:World),HoldsK (λa=>p6 (tp a)) 2 w lU off d->lU<w.heap.size->d.size<4611686018427387904 ->
    Calls P f #[.slice (some ⟨lU,off,none⟩) d.size cap,.func (.func g) #[] #[]] w λe w'=>e=.returned (.tuple #[])/\∃n os,w'=sortWorldK (λa=>p6 (tp a)) 2 w lU off n (pdq (ltOf cf) d 0 d.size (Lib.bitLen d.size) true true) os)
  (h0:∀(p:Option Addr) (cap:Nat) (w:World),Calls P f #[.slice p 0 cap,.func (.func g) #[] #[]] w λe w'=>e=.returned (.tuple #[])/\w'=w):qD P f (pG tp dec g cf) where
 call:=by
  intro J k h v h' b G c K M X r N F;refine⟨hex,?_⟩;intro R s;subst K
  have o:∀x z:AV,k=[x,z]->∃y u,c = #[y,u]/\VC G x y/\VC G z u:=by
   rintro x z rfl;cases c with|mk l=>
   match l,N with
   |[y,u],_=>exact⟨y,u,rfl,F 0 x y rfl rfl,F 1 z u rfl rfl⟩
  unfold pG at b;split at b
  ·obtain⟨y,u,rfl,t,A⟩:=o _ _ rfl;split at b
   ·rename_i j;obtain rfl:=acl j;cases b;obtain rfl:=afE A;have B:=t.vr;cases B with
    |mR _ C=>(have D:∃p cap,y=.slice p 0 cap:=by cases C<;>exact⟨_,_,rfl⟩);obtain⟨p,cap,rfl⟩:=D;refine(h0 _ _ G.w).mono ?_;rintro e w' ⟨rfl,rfl⟩;exact s _ G (Step.refl G) r (λm=>rfl) (λm L=>.mw [] #[] rfl (by simp))
   grind
  ·obtain⟨y,u,rfl,t,A⟩:=o _ _ rfl;split at b;·cases b
   ·rename_i j;obtain rfl:=acl j;obtain rfl:=afE A;have B:=t.vr;cases B with
    |mR hi _=>cases hi
    |hs _ _ _ _ a cap' hb hg hle hh=>
    split at b;·cases b;refine(h0 _ _ G.w).mono ?_;rintro e w' ⟨rfl,rfl⟩;exact s _ G (Step.refl G) r (λm=>rfl) (λm L=>.mw [] #[] rfl (by simp))
    ·split at b;·cases b
     ·split at b
      ·rename_i i;split at b
       ·rename_i j;simp only[Bool.and_eq_true,Nat.ble_eq]at j;obtain⟨O,Q,T,U⟩:=j;obtain rfl:=acl O;obtain rfl:=acl Q;split at b
        ·rename_i Y q;split at b;·rename_i Z E;cases b;obtain⟨L,C,H,V⟩:=hh _ _ i;rw[V (by omega)];rw[KO hd E]at q;exact Q1 hO h1 r i T U q C (λG' S W e=>s _ _ S W (λm=>by rw[e]) (λm L=>.mw [] #[] rfl (by simp)))
         grind
        grind
       grind
      grind
  grind
 BQ:=Cb tp dec g cf
def wK(g1:Nat)(p1 p2:Bool->List AV->aT->R2)(shd:Bool)(args:List AV)(h:aT):R2:=match args with
 |[a,.mH g x y]=>match Nat.beq g g1 with
  |true=>p1 shd [a,.mH g x y] h
  |false=>p2 shd [a,.mH g x y] h
 |_=>none
def Ku{g1:Nat}{p1 p2:Bool->List AV->aT->R2}(i1:∀(args:List AV)(h:aT) (v:AV) (h':aT),p1 false args h=some (v,h')->h'=h/\∀h2:aT,(∀b o,h.get b=some o->h2.get b=some o)->p1 false args h2=some (v,h2))(i2:∀(args:List AV)(h:aT) (v:AV) (h':aT),p2 false args h=some (v,h')->h'=h/\∀h2:aT,(∀b o,h.get b=some o->h2.get b=some o)->p2 false args h2=some (v,h2)):∀(args:List AV)(h:aT) (v:AV) (h':aT),wK g1 p1 p2 false args h=some (v,h')->h'=h/\∀h2:aT,(∀b o,h.get b=some o->h2.get b=some o)->wK g1 p1 p2 false args h2=some (v,h2):=by intro args h v h' a;unfold wK at a;grind[wK]
def Oz{P:Program}{f g1:Nat}{p1 p2:Bool->List AV->aT->R2}(h1:qD P f p1)(h2:qD P f p2):qD P f (wK g1 p1 p2) where
 call:=by
  intro a c h v h' b;unfold wK at b;split at b
  ·split at b;·exact h1.call a _ h v h' b
   ·exact h2.call a _ h v h' b
  grind
 BQ:=Ku h1.BQ h2.BQ
end Go.Sx
set_option maxRecDepth 100000
namespace Go.Sx
open Go Go.Proofs Go.RowKit Go.Sort
def grown_of{w w':World}(h1:w'.os=w.os)(h2:w'.output=w.output)(h3:w'.tape=w.tape)(h4:w.drawn<=w'.drawn)(h5:w.heap.size<=w'.heap.size)(h6:∀B,B<w.heap.size->w'.heap[B]?=w.heap[B]?):∃q os',w'=grow (w.drewN q) os':=by
 refine⟨w'.drawn - w.drawn,w'.heap.extract w.heap.size w'.heap.size,?_⟩;have a:w'.heap=w.heap++w'.heap.extract w.heap.size w'.heap.size:=by grind
 have b:w.drawn+(w'.drawn - w.drawn)=w'.drawn:=by omega
 cases w;cases w'<;>grind[grow,World.drewN]
def ga0(W:World):Ga:=⟨W,TW W,aT.empty,λ_=>none,λ_=>none⟩
def wr0(W:World):WR (ga0 W):=by
 constructor;·intro b l g z a h;cases h
 ·intro b l e c h;cases h
 ·intro d B f h;cases h
 ·intro b l h;cases h
 ·intro b b' l l' h;cases h
 ·intro s b l h;cases h
 ·intro d d' B h;cases h
 ·intro s d B h;cases h
 ·intro d B b l h;cases h
 ·intro d B h;cases h
 ·intro s B h;exact h
 ·exact abs _
 ·intro b o h;have:aT.empty.get b=none:=by rfl
  grind[ga0,aT.empty]
def Qw{W:World}(p:Int×Int):PR W (TW W) false (.agg (pI p)) (.agg (p6 p).toArray):=by
 refine .agg false _ _ (by rfl) ?_ ?_
 ·intro i y h
  match i,h with
  |0,h=>simp[p6]at h;subst h;rfl
  |1,h=>simp[p6]at h;subst h;rfl
  |i+2,h=>simp[p6]at h
 ·intro i x y a b
  match i,a,b with
  |0,a,b=>simp[pI,p6]at a b;subst a b;exact .int _ _ _
  |1,a,b=>simp[pI,p6]at a b;subst a b;exact .int _ _ _
  |i+2,a,b=>simp[pI]at a
def afC{P:Program}{C:nu}{F:oP}(T : @vC ⟨True⟩ P C F (λ_=>none)){g:Nat}{cf:Int×Int->Int×Int->Int}
  (hc:∀x y:Int×Int,∃v,lZ C F (λ_=>none) false g [.agg (pI x),.agg (pI y)] aT.empty v aT.empty/\v=.int .i64 (cf x y)) (x y:Int×Int) (w:World) :
  Calls P g #[.agg (p6 x).toArray,.agg (p6 y).toArray] w λe w'=>e=.returned (.int .i64 (cf x y))/\∃q os',w'=grow (w.drewN q) os':=by
 obtain⟨v,⟨m,r⟩,rfl⟩:=hc x y
 have s:=@tF ⟨True⟩ P C F _ T m false g _ _ _ _ (r m (abs _)) (ga0 w) #[.agg (p6 x).toArray,.agg (p6 y).toArray] rfl rfl (λ_=>rfl) (wr0 w) rfl (by
  intro i a b c f
  match i,c,f with
  |0,c,f=>simp at c f;subst c f;exact(Qw x).CL
  |1,c,f=>simp at c f;subst c f;exact(Qw y).CL
  |i+2,c,f=>simp at c)
 refine s.2 _ ?_;intro u G' t _ _ z;obtain⟨_,k,n,j,o,p,_⟩:=t;refine⟨?_,grown_of k n j.1 (j.2 trivial) o λB A=>p B A (λb l h=>by cases h) (λd B h=>by cases h)⟩;have D:=z [] (λ_=>none);cases D with
 |mR hp h=>cases h;rfl
end Go.Sx
set_option maxHeartbeats 0
namespace Go.Sx
open Go Go.Lib
section
variable {C:nu}{F:oP}{Pr:om}{fa:lg}{e:Env}{H:aT}{ls:List (Nat×List AV)}{L:List mZ}{i:Nat}{w tt:Bool}{v:AV}{n:Nat}
def NB{X:Ctx}{d:Option Nat}{cl:Call}{t el k m:Nat}{y:Operand}{ti:TI}{h:aT}{v':AV}(ht:Cu v k m v')(hc:cl.callee=.builtin .len)(ha:cl.args.toList=[y])(hts:cl.argTypes.toList=[t])(hT:X.C.T t=some ti)(hk:ti.kind=.slice el)(hy:me e y=v') :
  mT (.call cl) X e h d=some (.int .i64 ((m - k:Nat):Int),h):=by
 obtain⟨b,g,rfl,rfl⟩:=ht;simp_all[mT,uQ,tW,qS,BX,Aa,Ba,AF,uZ]
def A3{t el:Nat}{x y:Operand}{ti te:TI}{k:IntKind}{q m r:Nat}{d:Option Nat}{cs:List AV}{xs:List (List AV)}{v':AV}(hS:Sep H L)(hi:L[i]?=some (.sl w tt v n xs))(hT:C.T t=some ti)(hk:ti.kind=.slice el)(hE:C.T el=some te)(hn:te.size=n)(ht:Cu v q r v')(hr:r=xs.length)(hx:me e x=v')(hy:me e y=.int k (m:Int))(hm:xs[q+m]?=some cs) :
  ∃a,(∀call,mT (.indexAddr t x y) ⟨C,fa,call⟩ e { H with ca:=ls } d=some (a,{ H with ca:=ls }))/\a=sT a 0/\EA v (q+m) a cs:=by
 have o:q+m<xs.length:=(alt.mp hm).1;have f:uA (.int k (m:Int))=some m:=rfl;obtain⟨h,l,rfl,rfl⟩:=ht;subst hr;obtain⟨p,⟨s,c⟩|⟨s,c⟩|⟨b,g,j,B,c,u,z⟩⟩:=hS.at hi;·cases c
 ·cases c
 ·cases c;refine⟨.ptr h l (q+m) 0,λcall=>?_,rfl,.inr ⟨h,l,_,rfl,rfl⟩⟩;have A:Nat.blt m (xs.length - q)=true:=by simp;omega
  simp only[mT,uB,tB,hT,hy,f,hk,hE,hx,wI,aT.oR,u,A,hn,Nat.beq_refl,Bool.and_self,sj]
def Ov{k m r:Nat}{v':AV}(ht:Cu v k m v')(h:m=r):Cu v k r v':=h▸ht
end
def NQ{e:Env}{h:aT}{X:Ctx}{dd:Option Nat}{t u:Nat}{x y:Operand}{ti:TI}{a b c d:Int}(hx:me e x=.agg [.int .i64 a,.int .i64 b])(hy:me e y=.agg [.int .i64 c,.int .i64 d])
  (hT:X.C.T t=some ti) (hf:∀a b:Int,Cp ti (.agg [.int .i64 a,.int .i64 b]) (.agg [.int .i64 c,.int .i64 d])=pX [.int .i64 a,.int .i64 b] [.int .i64 c,.int .i64 d]) :
  mT (.binOp .neq t x y u) X e h dd=some (.bool (decide (¬(a=c/\b=d))),h):=by
 simp_all[mT,Dy,binOp,AV.int?,AV.str?,C9,L3,oz];by_cases f:a=c<;>by_cases g:b=d<;>simp[f,g,zF]
def aaD{x y:bY}(h:x.elem=y.elem/\x.pos=y.pos):x=y:=by obtain⟨a,b⟩:=x;simp_all
def acw{x y:bY}(h:¬ ¬(x.elem=y.elem/\x.pos=y.pos)):x=y:=aaD (Classical.not_not.mp h)
def YA{x y:bY}(h:¬(x.elem=y.elem/\x.pos=y.pos)):¬x=y:=λe=>h (by grind)
section
variable {α:Type}[Inhabited α][DecidableEq α]
theorem abc{l:List α}{k:Nat}{x : α}{hk:k<l.length}(hq:l[k]=x):l.toArray[k]! = x:=by grind
def As(l:List α)(k:Int):Prop:=1<=k/\k<=(l.length:Int)/\∀j:Nat,(j:Int)<k->keeps l.toArray j=true
def As.start{l:List α}(h:¬(l.length:Int)<2):As l 1:=⟨by omega,by omega,λj a=>keeps_lt_one _ j (by omega)⟩
def As.step{l:List α}{k:Int}{a b:Nat}{x y : α}(h:As l k){ha:a<l.length}(hx:l[a]=x)(ea:(a:Int)=k){hb:b<l.length}(hy:l[b]=y)(eb:(b:Int)=k - 1)(hne:¬x=y):As l (k+1):=by
 refine⟨by omega,by omega,λj c=>?_⟩;by_cases e:(j:Int)<k;·exact h.2.2 j e
 grind[keeps_pos]
def As.all{l:List α}{k:Int}(h:As l k)(hk:¬k<(l.length:Int)):l=compact l:=(compact_all l λj a=>h.2.2 j (by omega)).symm
def Lc{l:List α}(h:(l.length:Int)<2):l=compact l:=(compact_all l λj a=>keeps_lt_one _ j (by omega)).symm
def vB(l:List α)(m k:Int)(l':List α):Prop:=0<=m/\0<=k/\m<=(l.length:Int)/\CompInv l.toArray m.toNat k.toNat l'.toArray
def vB.start{l:List α}{k:Int}{a b:Nat}{x y : α}(h:As l k){ha:a<l.length}(hx:l[a]=x)(ea:(a:Int)=k){hb:b<l.length}(hy:l[b]=y)(eb:(b:Int)=k - 1)(he:x=y):vB l (k+1) k l:=by have c:=h.1;refine⟨by omega,by omega,by omega,?_⟩;rw[show(k+1).toNat=k.toNat+1 by omega];refine CompInv.start (λj d=>h.2.2 j (by omega)) (keeps_neg (by omega) ?_);grind
theorem vB.len{l l':List α}{m k:Int}(h:vB l m k l'):l'.length=l.length/\k<m:=by have a:=h.2.2.2.size;have b:=h.2.2.2.lt;grind
theorem vB.at{l l':List α}{m k:Int}(h:vB l m k l'){a:Nat}{x : α}{ha:a<l'.length}(hx:l'[a]=x)(hm:k<=(a:Int)):l.toArray[a]! = x:=by rw[<- h.2.2.2.high a (by omega),abc hx]
theorem vB.keep{l l':List α}{m k:Int}{a b:Nat}{x y : α}(h:vB l m k l'){ha:a<l'.length}(hx:l'[a]=x)(ea:(a:Int)=m){hb:b<l'.length}(hy:l'[b]=y)(eb:(b:Int)=m - 1)(hne:¬x=y){q:Nat}(eq:(q:Int)=k):vB l (m+1) (k+1) (l'.set q x):=by
 obtain⟨f,g⟩:=h.len;have i:=h.1;have j:=h.2.1;have c:=h.at hx (by omega);have d:=h.at hy (by omega);have e:keeps l.toArray m.toNat=true:=by grind[keeps_pos]
 have n:=h.2.2.2.keep (by grind) e;refine⟨by omega,by omega,by omega,?_⟩;grind
def vB.skip{l l':List α}{m k:Int}{a b:Nat}{x y : α}(h:vB l m k l'){ha:a<l'.length}(hx:l'[a]=x)(ea:(a:Int)=m){hb:b<l'.length}(hy:l'[b]=y)(eb:(b:Int)=m - 1)(he:x=y):vB l (m+1) k l':=by
 obtain⟨e,f⟩:=h.len;have g:=h.1;have c:=h.at hx (by omega);have d:=h.at hy (by omega);refine⟨by omega,h.2.1,by omega,?_⟩;obtain rfl:a=m.toNat:=by omega
 obtain rfl:b=m.toNat - 1:=by omega
 rw[show(m+1).toNat=m.toNat+1 by omega];exact h.2.2.2.skip (keeps_neg (by omega) (by grind))
def vB.done{l l':List α}{m k:Int}(h:vB l m k l')(hm:(l.length:Int)<=m){q:Nat}(eq:(q:Int)=k){z:List α}:(l'.take q++z).take q=compact l:=by
 obtain⟨e,f⟩:=h.len;have a:m.toNat=l.length:=by have:=h.2.2.1;omega
 have b:=h.2.2.2;obtain rfl:q=k.toNat:=by omega
 rw[a]at b;have c:(compact l).length=k.toNat:=b.len;have g:k.toNat<=l'.length:=by omega
 rw[List.take_append_of_le_length (by grind),List.take_take,Nat.min_self];apply anR;intro j;by_cases d:j<k.toNat;·rw[List.getElem?_take_of_lt d];have:=b.low j d;grind[compact,compactUpTo]
 grind
def abt{l:List α}{k m:Int}{a b:Nat}{x y : α}(h:As l k){ha:a<l.length}(hx:l[a]=x)(ea:(a:Int)=k){hb:b<l.length}(hy:l[b]=y)(eb:(b:Int)=k - 1)(hne:¬x=y)(em:m=k+1):As l m:=em▸h.step hx ea hy eb hne
def WV{l:List α}{k m:Int}{a b:Nat}{x y : α}(h:As l k){ha:a<l.length}(hx:l[a]=x)(ea:(a:Int)=k){hb:b<l.length}(hy:l[b]=y)(eb:(b:Int)=k - 1)(he:x=y)(em:m=k+1):vB l m k l:=em▸vB.start h hx ea hy eb he
def aca{l l':List α}{m k m' k':Int}{a b:Nat}{x y : α}(h:vB l m k l'){ha:a<l'.length}(hx:l'[a]=x)(ea:(a:Int)=m){hb:b<l'.length}(hy:l'[b]=y)(eb:(b:Int)=m - 1)(hne:¬x=y){q:Nat}(eq:(q:Int)=k)(em:m'=m+1)(ek:k'=k+1):vB l m' k' (l'.set q x):=em▸ek▸h.keep hx ea hy eb hne eq
def abk{l l':List α}{m k m':Int}{a b:Nat}{x y : α}(h:vB l m k l'){ha:a<l'.length}(hx:l'[a]=x)(ea:(a:Int)=m){hb:b<l'.length}(hy:l'[b]=y)(eb:(b:Int)=m - 1)(he:x=y)(em:m'=m+1):vB l m' k l':=em▸h.skip hx ea hy eb he
def am2{lt : α->α->Prop}(tr:∀a b c,lt a b->lt b c->lt a c){l:List α}(h:l.Pairwise λa b=>a=b\/lt a b):(compact l).Pairwise lt/\∀x,x∈compact l↔x∈l:=by
 have u:=anK.mp h;have d:∀i j:Nat,i<=j->j<l.length->l.toArray[i]! = l.toArray[j]!\/lt (l.toArray[i]!) (l.toArray[j]!):=by grind
 have f:∀m:Nat,m<=l.length->(compactUpTo l.toArray m).Pairwise lt/\∀x,x∈compactUpTo l.toArray m↔∃i,i<m/\l.toArray[i]! = x:=by
  intro m;induction m with
  |zero=>simp_all[compactUpTo]
  |succ m ih=>
   intro w;obtain⟨g,k⟩:=ih (by omega);rw[compactUpTo_succ];by_cases n:keeps l.toArray m=true
   ·rw[if_pos n];refine⟨?_,λx=>?_⟩;·(refine anH.mpr ⟨g,by simp,λa q b p=>?_⟩;simp only[List.mem_singleton]at p;subst p;obtain⟨i,o,rfl⟩:=(k a).mp q;have r:l.toArray[m]!≠l.toArray[m - 1]!:=by have:=of_decide_eq_true n;grind);have y:lt (l.toArray[m - 1]!) (l.toArray[m]!):=(d (m - 1) m (by omega) (by omega)).resolve_left λe=>r e.symm;rcases d i (m - 1) (by omega) (by omega)with e|z<;>grind
    grind
   ·rw[if_neg n,List.append_nil];refine⟨g,λx=>(k x).trans ⟨λ⟨i,o,e⟩=>⟨i,by omega,e⟩,?_⟩⟩;rintro⟨i,o,rfl⟩;rcases ans i m with h|h
    ·grind
    ·(obtain rfl:i=m:=by omega);have A:¬(i=0\/l.toArray[i]!≠l.toArray[i - 1]!):=λs=>n (decide_eq_true s);grind
 obtain⟨g,k⟩:=f l.length (abs _);refine⟨g,λx=>(k x).trans ?_⟩;constructor;·grind
 ·intro t;obtain⟨i,o,rfl⟩:=ant.mp t;grind
end
def J0{α:Type}{lt : α->α->Prop}(ir:∀a,¬lt a a)(tr:∀a b c,lt a b->lt b c->lt a c):∀{l m:List α},l.Pairwise lt->m.Pairwise lt->(∀x,x∈l↔x∈m)->l=m
 |[],[],_,_,_=>rfl
 |[],b::m,_,_,h=>absurd ((h b).mpr (by simp)) (by simp)
 |a::l,[],_,_,h=>absurd ((h a).mp (by simp)) (by simp)
 |a::l,b::m,hl,hm,h=>by
  obtain⟨j,n⟩:=anw.mp hl;obtain⟨k,o⟩:=anw.mp hm
  have f:a=b:=by
   (rcases ank.mp ((h a).mp (by simp))with e|p);·exact e
   ·(rcases ank.mp ((h b).mpr (by simp))with e|q);·exact e.symm
    ·exact absurd (tr _ _ _ (j b q) (k a p)) (ir a)
  subst f;congr 1;refine J0 ir tr n o λx=>?_;constructor
  ·intro d;rcases ank.mp ((h x).mp (anp _ d))with e|g
   ·subst e;exact absurd (j x d) (ir x)
   ·exact g
  ·intro d;rcases ank.mp ((h x).mpr (anp _ d))with e|i
   ·subst e;exact absurd (k x d) (ir x)
   ·exact i
end Go.Sx
namespace Go.Sx
open Go Go.Proofs Go.Sort
def wE(x:bY):Int×Int:=(x.elem,x.pos)
def Jd(p:Int×Int):bY:=⟨p.1,p.2⟩
theorem QT{n:Int}(h:pg n):Cw (.int .i64 n)=some n:=by simp only[Cw];exact if_pos (by unfold pg at h;omega)
theorem Oh:∀{l:List bY},(∀x∈l,pg x.elem/\pg x.pos)->zB (l.map bY.ay)=some (l.map wE)
 |[],_=>rfl
 |x::l,h=>by
  have a:=h x (by simp);have e:FN (bY.ay x)=some (wE x):=by simp only[FN,bY.ay,QT a.1,QT a.2];rfl
  simp only[List.map_cons,zB,e,Oh λy b=>h y (List.mem_cons_of_mem _ b)]
def EK{α:Type}[Inhabited α]{tp : α->Int×Int}{dec:Int×Int->Option α}{g:Nat}{cf : α->α->Int}{C:nu}{F0:oP}{Pr:om}{f:Nat}{Q:Bool->List AV->aT->R2}(hp:Pr f=some Q)(hQ:∀v h,Q true [v,.mH g [] []] h=pG tp dec g cf true [v,.mH g [] []] h){H:aT}{t:Bool}{v:AV}{l:List bY}{F:List mZ}(hS:Sep H (.sl true t v 2 (l.map bY.ay)::F))(q1:l.length<=1000000)(q2:∀x∈l,pg x.elem/\pg x.pos){ds:List α}(hd:CJ dec (l.map wE)=some ds)(hl:(sM cf ds).length=l.length) :
  ∃u H',lZ C F0 Pr true f [v,.mH g [] []] { H with ca:=[] } u H'/\u=.mw []/\Sep H' (.sl true t v 2 (((sM cf ds).map λa=>Jd (tp a)).map bY.ay)::F):=by
 have d:∀(H':aT),pG tp dec g cf true [v,.mH g [] []] { H with ca:=[] }=some (.mw [],H')->lZ C F0 Pr true f [v,.mH g [] []] { H with ca:=[] } (.mw []) H':=by
  intro H' h;refine⟨1,λk B=>?_⟩;cases k with
  |zero=>omega
  |succ k=>simp only[qi,hp];rw[hQ,h]
 have q:(((sM cf ds).map λa=>Jd (tp a)).map bY.ay)=((sM cf ds).map tp).map pI:=by simp only[List.map_map];rfl
 have K:(((sM cf ds).map λa=>Jd (tp a)).map bY.ay).length=(l.map bY.ay).length:=by simp[hl]
 obtain⟨L,M⟩:=hS.at (i:=0) rfl;have nil:l=[]->pG tp dec g cf true [v,.mH g [] []] { H with ca:=[] }=some (.mw [],{ H with ca:=[] })->∃u H',lZ C F0 Pr true f [v,.mH g [] []] { H with ca:=[] } u H'/\u=.mw []/\Sep H' (.sl true t v 2 (((sM cf ds).map λa=>Jd (tp a)).map bY.ay)::F):=by rintro rfl h;have:sM cf ds=[]:=ann hl;rw[this];exact⟨_,_,d _ h,rfl,hS.ca _⟩
 rcases M with⟨m,rfl⟩|⟨m|m,rfl⟩|⟨b,p,j,N,rfl,D,r⟩
 ·have s:=anx.mp m;subst s;exact nil rfl (by simp only[pG,Nat.beq_refl,List.map_nil])
 ·cases m
 ·have:=anx.mp m;subst this;exact nil rfl (by simp only[pG,Nat.beq_refl,List.map_nil])
 ·cases e:l with
  |nil=>subst e;exact nil rfl (by simp only[pG,Nat.beq_refl,List.map_nil,List.length_nil])
  |cons x t'=>
   (have c:(l.map bY.ay).length=t'.length+1:=by rw[e];simp);have E:H.lo<=b:=aT.qZ D
   have G:pG tp dec g cf true [.hs b p 0 (l.map bY.ay).length,.mH g [] []] { H with ca:=[] }=some (.mw [],{ H.set b (.lU p 2 (((sM cf ds).map tp).map pI++j))with ca:=[] }):=by
    rw[c];have B:zB (((l.map bY.ay++j).drop 0).take (t'.length+1))=some (l.map wE):=by rw[List.drop_zero,<- c,List.take_left];exact Oh q2
    (have w:(Nat.ble (0+(t'.length+1)) (l.map bY.ay++j).length&&Nat.ble (t'.length+1) 1000000)=true:=by rw[Bool.and_eq_true,Nat.ble_eq,Nat.ble_eq,List.length_append,<- c];rw[List.length_map]at c ⊢;omega);have n:putAt (l.map bY.ay++j) 0 (t'.length+1) (((sM cf ds).map tp).map pI)=((sM cf ds).map tp).map pI++j:=by unfold putAt;rw[Nat.zero_add,<- c,List.drop_left];rfl
    simp only[pG,Nat.beq_refl,aT.oR,D,Bool.true_and,w,B,hd,n,aT.s7]
   rw[<- e];rw[<- q]at G;refine⟨_,_,d _ G,rfl,Sep.ca ?_ _⟩;refine(hS.rp (i:=0) rfl (r':=.sl true t (.hs b p 0 (l.map bY.ay).length) 2 (((sM cf ds).map λa=>Jd (tp a)).map bY.ay)) (by simpa using hS.lo) (by simp) ⟨?_,.inr (.inr ⟨b,p,j,by simp_all,by rw[K],?_,r⟩)⟩ ?_ ?_);·intro z J;simp only[List.mem_map]at J;obtain⟨y,_,rfl⟩:=J;rfl
   ·grind[aT.pa]
   ·intro b' o A;rw[aT.pa,if_neg (by rintro⟨rfl,_⟩;exact A rfl)]
   ·intro b' o;exact .inl o
end Go.Sx
namespace Go.Sx
open Go Go.Proofs Go.Sort Go.RowKit
def cI(x y:Int):Int:=if x<y then -1 else if y<x then 1 else 0
def s6(p q:Int×Int):Int:=if cI p.1 q.1=0 then cI p.2 q.2 else cI p.1 q.1
theorem lex_lt(p q:Int×Int):ltOf s6 p q=decide (p.1<q.1\/(p.1=q.1/\p.2<q.2)):=by grind[ltOf,s6,cI]
def CY:SWO (ltOf s6):=by constructor<;>grind[lex_lt]
def Dk(a b:bY):Prop:=a.elem<b.elem\/(a.elem=b.elem/\a.pos<b.pos)
def Uz(a:bY):¬Dk a a:=by grind[Dk]
def MJ(a b c:bY)(h1:Dk a b)(h2:Dk b c):Dk a c:=by grind[Dk]
theorem Kp:∀ks:List (Int×Int),CJ some ks=some ks
 |[]=>rfl
 |p::l=>by simp only[CJ,Kp l]
def FL(l lo:List bY):Prop:=lo.length=l.length/\lo.Pairwise (λa b=>a=b\/Dk a b)/\∀x,x∈lo↔x∈l
def Gt(l:List bY):FL l ((sM s6 (l.map wE)).map Jd):=by
 obtain⟨a,f⟩:=FA CY (l.map wE);have c:(sM s6 (l.map wE)).length=l.length:=by rw[a.length_eq,List.length_map]
 refine⟨by grind,?_,λx=>?_⟩;·rw[List.pairwise_map,List.pairwise_iff_getElem];grind[lex_lt,sM,s6,wE,Jd,Dk]
 ·rw[List.mem_map];constructor;·rintro⟨p,b,rfl⟩;obtain⟨y,d,rfl⟩:=anj.mp (a.mem_iff.mp b);exact d
  ·intro e;exact⟨wE x,a.mem_iff.mpr (anj.mpr ⟨x,e,rfl⟩),rfl⟩
abbrev KJ:Type:={ p:Int×Int // 0<=p.1/\p.1<1000 }
instance:Inhabited KJ:=⟨⟨(0,0),by decide⟩⟩
def zM(a:KJ):Int×Int:=a.1
def GZ(p:Int×Int):Option KJ:=if h:0<=p.1/\p.1<1000 then some ⟨p,h⟩else none
def WS(p:Int×Int)(a:KJ)(h:GZ p=some a):zM a=p:=by
 unfold GZ at h;split at h;·cases h;rfl
 ·cases h
def zp(a b:KJ):Int:=a.1.1 - b.1.1
def J2:SWO (ltOf zp):=by constructor<;>grind[ltOf,zp]
def Qi:∀(l:List bY),(∀x∈l,0<=x.elem/\x.elem<1000)->∃ds:List KJ,CJ GZ (l.map wE)=some ds/\ds.map zM=l.map wE
 |[],_=>⟨[],rfl,rfl⟩
 |x::l,h=>by
  obtain⟨ds,d,a⟩:=Qi l λy b=>h y (anp _ b);have e:GZ (wE x)=some ⟨wE x,h x (by simp)⟩:=by exact dif_pos (c:=0<=(wE x).1/\(wE x).1<1000) (h x (by simp))
  refine⟨⟨wE x,h x (by simp)⟩::ds,?_,?_⟩;·grind[CJ]
  ·simp only[List.map_cons,a];rfl
def QC{l:List bY}{ds:List KJ}(h:ds.map zM=l.map wE):((sM zp ds).map λa=>Jd (zM a)).length=l.length/\∀x,x∈((sM zp ds).map λa=>Jd (zM a))↔x∈l:=by
 obtain⟨c,_⟩:=FA J2 ds;have d:ds.length=l.length:=by simpa using congrArg List.length h
 refine⟨by rw[List.length_map,c.length_eq,d],λx=>?_⟩;rw[List.mem_map];constructor
 ·rintro⟨p,b,rfl⟩;have:zM p∈l.map wE:=by grind
  obtain⟨y,f,e⟩:=anj.mp this;rw[<- e];exact f
 ·intro g;have:wE x∈ds.map zM:=by grind
  obtain⟨p,b,e⟩:=anj.mp this;exact⟨p,c.mem_iff.mpr b,by rw[e];rfl⟩
def WT[Inhabited bY][DecidableEq bY]{l lo:List bY}(h:FL l lo):(Lib.compact lo).Pairwise Dk/\∀x,x∈Lib.compact lo↔x∈l:=by obtain⟨a,b⟩:=am2 MJ h.2.1;exact⟨a,λx=>(b x).trans (h.2.2 x)⟩
def rL(S:bY->Prop)(e q:Int)(o:List bY):Prop:=o.Pairwise Dk/\∀x,x∈o↔(S x/\0<=x.elem/\1<=x.pos/\x.pos<=2/\(x.elem<e\/(x.elem=e/\x.pos<q)))
def rL.zero{S:bY->Prop}:rL S 0 1 []:=⟨.nil,λx=>by grind⟩
def rL.yes{S:bY->Prop}{e q:Int}{o:List bY}(h:rL S e q o)(h0:0<=e)(h1:1<=q)(h2:q<=2)(hs:S ⟨e,q⟩):rL S e (q+1) (o++[⟨e,q⟩]):=by
 refine⟨anH.mpr ⟨h.1,by simp,λa d b c=>?_⟩,λx=>?_⟩;·simp only[List.mem_singleton]at c;subst c;have:=((h.2 a).mp d).2;grind[Dk]
 ·rw[List.mem_append,h.2 x,List.mem_singleton];obtain⟨f,g⟩:=x;grind
def rL.no{S:bY->Prop}{e q:Int}{o:List bY}(h:rL S e q o)(hs:¬S ⟨e,q⟩):rL S e (q+1) o:=by refine⟨h.1,λx=>?_⟩;rw[h.2 x];obtain⟨a,b⟩:=x;grind
theorem rL.next{S:bY->Prop}{e q:Int}{o:List bY}(h:rL S e q o)(hq:q=3):rL S (e+1) 1 o:=by refine⟨h.1,λx=>?_⟩;rw[h.2 x];grind
def rL.eq[Inhabited bY][DecidableEq bY]{S:bY->Prop}{e:Int}{o l lo r:List bY}(h:rL S e 1 o)(hr:r=Lib.compact lo)(hl:FL l lo)(hS:∀x,x∈l↔S x)(hb:∀x,S x->0<=x.elem/\x.elem<e/\1<=x.pos/\x.pos<=2):r=o:=by obtain⟨a,b⟩:=WT hl;subst hr;refine J0 Uz MJ a h.1 λx=>?_;rw[b x,hS x,h.2 x];grind
end Go.Sx
namespace Go.Sx
open Go Go.Proofs Go.RowKit Go.Maps Go.Sort
def yA(shd:Bool)(args:List AV)(h:aT):R2:=match args with
 |[.sl [] .nil,.int .i64 (.ofNat n)]=>match n with
  |0=>some (.sl [] .nil,h)
  |k+1=>match shd with
   |false=>none
   |true=>match Nat.ble (k+1) 1000000 with
    |true=>some (.hs h.size 0 0 0,h.push (.lU 0 2 []))
    |false=>none
 |_=>none
def My:∀(args:List AV)(h:aT) (v:AV) (h':aT),yA false args h=some (v,h')->h'=h/\∀h2:aT,(∀b o,h.get b=some o->h2.get b=some o)->yA false args h2=some (v,h2):=by
 intro args h v h' a;unfold yA at a;split at a
 ·split at a;·cases a;exact⟨rfl,λ_ _=>rfl⟩
  grind
 grind
theorem OQ {P : Program} {f : Nat} (hex : ∃ fn, P.funcs[f]? = some fn ∧ fn.body.isNone = false ∧ (fn.name == "runtime.NumGoroutine") = false)
  (h1:∀(p:Option Addr) (n:Nat) (w:World),0<n->n<=1000000->Calls P f #[.slice p 0 0,.int .i64 n] w λe w'=>∃(c:Array Value) (cap:Nat) (el:TypeId),c.size=cap*2/\e=.returned (.slice (some ⟨w.heap.size,0,none⟩) 0 cap)/\w'=w.drew.alloc (.cells c el))
  (h0:∀(p:Option Addr) (w:World),Calls P f #[.slice p 0 0,.int .i64 0] w λe w'=>e=.returned (.slice p 0 0)/\w'=w):qD P f yA where
 call:=by
  intro H A h v h' d G b J K O C i o;refine⟨hex,?_⟩;intro R D;subst J;unfold yA at d;split at d
  ·rename_i n
   have q:∃y z,b = #[y,z]/\VC G (.sl [] .nil) y/\VC G (.int .i64 (.ofNat n)) z:=by
    cases b with|mk l=>
    match l,i,o with
    |[],i,_=>simp at i
    |[_],i,_=>simp at i
    |[y,z],_,o=>exact⟨y,z,rfl,o 0 _ _ rfl rfl,o 1 _ _ rfl rfl⟩
    |_::_::_::_,i,_=>simp at i
   obtain⟨y,z,rfl,F,r⟩:=q;have r:=E4 r;subst r
   have s:∃p,y=.slice p 0 0:=by
    have hs:=F.vr;cases xp hs with
    |slnil=>simp
    |sy _ _ a c hm hc2=>have M:c=0:=hc2.to;grind
    |sl _ _ _ B base c e fr cap' esz f hm hB hI hc2 hle=>have M:cap'=0:=hc2.to;grind
   obtain⟨p,rfl⟩:=s;split at d;·cases d;refine(h0 p G.w).mono ?_;rintro e w' ⟨rfl,rfl⟩;exact D _ _ (Step.refl G) C (λm=>rfl) (λm L=>VR.nB F.vr rfl)
   ·rename_i k;split at d;·cases d
    ·split at d
     ·rename_i t;cases d;have t:=anf.mp t;refine(h1 p (k+1) G.w (by omega) t).mono ?_;rintro e w' ⟨c,cap,el,N,rfl,rfl⟩
      obtain⟨u,x⟩:=HF (ob:=.lU 0 2 []) (cap:=cap) C (pe.drew G.w (.cells c el)) (by
       intro g Q S e G' E j;cases e
       exact tc.zK j (by simp) (by grind) ⟨by simp,by simp⟩) (by simp)
      refine D _ _ u x (λm=>rfl) (λm L=>VR.nB ?_ rfl);refine .hs _ 0 0 _ _ cap (by simp) (by omega) (by omega) ?_;grind[pD]
     grind
  grind
 BQ:=My
def VT{C:nu}{F0:oP}{Pr:om}{f:Nat}(hp:Pr f=some yA){H:aT}{n:Int}{F:List mZ}(hS:Sep H F)(q0:0<=n)(q1:n<=1000000) :
  ∃v H',lZ C F0 Pr true f [.sl [] .nil,.int .i64 n] { H with ca:=[] } v H'/\Sep H' (.sl true true v 2 []::F):=by
 have a:∀(v:AV) (H':aT),yA true [.sl [] .nil,.int .i64 n] { H with ca:=[] }=some (v,H')->lZ C F0 Pr true f [.sl [] .nil,.int .i64 n] { H with ca:=[] } v H':=by intro v H' h;refine⟨1,λk d=>?_⟩;cases k<;>grind[qi]
 have b:=hS.ca [];obtain⟨m,rfl⟩:=anQ q0;cases m with
 |zero=>refine⟨_,_,a _ _ rfl,?_⟩;exact b.new b.lo (abs _) ⟨by simp,.inl ⟨rfl,rfl⟩⟩ (λ_ _=>rfl) (by simp[pF,mZ.v])
 |succ k=>
  have d:Nat.ble (k+1) 1000000=true:=anf.mpr (by omega);refine⟨_,_,a (.hs H.size 0 0 0) ({ H with ca:=[] }.push (.lU 0 2 [])) ?_,?_⟩;·grind[yA]
  ·have c:=b.lo;refine b.new (by simp at c ⊢;omega) (by simp) ⟨by simp,.inr (.inr ⟨H.size,0,[],by simp,by simp,?_,λ_=>rfl⟩)⟩ ?_ ?_<;>grind[aT.uH,mZ.v,pF]
end Go.Sx
namespace Go.Sx
open Go
def ri(P:Program)(N:Nat)(G0:Ga)(c:Code)(e:Env)(h:aT)(x:Ex)(e':Env)(h':aT):Prop :=
 ∀(G:Ga) (a:Act) (Q:Exit->Act->World->Prop),G.h=h->St N G0 G e a->(∀G' a',G'.h=h'->St N G0 G' e' a'->Q (HA x) a' G'.w)->c.wp P Q a G.w
def I0:Tr nR->(Nat->Nat)->aT->Bool
 |.leaf,_,_=>true
 |.node l v r,f,h=>(match v with
  |some (.lU g z xs)=>match h.get (f 0)with
   |some (.lU g' z' xs')=>Nat.beq g g'&&Nat.beq z z'&&rl (rl (pk 12)) xs xs'
   |_=>false
  |some (.map es c)=>match h.get (f 0)with
   |some (.map es' c')=>Nat.beq c c'&&rl (λp q=>pk 12 p.1 q.1&&pk 12 p.2.1 q.2.1&&Nat.beq p.2.2 q.2.2) es es'
   |_=>false
  |none=>true)&&I0 l (λn=>f (2*n+1)) h&&I0 r (λn=>f (2*n+2)) h
def J1(h2 h1:aT):Bool:=Nat.beq h2.size h1.size&&Nat.beq h2.lo h1.lo&&Nat.beq h2.lo 0&&rl (λp q=>Nat.beq p.1 q.1&&rl (pk 12) p.2 q.2) h2.ca h1.ca&&I0 h2.tr id h1
structure Sub(h2 h1:aT):Prop where
 size:h2.size=h1.size
 lo:h2.lo=h1.lo
 ca:h2.ca=h1.ca
 get:∀b o,h2.get b=some o->h1.get b=some o
theorem E5:∀(t:Tr nR)(f:Nat->Nat) (h:aT),I0 t f h=true->∀(n:Nat)(o:nR),t.get n=some o->h.get (f n)=some o
 |.leaf,_,_,_,n,o,h=>by simp[Tr.get]at h
 |.node l v r,f,h,ha,n,o,hg=>by
  simp only[I0,Bool.and_eq_true]at ha;obtain⟨⟨a,j⟩,k⟩:=ha;cases n with
  |zero=>
   simp only[Tr.get]at hg;subst hg;cases o with
   |lU g z xs=>
    simp only at a;split at a;·rename_i g' z' s b;simp only[Bool.and_eq_true]at a;rw[b,Nat.eq_of_beq_eq_true a.1.1,Nat.eq_of_beq_eq_true a.1.2,sa (λ_ _=>sa (uS 12) _ _) _ _ a.2]
    ·cases a
   |map es c=>
    simp only at a;split at a
    ·rename_i i c' b;simp only[Bool.and_eq_true]at a
     have:es=i:=sa (λp q d=>by
      simp only[Bool.and_eq_true]at d
      exact Prod.ext (uS 12 _ _ d.1.1) (Prod.ext (uS 12 _ _ d.1.2) (acl d.2))) _ _ a.2
     rw[b,Nat.eq_of_beq_eq_true a.1,this]
    ·cases a
  |succ m=>
   simp only[Tr.get]at hg;split at hg;·rename_i e;have e:=acl e;have:=E5 l _ h j (m / 2) o hg;rw[show 2*(m / 2)+1=m+1 by omega]at this;exact this
   ·rename_i e;have e:m % 2≠0:=anv e;have:=E5 r _ h k (m / 2) o hg;rw[show 2*(m / 2)+2=m+1 by omega]at this;exact this
def Sk{h2 h1:aT}(h:J1 h2 h1=true):Sub h2 h1:=by
 simp only[J1,Bool.and_eq_true]at h;obtain⟨⟨⟨⟨b,c⟩,e⟩,d⟩,f⟩:=h
 refine⟨acl b,acl c,sa (λp q a=>by
  simp only[Bool.and_eq_true]at a
  exact Prod.ext (acl a.1) (sa (uS 12) _ _ a.2)) _ _ d,?_⟩
 grind[aT.get,E5]
section
variable {P:Program}{X:Ctx}{N:Nat}{G0:Ga}
theorem St.drop{G:Ga}{e:Env}{a:Act}{h2:aT}(hS:St N G0 G e a)(hs:Sub h2 G.h)(h0:G0.h.size=0):St N G0 ⟨G.w,G.T,h2,G.pi,G.L⟩ e a:=by
 have E:Ext G ⟨G.w,G.T,h2,G.pi,G.L⟩:=⟨λ_ _ h=>h,λ_ _ _=>rfl,by rw[hs.size];omega,λb _ g z i h=>⟨g,z,i,hs.get b _ h,abs _,λ_=>⟨rfl,λ_ h=>h⟩⟩,λb _ j c h=>⟨j,c,hs.get b _ h,λ_ h=>h⟩,λ_ _ h=>h⟩;refine⟨⟨?_,hS.fr.L⟩,?_,hS.er.mono E,hS.df,hS.sz⟩;·have S:=hS.fr.S;refine⟨⟨S.ext.T,S.ext.keep,by omega,λb n=>by omega,λb n=>by omega,S.ext.ca⟩,S.os,S.output,S.tape,S.py,S.frame,S.si,S.tC,S.yK,?_,λb n=>by omega,S.w7,S.yL,S.y3⟩;exact hs.lo.trans S.lo
 ·have W:=hS.wr;refine⟨λb l g z i k m=>(W.lU b l g z i k (hs.get b _ m)).mono E rfl,λb l j c k m=>(W.map b l j c k (hs.get b _ m)).mono E rfl,?_,?_,W.rY,W.w0,W.uI,W.LT,W.u7,?_,W.sB,?_,?_⟩;·intro d B cs p f;have f:nE h2.ca d=some cs:=f;rw[hs.ca]at f;exact(W.loc d B cs p f).mono E rfl
  ·intro b l h;refine⟨(W.oW b l h).1,?_⟩;show b<h2.size;rw[hs.size];exact(W.oW b l h).2
  ·intro d B h;refine⟨(W.qL d B h).1,?_⟩;show(nE h2.ca d).isSome=true;rw[hs.ca];exact(W.qL d B h).2
  ·show h2.lo<=h2.size;rw[hs.lo,hs.size];exact W.lo
  ·intro b o h;show b<h2.size;rw[hs.size];exact W.lt b o (hs.get b o h)
def B7(hm:P.follows .mixedOrders=true)(hC:nV P X.C)(hK:tS P X.call)(hI:uP X.call){n:Nat}{c:Code}{an:mS}{e:Env}{h:aT}{x:Ex}{e':Env}{h':aT}(hr:nP X (oU n) c an e h=some (x,e',h'))(hok:codeOk N X.fa.mP c an=true) :
  ri P N G0 c e h x e' h':=λG a Q b d f=>AQ hm hC hK hI n c an e h x e' h' hr hok G a Q b d f
inductive Ax(f:Env->aT->RC):Env->aT->Ex->Env->aT->Prop
 |last {e h x e' h'} (k:Nat):xy k f e h=some (x,e',h')->x≠.oa->Ax f e h x e' h'
 |step {e h e1 h1 h2 x e' h'} (k:Nat):xy (k+1) f e h=some (.oa,e1,h1)->Sub h2 h1->Ax f e1 h2 x e' h'->Ax f e h x e' h'
def Si(n:Nat)(a b:AV):Bool:=match a with
 |.mw []=>(match b with
  |.mw []=>true
  |_=>false)
 |a=>pk n a b
def WY{n:Nat}{a b:AV}(h:Si n a b=true):a=b:=by
 unfold Si at h;split at h
 ·split at h;·rfl
  ·cases h
 ·exact uS n _ _ h
def sp(k:Nat)(f:Env->aT->RC)(e:Env)(h:aT)(e1:Env)(h2:aT):Bool:=match xy (k+1) f e h with
 |some (.oa,e',h')=>rl (λp q=>Nat.beq p.1 q.1&&Si 12 p.2 q.2) e1 e'&&J1 h2 h'
 |_=>false
def Ax.piece{f:Env->aT->RC}{e:Env}{h:aT}{e1:Env}{h2:aT}{x:Ex}{e':Env}{h':aT}(k:Nat)(hp:sp k f e h e1 h2=true)(hc:Ax f e1 h2 x e' h'):Ax f e h x e' h':=by
 unfold sp at hp;split at hp
 ·rename_i e0 c b;simp only[Bool.and_eq_true]at hp
  have:e1=e0:=sa (λp q a=>by
   simp only[Bool.and_eq_true]at a
   exact Prod.ext (acl a.1) (WY a.2)) _ _ hp.1
  subst this;exact .step k b (Sk hp.2) hc
 grind
def O5{c:Code}{n0:Nat}(ih:B1 P X N G0 (oU n0) c){live:List Nat}{y:mS}(hok:codeOk N X.fa.mP c y=true){J:Nat->Act->World->Prop}{Q:Exit->Act->World->Prop}{n:Nat}
  {e:Env} {h:aT} {x:Ex} {e':Env} {h':aT} (hr:qm live (nP X (oU n0) c y) e h=some (x,e',h')) {G:Ga} {a:Act} (hG:G.h=h) (hS:St N G0 G e a)
  (hQ:∀G' a',G'.h=h'->St N G0 G' e' a'->Exit.then (λa' w'=>∃m,m<n/\J m a' w') Q (HA x) a' G'.w):c.wp P (Exit.then (λa' w'=>∃m,m<n/\J m a' w') Q) a G.w:=by
 rw[uC]at hr;subst hG;exact ih y _ _ _ _ _ hr hok (G.nB (pt live G.h.ca) (vv live G.L)) a _ rfl (hS.qm live) hQ
def GO{c:Code}{n0:Nat}(ih:B1 P X N G0 (oU n0) c){live:List Nat}{y:mS}(hok:codeOk N X.fa.mP c y=true)(h0:G0.h.size=0){e:Env}{h:aT}{x:Ex}{e':Env}{h':aT}
  (hc:Ax (qm live (nP X (oU n0) c y)) e h x e' h'):ri P N G0 (.loop c) e h x e' h':=by
 have count:∃t,∃R:Nat->Env->aT->Prop,R t e h/\∀n e h,R n e h->∃l o r,qm live (nP X (oU n0) c y) e h=some (l,o,r) /\
   ((l=.oa/\∃m i,m<n/\Sub i r/\R m o i)\/(l≠.oa/\l=x/\o=e'/\r=h')):=by
  have d:∀h:aT,Sub h h:=λh=>⟨rfl,rfl,rfl,λ_ _ h=>h⟩;induction hc with
  |@last e h x e' h' k hi hx=>
   refine⟨k,λn e h=>xy n (qm live (nP X (oU n0) c y)) e h=some (x,e',h'),hi,?_⟩;intro n e h g;cases n with
   |zero=>grind[xy]
   |succ n=>
    simp only[xy]at g;split at g;·rename_i s i u;exact⟨.oa,s,i,u,.inl ⟨rfl,n,i,anT _,d _,g⟩⟩
    grind
  |@step e h o r i x e' h' k hi B hc ihc=>
   obtain⟨t,R,z,f⟩:=ihc;refine⟨t+(k+1),λn e h=>R n e h\/∃j,n=t+j/\0<j/\xy j (qm live (nP X (oU n0) c y)) e h=some (.oa,o,r),?_,?_⟩;·grind
   ·intro n e h g;rcases g with g|⟨j,rfl,Y,g⟩
    ·obtain⟨l,s,A,J,K⟩:=f n e h g;refine⟨l,s,A,J,?_⟩;rcases K with⟨M,m,O,S,U,V⟩|b
     ·exact .inl ⟨M,m,O,S,U,.inl V⟩
     grind
    ·cases j with
     |zero=>omega
     |succ j=>
      simp only[xy]at g;split at g
      ·rename_i s A u;refine⟨.oa,s,A,u,.inl ⟨rfl,?_⟩⟩;cases j with
       |zero=>simp only[xy,Option.some.injEq,Prod.mk.injEq,true_and]at g;obtain⟨rfl,rfl⟩:=g;exact⟨t,i,by omega,B,.inl z⟩
       |succ j=>exact⟨t+(j+1),A,by omega,d _,.inr ⟨j+1,rfl,Nat.succ_pos _,g⟩⟩
      grind
 obtain⟨t,R,z,f⟩:=count;intro G a Q Z C H;refine HO (λm a w=>∃G e,G.w=w/\St N G0 G e a/\R m e G.h) ?_ t a G.w ⟨G,e,rfl,C,by grind⟩;rintro n a _⟨G,e,rfl,C,z⟩;obtain⟨l,o,r,u,D⟩:=f n e G.h z;refine O5 ih hok u rfl C ?_;intro G' a' p q;rcases D with⟨rfl,m,i,E,B,F⟩|⟨W,rfl,rfl,rfl⟩
 ·subst p;exact⟨m,E,⟨G'.w,G'.T,i,G'.pi,G'.L⟩,o,rfl,q.drop B h0,F⟩
 ·cases l with
  |oa=>grind
  |ext id=>exact H G' a' p q
  |ret=>exact H G' a' p q
end
section
variable {P:Program}{X:Ctx}{N:Nat}{G0:Ga}
def P7{a b:Code}{e e1 e':Env}{h h1 h':aT}{x:Ex}(ha:ri P N G0 a e h .oa e1 h1)(hb:ri P N G0 b e1 h1 x e' h'):ri P N G0 (.seq a b) e h x e' h' :=
 λG c _ g i j=>wp_seq (ha G c _ g i λG1 k d f=>hb G1 k _ d f j)
def MO{a b:Code}{live:List Nat}{e e1 e':Env}{h h1 h':aT}{x:Ex}(ha:ri P N G0 a e h .oa e1 h1)(hb:ri P N G0 b (proj live e1) { h1 with ca:=pt live h1.ca } x e' h'):ri P N G0 (.seq a b) e h x e' h':=by intro G c Q g i j;refine wp_seq (ha G c _ g i λG1 k d f=>?_);subst d;exact hb (G1.nB (pt live G1.h.ca) (vv live G1.L)) k Q rfl (f.qm live) j
def N3{a b:Code}{e e':Env}{h h':aT}{x:Ex}(ha:ri P N G0 a e h x e' h')(hx:x≠.oa):ri P N G0 (.seq a b) e h x e' h':=by
 intro G f Q j k g;refine wp_seq (ha G f _ j k λG1 i c d=>?_);cases x with
 |oa=>grind
 |ext id=>exact g G1 i c d
 |ret=>exact g G1 i c d
def Se{a:Code}{id:Nat}{e e1 e':Env}{h h1 h':aT}{x x1:Ex}(ha:ri P N G0 a e h x1 e1 h1)(he:atEnd id (some (x1,e1,h1))=some (x,e',h')):ri P N G0 (.block id a) e h x e' h':=by
 intro G j Q k l g;refine wp_block (ha G j _ k l λG1 f b c=>?_);cases x1 with
 |oa=>cases he;exact g G1 f b c
 |ret=>cases he;exact g G1 f b c
 |ext i=>
  simp only[atEnd]at he;show Exit.inBlock id Q (.exit i) f G1.w;simp only[Exit.inBlock];split at he;·rename_i d;have d:=acl d;cases he;rw[if_pos d];exact g G1 f b c
  ·rename_i d;have d:=anv d;cases he;rw[if_neg d];exact g G1 f b c
def QX{a:Code}{e e1:Env}{h h1:aT}{x1:Ex}(ha:ri P N G0 a e h x1 e1 h1):ri P N G0 (.scope a) e h x1 e1 h1:=by
 intro G d Q j k f;refine wp_scope_straight (ha G d _ j k λG1 g b c=>?_);cases x1 with
 |oa=>exact f G1 g b c
 |ext i=>exact f G1 g b c
 |ret=>exact f G1 g b c
def En{k:Env->aT->RC}{r:RC}{x:Ex}{e':Env}{h':aT}(h:andThen k r=some (x,e',h')) :
  (∃e1 h1,r=some (.oa,e1,h1)/\k e1 h1=some (x,e',h'))\/(r=some (x,e',h')/\x≠.oa):=by
 unfold andThen at h;grind
def tD(hm:P.follows .mixedOrders=true)(hC:nV P X.C)(hK:tS P X.call)(hI:uP X.call){n:Nat}:∀(p:List Bool)(c:Code) (an:mS) (e:Env) (h:aT) (e0:Env) (h0:aT) (x1:Ex) (e1:Env) (h1:aT) (x:Ex) (e':Env) (h':aT),
  codeOk N X.fa.mP c an=true->xa X (oU n) p c an e h=some (.oa,e0,h0)->ri P N G0 (xH p c an).1 e0 h0 x1 e1 h1->behind X (oU n) p c an (some (x1,e1,h1))=some (x,e',h')->ri P N G0 c e h x e' h'
 |[],c,an,e,h,e0,h0,x1,e1,h1,x,e',h',_,f,i,g=>by simp only[xa,Option.some.injEq,Prod.mk.injEq,true_and]at f;obtain⟨rfl,rfl⟩:=f;simp only[behind,Option.some.injEq,Prod.mk.injEq]at g;obtain⟨rfl,rfl,rfl⟩:=g;exact i
 |true::p,c,an,e,h,e0,h0,x1,e1,h1,x,e',h',d,f,i,g=>by
  cases c<;>try (cases f;done)
  rename_i a b;cases an<;>try (cases f;done)
  ·rename_i k y z;simp only[xa]at f;obtain⟨l,m,k1,k2⟩:=G5 f;rw[uC]at k2;simp only[codeOk,Bool.and_eq_true]at d;exact MO (B7 hm hC hK hI k1 d.1) (tD hm hC hK hI p b z _ _ e0 h0 x1 e1 h1 x e' h' d.2 k2 i g)
  ·rename_i y z;simp only[xa]at f;obtain⟨l,m,k1,k2⟩:=G5 f;simp only[codeOk,Bool.and_eq_true]at d;exact P7 (B7 hm hC hK hI k1 d.1) (tD hm hC hK hI p b z _ _ e0 h0 x1 e1 h1 x e' h' d.2 k2 i g)
 |false::p,c,an,e,h,e0,h0,x1,e1,h1,x,e',h',d,f,i,g=>by
  cases c<;>try (cases f;done)
  ·rename_i a b;cases an<;>try (cases f;done)
   ·rename_i k y z;simp only[xa]at f;simp only[codeOk,Bool.and_eq_true]at d;simp only[behind]at g;rcases En g with⟨l,m,k1,k2⟩|⟨k1,k2⟩
    ·rw[uC]at k2;exact MO (tD hm hC hK hI p a y e h e0 h0 x1 e1 h1 _ _ _ d.1 f i k1) (B7 hm hC hK hI k2 d.2)
    ·exact N3 (tD hm hC hK hI p a y e h e0 h0 x1 e1 h1 _ _ _ d.1 f i k1) k2
   ·rename_i y z;simp only[xa]at f;simp only[codeOk,Bool.and_eq_true]at d;simp only[behind]at g;rcases En g with⟨l,m,k1,k2⟩|⟨k1,k2⟩
    ·exact P7 (tD hm hC hK hI p a y e h e0 h0 x1 e1 h1 _ _ _ d.1 f i k1) (B7 hm hC hK hI k2 d.2)
    ·exact N3 (tD hm hC hK hI p a y e h e0 h0 x1 e1 h1 _ _ _ d.1 f i k1) k2
  ·rename_i id a;have f:xa X (oU n) p a an e h=some (.oa,e0,h0):=by cases an<;>exact f
   (have g:atEnd id (behind X (oU n) p a an (some (x1,e1,h1)))=some (x,e',h'):=by cases an<;>exact g);have d:codeOk N X.fa.mP a an=true:=by cases an<;>exact d
   (have i:ri P N G0 (xH p a an).1 e0 h0 x1 e1 h1:=by cases an<;>exact i);cases j:behind X (oU n) p a an (some (x1,e1,h1))with
   |none=>rw[j]at g;cases g
   |some z=>obtain⟨o,l,m⟩:=z;rw[j]at g;exact Se (tD hm hC hK hI p a an e h e0 h0 x1 e1 h1 _ _ _ d f i j) g
  ·rename_i a;have f:xa X (oU n) p a an e h=some (.oa,e0,h0):=by cases an<;>exact f
   (have g:behind X (oU n) p a an (some (x1,e1,h1))=some (x,e',h'):=by cases an<;>exact g);have d:codeOk N X.fa.mP a an=true:=by cases an<;>exact d
   (have i:ri P N G0 (xH p a an).1 e0 h0 x1 e1 h1:=by cases an<;>exact i);exact QX (tD hm hC hK hI p a an e h e0 h0 x1 e1 h1 _ _ _ d f i g)
end
def Ps{α:Type}[Inhabited α][DecidableEq α]{l lo:List α}(h:lo=Lib.compact l):lo.length<=l.length:=by grind[Lib.keeps,Lib.compact,Lib.compactUpTo]
def p4(n:ej)(e:Int):Int:=match look e n.line with
 |some y=>y.1
 |none=>-1
def xv(n:ej)(e i:Int):Int:=match look e n.lead with
 |some v=>if i<0\/i > 1 then 0 else if v=i then 1 else 2
 |none=>0
def NL{n:ej}{e r:Int}(h:(∃q,look e n.line=some (r,q))\/(look e n.line=none/\r = -1)):r=p4 n e:=by grind[p4]
def FU(n:ej)(o:List bY)(s:mA):List bY:=if p4 n s.elem<0\/(o.any λt=>decide (t.elem=p4 n s.elem))=true then o else o++[⟨p4 n s.elem,xv n s.elem s.qK⟩]
def yd(n:ej)(l:List mA):List bY:=l.foldl (FU n) []
section
variable {n:ej}{l:List mA}{o:List bY}{k:Nat}{s:mA}{r q:Int}
theorem JT{hk:k<l.length}(hq:l[k]=s)(h:o=yd n (l.take k)):FU n o s=yd n (l.take (k+1)):=by unfold yd at *;rw[List.take_add_one,List.getElem?_eq_getElem hk,hq,List.foldl_append,<- h];rfl
def acB{hk:k<l.length}(hq:l[k]=s)(h:o=yd n (l.take k))(hr:r=p4 n s.elem)(h0:r<0):o=yd n (l.take (k+1)):=by rw[<- JT hq h,FU,if_pos (.inl (hr▸h0))]
def agC{hk:k<l.length}(hq:l[k]=s)(h:o=yd n (l.take k))(hr:r=p4 n s.elem)(h0:∃x∈o,x.elem=r):o=yd n (l.take (k+1)):=by rw[<- JT hq h,FU,if_pos];grind
def ac6{hk:k<l.length}(hq:l[k]=s)(h:o=yd n (l.take k))(hr:r=p4 n s.elem)(h0:¬r<0)(h1:∀x∈o,¬x.elem=r)(hl:q=xv n s.elem s.qK):o++[⟨r,q⟩]=yd n (l.take (k+1)):=by rw[<- JT hq h,FU,if_neg,<- hr,<- hl];grind
theorem afa(h:o=yd n (l.take k))(hk:l.length<=k):o=yd n l:=by rwa [anA hk]at h
def NS{Q:bY->Prop}:∀(l:List mA)(o:List bY),(∀x∈o,Q x)->(∀s∈l,¬p4 n s.elem<0->Q ⟨p4 n s.elem,xv n s.elem s.qK⟩)->∀x∈l.foldl (FU n) o,Q x
 |[],o,h,_=>h
 |s::l,o,h,hs=>by refine NS l (FU n o s) ?_ (λt a=>hs t (anp _ a));grind[FU]
end
def Fg(n:ej):Prop:=∀e y,look e n.line=some y->0<=y.1/\y.1<20
def UF{n:ej}(h:Fg n){e:Int}(h0:¬p4 n e<0):0<=p4 n e/\p4 n e<20:=by
 unfold p4 at *;split at h0;·rename_i y a;exact h _ _ a
 ·omega
def Ur{n:ej}{e i:Int}:0<=xv n e i/\xv n e i<=2:=by grind[xv]
def T5{n:ej}(h:Fg n)(l:List mA):∀x∈yd n l,(0<=x.elem/\x.elem<20)/\0<=x.pos/\x.pos<=2 :=
 NS l [] (by simp) λs _ a=>⟨UF h a,Ur⟩
def aib{x:bY}(h:(0<=x.elem/\x.elem<20)/\0<=x.pos/\x.pos<=2):pg x.elem:=by grind[pg]
def ajy{x:bY}(h:(0<=x.elem/\x.elem<20)/\0<=x.pos/\x.pos<=2):pg x.pos:=by grind[pg]
def aht{x:bY}(h:(0<=x.elem/\x.elem<20)/\0<=x.pos/\x.pos<=2):0<=x.elem/\x.elem<1000:=by omega
def abF{n:ej}{l:List mA}{o:List bY}(h:Fg n)(ho:o=yd n l):∀x∈o,(0<=x.elem/\x.elem<20)/\0<=x.pos/\x.pos<=2:=ho▸T5 h l
def Bs(p:be)(L:List lv)(d:cB)(run:Int)(m:Nat)(x:lv):Prop:=∃k:Nat,k<m/\∃i∈p8 p L d run (k:Int),L[i.toNat]?=some x
section
variable {p:be}{L:List lv}{d:cB}{run:Int}{m j:Nat}{o R:List Int}{S:List lv}{i:Int}{x:lv}
def alT:∀y,y∈([]:List lv)↔Bs p L d run 0 y:=λy=>⟨λh=>by simp at h,λ⟨k,h,_⟩=>by omega⟩
def EV(p:be)(L:List lv)(d:cB)(run:Int)(m:Nat)(R:List Int)(j:Nat)(y:lv):Prop:=Bs p L d run m y\/∃i∈R.take j,L[i.toNat]?=some y
def aiZ(h:∀y,y∈S↔Bs p L d run m y):∀y,y∈S↔EV p L d run m R 0 y:=λy=>by grind[EV]
def alS(h:∀y,y∈S↔EV p L d run m R j y){hj:j<R.length}(hq:R[j]=i){hi:i.toNat<L.length}(hx:L[i.toNat]=x):∀y,y∈S++[x]↔EV p L d run m R (j+1) y:=by intro y;rw[List.mem_append,List.mem_singleton,h y];unfold EV;rw[List.take_add_one,List.getElem?_eq_getElem hj,hq];grind
def abn(h:∀y,y∈S↔EV p L d run m R j y)(hj:R.length<=j)(hR:R=p8 p L d run (m:Int)):∀y,y∈S↔Bs p L d run (m+1) y:=by
 intro y;rw[h y];unfold EV;rw[List.take_of_length_le hj,hR];constructor
 ·rintro(⟨k,b,a⟩|⟨i,b,a⟩);·exact⟨k,by omega,a⟩
  ·exact⟨m,by omega,i,b,a⟩
 ·rintro⟨k,b,a⟩;by_cases e:k=m;·grind
  ·exact .inl ⟨k,by omega,a⟩
end
theorem Kz{p:be}{L:List lv}{d:cB}{run leg:Int}(h:run<0\/run>=(d.runs.l.length:Int)):p8 p L d run leg=[]:=by grind[BU,sV,pr,p8]
def agb{p:be}{L:List lv}{d:cB}{run:Int}{m:Nat}(h:run<0\/run>=(d.runs.l.length:Int)):∀y,y∈([]:List lv)↔Bs p L d run m y:=λy=>by
 constructor;·simp
 ·rintro⟨k,_,i,a,_⟩;grind[Kz]
def IP{p:be}{L:List lv}{d:cB}{run:Int}{m:Nat}{x:lv}(h:Bs p L d run m x):x∈L:=by obtain⟨k,_,i,_,a⟩:=h;grind
def acq{p:be}{L:List lv}{d:cB}{run:Int}{m:Nat}{S:List lv}{x:nt}(h:∀y,y∈S↔Bs p L d run m y){hx:run.toNat<d.runs.l.length}(hq:d.runs.l[run.toNat]=x)(h1:x.mh.l.length<=m)(h2:m<=x.mh.l.length):∀y,y∈S↔Bs p L d run (sP d run) y:=by grind[GI]
def PX(S:List lv)(y:bY):Prop:=∃r∈S,y∈r.nC.l\/y∈r.guards.l
def ami{S:List lv}:∀y,y∈([]:List bY)↔PX (S.take 0) y:=λy=>⟨λh=>by simp at h,λ⟨r,h,_⟩=>by simp at h⟩
def al3{S:List lv}{l:List bY}{k:Nat}{r:lv}(h:∀y,y∈l↔PX (S.take k) y){hk:k<S.length}(hq:S[k]=r):∀y,y∈(l++r.nC.l)++r.guards.l↔PX (S.take (k+1)) y:=by intro y;rw[List.mem_append,List.mem_append,h y];unfold PX;rw[List.take_add_one,List.getElem?_eq_getElem hk,hq];grind
def WnS(p:be)(L:List lv)(d:cB)(run:Int)(y:bY):Prop:=∃r,Bs p L d run (sP d run) r/\(y∈r.nC.l\/y∈r.guards.l)
def SV{S:List lv}{l:List bY}{k:Nat}{p:be}{L:List lv}{d:cB}{run:Int}(h:∀y,y∈l↔PX (S.take k) y)(hk:S.length<=k)(hS:∀y,y∈S↔Bs p L d run (sP d run) y):∀y,y∈l↔WnS p L d run y:=by intro y;rw[h y,List.take_of_length_le hk];exact⟨λ⟨r,h1,h2⟩=>⟨r,(hS r).mp h1,h2⟩,λ⟨r,h1,h2⟩=>⟨r,(hS r).mpr h1,h2⟩⟩
def Y7{p q:be}{L:List lv}{d:cB}{run:Int}{y:bY}(h:WnS p L d run y)(hL:∀r∈L,pV q r):FJ q y:=by
 obtain⟨r,c,a⟩:=h;have b:=hL r (IP c);rcases a with a|a
 ·exact b.2.2.2.2.2.1 y a
 ·exact b.2.2.2.2.2.2 y a
def adD{p:be}{y:bY}(h:FJ p y)(h40:p.elems.l.length<=60):pg y.elem/\pg y.pos:=by obtain⟨⟨a,b⟩,c,d⟩:=h;grind[pg]
def Mh(n:ej)(S:List lv)(y:bY):Prop:=∃r∈S,y∈yd n r.steps.l
def al6{n:ej}{S:List lv}:∀y,y∈([]:List bY)↔Mh n (S.take 0) y:=λy=>⟨λh=>by simp at h,λ⟨r,h,_⟩=>by simp at h⟩
def alF{n:ej}{S:List lv}{l t:List bY}{k:Nat}{r:lv}(h:∀y,y∈l↔Mh n (S.take k) y){hk:k<S.length}(hq:S[k]=r)(ht:∀y,y∈t↔y∈yd n r.steps.l):∀y,y∈l++t↔Mh n (S.take (k+1)) y:=by intro y;rw[List.mem_append,h y,ht y];unfold Mh;rw[List.take_add_one,List.getElem?_eq_getElem hk,hq];simp
def LdS(n:ej)(L:List lv)(d:cB)(run:Int)(y:bY):Prop:=∃r,Bs n.p L d run (sP d run) r/\y∈yd n r.steps.l
def acn{n:ej}{S:List lv}{l:List bY}{k:Nat}{L:List lv}{d:cB}{run:Int}(h:∀y,y∈l↔Mh n (S.take k) y)(hk:S.length<=k)(hS:∀y,y∈S↔Bs n.p L d run (sP d run) y):∀y,y∈l↔LdS n L d run y:=by intro y;rw[h y,List.take_of_length_le hk];exact⟨λ⟨r,h1,h2⟩=>⟨r,(hS r).mp h1,h2⟩,λ⟨r,h1,h2⟩=>⟨r,(hS r).mpr h1,h2⟩⟩
def adj{n:ej}(h:Fg n){S:List lv}{k:Nat}{l:List bY}(hl:∀y,y∈l↔Mh n (S.take k) y):∀y∈l,pg y.elem/\pg y.pos:=by intro y a;obtain⟨r,_,b⟩:=(hl y).mp a;have:=T5 h _ y b;grind[pg]
def wW(A:Prop)(f:Bool):Prop:=f=true↔A
def Br(r:lv)(y:bY):Prop:=y∈r.nC.l\/y∈r.guards.l
def yP(n:ej)(r:lv)(y:bY):Prop:=y∈yd n r.steps.l
section
variable {Has:lv->bY->Prop}{p:be}{L:List lv}{d:cB}{run:Int}{m j k:Nat}{R:List Int}{y:bY}{f:Bool}{l:List bY}{r:lv}{i e q:Int}{x:bY}{A:Prop}
def vV(Has:lv->bY->Prop)(p:be)(L:List lv)(d:cB)(run:Int)(m:Nat)(y:bY):Prop:=∃r,Bs p L d run m r/\Has r y
def KQ(Has:lv->bY->Prop)(p:be)(L:List lv)(d:cB)(run:Int)(m:Nat)(R:List Int)(j:Nat)(y:bY):Prop:=∃r,EV p L d run m R j r/\Has r y
def acF:wW (vV Has p L d run 0 y) false:=⟨λh=>(by cases h),λ⟨r,⟨k,h,_⟩,_⟩=>by omega⟩
def aai(h:wW (vV Has p L d run m y) f):wW (KQ Has p L d run m R 0 y) f:=by refine h.trans ⟨λ⟨r,h1,h2⟩=>⟨r,.inl h1,h2⟩,λ⟨r,h1,h2⟩=>⟨r,h1.elim id λ⟨i,h3,_⟩=>by simp at h3,h2⟩⟩
def Pv(h:wW (KQ Has p L d run m R j y) f)(hj:R.length<=j)(hR:R=p8 p L d run (m:Int)):wW (vV Has p L d run (m+1) y) f:=by
 refine h.trans ⟨λ⟨r,a,h2⟩=>⟨r,?_,h2⟩,λ⟨r,⟨k,a,b⟩,h2⟩=>⟨r,?_,h2⟩⟩
 ·unfold EV at a;rw[List.take_of_length_le hj,hR]at a;rcases a with⟨k,a,b⟩|a
  ·exact⟨k,by omega,b⟩
  ·exact⟨m,by omega,a⟩
 ·unfold EV;rw[List.take_of_length_le hj,hR];by_cases e:k=m;·grind
  ·exact .inl ⟨k,by omega,b⟩
def aaG(h:wW A f):wW (A\/y∈l.take 0) f:=by grind
def aji(h:wW (A\/y∈l.take k) f)(hf:f=true):wW (A\/y∈l.take (k+1)) true:=by refine⟨λ_=>?_,λ_=>rfl⟩;rcases h.mp hf with h|h<;>grind
def aju{hk:k<l.length}(hq:l[k]=x)(he:x.elem=e/\x.pos=q):wW (A\/(⟨e,q⟩:bY)∈l.take (k+1)) true:=by refine⟨λ_=>.inr ?_,λ_=>rfl⟩;rw[List.take_add_one,List.getElem?_eq_getElem hk,hq,<- he.1,<- he.2];simp
def aio(h:wW (A\/(⟨e,q⟩:bY)∈l.take k) f)(hf:f=false){hk:k<l.length}(hq:l[k]=x)(he:¬(x.elem=e/\x.pos=q)):wW (A\/(⟨e,q⟩:bY)∈l.take (k+1)) false:=by
 refine⟨λh=>(by cases h),λa=>?_⟩;rw[List.take_add_one,List.getElem?_eq_getElem hk,hq]at a
 have:f=true:=h.mpr (a.imp id λb=>by
  grind)
 grind
def acr(h:wW (KQ Has p L d run m R j y\/y∈l.take k) f)(hk:l.length<=k)(hl:∀y,y∈l↔Has r y){hj:j<R.length}(hq:R[j]=i){hi:i.toNat<L.length}(hx:L[i.toNat]=r):wW (KQ Has p L d run m R (j+1) y) f:=by
 rw[List.take_of_length_le hk]at h;refine h.trans ⟨?_,?_⟩
 ·rintro(⟨z,a,b⟩|a)
  ·(refine⟨z,?_,b⟩;rcases a with a|⟨i',a,c⟩);·exact .inl a
   ·exact .inr ⟨i',by grind,c⟩
  ·exact⟨r,.inr ⟨i,by rw[List.take_add_one,List.getElem?_eq_getElem hj,hq];simp,by grind⟩,(hl y).mp a⟩
 ·rintro⟨z,a,b⟩;rcases a with a|⟨i',a,c⟩
  ·exact .inl ⟨z,.inl a,b⟩
  ·rw[List.take_add_one,List.getElem?_eq_getElem hj,hq]at a;rcases anm.mp a with a|a
   ·exact .inl ⟨z,.inr ⟨i',a,c⟩,b⟩
   grind
def afs:∀y,y∈(([]:List bY)++r.nC.l)++r.guards.l↔Br r y:=λy=>by unfold Br;simp
def abq{S:bY->Prop}{o:List bY}{e':Int}(h:rL S e q o)(hq:q=3)(he:e'=e+1):rL S e' 1 o:=he▸h.next hq
def aew{S:bY->Prop}{o:List bY}{q':Int}(h:rL S e q o)(h0:0<=e)(h1:1<=q)(h2:q<=2)(hs:S ⟨e,q⟩)(he:q'=q+1):rL S e q' (o++[⟨e,q⟩]):=he▸h.yes h0 h1 h2 hs
def ag6{S:bY->Prop}{o:List bY}{q':Int}(h:rL S e q o)(hs:¬S ⟨e,q⟩)(he:q'=q+1):rL S e q' o:=he▸h.no hs
def adV{S:bY->Prop}{o r:List bY}{n k:Nat}(h:rL S ((k:Nat):Int) 1 o)(h1:n<=k)(h2:k<=n)(hr:r=o):rL S (n:Int) 1 r:=by grind
def ael{S:bY->Prop}{e:Int}(h:∀x,¬S x):rL S e 1 []:=⟨.nil,λx=>⟨λa=>by simp at a,λa=>absurd a.1 (h x)⟩⟩
def af9{b:Bool}(h:wW (vV Has p L d run m y) b)(h0:b=true)(h1:sP d run=m):vV Has p L d run (sP d run) y:=by rw[h1];exact h.mp h0
def ag1{b:Bool}(h:wW (vV Has p L d run m y) b)(h0:b=false)(h1:sP d run=m):¬vV Has p L d run (sP d run) y:=by rw[h1];exactλa=>by have:=h.mpr a;grind
def afl(h:run<0\/run>=(d.runs.l.length:Int))(x:bY):¬vV Has p L d run m x:=by rintro⟨r,⟨k,_,i,a,_⟩,_⟩;grind[Kz]
end
theorem K0{p:be}:p.canon.lines.l.length=p.lines.l.length:=by simp[be.canon,Row.canon,Row.DY]
theorem Pc(p:be):mY p.canon=mY p:=rfl
def Tp{n:ej}{p:be}(h:qz n p):Fg n:=by intro e y a;obtain⟨i,c,d,_⟩:=h.Nw.1 e y a;have b:=h.G3.lines;rw[h.nU,K0]at b;omega
def aeG{p q:be}{L:List lv}{d:cB}{run:Int}(hL:∀r∈L,pV q r):∀x,vV Br p L d run (sP d run) x->0<=x.elem/\x.elem<(q.elems.l.length:Int)/\1<=x.pos/\x.pos<=2:=by intro x h;have a:=Y7 (p:=p) (d:=d) (run:=run) h hL;exact⟨a.1.1,a.1.2,a.2⟩
def aej{n:ej}{p:be}{L:List lv}{d:cB}{run:Int}(h:qz n p)(hL:∀r∈L,pV n.p r):∀x,vV (yP n) n.p L d run (sP d run) x->0<=x.elem/\x.elem<(p.lines.l.length:Int)/\1<=x.pos/\x.pos<=2:=by
 rintro x⟨r,c,e⟩;have f:=(hL r (IP c)).1;refine NS (Q:=λx=>0<=x.elem/\x.elem<(p.lines.l.length:Int)/\1<=x.pos/\x.pos<=2) r.steps.l [] (by simp) (λs g j=>?_) x e;have a:=(f s g).2;unfold p4 at *;split at j;·rename_i y b;obtain⟨i,k,t,m⟩:=h.Nw.1 _ y b;obtain⟨v,o⟩:=h.led _ y b;have u:=(h.x.ln.1 _ (adc k) _ m).2;have q:=a.2.2;have w:=a.2.1;rw[h.nU,Pc]at q;grind[rE,xv]
 ·omega
def yU:List Int->Int
 |[]=>0
 |x::l=>if x=0 then yU l else x
def abl{l:List Int}{k:Nat}{x:Int}(h:yU l=yU (l.drop k)){hk:k<l.length}(hq:l[k]=x)(hx:x=0):yU l=yU (l.drop (k+1)):=by rw[h,List.drop_eq_getElem_cons hk,hq,yU,if_pos hx]
def agc{l:List Int}{k:Nat}{x:Int}(h:yU l=yU (l.drop k)){hk:k<l.length}(hq:l[k]=x)(hx:¬x=0):x=yU l:=by rw[h,List.drop_eq_getElem_cons hk,hq,yU,if_neg hx]
def acZ{l:List Int}{k:Nat}(h:yU l=yU (l.drop k))(hk:l.length<=k):0=yU l:=by rw[h,List.drop_eq_nil_of_le hk];rfl
def adF{r s t a b c d:Int}(h1:r=cI a b)(h2:s=cI c d)(h3:t=yU [r,s]):t=s6 (a,c) (b,d):=by grind[s6,yU]
open Go Go.Proofs
end Go.Sx
namespace Go.Sx
open Go
def sD(p:be)(x:cA):Prop:=0<=x.en/\x.en<rE (mY p x.elem)
def sC(k i:Int):List Int:=if 0<=i/\i<rE k then(if k=1 then [1 - i]else if k=3 then [if i=0 then 1 else if i=1 then 0 else if i=2 then 3 else 2]else if k=2 then(if i=0 then [1,2]else [0])else [])else []
def CF(p:be)(a b:cA):Prop:=∃x,o3 p.mq.l a=some x/\x.elem=b.elem/\b.en∈sC (mY p x.elem) x.en
def CC(p:be)(l:List cA)(i:Nat):Prop:=∀h:i<l.length,sD p l[i]/\¬(mY p (l[i]).elem=4/\(0<i\/l.length=1))/\(0<i->CF p (l[i - 1]'(by omega)) l[i])
def Ag(p:be)(l:List cA):Prop:=0<l.length/\∀i,CC p l i
def ur(l:List cA)(i:Nat):cA:=(l[i]?).getD ⟨0,0⟩
def zl(p:be)(len:Int)(b:mM):Prop:=0<=b.left/\b.left<tA p (ur b.ei.l (b.ei.l.length - 1)).elem/\0<=b.v/\b.v<=60/\0<=b.qN/\b.qN<len/\(b.qN=0\/(b.left=0/\∃x,o3 p.mq.l (ur b.ei.l (b.ei.l.length - 1))=some x/\mY p x.elem=4))
def Jv(p:be)(l:List cA)(left:Int)(j:Nat):Int:=tA p (ur l j).elem - (if j+1=l.length then left else 0)
def wv(p:be)(l:List cA)(left r0:Int):Nat->Int
 |0=>r0
 |m+1=>wv p l left r0 m - Jv p l left (l.length - 1 - m)
def HG(p:be)(len:Int)(b:mM):Prop:=1<=wv p b.ei.l b.left (len - b.qN) (b.ei.l.length - 1)/\(wv p b.ei.l b.left (len - b.qN) (b.ei.l.length - 1)<=Jv p b.ei.l b.left 0\/mY p (ur b.ei.l 0).elem=4)
def sL(b:mM):Prop:=b.left=0/\b.qN=0/\b.v=0
def yn(p:be)(len:Int)(b:mM):Prop:=(1<=len/\len<=4000) /\
 ((b.mode=1/\sL b/\b.ei.l.length=1/\(ur b.ei.l 0).en=0/\mY p (ur b.ei.l 0).elem=4)\/(b.mode=3/\sL b/\b.ei.l.length=0) \/
  ((b.mode=2\/(b.mode=4/\sL b))/\Ag p b.ei.l/\zl p len b/\HG p len b))
section
variable {p:be}{l:List cA}{i:Nat}{x y a b:cA}
theorem th{h:i<l.length}(hq:l[i]=x):ur l i=x:=by grind[ur]
theorem vn{k:Nat}{h:k<l.length}(hq:l[k]=x)(hk:l.length<=k+1):ur l (l.length - 1)=x:=by rw[show l.length - 1=k by omega];exact th hq
def Hq{k i:Int}(h:¬(0<=i/\i<rE k)):sC k i=[]:=by grind[sC]
theorem acW{k i:Int}(h:0<=i/\i<rE k)(hk:k=1):sC k i=[1 - i]:=by grind[sC]
def Uq{k i:Int}(h:0<=i/\i<rE k)(hk:k=2)(hi:¬i=0):sC k i=[0]:=by grind[sC]
def Tj{k i:Int}(h1:¬k=1)(h2:¬k=3)(h3:¬k=2):sC k i=[]:=by grind[sC]
def UA(hn:o3 p.mq.l a=some x)(he:x.elem=b.elem)(ho:b.en∈sC (mY p x.elem) x.en):CF p a b:=⟨x,hn,he,ho⟩
def UN(hn:o3 p.mq.l a=none):¬CF p a b:=λ⟨x,h,_⟩=>by grind
def To(hn:o3 p.mq.l a=some x)(he:¬x.elem=b.elem):¬CF p a b:=λ⟨z,h,h2,_⟩=>by grind
def Us(hn:o3 p.mq.l a=some x)(ho:b.en∉sC (mY p x.elem) x.en):¬CF p a b:=λ⟨z,h,_,h3⟩=>by grind
def NF{k:Nat}{hk:k<l.length}(hq:l[k]=x)(h:∀i<k,CC p l i)(h1:sD p x)(h2:¬(mY p x.elem=4/\(0<k\/l.length=1)))(h3:0<k->CF p (ur l (k - 1)) x):∀i<k+1,CC p l i:=by
 intro i b;by_cases e:i=k
 ·subst e;intro c;subst hq;refine⟨h1,h2,λa=>?_⟩;have:=h3 a
  rwa [th (x:=l[i - 1]'(by omega)) rfl]at this
 grind
def QV{k:Nat}(h:∀i<k,CC p l i)(hk:l.length<=k)(h0:0<l.length):Ag p l:=⟨h0,λi a=>h i (by omega) a⟩
def OC{k:Nat}{hk:k<l.length}(hq:l[k]=x)(h:¬sD p x):¬Ag p l:=λa=>h (hq▸(a.2 k hk).1)
def S8{k:Nat}{hk:k<l.length}(hq:l[k]=x)(h:mY p x.elem=4)(h2:0<k\/l.length=1):¬Ag p l:=λa=>(a.2 k hk).2.1 ⟨by grind,h2⟩
def adg{k:Nat}{hk:k<l.length}(hq:l[k]=x)(h0:0<k)(h:¬CF p (ur l (k - 1)) x):¬Ag p l:=λa=>h (by
 have:=(a.2 k hk).2.2 h0;rw[hq]at this
 rwa [th (x:=l[k - 1]'(by omega)) rfl])
def TO(h:l.length=0):¬Ag p l:=λht=>by have:=ht.1;omega
def z6(p:be):Prop:=∀e,(0<=tA p e/\tA p e<=4000)/\(1<=mY p e->mY p e<=3->1<=tA p e)
def JK(hl:z6 p){left r0:Int}(h:0<=left/\left<=4000)(m:Nat):r0 - 4000*m<=wv p l left r0 m/\wv p l left r0 m<=r0+4000*m:=by
 induction m with
 |zero=>simp[wv]
 |succ m ih=>have a:=(hl (ur l (l.length - 1 - m)).elem).1;grind[wv,Jv]
def Wz{left r0 r q:Int}{m:Nat}(h:q=wv p l left r0 m){j:Nat}{hj:j<l.length}(hq:l[j]=x)(hm:j+m+1=l.length)(hr:r=q - (tA p x.elem - (if m=0 then left else 0))):r=wv p l left r0 (m+1):=by rw[hr,h];simp only[wv,Jv];rw[show l.length - 1 - m=j by omega,th hq];omega
def Qr(h:Oq p):z6 p:=by
 intro e;by_cases c:e<0\/e>=p.elems.l.length;·grind[Hi,wg]
 ·have a:e.toNat<p.elems.l.length:=by omega
  have b:=adc a;rw[Ki (by omega) a rfl,vZ (by omega) a rfl];have d:=(h.kd _ b).2;have f:=h.lr _ b;omega
end
def BI(b:Bool)(X:Prop):Prop:=b=true↔X
def BI.yes{X:Prop}(h:BI true X):X:=h.mp rfl
def BI.no{X:Prop}(h:BI false X):¬X:=λx=>by have:=h.mpr x;cases this
def BI.ny{b:Bool}{X:Prop}(h:BI b X)(hb:b=false):¬X:=λx=>by rw[h.mpr x]at hb;cases hb
theorem rF{X:Prop}(h:X):BI true X:=⟨λ_=>h,λ_=>rfl⟩
def nY{X:Prop}(h:¬X):BI false X:=⟨λh2=>(by cases h2),λx=>absurd x h⟩
def PQ{k i:Int}(h0:0<=i)(h:i<rE k)(hk:k=1):sC k i=[IntKind.i64.wrap (1 - i)]:=by subst hk;have a:i<2:=h;grind[acW,wU]
def P9{k:Int}(hk:k=3):sC k 0=[1]:=by subst hk;decide
def QI{k:Int}(hk:k=3):sC k 1=[0]:=by subst hk;decide
def Py{k:Int}(hk:k=3):sC k 2=[3]:=by subst hk;decide
def PE{k:Int}(hk:k=3):sC k 3=[2]:=by subst hk;decide
def PN{k i:Int}(h0:0<=i)(h:i<rE k)(hk:k=3):sC k i=[IntKind.i64.wrap ((BitVec.ofInt 64 i ^^^ BitVec.ofInt 64 1).toNat:Int)]:=by
 subst hk;rw[show rE 3=4 by decide]at h;have:i=0\/i=1\/i=2\/i=3:=by omega
 rcases this with rfl|rfl|rfl|rfl<;>decide
def Px{k:Int}(hk:k=2):sC k 0=[1,2]:=by subst hk;decide
def Pg{l:List nc}{O:List Int}{e:Int}(h:∃x∈l,x.out=e)(ho:l.map nc.out=O):e∈O:=by grind
def N8{l:List nc}{O:List Int}{e:Int}(h:∀x∈l,¬x.out=e)(ho:l.map nc.out=O):e∉O:=by grind
theorem K5{p:be}{x:cA}(h:x.elem<0\/x.elem>=p.elems.l.length):¬sD p x:=by grind[sD,wg,rE]
def ab5{p:be}{e i:Int}(h:¬sD p ⟨e,i⟩):sC (mY p e) i=[]:=Hq h
def WX{p:be}{x:cA}{z:pc}{r:Int}{b:Bool}(h0:0<=x.elem){hx:x.elem.toNat<p.elems.l.length}(hq:p.elems.l[x.elem.toNat]=z)(hr:r=rE z.kind)(h:BI b (0<=x.en/\x.en<r)):BI b (sD p x):=by grind[sD,vZ]
section
variable {p:be}{l:List cA}{x y:cA}
theorem PT{k:Nat}{h:((k:Int) - 1).toNat<l.length}(hq:l[((k:Int) - 1).toNat]=x):ur l (k - 1)=x:=by
 have e:((k:Int) - 1).toNat=k - 1:=by omega
 rw[<- e];exact th hq
def P3{k:Nat}{hk:k<l.length}(hq:l[k]=x)(h0:k=0)(h:∀i<k,CC p l i)(h1:sD p x)(h2:¬(mY p x.elem=4/\(0<k\/l.length=1))):∀i<k+1,CC p l i:=NF hq h h1 h2 (λa=>by omega)
def Qu{k:Nat}{hj:((k:Int) - 1).toNat<l.length}(hq2:l[((k:Int) - 1).toNat]=y){hk:k<l.length}(hq:l[k]=x)(h:∀i<k,CC p l i)(h1:sD p x)(h2:¬(mY p x.elem=4/\(0<k\/l.length=1)))(h3:CF p y x):∀i<k+1,CC p l i:=NF hq h h1 h2 (λ_=>by rw[PT hq2];exact h3)
def Jj{k:Nat}{hj:((k:Int) - 1).toNat<l.length}(hq2:l[((k:Int) - 1).toNat]=y){hk:k<l.length}(hq:l[k]=x)(h0:0<k)(h:¬CF p y x):¬Ag p l:=adg hq h0 (by rw[PT hq2];exact h)
end
section
variable {p:be}{l:List cA}{x y:cA}{bd:mM}{len:Int}{b:Bool}
def EP{left r0 r q c i:Int}(h:q=wv p l left r0 ((l.length:Int) - 1 - i).toNat){hj:i.toNat<l.length}(hq:l[i.toNat]=x)(h0:0<i)(hb:c=if i+1=(l.length:Int)then left else 0)(h2:i+1<=(l.length:Int))(hr:r=q - (tA p x.elem - c)):r=wv p l left r0 ((l.length:Int) - 1 - (i - 1)).toNat:=by rw[show((l.length:Int) - 1 - (i - 1)).toNat=((l.length:Int) - 1 - i).toNat+1 by omega];refine Wz h hq (by omega) ?_;omega
theorem UE{q c i:Int}(h:q=wv p bd.ei.l bd.left (len - bd.qN) ((bd.ei.l.length:Int) - 1 - i).toNat)(hi:i=0){hj:0<bd.ei.l.length}(hq:bd.ei.l[0]=x)(hb:c=if i+1=(bd.ei.l.length:Int)then bd.left else 0)(hX:BI b (1<=q/\(q<=tA p x.elem - c\/mY p x.elem=4))):BI b (HG p len bd):=by
 subst hi;have e:((bd.ei.l.length:Int) - 1 - 0).toNat=bd.ei.l.length - 1:=by omega
 rw[e]at h;unfold HG Jv;rw[th hq,<- h];have a:(if 0+1=bd.ei.l.length then bd.left else 0)=c:=by omega
 simp_all
def Ke(h:zl p len bd)(hl:z6 p)(h4:len<=4000):(0<=bd.left/\bd.left<=4000)/\0<=bd.qN/\bd.qN<=4000:=by have a:=(hl (ur bd.ei.l (bd.ei.l.length - 1)).elem).1;obtain⟨b,c,d,e,f,g,_⟩:=h;omega
def Uv(ht:Ag p bd.ei.l)(hs:sL bd)(hl:z6 p)(h1:1<=len):zl p len bd:=by
 obtain⟨e,ht⟩:=ht;have a:bd.ei.l.length - 1<bd.ei.l.length:=by omega
 obtain⟨b,f,_⟩:=ht _ a;obtain⟨g,h,i⟩:=hs;have c:ur bd.ei.l (bd.ei.l.length - 1)=bd.ei.l[bd.ei.l.length - 1]:=th rfl;unfold zl;rw[c];generalize bd.ei.l[bd.ei.l.length - 1]=z at *;have hz:=(hl z.elem).2;have d:1<=mY p z.elem/\mY p z.elem<=3:=by obtain⟨j,k⟩:=b;grind[rE]
 omega
def Pk(h:len<1\/len > 4000):BI false (yn p len bd):=nY λa=>by have:=a.1;omega
def S6(h:¬(bd.mode=1\/bd.mode=2\/bd.mode=3\/bd.mode=4)):BI false (yn p len bd):=nY λa=>by rcases a.2 with a|a|a<;>omega
def YI(hl:1<=len/\len<=4000)(hm:bd.mode=1)(h:BI b (sL bd/\bd.ei.l.length=1/\(ur bd.ei.l 0).en=0/\mY p (ur bd.ei.l 0).elem=4)):BI b (yn p len bd) :=
 h.trans ⟨λh=>⟨hl,.inl ⟨hm,h⟩⟩,λh=>by rcases h.2 with h|h|h<;>first|exact h.2|omega⟩
def ZT(hl:1<=len/\len<=4000)(hm:bd.mode=3)(h:BI b (sL bd/\bd.ei.l.length=0)):BI b (yn p len bd) :=
 h.trans ⟨λh=>⟨hl,.inr (.inl ⟨hm,h⟩)⟩,λh=>by rcases h.2 with h|h|h<;>first|exact h.2|omega⟩
def Ej(hl:1<=len/\len<=4000)(hm:bd.mode=2\/(bd.mode=4/\sL bd))(h:BI b (Ag p bd.ei.l/\zl p len bd/\HG p len bd)):BI b (yn p len bd) :=
 h.trans ⟨λh=>⟨hl,.inr (.inr ⟨hm,h⟩)⟩,λh=>by rcases h.2 with h|h|h<;>first|exact h.2|omega⟩
def agW(hl:1<=len/\len<=4000)(hR:z6 p)(hm:bd.mode=4)(h:BI b (Ag p bd.ei.l/\sL bd/\HG p len bd)):BI b (yn p len bd) :=
 h.trans ⟨λ⟨a,c,d⟩=>⟨hl,.inr (.inr ⟨.inr ⟨hm,c⟩,a,Uv a c hR hl.1,d⟩)⟩,λh=>by
  rcases h.2 with h|h|⟨h,a,c,d⟩<;>grind⟩
def ahY(hl:1<=len/\len<=4000)(hm:bd.mode=4)(hs:¬sL bd):BI false (yn p len bd):=nY λh=>by rcases h.2 with h|h|⟨h,_⟩<;>grind
end
section
variable {α:Type}{l:List α}{P : α->Prop}{k:Nat}{x : α}{b:Bool}
def aiA:BI false (∃y∈l.take 0,P y):=nY λ⟨y,h,_⟩=>by simp at h
def RD(h:BI b (∃y∈l.take k,P y))(hb:b=true):BI true (∃y∈l.take (k+1),P y):=by obtain⟨y,a,c⟩:=h.mp hb;grind[rF]
def Jl{hk:k<l.length}(hq:l[k]=x)(hp:P x):BI true (∃y∈l.take (k+1),P y) :=
 rF ⟨x,by rw[List.take_add_one,List.getElem?_eq_getElem hk,hq];simp,hp⟩
def HZ(h:BI b (∃y∈l.take k,P y))(hb:b=false){hk:k<l.length}(hq:l[k]=x)(hn:¬P x):BI false (∃y∈l.take (k+1),P y):=nY λ⟨y,a,hp⟩=>by
 rw[List.take_add_one,List.getElem?_eq_getElem hk,hq]at a;rcases anm.mp a with a|a
 ·have:=h.mpr ⟨y,a,hp⟩;grind
 grind
def AZ(h:BI b (∃y∈l.take k,P y))(hk:l.length<=k):BI b (∃y∈l,P y):=by rwa [anA hk]at h
def aas{p:be}{z:cA}{r m:Int}(hk:r=mY p z.elem)(hr:m=rE r)(h1:0<=z.en)(h2:z.en<m):sD p z:=by grind[sD]
def ahc{p:be}{z:cA}{r m:Int}(hk:r=mY p z.elem)(hr:m=rE r)(h1:¬(0<=z.en/\z.en<m)):¬sD p z:=by grind[sD]
def aex{p:be}{z:cA}(h1:z.en<0):¬sD p z:=λh=>by have:=h.1;omega
end
def abg{b:Bool}{A B X:Prop}(h1:A)(h2:B)(h:BI b X):BI b (A/\B/\X):=h.trans ⟨λh=>⟨h1,h2,h⟩,λh=>h.2.2⟩
def Tw{p:be}{x:cA}{bd:mM}{len:Int}{b:Bool}{q c i:Int}(h:q=wv p bd.ei.l bd.left (len - bd.qN) ((bd.ei.l.length:Int) - 1 - i).toNat)(hi:i=0){hj:i.toNat<bd.ei.l.length}(hq:bd.ei.l[i.toNat]=x)(hb:c=if i+1=(bd.ei.l.length:Int)then bd.left else 0)(hX:BI b (1<=q/\(q<=tA p x.elem - c\/mY p (ur bd.ei.l 0).elem=4))):BI b (HG p len bd):=by grind[ur,UE]
section
variable {p:be}{bd:mM}{len:Int}{z y:cA}(hz:ur bd.ei.l (bd.ei.l.length - 1)=z)
include hz
def agG(h:¬(0<=bd.left/\bd.left<tA p z.elem/\0<=bd.v/\bd.v<=60/\0<=bd.qN/\bd.qN<len)):¬zl p len bd:=λg=>by subst hz;exact h ⟨g.1,g.2.1,g.2.2.1,g.2.2.2.1,g.2.2.2.2.1,g.2.2.2.2.2.1⟩
theorem acp(ho:¬bd.qN=0)(hl:¬bd.left=0):¬zl p len bd:=λg=>by rcases g.2.2.2.2.2.2 with h|h<;>grind
def afU(ho:¬bd.qN=0)(hn:o3 p.mq.l z=none):¬zl p len bd:=λg=>by subst hz;rcases g.2.2.2.2.2.2 with h|⟨_,x,h,_⟩<;>grind
def acu(ho:¬bd.qN=0)(hn:o3 p.mq.l z=some y)(hk:¬mY p y.elem=4):¬zl p len bd:=λg=>by subst hz;rcases g.2.2.2.2.2.2 with h|⟨_,x,h,a⟩<;>grind
end
def Lz{A B X:Prop}(h:¬B):BI false (A/\B/\X):=nY λg=>h g.2.1
end Go.Sx
