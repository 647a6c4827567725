/- Proves rules for the walks and their soundness. -/
import GoSem.ClaimChange
import Derived.Test.YtmnmenklbegmeaaGreatHad
set_option linter.all false
namespace Go.Sx
open Go
inductive mZ where
 |sl (w t:Bool) (v:AV) (n:Nat) (xs:List (List AV))
 |map (v:AV) (es:List (AV×AV))
 |obj (v:AV) (cs:List AV)
def mZ.v:mZ->AV
 |.sl _ _ v _ _=>v
 |.map v _=>v
 |.obj v _=>v
def tn(es:List (AV×AV×Nat)):List (AV×AV):=es.map λx=>(x.1,x.2.1)
def CW(es:List (AV×AV×Nat))(c:Nat):Prop:=(∀x∈es,x.2.2<c)/\es.Pairwise λa b=>a.2.2≠b.2.2
def CW.snoc{es:List (AV×AV×Nat)}{c:Nat}(h:CW es c)(k v:AV):CW (es++[(k,v,c)]) (c+1):=by
 refine⟨λx d=>?_,anH.mpr ⟨h.2,by simp,λa f b e=>?_⟩⟩
 ·rcases anm.mp d with d|d
  ·have:=h.1 x d;omega
  grind
 ·simp at e;subst e;have:=h.1 a f;grind
def CW.modify{es:List (AV×AV×Nat)}{c:Nat}(h:CW es c)(i:Nat)(f:AV×AV×Nat->AV×AV×Nat)(hf:∀e,(f e).2.2=e.2.2):CW (es.modify i f) c:=by
 have b:(es.modify i f).map (λx=>x.2.2)=es.map (λx=>x.2.2):=by apply List.ext_getElem (by simp);grind
 have d:∀x∈(es.modify i f).map (λx=>x.2.2),x<c:=by rw[b];intro x a;obtain⟨y,g,rfl⟩:=anj.mp a;exact h.1 y g
 refine⟨λx a=>d _ (List.mem_map_of_mem a),?_⟩;have j:((es.modify i f).map (λx=>x.2.2)).Pairwise (·≠·):=by rw[b,List.pairwise_map];exact h.2
 grind
def mZ.ok(H:aT):mZ->Prop
 |.sl w t v n xs=>(∀x∈xs,x.length=n)/\((xs=[]/\v=.sl [] .nil)\/((w=false\/xs=[])/\v=.sl xs (.exact xs.length))\/∃b g j,b<H.size/\v=.hs b g 0 xs.length/\H.get b=some (.lU g n (xs++j))/\(t=true->j=[]))
 |.map v es=>∃b es' c,b<H.size/\v=.hm b/\H.get b=some (.map es' c)/\tn es'=es/\CW es' c
 |.obj v cs=>∃b z,b<H.size/\v=.ptr b 0 0 0/\H.get b=some (.lU 0 z [cs])
structure Sep(H:aT)(L:List mZ):Prop where
 lo:H.lo<=H.size
 ok:∀r∈L,r.ok H
 JC:L.Pairwise λa b=>Es a.v b.v
def np:Sep aT.empty []:=⟨abs _,by simp,.nil⟩
theorem mZ.ok.keep{H H':aT}{r:mZ}(h:r.ok H)(hs:H.size<=H'.size)(hg:∀b,b<H.size->pF r.v=some b->H'.get b=H.get b):r.ok H':=by
 cases r with
 |sl w t v n xs=>
  obtain⟨e,h|h|⟨b,g,j,a,rfl,d,k⟩⟩:=h;·exact⟨e,.inl h⟩
  ·exact⟨e,.inr (.inl h)⟩
  ·exact⟨e,.inr (.inr ⟨b,g,j,by omega,rfl,by rw[hg b a rfl];exact d,k⟩)⟩
 |map v es=>obtain⟨b,f,c,a,rfl,d,l,i⟩:=h;exact⟨b,f,c,by omega,rfl,by rw[hg b a rfl];exact d,l,i⟩
 |obj v cs=>obtain⟨b,z,a,rfl,d⟩:=h;exact⟨b,z,by omega,rfl,by rw[hg b a rfl];exact d⟩
def mZ.ok.lt{H:aT}{r:mZ}(h:r.ok H):∀b,pF r.v=some b->b<H.size:=by
 intro k a;cases r with
 |sl w t v n xs=>obtain⟨l,⟨_,rfl⟩|⟨_,rfl⟩|⟨b,g,j,d,rfl,e,m⟩⟩:=h<;>simp[pF,mZ.v]at a;omega
 |map v es=>obtain⟨b,f,c,d,rfl,e,o,i⟩:=h;grind[pF,mZ.v]
 |obj v cs=>obtain⟨b,z,d,rfl,e⟩:=h;grind[pF,mZ.v]
def mZ.ok.Nk{H:aT}{r:mZ}(h:r.ok H):AV.oq r.v=true/\(∀t,Go.Sx.keep t r.v=r.v)/\AV.sR r.v=true:=by
 cases r with
 |sl w t v n xs=>obtain⟨i,⟨_,rfl⟩|⟨_,rfl⟩|⟨b,g,j,a,rfl,d,k⟩⟩:=h<;>exact⟨rfl,λ_=>rfl,rfl⟩
 |map v es=>obtain⟨b,e,c,a,rfl,d,l,f⟩:=h;exact⟨rfl,λ_=>rfl,rfl⟩
 |obj v cs=>obtain⟨b,z,a,rfl,d⟩:=h;exact⟨rfl,λ_=>rfl,rfl⟩
theorem Sep.at{H:aT}{L:List mZ}(h:Sep H L){i:Nat}{r:mZ}(hi:L[i]?=some r):r.ok H:=h.ok r (alc hi)
theorem Sep.Rb{H:aT}{L:List mZ}(h:Sep H L){i:Nat}{r:mZ}(hi:L[i]?=some r)(t:Nat):Go.Sx.keep t r.v=r.v:=(h.at hi).Nk.2.1 t
def Sep.cell{H:aT}{L:List mZ}(h:Sep H L){i:Nat}{r:mZ}(hi:L[i]?=some r):AV.oq r.v=true:=(h.at hi).Nk.1
def Sep.arg{H:aT}{L:List mZ}(h:Sep H L){i:Nat}{r:mZ}(hi:L[i]?=some r):AV.sR r.v=true:=(h.at hi).Nk.2.2
theorem Sep.rp{H H':aT}{L:List mZ}(h:Sep H L){i:Nat}{r r':mZ}(hi:L[i]?=some r)(hlo:H'.lo<=H'.size)(hs:H.size<=H'.size)(hr:r'.ok H')(hg:∀b,b<H.size->pF r.v≠some b->H'.get b=H.get b)(ho:∀b,pF r'.v=some b->pF r.v=some b\/H.size<=b):Sep H' (L.set i r'):=by
 have l:i<L.length:=(alt.mp hi).1;have m:L[i]=r:=(alt.mp hi).2;have p:=anK.mp h.JC
 have JC:∀j (a:j<L.length),j≠i->Es r.v L[j].v:=by
  intro j a c;rcases anJ c with d|d
  ·have:=p j i a l d;rw[m]at this;exact this.symm
  grind
 have e:∀j (a:j<L.length),j≠i->Es r'.v L[j].v:=by
  intro j a c b n f;rcases ho b n with g|g
  ·exact JC j a c b g f
  ·exact absurd ((h.ok _ (adc a)).lt b f) (by omega)
 refine⟨hlo,?_,?_⟩
 ·intro x g;obtain⟨j,a,rfl⟩:=ant.mp g;rw[List.length_set]at a;rw[List.getElem_set];split;·exact hr
  ·rename_i c;refine(h.ok _ (adc a)).keep hs ?_;intro b n o;exact hg b n λq=>JC j a (Ne.symm c) b q o
 ·rw[List.pairwise_iff_getElem];intro j k a s t;rw[List.length_set]at a s;simp only[List.getElem_set];split;·grind
  ·split;·rename_i u w;exact(e j a (Ne.symm u)).symm
   grind
def Sep.new{H H':aT}{L:List mZ}(h:Sep H L){r':mZ}(hlo:H'.lo<=H'.size)(hs:H.size<=H'.size)(hr:r'.ok H')(hg:∀b,b<H.size->H'.get b=H.get b)(ho:∀b,pF r'.v=some b->H.size<=b):Sep H' (r'::L):=by
 refine⟨hlo,?_,.cons ?_ h.JC⟩
 ·intro x a;rcases ank.mp a with rfl|a
  ·exact hr
  ·exact(h.ok x a).keep hs λb d _=>hg b d
 ·intro x a b d c;exact absurd ((h.ok x a).lt b c) (by grind)
def Sep.pE{H:aT}{L:List mZ}(h:Sep H L)(n:Nat):Sep H (.sl true true (.sl [] .nil) n []::L):=h.new h.lo (abs _) ⟨by simp,.inl ⟨rfl,rfl⟩⟩ (λ_ _=>rfl) (λb a=>by simp[pF,mZ.v]at a)
def Sep.ag5{H:aT}{L:List mZ}(h:Sep H L)(n:Nat)(xs:List (List AV))(hn:∀x∈xs,x.length=n){k:Nat}(hk:k=xs.length):Sep H (.sl false true (.sl xs (.exact k)) n xs::L):=by subst hk;exact h.new h.lo (abs _) ⟨hn,.inr (.inl ⟨.inl rfl,rfl⟩)⟩ (λ_ _=>rfl) (λb a=>by simp[pF,mZ.v]at a)
def Sep.xe{H:aT}{L:List mZ}(h:Sep H L)(n:Nat):Sep H (.sl true true (.sl [] (.exact 0)) n []::L):=h.new h.lo (abs _) ⟨by simp,.inr (.inl ⟨.inr rfl,rfl⟩)⟩ (λ_ _=>rfl) (λb a=>by simp[pF,mZ.v]at a)
def abK{α:Type}{R : α->α->Prop}(hs:∀a b,R a b->R b a){L:List α}(h:L.Pairwise R){i j:Nat}(hi:i<L.length)(hj:j<L.length)(hne:i≠j):R L[i] L[j]:=by have c:=anK.mp h;grind
def aky(is:List Nat)(n:Nat)(L:List mZ):List mZ:=is.filterMap (L[·]?)++L.drop n
def Sep.pick{H:aT}{L:List mZ}(h:Sep H L)(is:List Nat)(n:Nat)(hn:is.Nodup)(hlt:∀i∈is,i<n):Sep H (aky is n L):=by
 have o:=anK.mp h.JC;refine⟨h.lo,?_,anH.mpr ⟨?_,h.JC.sublist (List.drop_sublist _ _),?_⟩⟩
 ·intro x c;rcases anm.mp c with c|c
  ·obtain⟨i,_,d⟩:=anO.mp c;exact h.ok x (alc d)
  ·exact h.ok x (List.mem_of_mem_drop c)
 ·rw[List.pairwise_filterMap];refine hn.imp ?_;intro i j e x c y f;obtain⟨d,rfl⟩:=alt.mp c;obtain⟨k,rfl⟩:=alt.mp f;exact abK (λa b g=>g.symm) h.JC d k e
 ·intro x c y f;obtain⟨i,l,d⟩:=anO.mp c;obtain⟨m,rfl⟩:=alt.mp d;obtain⟨j,k,rfl⟩:=ant.mp f;grind
theorem Sep.ca{H:aT}{L:List mZ}(h:Sep H L)(ls:o1):Sep { H with ca:=ls } L:=by refine⟨h.lo,λr a=>(h.ok r a).keep (abs _) λ_ _ _=>rfl,h.JC⟩
section
variable {κ β:Type}[DecidableEq κ]{ek : κ->AV}{ev : β->AV}
def put(k : κ)(x : β):List (κ×β)->List (κ×β)
 |[]=>[(k,x)]
 |p::l=>if k=p.1 then(k,x)::l else p::put k x l
theorem qw(k k' : κ)(x : β)(l:List (κ×β)):look k (put k' x l)=if k=k' then some x else look k l:=by induction l<;>grind[put,look]
def Cv(hk:∀a b,pZ (ek a) (ek b)=some (decide (a=b)))(k : κ)(l:List (κ×β))(es:List (AV×AV×Nat))(he:tn es=nG ek ev l)(i:Nat) :
  (look k l=none->findKey (ek k) es i=some none)/\(∀x,look k l=some x->∃j,findKey (ek k) es i=some (some (i+j,ev x))/\j<es.length/\∀y (f:AV×AV×Nat->AV×AV×Nat),(∀e,(f e).1=ek k/\(f e).2.1=ev y)->tn (es.modify j f)=nG ek ev (put k y l))/\(look k l=none->∀y c,tn (es++[(ek k,ev y,c)])=nG ek ev (put k y l)):=by
 induction l generalizing es i with
 |nil=>
  cases es with
  |nil=>exact⟨λ_=>rfl,λ_ h=>by simp[look]at h,λ_ _ _=>rfl⟩
  |cons e es=>simp[tn,nG]at he
 |cons p l ih=>
  cases es with
  |nil=>simp[tn,nG]at he
  |cons e es=>
   obtain⟨a,b,c⟩:=e;simp only[tn,nG,List.map_cons,List.cons.injEq,Prod.mk.injEq]at he;obtain⟨⟨rfl,rfl⟩,he⟩:=he;obtain⟨o,g,q⟩:=ih es he (i+1);by_cases h:k=p.1;·simp_all[look,findKey,f1,tn,put,nG]
   ·refine⟨λm=>?_,λx d=>?_,λm y c'=>?_⟩;·grind[look,findKey]
    ·simp only[look,h,if_false]at d;obtain⟨j,r,n,s⟩:=g x d;refine⟨j+1,?_,by simpa using n,λy f t=>?_⟩<;>grind[findKey,tn,put,nG]
    grind[look,tn,put,nG]
end
section
variable {C:nu}{F:oP}{Pr:om}{fa:lg}{e:Env}{all rest:List Oper}{o:Oper}{q:Env->aT->Prop}
variable {H:aT}{ls:o1}{L:List mZ}{i:Nat}
def ng{P:AV->aT->Prop}(hw:mF all e o=some true)(hop:∃v H',(∀call,mT o.op ⟨C,fa,call⟩ e { H with ca:=ls } o.dst=some (v,{ H' with ca:=ls }))/\P v H')(next:∀v H',P v H'->od C F Pr fa all rest q (my e o v) { H' with ca:=ls }):od C F Pr fa all (o::rest) q e { H with ca:=ls }:=by grind[cr]
def rW{j:Nat}{sch:List (Nat×List Nat)}{P:AV->aT->Prop}(hj:all[j]?=some o)(hw:mF all e o=some true)(hop:∃v H',(∀call,mT o.op ⟨C,fa,call⟩ e { H with ca:=ls } o.dst=some (v,{ H' with ca:=ls }))/\P v H')(next:∀v H',P v H'->oe C F Pr fa all sch q (my e o v) { H' with ca:=ls }):oe C F Pr fa all ((j,[])::sch) q e { H with ca:=ls }:=by grind[js]
def tG{t:Nat}{d:Option Nat}(hS:Sep H L):∃v H',(∀call,mT (.makeMap t none) ⟨C,fa,call⟩ e { H with ca:=ls } d=some (v,{ H' with ca:=ls }))/\∃b,v=.hm b/\Sep H' (.map (.hm b) []::L):=by
 have a:=hS.lo;refine⟨.hm H.size,H.push (.map [] 0),λcall=>?_,H.size,rfl,?_⟩;·simp only[mT,Oe,aT.FH]
 ·refine hS.new (by simp;omega) (by simp) ⟨H.size,[],0,by simp,rfl,?_,rfl,by simp,by simp⟩ ?_ ?_<;>grind[aT.uH,pF,mZ.v]
variable {κ β:Type}[DecidableEq κ]{ek : κ->AV}{ev : β->AV}
def rz{t:Nat}{m k x:Operand}{d:Option Nat}{v:AV}{l:List (κ×β)}(key : κ)(y : β)(hS:Sep H L)(hi:L[i]?=some (.map v (nG ek ev l)))(hm:me e m=v)(hk:me e k=ek key)(hx:me e x=ev y)(hK:mapKey C t (ek key)=true)(hV:AV.Gx (ev y)=true)(hke:∀a b,pZ (ek a) (ek b)=some (decide (a=b))) :
  ∃w H',(∀call,mT (.mapUpdate t m k x) ⟨C,fa,call⟩ e { H with ca:=ls } d=some (w,{ H' with ca:=ls }))/\w=.undef/\Sep H' (L.set i (.map v (nG ek ev (put key y l)))):=by
 obtain⟨b,p,c,G,rfl,A,B,g⟩:=hS.at hi;have u:H.lo<=b:=aT.qZ A;obtain⟨f1,D,E⟩:=Cv (ek:=ek) (ev:=ev) hke key l p B 0
 have h:∀f c',F4 (ek key) (ev y) p c=some (f,c')->tn f=nG ek ev (put key y l)->CW f c'->∃w H',(∀call,mT (.mapUpdate t m k x) ⟨C,fa,call⟩ e { H with ca:=ls } d=some (w,{ H' with ca:=ls }))/\w=.undef/\Sep H' (L.set i (.map (.hm b) (nG ek ev (put key y l)))):=by
  intro f c' J q n;refine⟨.undef,H.set b (.map f c'),λcall=>?_,rfl,?_⟩;·simp_all[mT,AP,AO,aT.oR,aT.s7]
  ·refine hS.rp hi (by simpa using hS.lo) (by simp) ⟨b,f,c',by simp_all,rfl,?_,q,n⟩ ?_ ?_;·grind[aT.pa]
   ·intro b' o r;rw[aT.pa,if_neg (by rintro⟨rfl,_⟩;exact r rfl)]
   ·intro b' o;exact .inl o
 cases z:look key l with
 |none=>exact h (p++[(ek key,ev y,c)]) (c+1) (by grind[F4,f1]) (E z y c) (g.snoc _ _)
 |some x0=>obtain⟨j,K,F,s⟩:=D x0 z;exact h _ c (by grind[F4]) (s y (λe=>(ek key,ev y,e.2.2)) λ_=>⟨rfl,rfl⟩) (g.modify _ _ λ_=>rfl)
theorem DU{t kt el:Nat}{m k:Operand}{tm te:TI}{d:Option Nat}{v z:AV}{l:List (κ×β)}{ok:Bool}(key : κ)(hS:Sep H L)(hi:L[i]?=some (.map v (nG ek ev l)))(hT:C.T t=some tm)(hkd:tm.kind=.map kt el)(hE:C.T el=some te)(hm:me e m=v)(hk:me e k=ek key)(hK:xx C kt (ek key)=true)(hz:asAgg te te.zero=some z)(hke:∀a b,pZ (ek a) (ek b)=some (decide (a=b)))(call:xC) :
  mT (.lookup t m k ok) ⟨C,fa,call⟩ e { H with ca:=ls } d=match Gp ok (look key l).isSome (match look key l with
   |some x=>ev x
   |none=>z)with
   |some r=>some (r,{ H with ca:=ls })
   |none=>none:=by
 obtain⟨b,h,c,s,rfl,f,n,o⟩:=hS.at hi;obtain⟨f1,p,u⟩:=Cv (ek:=ek) (ev:=ev) hke key l h n 0;cases g:look key l with
 |none=>simp only[mT,A0,yc,hT,hkd,hE,hk,hK,hm,xd,aT.oR,f,f1 g,hz,Option.isSome_none];rfl
 |some x0=>obtain⟨j,q,_⟩:=p x0 g;simp only[mT,A0,yc,hT,hkd,hE,hk,hK,hm,xd,aT.oR,f,q,Option.isSome_some];rfl
end
section
variable {C:nu}{F:oP}{Pr:om}{fa:lg}{e:Env}{all rest:List Oper}{o:Oper}{q:Env->aT->Prop}
variable {H:aT}{ls:o1}{L:List mZ}{i:Nat}
variable {κ β:Type}[DecidableEq κ]{ek : κ->AV}{ev : β->AV}
def XR(ok b:Bool)(v:AV):AV:=match ok with
 |true=>.mw [v,.bool b]
 |false=>v
def qH{t kt el:Nat}{m k:Operand}{tm te:TI}{v z:AV}{l:List (κ×β)}{ok:Bool}(key : κ)(hw:mF all e o=some true)(ho:o.op=.lookup t m k ok)(hS:Sep H L)(hi:L[i]?=some (.map v (nG ek ev l)))(hT:C.T t=some tm)(hkd:tm.kind=.map kt el)(hE:C.T el=some te)(hm:me e m=v)(hk:me e k=ek key)(hK:xx C kt (ek key)=true)(hz:asAgg te te.zero=some z)(hke:∀a b,pZ (ek a) (ek b)=some (decide (a=b)))
  (w1:∀x,look key l=some x->od C F Pr fa all rest q (my e o (XR ok true (ev x))) { H with ca:=ls }) (w2:look key l=none->od C F Pr fa all rest q (my e o (XR ok false z)) { H with ca:=ls }):od C F Pr fa all (o::rest) q e { H with ca:=ls }:=by
 cases d:look key l with
 |none=>exact cr hw (λc=>by rw[ho,DU key hS hi hT hkd hE hm hk hK hz hke c,d];cases ok<;>rfl) (w2 d)
 |some x=>exact cr hw (λc=>by rw[ho,DU key hS hi hT hkd hE hm hk hK hz hke c,d];cases ok<;>rfl) (w1 x d)
def S4{j:Nat}{sch:List (Nat×List Nat)}{t kt el:Nat}{m k:Operand}{tm te:TI}{v z:AV}{l:List (κ×β)}{ok:Bool}(key : κ)(hj:all[j]?=some o)(hw:mF all e o=some true)(ho:o.op=.lookup t m k ok)(hS:Sep H L)(hi:L[i]?=some (.map v (nG ek ev l)))(hT:C.T t=some tm)(hkd:tm.kind=.map kt el)(hE:C.T el=some te)(hm:me e m=v)(hk:me e k=ek key)(hK:xx C kt (ek key)=true)(hz:asAgg te te.zero=some z)(hke:∀a b,pZ (ek a) (ek b)=some (decide (a=b)))
  (w1:∀x,look key l=some x->oe C F Pr fa all sch q (my e o (XR ok true (ev x))) { H with ca:=ls }) (w2:look key l=none->oe C F Pr fa all sch q (my e o (XR ok false z)) { H with ca:=ls }):oe C F Pr fa all ((j,[])::sch) q e { H with ca:=ls }:=by
 cases d:look key l with
 |none=>exact js hj hw (λc=>by rw[ho,DU key hS hi hT hkd hE hm hk hK hz hke c,d];cases ok<;>rfl) (w2 d)
 |some x=>exact js hj hw (λc=>by rw[ho,DU key hS hi hT hkd hE hm hk hK hz hke c,d];cases ok<;>rfl) (w1 x d)
def Fa{es:List (AV×AV×Nat)}(hp:es.Pairwise λa b=>a.2.2≠b.2.2){j:Nat}(hj:j<es.length)(v:AV):wm (es[j].2.2:Int) v es=some (es.modify j λe=>(e.1,v,e.2.2)):=by
 induction es generalizing j with
 |nil=>simp at hj
 |cons e es ih=>
  obtain⟨a,b,c⟩:=e;cases j with
  |zero=>simp[wm]
  |succ j=>(have d:j<es.length:=by grind);have f:c≠es[j].2.2:=(anw.mp hp).1 _ (adc d);grind[wm]
def xS{t kt el:Nat}{m k:Operand}{tm te:TI}{d:Option Nat}{v z:AV}{l:List (κ×β)}(key : κ)(y : β)(hS:Sep H L)(hi:L[i]?=some (.map v (nG ek ev l)))(hT:C.T t=some tm)(hkd:tm.kind=.map kt el)(hE:C.T el=some te)(hm:me e m=v)(hk:me e k=ek key)(hK:xx C kt (ek key)=true)(hz:asAgg te te.zero=some z)(hV:AV.Gx (ev y)=true)(hke:∀a b,pZ (ek a) (ek b)=some (decide (a=b))) :
  ∃(u:AV) (H1:aT),(∀call,mT (.mapEntry t m k) ⟨C,fa,call⟩ e { H with ca:=ls } d=some (u,{ H1 with ca:=ls }))/\∃(w:AV) (st:Int) (H2:aT),u=.mw [w,.int .i64 st] /\
   (∀(e2:Env) (ls2:o1) (t2:Nat) (m2 s2 x2:Operand) (X:Ctx) (d2:Option Nat),me e2 m2=v->me e2 s2=.int .i64 st->me e2 x2=ev y->mT (.entryStore t2 m2 s2 x2) X e2 { H1 with ca:=ls2 } d2=some (.undef,{ H2 with ca:=ls2 }))/\Sep H2 (L.set i (.map v (nG ek ev (put key y l)))):=by
 obtain⟨b,h,c,Z,rfl,A,P,p⟩:=hS.at hi;have N:H.lo<=b:=aT.qZ A;obtain⟨f1,Q,R⟩:=Cv (ek:=ek) (ev:=ev) hke key l h P 0
 have q:∀f n g (st:Int) w,(∀call,mT (.mapEntry t m k) ⟨C,fa,call⟩ e { H with ca:=ls } d=some (.mw [w,.int .i64 st],{ H.set b (.map f n)with ca:=ls }))->wm st (ev y) f=some g->tn g=nG ek ev (put key y l)->CW g n ->
   ∃(u:AV) (H1:aT),(∀call,mT (.mapEntry t m k) ⟨C,fa,call⟩ e { H with ca:=ls } d=some (u,{ H1 with ca:=ls }))/\∃(w:AV) (st:Int) (H2:aT),u=.mw [w,.int .i64 st] /\
   (∀(e2:Env) (ls2:o1) (t2:Nat) (m2 s2 x2:Operand) (X:Ctx) (d2:Option Nat),me e2 m2=.hm b->me e2 s2=.int .i64 st->me e2 x2=ev y->mT (.entryStore t2 m2 s2 x2) X e2 { H1 with ca:=ls2 } d2=some (.undef,{ H2 with ca:=ls2 }))/\Sep H2 (L.set i (.map (.hm b) (nG ek ev (put key y l)))):=by
  intro f n g st w S U V W;have B:(H.set b (.map f n)).get b=some (.map f n):=by grind[aT.pa]
  refine⟨_,H.set b (.map f n),S,w,st,(H.set b (.map f n)).set b (.map g n),rfl,?_,?_⟩;·intro e2 ls2 t2 m2 s2 x2 X d2 D E F;simp only[mT,Cz,zx,D,E,F,AV.int?,aT.oR,B,hV,U,aT.s7]
  ·refine hS.rp hi (by simpa using hS.lo) (by simp) ⟨b,g,n,by simp_all,rfl,?_,V,W⟩ ?_ ?_;·simp_all[aT.pa]
   ·intro b' r s;rw[aT.pa,if_neg (by rintro⟨rfl,_⟩;exact s rfl),aT.pa,if_neg (by rintro⟨rfl,_⟩;exact s rfl)]
   ·intro b' r;exact .inl r
 cases G:look key l with
 |none=>
  refine q (h++[(ek key,z,c)]) (c+1) (h++[(ek key,ev y,c)]) c z ?_ ?_ (R G y c) (p.snoc _ _);·intro call;simp only[mT,Cd,zW,hT,hkd,hm,hE,aT.oR,A,hk,hK,f1 G,hz,aT.s7]
  ·have J:=Fa (p.snoc (ek key) z).2 (j:=h.length) (by simp) (ev y);simp only[List.getElem_concat_length]at J;rw[J];congr 1;apply List.ext_getElem (by simp);grind
 |some x0=>
  obtain⟨j,O,K,Y⟩:=Q x0 G;rw[Nat.zero_add]at O;have o:CW (h.modify j λx=>(ek key,x.2)) c:=p.modify _ _ λ_=>rfl;refine q (h.modify j λx=>(ek key,x.2)) c ((h.modify j λx=>(ek key,x.2)).modify j λe=>(e.1,ev y,e.2.2)) (h[j].2.2:Nat) (ev x0) ?_ ?_ ?_ (o.modify _ _ λ_=>rfl)
  ·intro call;have M:CS h j=h[j].2.2:=by simp[CS,K]
   simp only[mT,Cd,zW,hT,hkd,hm,hE,aT.oR,A,hk,hK,O,M,aT.s7]
  ·have J:=Fa o.2 (j:=j) (by grind) (ev y);grind
  grind
end
section
variable {C:nu}{F:oP}{Pr:om}{fa:lg}{e:Env}{all rest:List Oper}{o:Oper}{q:Env->aT->Prop}
variable {H:aT}{ls:o1}{L:List mZ}{i:Nat}
variable {α:Type}{enc : α->List AV}{w tt:Bool}{v:AV}{n:Nat}{l:List α}
def Qf{n:Nat}{xs:List (List AV)}(h:∀x∈xs,x.length=n):tM n xs=true:=by simp_all[tM]
def N1{xs ys:List (List AV)}(hS:Sep H L)(hi:L[i]?=some (.sl w tt v n xs))(hys:∀x∈ys,x.length=n)(ht:tt=true\/ys.length=1)(hm:xs.length+ys.length<=xJ) :
  ∃v' H',append n { H with ca:=ls } v ys=some (v',{ H' with ca:=ls })/\Sep H' (L.set i (.sl w tt v' n (xs++ys))):=by
 have p:=hS.lo;obtain⟨f,q⟩:=hS.at hi;have k:tM n ys=true:=Qf hys;have l:tM n xs=true:=Qf f;have d:∀x∈xs++ys,x.length=n:=by grind
 have m:∀v',v'=v->Sep H (L.set i (.sl w tt v' n xs)):=by rintro v' rfl;exact hS.rp hi p (abs _) ⟨f,q⟩ (λ_ _ _=>rfl) (λb r=>.inl r)
 cases ys with
 |nil=>rw[List.append_nil];refine⟨v,H,?_,m v rfl⟩;rcases q with⟨rfl,rfl⟩|⟨_,rfl⟩|⟨b,g,j,r,rfl,o,s⟩<;>rfl
 |cons y ys=>
  have new:∀(a:Nat.ble (xs.length+(ys.length+1)) xJ=true),append n { H with ca:=ls } v (y::ys)=yS n { H with ca:=ls } xs (y::ys)->∃v' H',append n { H with ca:=ls } v (y::ys)=some (v',{ H' with ca:=ls })/\Sep H' (L.set i (.sl w tt v' n (xs++(y::ys)))):=by
   intro a t;refine⟨.hs H.size 0 0 (xs.length+(ys.length+1)),H.push (.lU 0 n (xs++(y::ys))),?_,?_⟩;·rw[t];simp[yS,l,a,aT.FH]
   ·refine hS.rp hi (by simp;omega) (by simp) ⟨d,.inr (.inr ⟨H.size,0,[],by simp,by simp,?_,λ_=>rfl⟩)⟩ ?_ ?_<;>grind[aT.uH,pF,mZ.v]
  have a:Nat.ble (xs.length+(ys.length+1)) xJ=true:=anf.mpr (by omega);rcases q with⟨rfl,rfl⟩|⟨_,rfl⟩|⟨b,g,j,r,rfl,o,s⟩
  ·grind[append]
  ·(have C:Nat.blt xs.length (xs.length+(ys.length+1))=true:=by simp);grind[append]
  ·have A:H.lo<=b:=aT.qZ o
   have B:j=[]->∃v' H',append n { H with ca:=ls } (.hs b g 0 xs.length) (y::ys)=some (v',{ H' with ca:=ls })/\Sep H' (L.set i (.sl w tt v' n (xs++(y::ys)))):=by
    rintro rfl;rw[List.append_nil]at o;refine⟨.hs b (g+1) 0 (xs.length+(y::ys).length),H.set b (.lU (g+1) n (xs++(y::ys))),?_,?_⟩
    ·have u:Nat.ble (xs.length+(ys.length+1)) xs.length=false:=by
      cases D:Nat.ble (xs.length+(ys.length+1)) xs.length with
      |false=>rfl
      |true=>exact absurd (anf.mp D) (by omega)
     simp[append,k,Im,aT.oR,o,a,u,aT.s7]
    ·refine hS.rp hi (by simp_all) (by simp) ⟨d,.inr (.inr ⟨b,g+1,[],by simp_all,by simp,?_,λ_=>rfl⟩)⟩ ?_ ?_;·grind[aT.pa]
     ·intro b' c e;rw[aT.pa,if_neg (by rintro⟨rfl,_⟩;exact e rfl)]
     ·intro b' c;exact .inl c
   cases j with
   |nil=>grind
   |cons j0 j=>
    (have z:tt=false:=by grind);have E:ys=[]:=by grind
    subst E;refine⟨.hs b g 0 (xs.length+1),H.set b (.lU g n (xs++y::j)),?_,?_⟩;·(have F:Nat.ble (xs.length+1) (xs++j0::j).length=true:=anf.mpr (by simp);have G:Nat.ble (xs.length+1) xJ=true:=a;have u:overwrite (xs++j0::j) xs.length [y]=xs++y::j:=by simp_all[overwrite]);simp only[append,k,Im,aT.oR,o,Nat.zero_add,List.length_singleton,F,u,G,Nat.beq_refl,Bool.and_self,sj,aT.s7,Bool.and_true]
    ·refine hS.rp hi (by simp_all) (by simp) ⟨d,.inr (.inr ⟨b,g,j,by simp_all,by simp,?_,λh=>absurd h (by simp[z])⟩)⟩ ?_ ?_;·grind[aT.pa]
     ·intro b' c e;rw[aT.pa,if_neg (by rintro⟨rfl,_⟩;exact e rfl)]
     ·intro b' c;exact .inl c
def xY{cl:Call}{s x:Operand}{t u:Nat}{ti:TI}{d:Option Nat}(ys:List α)(hS:Sep H L)(hi:L[i]?=some (.sl w tt v n (l.map enc)))(hc:cl.callee=.builtin .append)(ha:cl.args.toList=[s,x])(hts:cl.argTypes.toList=[t,u])(hT:wM C [t,u]=some ti)(hSr:JX C [t,u]=true)(hn:ti.size=n)
  (hs:me e s=v) (hx:vm { H with ca:=ls } (me e x)=some (ys.map enc)) (hok:∀y,(enc y).all AV.oq=true) (ht:tt=true\/ys.length=1) (hm:l.length+ys.length<=xJ) (henc:∀x,(enc x).length=n) :
  ∃v' H',(∀call,mT (.call cl) ⟨C,fa,call⟩ e { H with ca:=ls } d=some (v',{ H' with ca:=ls }))/\Sep H' (L.set i (.sl w tt v' n ((l++ys).map enc))):=by
 obtain⟨v',H',b,c⟩:=N1 (ls:=ls) (ys:=ys.map enc) hS hi (by grind) (by grind) (by grind);refine⟨v',H',λcall=>?_,by grind⟩;have a:Gs (ys.map enc)=true:=by grind[Gs]
 simp only[mT,uQ,tW,hc,ha,hts,qS,HU,y6,List.map_cons,List.map_nil,hT,hSr,hn,hs,hx,a,b]
def sU{X:Ctx}{d:Option Nat}{cl:Call}{t el:Nat}{x:Operand}{ti:TI}{h:aT}(hS:Sep H L)(hi:L[i]?=some (.sl w tt v n (l.map enc)))(hc:cl.callee=.builtin .len)(ha:cl.args.toList=[x])(hts:cl.argTypes.toList=[t])(hT:X.C.T t=some ti)(hk:ti.kind=.slice el)(hx:me e x=v) :
  mT (.call cl) X e h d=some (.int .i64 l.length,h):=by
 obtain⟨a,⟨f,rfl⟩|⟨_,rfl⟩|⟨b,g,j,k,rfl,m,c⟩⟩:=hS.at hi;·simp_all[mT,uQ,tW,qS,BX,Aa,Ba,AF,uZ]
 ·simp_all[mT,uQ,tW,qS,BX,Aa,Ba,AF,uZ]
 simp_all[mT,uQ,tW,qS,BX,Aa,Ba,AF,uZ]
def EA(v:AV)(m:Nat)(a:AV)(cs:List AV):Prop:=(∃xs k,v=.sl xs (.exact k)/\a=.ip cs 0 false)\/∃b g len,v=.hs b g 0 len/\a=.ptr b g m 0
def sT(a:AV)(o:Nat):AV:=match a with
 |.ip cs _ s=>.ip cs o s
 |.ptr b g i _=>.ptr b g i o
 |v=>v
def nT{m:Nat}{x : α}(h:m<l.length)(hx:l[m]=x):(l.map enc)[m]?=some (enc x):=by grind
def ry{P:AV->Prop}{h:aT}(hw:mF all e o=some true)(hop:∃v,(∀call,mT o.op ⟨C,fa,call⟩ e h o.dst=some (v,h))/\P v)(next:∀v,P v->od C F Pr fa all rest q (my e o v) h):od C F Pr fa all (o::rest) q e h:=by grind[cr]
def rb{j:Nat}{sch:List (Nat×List Nat)}{P:AV->Prop}{h:aT}(hj:all[j]?=some o)(hw:mF all e o=some true)(hop:∃v,(∀call,mT o.op ⟨C,fa,call⟩ e h o.dst=some (v,h))/\P v)(next:∀v,P v->oe C F Pr fa all sch q (my e o v) h):oe C F Pr fa all ((j,[])::sch) q e h:=by grind[js]
def p7{t el:Nat}{x y:Operand}{ti te:TI}{k:IntKind}{m:Nat}{d:Option Nat}{cs:List AV}{xs:List (List AV)}(hS:Sep H L)(hi:L[i]?=some (.sl w tt v n xs))(hT:C.T t=some ti)(hk:ti.kind=.slice el)(hE:C.T el=some te)(hn:te.size=n)(hx:me e x=v)(hy:me e y=.int k (m:Int))(hm:xs[m]?=some cs) :
  ∃a,(∀call,mT (.indexAddr t x y) ⟨C,fa,call⟩ e { H with ca:=ls } d=some (a,{ H with ca:=ls }))/\a=sT a 0/\EA v m a cs:=by
 have h:m<xs.length:=(alt.mp hm).1;have c:uA (.int k (m:Int))=some m:=rfl;obtain⟨f,⟨q,rfl⟩|⟨_,rfl⟩|⟨b,g,j,r,rfl,l,o⟩⟩:=hS.at hi;·grind
 ·refine⟨.ip cs 0 false,λcall=>?_,rfl,.inl ⟨xs,_,rfl,rfl⟩⟩;have s:Nat.beq cs.length te.size=true:=by rw[hn,f _ (List.mem_of_getElem? hm)];simp
  simp_all[mT,uB,tB,wI,vF]
 ·refine⟨.ptr b g m 0,λcall=>?_,rfl,.inr ⟨b,g,_,rfl,rfl⟩⟩;have p:Nat.blt m xs.length=true:=by simp_all
  simp only[mT,uB,tB,hT,hy,c,hk,hE,hx,wI,aT.oR,l,p,hn,Nat.beq_refl,Bool.and_self,sj,Nat.zero_add]
def EA.Yf{m o off ft f t:Nat}{a:AV}{cs:List AV}{x:Operand}{X:Ctx}{d:Option Nat}{ti:TI}{fs:List (Nat×Nat)}{h:aT}(hE:EA v m a cs)(hT:X.C.T t=some ti)(hk:ti.kind=.struct fs)(hf:fs[f]?=some (off,ft))(hx:me e x=sT a o):mT (.fieldAddr t x f) X e h d=some (sT a (o+off),h):=by rcases hE with⟨c,k,rfl,rfl⟩|⟨b,g,len,rfl,rfl⟩<;>simp only[mT,yI,wV,hT,hk,hf,hx,sT,HP,VI,Ll,sj,oz]
def qR{m o t:Nat}{a r:AV}{cs:List AV}{x:Operand}{X:Ctx}{d:Option Nat}{ti:TI}{xs:List (List AV)}(hS:Sep H L)(hi:L[i]?=some (.sl w tt v n xs))(hm:xs[m]?=some cs)(hE:EA v m a cs)(hT:X.C.T t=some ti)(hp:part ti cs o=some r)(hx:me e x=sT a o):mT (.load t x) X e { H with ca:=ls } d=some (r,{ H with ca:=ls }):=by
 have f:m<xs.length:=(alt.mp hm).1;obtain⟨h,l⟩:=hS.at hi;rcases hE with⟨p,k,rfl,rfl⟩|⟨b,g,len,rfl,rfl⟩
 ·simp_all[mT,BM,Au,sT,xz,adr,oz]
 ·rcases l with⟨u,c⟩|⟨_,c⟩|⟨b',g',j,y,c,z,q⟩
  ·cases c
  ·cases c
  ·(cases c;have s:(xs++j)[m]?=some cs:=by grind);simp_all[mT,BM,Au,sT,xz,I1,aT.oR,oz]
theorem Q0{cs new cs':List AV}{o:Nat}(h:sJ cs o new=some cs'):cs'.length=cs.length:=by
 unfold sJ at h;split at h;·rename_i a;have a:=anf.mp a;grind[u3]
 ·cases h
def ac3{m o t:Nat}{a r:AV}{cs new cs':List AV}{x y:Operand}{d:Option Nat}{ti:TI}{xs:List (List AV)}(hS:Sep H L)(hi:L[i]?=some (.sl true tt v n xs))(hm:xs[m]?=some cs)(hE:EA v m a cs)(hT:C.T t=some ti)(hx:me e x=sT a o)(hy:me e y=r)(hnew:cellsOf ti r=some new)(hok:new.all AV.oq=true)(hsp:sJ cs o new=some cs') :
  ∃u H',(∀call,mT (.store t x y) ⟨C,fa,call⟩ e { H with ca:=ls } d=some (u,{ H' with ca:=ls }))/\u=.undef/\Sep H' (L.set i (.sl true tt v n (xs.set m cs'))):=by
 have B:m<xs.length:=(alt.mp hm).1;obtain⟨D,E⟩:=hS.at hi;rcases E with⟨c,rfl⟩|⟨c|c,_⟩|⟨b,g,j,J,rfl,s,h⟩
 ·grind
 ·cases c
 ·grind
 ·rcases hE with⟨F,k,c,_⟩|⟨b',g',len,G,rfl⟩
  ·cases c
  ·(cases G;have w:H.lo<=b:=aT.qZ s;have l:(xs++j)[m]?=some cs:=by grind);refine⟨.undef,H.set b (.lU g n ((xs.set m cs')++j)),λcall=>?_,rfl,?_⟩;·(have p:(xs++j).set m cs'=xs.set m cs'++j:=by grind);simp only[mT,Fz,Dj,hT,hx,hy,Dr,hnew,hok,sT,FW,Lt,aT.oR,s,Nat.beq_refl,l,hsp,aT.s7,p]
   ·refine hS.rp hi (by simpa using hS.lo) (by simp) ⟨?_,.inr (.inr ⟨b,g,j,by simp_all,by simp,?_,h⟩)⟩ ?_ ?_
    ·intro z A;rcases anU A with A|rfl
     ·grind
     ·rw[Q0 hsp];grind
    ·grind[aT.pa]
    ·intro b' f q;rw[aT.pa,if_neg (by rintro⟨rfl,_⟩;exact q rfl)]
    ·intro b' f;exact .inl f
def zg{m o t:Nat}{a r:AV}{new:List AV}{x y:Operand}{d:Option Nat}{ti:TI}(z z' : α)(hS:Sep H L)(hi:L[i]?=some (.sl true tt v n (l.map enc)))(hml:m<l.length)(hz:l[m]=z)(hE:EA v m a (enc z))(hT:C.T t=some ti)(hx:me e x=sT a o)(hy:me e y=r)(hnew:cellsOf ti r=some new)(hok:new.all AV.oq=true)(hsp:sJ (enc z) o new=some (enc z')) :
  ∃u H',(∀call,mT (.store t x y) ⟨C,fa,call⟩ e { H with ca:=ls } d=some (u,{ H' with ca:=ls }))/\u=.undef/\Sep H' (L.set i (.sl true tt v n ((l.set m z').map enc))):=by
 rw[List.map_set];exact ac3 hS hi (nT hml hz) hE hT hx hy hnew hok hsp
def Cut(v:AV)(k:Nat)(v':AV):Prop:=(v=.sl [] .nil/\v'=.sl [] .nil/\k=0)\/(v=.sl [] (.exact 0)/\v'=.sl [] (.exact 0)/\k=0)\/∃b g len,v=.hs b g 0 len/\v'=.hs b g 0 k
def aaY{t el k:Nat}{x y:Operand}{ti te:TI}{kd:IntKind}{d:Option Nat}{xs:List (List AV)}(hS:Sep H L)(hi:L[i]?=some (.sl true tt v n xs))(hT:C.T t=some ti)(hk:ti.kind=.slice el)(hE:C.T el=some te)(hn:te.size=n)(hx:me e x=v)(hy:me e y=.int kd (k:Int))(hkl:k<=xs.length) :
  ∃v' H',(∀call,mT (.slice t x none (some y) none) ⟨C,fa,call⟩ e { H with ca:=ls } d=some (v',{ H' with ca:=ls }))/\Cut v k v'/\Sep H' (L.set i (.sl true false v' n (xs.take k))):=by
 obtain⟨m,q⟩:=hS.at hi;have a:uA (.int kd (k:Int))=some k:=rfl;rcases q with⟨c,rfl⟩|⟨c|c,rfl⟩|⟨b,g,j,l,rfl,p,r⟩
 ·subst c;have f:k=0:=by grind
  subst f;refine⟨.sl [] .nil,H,λcall=>?_,.inl ⟨rfl,rfl,rfl⟩,?_⟩;·simp only[mT,vD,uX,hT,hk,hE,hx,hy,slice,B2,sX,bound,a,vY,uq,vE];rfl
  ·exact hS.rp hi hS.lo (abs _) ⟨by simp,.inl ⟨by simp,rfl⟩⟩ (λ_ _ _=>rfl) (λb l=>by simp[pF,mZ.v]at l)
 ·cases c
 ·subst c;have f:k=0:=by grind
  subst f;refine⟨.sl [] (.exact 0),H,λcall=>?_,.inr (.inl ⟨rfl,rfl,rfl⟩),?_⟩;·simp only[mT,vD,uX,hT,hk,hE,hx,hy,slice,B2,sX,bound,a,vY,uq,vE];rfl
  ·exact hS.rp hi hS.lo (abs _) ⟨by simp,.inr (.inl ⟨.inr (by simp),rfl⟩)⟩ (λ_ _ _=>rfl) (λb l=>by simp[pF,mZ.v]at l)
 ·have c:Nat.ble 0 k=true:=anf.mpr (ang _);have s:Nat.ble k (xs++j).length=true:=anf.mpr (by grind);have u:Nat.ble 0 (xs++j).length=true:=anf.mpr (ang _);refine⟨.hs b g 0 k,H,λcall=>?_,.inr (.inr ⟨b,g,_,rfl,rfl⟩),?_⟩;·simp only[mT,vD,uX,hT,hk,hE,hx,hy,slice,JQ,aT.oR,p,hn,Nat.beq_refl,Bool.and_self,sX,bound,a,vY,Option.getD_none,Nat.zero_add,c,s,u,Bool.and_true,Bool.true_and,Jo,sj,Nat.sub_zero,oz]
  ·refine hS.rp hi hS.lo (abs _) ⟨λz w=>m z (anL w),.inr (.inr ⟨b,g,xs.drop k++j,l,?_,?_,λh=>by cases h⟩)⟩ (λ_ _ _=>rfl) (λb' o=>.inl o);·grind
   ·rw[p,<- List.append_assoc,List.take_append_drop]
def zi{t el k:Nat}{x y:Operand}{ti te:TI}{kd:IntKind}{d:Option Nat}(hS:Sep H L)(hi:L[i]?=some (.sl true tt v n (l.map enc)))(hT:C.T t=some ti)(hk:ti.kind=.slice el)(hE:C.T el=some te)(hn:te.size=n)(hx:me e x=v)(hy:me e y=.int kd (k:Int))(hkl:k<=l.length) :
  ∃v' H',(∀call,mT (.slice t x none (some y) none) ⟨C,fa,call⟩ e { H with ca:=ls } d=some (v',{ H' with ca:=ls }))/\Cut v k v'/\Sep H' (L.set i (.sl true false v' n ((l.take k).map enc))):=by
 rw[List.map_take];exact aaY hS hi hT hk hE hn hx hy (by grind)
def z8{t el k:Nat}{x y:Operand}{ti te:TI}{kd:IntKind}{d:Option Nat}{v':AV}{ys:List (List AV)}{X:Ctx}(hS:Sep H L)(hi:L[i]?=some (.sl true tt v' n ys))(hc:Cut v k v')(hT:X.C.T t=some ti)(hk:ti.kind=.slice el)(hE:X.C.T el=some te)(hn:te.size=n)(hx:me e x=v)(hy:me e y=.int kd (k:Int)) :
  mT (.slice t x none (some y) none) X e { H with ca:=ls } d=some (v',{ H with ca:=ls }):=by
 have a:uA (.int kd (k:Int))=some k:=rfl;obtain⟨f,h⟩:=hS.at hi;rcases hc with⟨rfl,rfl,rfl⟩|⟨rfl,rfl,rfl⟩|⟨b,g,len,rfl,rfl⟩
 ·simp only[mT,vD,uX,hT,hk,hE,hx,hy,slice,B2,sX,bound,a,vY,uq,vE];rfl
 ·simp only[mT,vD,uX,hT,hk,hE,hx,hy,slice,B2,sX,bound,a,vY,uq,vE];rfl
 ·rcases h with⟨_,c⟩|⟨_,c⟩|⟨b',g',j,r,c,l,m⟩
  ·cases c
  ·cases c
  ·cases c;have o:Nat.ble 0 ys.length=true:=anf.mpr (ang _);have p:Nat.ble ys.length (ys++j).length=true:=anf.mpr (by simp);have q:Nat.ble 0 (ys++j).length=true:=anf.mpr (ang _);simp only[mT,vD,uX,hT,hk,hE,hx,hy,slice,JQ,aT.oR,l,hn,Nat.beq_refl,Bool.and_self,sX,bound,a,vY,Option.getD_none,Nat.zero_add,o,p,q,Bool.and_true,Bool.true_and,Jo,sj,Nat.sub_zero,oz]
end
section
variable {C:nu}{F:oP}{Pr:om}{fa:lg}{e:Env}{all rest:List Oper}{o:Oper}{q:Env->aT->Prop}
variable {H:aT}{ls:o1}{L:List mZ}{i:Nat}{v:AV}{cs:List AV}
def JE{d:Nat}(hS:Sep H L)(hd:fa.ca.elem d=false):∃v H',newVar fa d { H with ca:=ls } cs=some (v,{ H' with ca:=ls })/\∃b,v=.ptr b 0 0 0/\Sep H' (.obj (.ptr b 0 0 0) cs::L):=by
 have a:=hS.lo;refine⟨.ptr H.size 0 0 0,H.push (.lU 0 cs.length [cs]),?_,H.size,rfl,?_⟩;·grind[newVar,aT.FH]
 ·refine hS.new (by simp;omega) (by simp) ⟨H.size,cs.length,by simp,rfl,?_⟩ ?_ ?_<;>grind[aT.uH,pF,mZ.v]
def v8{t d:Nat}{ti:TI}(hS:Sep H L)(hd:fa.ca.elem d=false)(hT:C.T t=some ti):∃v H',(∀call,mT (.alloc t) ⟨C,fa,call⟩ e { H with ca:=ls } (some d)=some (v,{ H' with ca:=ls }))/\∃b,v=.ptr b 0 0 0/\Sep H' (.obj (.ptr b 0 0 0) ti.zero::L):=by obtain⟨v,H',c,a⟩:=JE (ls:=ls) (cs:=ti.zero) hS hd;refine⟨v,H',λcall=>?_,a⟩;simp_all[mT,TR,I7]
def vH{t d:Nat}{ti:TI}{x:Operand}{r:AV}(hS:Sep H L)(hd:fa.ca.elem d=false)(hT:C.T t=some ti)(hx:me e x=r)(hc:cellsOf ti r=some cs)(hok:cs.all AV.oq=true):∃v H',(∀call,mT (.box t x) ⟨C,fa,call⟩ e { H with ca:=ls } (some d)=some (v,{ H' with ca:=ls }))/\∃b,v=.ptr b 0 0 0/\Sep H' (.obj (.ptr b 0 0 0) cs::L):=by obtain⟨v,H',a,c⟩:=JE (ls:=ls) (cs:=cs) hS hd;refine⟨v,H',λcall=>?_,c⟩;simp only[mT,Xt,Rg,hT,hx,hc,hok,a]
def Sep.p0(hS:Sep H L)(hi:L[i]?=some (.obj v cs)):v=sT v 0:=by obtain⟨b,z,a,rfl,c⟩:=hS.at hi;rfl
def sm{o off ft f t:Nat}{x:Operand}{X:Ctx}{d:Option Nat}{ti:TI}{fs:List (Nat×Nat)}{h:aT}(hS:Sep H L)(hi:L[i]?=some (.obj v cs))(hT:X.C.T t=some ti)(hk:ti.kind=.struct fs)(hf:fs[f]?=some (off,ft))(hx:me e x=sT v o):mT (.fieldAddr t x f) X e h d=some (sT v (o+off),h):=by obtain⟨b,z,a,rfl,c⟩:=hS.at hi;simp_all[mT,yI,wV,sT,HP,Ll,sj,oz]
def tP{x:Operand}{X:Ctx}{d:Option Nat}{h:aT}{o:Nat}(hS:Sep H L)(hi:L[i]?=some (.obj v cs))(hx:me e x=sT v o):mT (.nilCheck x) X e h d=some (sT v o,h):=by obtain⟨b,z,a,rfl,c⟩:=hS.at hi;simp only[mT,BL,hx,sT,If,oz]
def pL{o t:Nat}{r:AV}{x:Operand}{X:Ctx}{d:Option Nat}{ti:TI}(hS:Sep H L)(hi:L[i]?=some (.obj v cs))(hT:X.C.T t=some ti)(hp:part ti cs o=some r)(hx:me e x=sT v o):mT (.load t x) X e { H with ca:=ls } d=some (r,{ H with ca:=ls }):=by obtain⟨b,z,a,rfl,c⟩:=hS.at hi;simp_all[mT,BM,Au,sT,xz,I1,aT.oR,oz]
def pO{o t:Nat}{r:AV}{new cs':List AV}{x y:Operand}{d:Option Nat}{ti:TI}(hS:Sep H L)(hi:L[i]?=some (.obj v cs))(hT:C.T t=some ti)(hx:me e x=sT v o)(hy:me e y=r)(hnew:cellsOf ti r=some new)(hok:new.all AV.oq=true)(hsp:sJ cs o new=some cs') :
  ∃u H',(∀call,mT (.store t x y) ⟨C,fa,call⟩ e { H with ca:=ls } d=some (u,{ H' with ca:=ls }))/\u=.undef/\Sep H' (L.set i (.obj v cs')):=by
 obtain⟨b,z,h,rfl,f⟩:=hS.at hi;have g:H.lo<=b:=aT.qZ f;refine⟨.undef,H.set b (.lU 0 z [cs']),λcall=>?_,rfl,?_⟩;·simp only[mT,Fz,Dj,hT,hx,hy,Dr,hnew,hok,sT,FW,Lt,aT.oR,f,Nat.beq_refl,List.getElem?_cons_zero,hsp,aT.s7,List.set_cons_zero]
 ·refine hS.rp hi (by simpa using hS.lo) (by simp) ⟨b,z,by simp_all,rfl,?_⟩ ?_ ?_;·grind[aT.pa]
  ·intro b' a c;rw[aT.pa,if_neg (by rintro⟨rfl,_⟩;exact c rfl)]
  ·intro b' a;exact .inl a
end
def zc(n:Nat)(k:IntKind)(a:Int):pk (n+1) (.int k a) (.int k a)=true:=by simp[pk,ua,u5]
def VK(n:Nat)(b:Bool):pk (n+1) (.bool b) (.bool b)=true:=by cases b<;>rfl
def JP{H:aT}{L:List mZ}{i:Nat}{n:Nat}{tt:Bool}{v:AV}{m:Nat}{xs:List (List AV)}(hS:Sep H L)(hi:L[i]?=some (.sl true tt v m xs)):pk (n+1) v v=true:=by
 obtain⟨c,⟨a,rfl⟩|⟨a|a,rfl⟩|⟨b,g,j,e,rfl,f,d⟩⟩:=hS.at hi;·rfl
 ·cases a
 ·subst a;rfl
 ·simp[pk]
def pN{X:Ctx}{all:List Oper}{e:Env}{h h':aT}{i d:Nat}{o:Oper}{v:AV}(ho:all[i]?=some o)(hw:mF all e o=some true)(hd:o.dst=some d)(hop:mT o.op X e h (some d)=some (v,h'))(hv:p3 e d=v)(hq:pk 8 v v=true):again X all e h i=true:=by grind[again,OD]
section
variable {C:nu}{F:oP}{Pr:om}{fa:lg}{e:Env}{h:aT}{all rest:List Oper}{o:Oper}{q:Env->aT->Prop}{H:aT}{ls:o1}
def Mx{i:Nat}{chk:List Nat}{sch:List (Nat×List Nat)}{v:AV}{h1:aT}(ho:all[i]?=some o)(hw:mF all e o=some true)(hop:∃m,∀k,m<=k->mT o.op (XN C F Pr fa k) e h o.dst=some (v,h1))
  (hc:∀call,∀j∈chk,again ⟨C,fa,call⟩ all (my e o v) h1 j=true) (w:oe C F Pr fa all sch q (my e o v) h1):oe C F Pr fa all ((i,chk)::sch) q e h:=by
 obtain⟨m,g⟩:=hop;obtain⟨a,b,⟨c,d⟩,f⟩:=w;refine⟨a,b,⟨max m c,λk l=>?_⟩,f⟩;grind[again,my,Ak,wi,F6]
def vG{j:Nat}{chk:List Nat}{sch:List (Nat×List Nat)}{P:AV->aT->Prop}(hj:all[j]?=some o)(hw:mF all e o=some true)(hop:∃v H',(∀call,mT o.op ⟨C,fa,call⟩ e { H with ca:=ls } o.dst=some (v,{ H' with ca:=ls }))/\P v H')
  (next:∀v H',P v H'->(∀call,∀j∈chk,again ⟨C,fa,call⟩ all (my e o v) { H' with ca:=ls } j=true)/\oe C F Pr fa all sch q (my e o v) { H' with ca:=ls }):oe C F Pr fa all ((j,chk)::sch) q e { H with ca:=ls }:=by
 obtain⟨v,H',a,b⟩:=hop;obtain⟨c,d⟩:=next v H' b
 exact Mx hj hw ⟨0,λk _=>a _⟩ c d
end
def Bv{p:Nat->Prop}{a:Nat}(h:p a):∀j∈[a],p j:=by grind
def DI{p:Nat->Prop}{a:Nat}{l:List Nat}(h:p a)(hl:∀j∈l,p j):∀j∈a::l,p j:=by grind
structure mB(α:Type) where
 l:List α
 c:sg
 ok:l.length<=xn
 nl:c=.nil->l=[]
def mB.av{α:Type}(enc : α->List AV)(r:mB α):AV:=.sl (r.l.map enc) r.c
def Row.rM{α:Type}(r:Row α):mB α:=⟨r.l,r.c,r.ok,r.nl⟩
section
variable {H:aT}{L:List mZ}{i:Nat}{v:AV}{cs:List AV}{w tt:Bool}{n:Nat}
variable {α:Type}{enc : α->List AV}{l:List α}
def PO{xs:List (List AV)}{sn:Bool}(hS:Sep H L)(hi:L[i]?=some (.sl w tt v n xs)):∃c,(vF c=true->sn=true)/\(c=.nil->xs=[])/\∀ls m,(∀x∈xs,nd (freeze sn { H with ca:=ls } m) x=some x)->freeze sn { H with ca:=ls } (m+1) v=some (.sl xs c):=by
 obtain⟨a,⟨d,rfl⟩|⟨_,rfl⟩|⟨b,g,j,q,rfl,e,f⟩⟩:=hS.at hi;·subst d;exact⟨.nil,λh=>(by cases h),λ_=>rfl,λ_ _ _=>rfl⟩
 ·exact⟨.exact xs.length,λh=>(by cases h),λh=>(by cases h),λ_ _ _=>rfl⟩
 ·refine⟨Ix sn,?_,?_,λls m k=>?_⟩
  ·cases sn;·intro h;cases h
   simp
  ·cases sn<;>exactλh=>by cases h
  ·(have l:Nat.ble (0+xs.length) (xs++j).length=true:=anf.mpr (by simp);have o:((xs++j).drop 0).take xs.length=xs:=by simp);have p:∀ys:List (List AV),(∀x∈ys,nd (freeze sn { H with ca:=ls } m) x=some x)->sZ (freeze sn { H with ca:=ls } m) ys=some ys:=by intro ys;induction ys<;>grind[sZ]
   simp only[freeze,aT.oR,e,Nat.beq_refl,l,Bool.and_self,o,p xs k]
def o5(hS:Sep H L)(hi:L[i]?=some (.sl w tt v n (l.map enc)))(hl:l.length<=xn):∃r:Row α,r.l=l/\∀ls m,(∀x,nd (freeze false { H with ca:=ls } m) (enc x)=some (enc x))->freeze false { H with ca:=ls } (m+1) v=some (r.av enc):=by obtain⟨c,d,a,b⟩:=PO (sn:=false) hS hi;refine⟨⟨l,c,hl,?_,λh=>anx.mp (a h)⟩,rfl,λls m e=>b ls m ?_⟩<;>grind
def abj(hS:Sep H L)(hi:L[i]?=some (.sl w tt v n (l.map enc)))(hl:l.length<=xn):∃r:mB α,r.l=l/\∀ls m,(∀x,nd (freeze true { H with ca:=ls } m) (enc x)=some (enc x))->freeze true { H with ca:=ls } (m+1) v=some (r.av enc):=by obtain⟨c,d,a,b⟩:=PO (sn:=true) hS hi;refine⟨⟨l,c,hl,λh=>anx.mp (a h)⟩,rfl,λls m e=>b ls m ?_⟩;grind
theorem Qm{f:AV->Option AV}:∀{es:List (AV×AV×Nat)},(∀x∈tn es,f x.2=some x.2)->uY f es=some (tn es)
 |[],_=>rfl
 |(k,v,c)::es,h=>by have a:f v=some v:=h (k,v) (by simp[tn]);have b:uY f es=some (tn es):=Qm λx d=>h x (by simp only[tn,List.map_cons,List.mem_cons];exact .inr d);simp only[uY,a,b,tn,List.map_cons]
def BJ{sn:Bool}{es:List (AV×AV)}(hS:Sep H L)(hi:L[i]?=some (.map v es))(ls:o1)(m:Nat)(hm:∀x∈es,freeze sn { H with ca:=ls } m x.2=some x.2):freeze sn { H with ca:=ls } (m+1) v=some (.fm es sn):=by obtain⟨b,a,c,e,rfl,f,rfl,d⟩:=hS.at hi;grind[freeze,aT.oR,Qm]
def xR{sn:Bool}{cs':List AV}(hS:Sep H L)(hi:L[i]?=some (.obj v cs))(ls:o1)(m:Nat)(hm:nd (freeze sn { H with ca:=ls } m) cs=some cs'):freeze sn { H with ca:=ls } (m+1) v=some (.ip cs' 0 sn):=by obtain⟨b,z,a,rfl,c⟩:=hS.at hi;grind[freeze,aT.oR]
end
def AV.uK:AV->Bool
 |.agg l=>l.all AV.oq
 |.mw _=>false
 |_=>true
theorem Up{sn:Bool}{h:aT}{n:Nat}{v w:AV}(hp:v.qj=true)(hf:freeze sn h n v=some w):w=v:=by
 cases n with
 |zero=>simp[freeze]at hf
 |succ n=>
  cases v<;>simp only[AV.qj,Bool.false_eq_true]at hp<;>simp only[freeze,Option.some.injEq]at hf<;>try exact hf.symm
  ·grind
  ·grind
  grind
theorem B6{f:AV->Option AV}:∀{l l':List AV},(∀x∈l,∀y,f x=some y->y=x)->nd f l=some l'->l'=l
 |[],_,_,h=>by grind[nd]
 |a::l,l',hx,h=>by
  simp only[nd]at h;split at h;·cases h
  ·rename_i w b;split at h;·cases h
   ·rename_i r c;simp only[Option.some.injEq]at h;subst h;rw[hx a (by simp) w b,B6 (λx d=>hx x (by simp[d])) c]
theorem P0{hp:aT}{n:Nat}(c:List AV)(o:Nat)(s:Bool):freeze true hp (n+1) (.ip c o s)=some (.ip c o s):=by simp[freeze]
theorem Qb{hp:aT}{n:Nat}(c:List (AV×AV))(s:Bool):freeze true hp (n+1) (.fm c s)=some (.fm c s):=by simp[freeze]
theorem Mu{h:aT}{n:Nat}{v w:AV}(hr:v.xK=false)(hc:v.oq=true)(hf:freeze true h n v=some w):w=v:=by
 cases n with
 |zero=>simp[freeze]at hf
 |succ n=>
  cases v with
  |undef=>cases hc
  |la _ _=>cases hc
  |agg _=>cases hc
  |mw _=>cases hc
  |ptr _ _ _ _=>cases hr
  |hs _ _ _ _=>cases hr
  |hm _=>cases hr
  |sl xs c=>cases c<;>exact(Option.some.inj hf).symm
  |ip c o s=>grind[P0]
  |fm c s=>grind[Qb]
  |mH f a c=>simp only[AV.xK,Bool.not_eq_false',Bool.and_eq_true,List.all_eq_true]at hr;grind[freeze,B6,Up]
  |_=>exact(Option.some.inj hf).symm
theorem Te{l:List AV}(hr:(AV.agg l).xK=false){x:AV}(hx:x∈l)(hc:x.oq=true):x.xK=false:=by
 simp only[AV.xK,List.any_eq_false]at hr;have b:=hr x hx;cases x with
 |ptr _ _ _ _=>simp at b
 |hs _ _ _ _=>simp at b
 |hm _=>simp at b
 |mH f a c=>grind[AV.xK]
 |agg _=>cases hc
 |_=>rfl
theorem Vm{h:aT}{n:Nat}{v w:AV}(hr:v.xK=false)(hfi:v.uK=true)(hf:freeze true h n v=some w):w=v:=by
 cases n with
 |zero=>simp[freeze]at hf
 |succ n=>
  cases v with
  |agg l=>
   rw[abz]at hf;split at hf;·rename_i l' b;simp only[Option.some.injEq]at hf;subst hf;simp only[AV.uK,List.all_eq_true]at hfi;rw[B6 (λx a y c=>Mu (Te hr a (hfi x a)) (hfi x a) c) b]
   grind
  |mw l=>cases hfi
  |undef=>cases hf
  |la _ _=>cases hf
  |_=>exact Mu hr rfl hf
def oE{h:aT}{args args':List AV}(hf:nd (freeze true h 8) args=some args')(hfi:args.all AV.uK=true):pb h args=some args':=by grind[pb,AV.xK,B6,Vm]
theorem Sep.uK{H:aT}{L:List mZ}(h:Sep H L){i:Nat}{r:mZ}(hi:L[i]?=some r):AV.uK r.v=true:=by
 cases r with
 |sl w t v n xs=>obtain⟨k,⟨_,rfl⟩|⟨_,rfl⟩|⟨b,g,j,a,rfl,d,l⟩⟩:=h.at hi<;>rfl
 |map v es=>obtain⟨b,e,c,a,rfl,d,m,f⟩:=h.at hi;rfl
 |obj v cs=>obtain⟨b,z,a,rfl,d⟩:=h.at hi;rfl
def Ou{α:Type}{enc : α->List AV}{hp:aT}{n:Nat}(r:mB α):freeze true hp (n+1) (mB.av enc r)=some (mB.av enc r):=by grind[mB.av,freeze]
theorem zr{α:Type}{enc : α->List AV}{hp:aT}{n:Nat}(r:Row α):freeze true hp (n+1) (Row.av enc r)=some (Row.av enc r):=Ou r.rM
def abR{sn:Bool}{hp:aT}{n:Nat}(c:List AV)(o:Nat):freeze sn hp (n+1) (.ip c o false)=some (.ip c o false):=by rfl
def abY{sn:Bool}{hp:aT}{n:Nat}(c:List (AV×AV)):freeze sn hp (n+1) (.fm c false)=some (.fm c false):=by rfl
def vf{C:nu}{fa:lg}{e:Env}{h:aT}{call:xC}{f:Nat}{a c:Array Operand}{as cs:List AV}{d:Option Nat}(ha:a.toList.map (me e)=as)(hc:c.toList.map (me e)=cs)(hok:(as.all AV.oq&&cs.all AV.oq)=true):mT (.makeFunc (.func f) a c) ⟨C,fa,call⟩ e h d=some (.mH f as cs,h):=by simp only[mT,B3,zQ,ha,hc,hok]
section
variable {C:nu}{fa:lg}{e:Env}{h:aT}{α:Type}{enc : α->List AV}
def uG{X:Ctx}{d:Option Nat}{t el:Nat}{x:Operand}{cl:Call}{ti:TI}{r:mB α}(hc:cl.callee=.builtin .len)(ha:cl.args.toList=[x])(hts:cl.argTypes.toList=[t])(hT:X.C.T t=some ti)(hk:ti.kind=.slice el)(hx:me e x=r.av enc) :
  mT (.call cl) X e h d=some (.int .i64 r.l.length,h):=by
 simp_all[mT,uQ,tW,qS,BX,Aa,Ba,mB.av,AF,uZ]
theorem sd{X:Ctx}{d:Option Nat}{t el:Nat}{x y:Operand}{ti te:TI}{r:mB α}{k:IntKind}{n:Nat}(hT:X.C.T t=some ti)(hk:ti.kind=.slice el)(hE:X.C.T el=some te)(hx:me e x=r.av enc)(hi:me e y=.int k (n:Int))
  (hn:n<r.l.length) (hl:(enc r.l[n]).length=te.size):mT (.indexAddr t x y) X e h d=some (.ip (enc r.l[n]) 0 (vF r.c),h) :=
 YE hT hk hE hx hi (by omega) (r:=enc r.l[n]) (by simp[hn]) hl
def Row.drop(r:Row α)(k:Nat):Row α:=⟨r.l.drop k,vE k r.c,by have:=r.ok;grind,by have:=r.sn;cases a:r.c<;>rw[a]at this<;>first|rfl|exact this,λh=>by
 cases a:r.c<;>rw[a]at h<;>first|(rw[r.nl a];simp)|cases h⟩
def Vh{X:Ctx}{d:Option Nat}{t el n k:Nat}{x y:Operand}{ti te:TI}{r:Row α}{kd:IntKind}(hT:X.C.T t=some ti)(hk:ti.kind=.slice el)(hE:X.C.T el=some te)(hx:me e x=r.av enc)(hy:me e y=.int kd (k:Int))(hn:te.size=n)(hkl:k<=r.l.length)(henc:∀x,(enc x).length=n) :
  mT (.slice t x (some y) none none) X e h d=some ((r.drop k).av enc,h):=by
 have b:uA (.int kd (k:Int))=some k:=rfl;have c:Nat.ble k (r.l.map enc).length=true:=anf.mpr (by grind);have f:Nat.ble (r.l.map enc).length (r.l.map enc).length=true:=anf.mpr (abs _)
 have g:uq n (r.l.map enc)=true:=by
  cases r.l with
  |nil=>rfl
  |cons a l=>simp_all[uq]
 have i:((r.l.map enc).drop k).take ((r.l.map enc).length - k)=(r.l.drop k).map enc:=by rw[List.take_of_length_le (by simp),List.map_drop]
 simp only[mT,vD,uX,hT,hk,hE,hx,hy,Row.av,slice,B2,sX,bound,b,vY,hn,f,g,c,Bool.and_true,i,u3,oz,Row.drop]
end
section
variable {C:nu}{F:oP}{Pr:om}{fa:lg}{e:Env}{h:aT}{all rest:List Oper}{o:Oper}{q:Env->aT->Prop}
def Pm{f:Nat}{args args':List AV}{v:AV}{h h':aT}(hP:Pr f=none)(h1:pb h args=some args')(h2:pb h' args'=some args')(w:lZ C F Pr false f args' h' v h'):lZ C F Pr false f args h v h:=by
 obtain⟨m,a⟩:=w;refine⟨m+1,λk c=>?_⟩;obtain⟨k,rfl⟩:∃k',k=k'+1:=⟨k - 1,by omega⟩;have:=a (k+1) (by omega);simp only[qi,hP]at this ⊢;cases b:F f with
 |none=>grind
 |some fb=>simp only[b,zA,h1,h2]at this ⊢;cases d:Aw C fb (qi C F Pr k) k args' aT.empty<;>grind[Aw,qi,aT.empty,frozen,freeze]
def ES{f:Nat}{g:Operand}{c:Call}{args p r:List AV}{v:AV}{d:Option Nat}(hf:c.callee=.value g)(hg:me e g=.mH f p r)(ha:c.args.toList.map (me e)=args)(hok:(p++args++r).all AV.sR=true)(hs:fa.mP.elem f=false)
  (w:lZ C F Pr false f (p++args++r) { h with ca:=[] } v { h with ca:=[] }):∃m,∀k,m<=k->mT (.call c) (XN C F Pr fa k) e h d=some (v,h):=by
 obtain⟨m,a⟩:=w;refine⟨m,λk b=>?_⟩;simp only[mT,uQ,tW,hf,hg,ha,By,IV,hok,hs,a k b,Dc]
def rv{f:Nat}{g:Operand}{c:Call}{args p r args':List AV}{R:AV->Prop}(ho:o.op=.call c)(hw:mF all e o=some true)(hf:c.callee=.value g)(hg:me e g=.mH f p r)(ha:c.args.toList.map (me e)=args)(hok:(p++args++r).all AV.sR=true)(hs:fa.mP.elem f=false)
  (hP:Pr f=none) (h1:pb { h with ca:=[] } (p++args++r)=some args') (h2:pb aT.empty args'=some args')
  (w:∀h:aT,∃v,lZ C F Pr false f args' h v h/\R v) (next:∀v,R v->od C F Pr fa all rest q (my e o v) h):od C F Pr fa all (o::rest) q e h:=by
 obtain⟨v,a,b⟩:=w aT.empty;refine C7 hw ?_ (next v b);rw[ho];exact ES hf hg ha hok hs (Pm hP h1 h2 a)
def TV{j:Nat}{sch:List (Nat×List Nat)}{f:Nat}{g:Operand}{c:Call}{args p r args':List AV}{R:AV->Prop}(hj:all[j]?=some o)(ho:o.op=.call c)(hw:mF all e o=some true)(hf:c.callee=.value g)(hg:me e g=.mH f p r)(ha:c.args.toList.map (me e)=args)(hok:(p++args++r).all AV.sR=true)(hs:fa.mP.elem f=false)
  (hP:Pr f=none) (h1:pb { h with ca:=[] } (p++args++r)=some args') (h2:pb aT.empty args'=some args')
  (w:∀h:aT,∃v,lZ C F Pr false f args' h v h/\R v) (next:∀v,R v->oe C F Pr fa all sch q (my e o v) h):oe C F Pr fa all ((j,[])::sch) q e h:=by
 obtain⟨v,a,b⟩:=w aT.empty;refine GJ hj hw ?_ (next v b);rw[ho];exact ES hf hg ha hok hs (Pm hP h1 h2 a)
variable {H:aT}{ls:o1}
def mL{f:Nat}{g:Operand}{c:Call}{args p r:List AV}{R:AV->aT->Prop}(ho:o.op=.call c)(hw:mF all e o=some true)(hf:c.callee=.value g)(hg:me e g=.mH f p r)(ha:c.args.toList.map (me e)=args)(hok:(p++args++r).all AV.sR=true)(hs:fa.mP.elem f=true)
  (w:∃v H',lZ C F Pr true f (p++args++r) { H with ca:=[] } v H'/\R v H') (next:∀v H',R v H'->od C F Pr fa all rest q (my e o v) { H' with ca:=ls }):od C F Pr fa all (o::rest) q e { H with ca:=ls }:=by
 obtain⟨v,H',a,b⟩:=w;refine C7 hw ?_ (next v H' b);rw[ho];exact M1 hf hg ha hok hs a
def Gw{j:Nat}{sch:List (Nat×List Nat)}{f:Nat}{g:Operand}{c:Call}{args p r:List AV}{R:AV->aT->Prop}(hj:all[j]?=some o)(ho:o.op=.call c)(hw:mF all e o=some true)(hf:c.callee=.value g)(hg:me e g=.mH f p r)(ha:c.args.toList.map (me e)=args)(hok:(p++args++r).all AV.sR=true)(hs:fa.mP.elem f=true)
  (w:∃v H',lZ C F Pr true f (p++args++r) { H with ca:=[] } v H'/\R v H') (next:∀v H',R v H'->oe C F Pr fa all sch q (my e o v) { H' with ca:=ls }):oe C F Pr fa all ((j,[])::sch) q e { H with ca:=ls }:=by
 obtain⟨v,H',a,b⟩:=w;refine GJ hj hw ?_ (next v H' b);rw[ho];exact M1 hf hg ha hok hs a
end
def nI{α:Type}(enc : α->List AV)(r:Row α):List AV:=[r.av enc]
structure tz where
 B4:Int
 steps:mB mA
 pos:mB Int
 left:mB (Row nc)
def tz.ay(x:tz):List AV:=[.int .i64 x.B4,x.steps.av mA.ay,x.pos.av mD,x.left.av (nI nc.ay)]
structure zN where
 from_:Int
 to:Int
 end_:Int
 steps:mB mA
 nC:mB bY
 guards:mB bY
 rJ:mB Int
 holds:mB Int
 bare:Bool
def zN.ay(x:zN):List AV:=[.int .i64 x.from_,.int .i64 x.to,.int .i64 x.end_,x.steps.av mA.ay,x.nC.av bY.ay,x.guards.av bY.ay,x.rJ.av mD,x.holds.av mD,.bool x.bare]
structure mn where
 nU:be
 roads:Row lv
def mn.ay(x:mn):List AV:=x.nU.ay++[x.roads.av lv.ay]
def sK(s:List UInt8):AV:=.str s
def bK(b:Bool):AV:=.bool b
def wQ(a b:List UInt8):pZ (sK a) (sK b)=some (decide (a=b)):=by simp only[pZ,sK,AV.agg?,qV,GC,AV.str?];grind
def Sep.zq{H:aT}{L:List mZ}{i:Nat}{w t:Bool}{v:AV}{n:Nat}{xs:List (List AV)}(h:Sep H L)(hi:L[i]?=some (.sl w t v n xs)):Sep H (L.set i (.sl w false v n xs)):=by obtain⟨a,d⟩:=h.at hi;refine h.rp hi h.lo (abs _) ⟨a,?_⟩ (λ_ _ _=>rfl) (λb c=>.inl c);grind
def sE{ti:TI}{v:AV}(ha:ti.agg=false)(hs:ti.size=1)(hc:v.oq=true):cellsOf ti v=some [v]:=by simp_all[cellsOf]
def nj{p:AV->Bool}:([]:List AV).all p=true:=rfl
def ma{p:AV->Bool}{a:AV}{l:List AV}(h:p a=true)(hl:l.all p=true):(a::l).all p=true:=by grind
def vw{a b:Bool}(h:a=true)(hl:b=true):(a&&b)=true:=by grind
def akg{l:List AV}(h:l.all AV.oq=true):AV.uK (.agg l)=true:=h
def Df{κ β:Type}{ek : κ->AV}{ev : β->AV}{p:AV×AV->Prop}{l:List (κ×β)}(h:∀x : κ×β,p (ek x.1,ev x.2)):∀x∈nG ek ev l,p x:=by intro x a;obtain⟨y,_,rfl⟩:=anj.mp a;exact h y
def ads(a b:Int):qh .xor .i64 a b=some (.int .i64 (IntKind.i64.wrap ((BitVec.ofInt 64 a ^^^ BitVec.ofInt 64 b).toNat:Int))):=by simp only[qh,IU,Ay,ug,IntKind.bits];rfl
def pf{α:Type}{enc : α->List AV}(r:Row α):AV.Gb (r.av enc)=true:=by have h:=r.sn;unfold Row.av;cases a:r.c<;>rw[a]at h<;>first|rfl|cases h
def DN{X:Ctx}{e:Env}{h:aT}{t n d:Nat}{ps:Array (Nat×Operand)}{ti:TI}{xs:List (List AV)}(hT:BH X.C t=some ti)(hle:Nat.ble (n*ti.size) 16777216=true)(hf:AN ti (vI e ps) (List.replicate n ti.zero)=some xs)(hd:X.fa.yX.elem d=false)(hp:ze xs=true):mT (.buildSlice t n ps) X e h (some d)=some (.sl xs (.exact xs.length),h):=by simp only[mT,Cr,zC,hT,hle,hf,Hn,hd,hp,Bool.not_true,Bool.or_self]
def mB.isNil{α:Type}(r:mB α):Bool:=match r.c with
 |.nil=>true
 |_=>false
def mB.of_nil{α:Type}{r:mB α}(h:r.isNil=true):r.l=[]:=by apply r.nl;grind[mB.isNil]
def xD{α:Type}{enc : α->List AV}{e:Env}{h:aT}{X:Ctx}{d:Option Nat}{t u el:Nat}{x y:Operand}{ti:TI}{r:mB α}(hT:X.C.T t=some ti)(hk:ti.kind=.slice el)(hx:me e x=r.av enc)(hy:me e y=.sl [] .nil):mT (.binOp .eql t x y u) X e h d=some (.bool r.isNil,h):=by simp only[mT,Dy,binOp,hx,hy,mB.av,AV.int?,AV.str?,C9,hT,Cp,hk,AK,mB.isNil];cases r.c<;>rfl
def Sep.ahm{H:aT}{L:List mZ}{i:Nat}{t:Bool}{v:AV}{n:Nat}{xs:List (List AV)}(h:Sep H L)(hi:L[i]?=some (.sl true t v n xs)):(v=.sl [] .nil/\xs=[])\/(v=.sl [] (.exact 0)/\xs=[])\/∃b g,v=.hs b g 0 xs.length:=by obtain⟨c,a|⟨a|a,d⟩|⟨b,g,j,a,d,e,f⟩⟩:=h.at hi<;>grind
def pg(n:Int):Prop:=-9223372036854775808<=n/\n<=9223372036854775807
def Fp(n:Int):Prop:=0<=n/\n<40
theorem Fp.pg{n:Int}(h:Fp n):pg n:=⟨by have:=h.1;omega,by have:=h.2;omega⟩
def VE(p:be)(e:Int):Prop:=0<=e/\e<(p.elems.l.length:Int)
def mY(p:be)(e:Int):Int:=if e<0 then 0 else match p.elems.l[e.toNat]? with
 |some x=>x.kind
 |none=>0
def rE(k:Int):Int:=if k=1 then 2 else if k=2 then 3 else if k=3 then 4 else if k=4 then 1 else 0
def BG(p:be)(x:cA):Prop:=VE p x.elem/\0<=x.en/\x.en<rE (mY p x.elem)
def JV(p:be):Prop:=∀j∈p.mq.l,BG p j.a/\BG p j.b
def vT(p:be)(x:cA):Prop:=Fp x.elem/\BG p x
def FJ(p:be)(x:bY):Prop:=VE p x.elem/\1<=x.pos/\x.pos<=2
def tX(n:Int):Prop:=0<=n/\n<=2
def VL(p:be)(e:Int):Prop:=VE p e/\mY p e=1
def Q6(p:be):Prop:=(∀x∈p.lines.l,∀e∈x.elems.l,VL p e)/\∀(i j:Nat)(h:j<p.lines.l.length) (hij:i<j),∀e∈(p.lines.l[i]).elems.l,e∉(p.lines.l[j]).elems.l
def RO(p:be):Prop:=∀e∈p.elems.l,(1<=e.kind/\e.kind<=4)/\(e.kind=4->e.len=0)
structure Oq(p:be):Prop where
 jv:JV p
 ln:Q6 p
 kd:RO p
 ne:0<p.elems.l.length
 lr:∀e∈p.elems.l,¬e.kind=4->1<=e.len/\e.len<=4000
def JG(p:be):Prop:=(∀j∈p.mq.l,pg j.a.elem/\pg j.b.elem)/\∀x∈p.lines.l,∀z∈x.elems.l,pg z
def pd(p:be):Prop:=p.elems.l.length<=60/\p.mq.l.length<=120/\p.signals.l.length<=60/\p.lines.l.length<=20/\(∀x∈p.lines.l,x.elems.l.length<=60)/\(∀j∈p.mq.l,pg j.a.elem/\pg j.b.elem)/\∀x∈p.lines.l,∀z∈x.elems.l,pg z
theorem pd.elems{p:be}(h:pd p):p.elems.l.length<=60:=h.1
def pd.mq{p:be}(h:pd p):p.mq.l.length<=120:=h.2.1
theorem pd.signals{p:be}(h:pd p):p.signals.l.length<=60:=h.2.2.1
def pd.lines{p:be}(h:pd p):p.lines.l.length<=20:=h.2.2.2.1
def pd.line{p:be}(h:pd p):∀x∈p.lines.l,x.elems.l.length<=60:=h.2.2.2.2.1
def s9{κ β:Type}[DecidableEq κ]{k : κ}{x : β}{l:List (κ×β)}(h:look k l=some x):(k,x)∈l:=by induction l<;>grind[look]
def Kl{κ β:Type}[DecidableEq κ]{k : κ}{x : β}{l:List (κ×β)}{y : κ×β}(h:y∈put k x l):y=(k,x)\/y∈l:=by induction l<;>grind[put]
def xU{κ β:Type}[DecidableEq κ]{k : κ}{x : β}{l:List (κ×β)}{P : β->Prop}(hl:∀y∈l,P y.2)(hx:P x):∀y∈put k x l,P y.2:=by intro y a;rcases Kl a with rfl|a<;>grind
theorem Rr{κ β:Type}[DecidableEq κ]{k : κ}{x : β}{l:List (κ×β)}:(put k x l).length<=l.length+1:=by induction l<;>grind[put]
def qy{κ β:Type}(l:List (κ×β)):Prop:=(l.map Prod.fst).Nodup
theorem JM{κ β:Type}[DecidableEq κ]{k : κ}{l:List (κ×β)}(h:look k l=none):k∉l.map Prod.fst:=by induction l<;>grind[look]
theorem PK{κ β:Type}[DecidableEq κ]{k : κ}{x : β}{l:List (κ×β)}(h:look k l=none):put k x l=l++[(k,x)]:=by induction l<;>grind[look,put]
def KA{α:Type}[DecidableEq α]:∀{a b:List α},a.Nodup->(∀x∈a,x∈b)->a.length<=b.length
 |[],_,_,_=>ang _
 |x::a,b,hn,hs=>by
  have c:x∈b:=hs x anC
  have d:=KA (a:=a) (b:=b.erase x) (anV.mp hn).2 (by
   grind)
  grind
theorem wg{p:be}{e:Int}(h:e<0\/e>=p.elems.l.length):mY p e=0:=by grind[mY]
theorem vZ{p:be}{e:Int}{x:pc}(h0:0<=e)(hx:e.toNat<p.elems.l.length)(hq:p.elems.l[e.toNat]=x):mY p e=x.kind:=by grind[mY]
def o3:List oj->cA->Option cA
 |[],_=>none
 |j::l,x=>if j.a=x then some j.b else if j.b=x then some j.a else o3 l x
theorem Gn{a b:cA}(h:a.elem=b.elem/\a.en=b.en):a=b:=by cases a<;>simp_all
def Um{l:List oj}{y:cA}{k:Nat}{x:oj}(hx:k<l.length)(hq:l[k]=x)(h1:¬(x.a.elem=y.elem/\x.a.en=y.en))(h2:¬(x.b.elem=y.elem/\x.b.en=y.en)):o3 (l.drop (k+1)) y=o3 (l.drop k) y:=by rw[List.drop_eq_getElem_cons hx,hq,o3,if_neg (by grind),if_neg (by grind)]
def SM{l:List oj}{y:cA}{k:Nat}{x:oj}(hx:k<l.length)(hq:l[k]=x)(h1:x.a.elem=y.elem/\x.a.en=y.en):o3 (l.drop k) y=some x.b:=by rw[List.drop_eq_getElem_cons hx,hq,o3,if_pos (Gn h1)]
def Ua{l:List oj}{y:cA}{k:Nat}{x:oj}(hx:k<l.length)(hq:l[k]=x)(h1:¬(x.a.elem=y.elem/\x.a.en=y.en))(h2:x.b.elem=y.elem/\x.b.en=y.en):o3 (l.drop k) y=some x.a:=by rw[List.drop_eq_getElem_cons hx,hq,o3,if_neg (by grind),if_pos (Gn h2)]
def Ve{l:List oj}{y:cA}{k:Nat}(hx:l.length<=k):o3 (l.drop k) y=none:=by rw[List.drop_eq_nil_of_le hx];rfl
def ra(x:cA):Nat->List nL->Option Int
 |_,[]=>none
 |i,s::l=>if s.at_=x then some i else ra x (i+1) l
def tK(l:List nL)(x:cA):Option Int:=ra x 0 l
def Kn{l:List nL}{y:cA}{k:Nat}{x:nL}(hx:k<l.length)(hq:l[k]=x)(h1:¬(x.at_.elem=y.elem/\x.at_.en=y.en)):ra y (k+1) (l.drop (k+1))=ra y k (l.drop k):=by rw[List.drop_eq_getElem_cons hx,hq,ra,if_neg (by grind)]
theorem Ld{l:List nL}{y:cA}{k:Nat}{x:nL}(hx:k<l.length)(hq:l[k]=x)(h1:x.at_.elem=y.elem/\x.at_.en=y.en):ra y k (l.drop k)=some (k:Int):=by rw[List.drop_eq_getElem_cons hx,hq,ra,if_pos (Gn h1)]
theorem Li{l:List nL}{y:cA}{k:Nat}(hx:l.length<=k):ra y k (l.drop k)=none:=by rw[List.drop_eq_nil_of_le hx];rfl
def qG(l:List nL)(i:Int):Option cA:=if i<0 then none else(l[i.toNat]?).map (·.at_)
theorem HD{l:List nL}{e:Int}(h:e<0\/e>=l.length):qG l e=none:=by grind[qG]
theorem QG{l:List nL}{e:Int}{x:nL}(h0:0<=e)(hx:e.toNat<l.length)(hq:l[e.toNat]=x):qG l e=some x.at_:=by grind[qG]
def An:Nat->List (Row nc)->Nat
 |_,[]=>0
 |i,r::l=>r.l.length*(2 ^ (12 - i) - 1)+An (i+1) l
def aaQ(l:List (Row nc)):∃n,n=An 0 l:=⟨_,rfl⟩
noncomputable def wt(l:List (Row nc)):Nat:=Classical.choose (aaQ l)
theorem E8(l:List (Row nc)):wt l=An 0 l:=Classical.choose_spec (aaQ l)
def P4(n:Nat):∃m,m=2 ^ (13 - n) - 1:=⟨_,rfl⟩
noncomputable def Be(n:Nat):Nat:=Classical.choose (P4 n)
theorem Eh(n:Nat):Be n=2 ^ (13 - n) - 1:=Classical.choose_spec (P4 n)
theorem adG:wt []=0:=by rw[E8];rfl
theorem aea:Be 0=8191:=by rw[Eh]
theorem L6(w:Row nc):∀(l:List (Row nc)) (i:Nat),An i (l++[w])=An i l+w.l.length*(2 ^ (12 - (i+l.length)) - 1)
 |[],i=>by simp[An]
 |r::l,i=>by simp only[List.cons_append,An,L6 w l (i+1),List.length_cons];rw[show i+1+l.length=i+(l.length+1)from by omega];omega
def HE{n:Nat}(h:n<=12):1<=Be n:=by rw[Eh];have:2 ^ 1<=2 ^ (13 - n):=Nat.pow_le_pow_right (by omega) (by omega);omega
def aa0{l:List (Row nc)}{w:Row nc}(hn:l.length<12)(hw:w.l.length<=2):wt (l++[w])+1<=wt l+Be l.length:=by
 rw[E8,E8,Eh];rw[L6,Nat.zero_add];have a:13 - l.length=(12 - l.length)+1:=by omega
 have b:1<=2 ^ (12 - l.length):=Nat.one_le_two_pow;rw[a,Nat.pow_succ];have c:w.l.length*(2 ^ (12 - l.length) - 1)<=2*(2 ^ (12 - l.length) - 1):=anl _ hw;omega
theorem Nn:∀{l:List (Row nc)} {i k:Nat} (hk:k+1=l.length) (_:(l[k]'(by omega)).l.length=0),An i (l.take k)=An i l
 |[],_,_,hk,_=>by simp
 |[r],i,k,hk,h0=>by grind[An]
 |r::s::l,i,k,hk,h0=>by obtain⟨k,rfl⟩:∃k',k=k'+1:=⟨k - 1,by simp at hk;omega⟩;simp only[List.getElem_cons_succ]at h0;rw[List.take_succ_cons,An,An,Nn (l:=s::l) (by simpa using hk) h0]
theorem QJ:∀{l:List (Row nc)} {i k:Nat} {r r':Row nc} (hk:k<l.length) (_:l[k]=r) (_:1<=r.l.length) (_:r'.l.length+1=r.l.length),An i (l.set k r')+(2 ^ (12 - (i+k)) - 1)=An i l
 |[],_,_,_,_,hk,_,_,_=>by simp at hk
 |x::l,i,0,r,r',_,hr,h1,h2=>by grind[An]
 |x::l,i,k+1,r,r',hk,hr,h1,h2=>by simp only[List.getElem_cons_succ]at hr;simp only[List.set_cons_succ,An];have:=QJ (l:=l) (i:=i+1) (k:=k) (by simpa using hk) hr h1 h2;rw[show i+1+k=i+(k+1)from by omega]at this;omega
theorem ab1{l:List (Row nc)}{k:Nat}{r:Row nc}(hk:k<l.length)(hk1:k+1=l.length)(hr:l[k]=r)(h0:r.l.length=0):wt (l.take k)=wt l:=by grind[E8,Nn]
def aeI{l:List (Row nc)}{k:Nat}{r r':Row nc}(hk:k<l.length)(hk1:k+1=l.length)(hr:l[k]=r)(h1:1<=r.l.length)(h2:r'.l.length+1=r.l.length):wt (l.set k r')+Be l.length=wt l:=by grind[QJ,E8,Eh]
def Gz(l:List oj):Prop:=∀(i:Nat)(h:i<l.length),o3 (l.take i) (l[i]).a=none/\o3 (l.take i) (l[i]).b=none/\(l[i]).a≠(l[i]).b
def FG(l:List nL):Prop:=∀(i:Nat)(h:i<l.length),∀y∈l.take i,y.at_≠(l[i]).at_
theorem TZ(l:List oj)(j:oj)(x:cA):o3 (l++[j]) x=match o3 l x with
  |some y=>some y
  |none=>if j.a=x then some j.b else if j.b=x then some j.a else none:=by
 induction l<;>grind[o3]
theorem Sc{l:List oj}{j:oj}{m:List (cA×cA)}(hD:∀x,look x m=o3 l x)(ha:look j.a m=none)(hb:look j.b m=none)(hne:j.a≠j.b)(x:cA):look x (put j.b j.a (put j.a j.b m))=o3 (l++[j]) x:=by grind[qw,TZ,look]
theorem GP{l:List oj}{j:oj}{m:List (cA×cA)}{k:Nat}(hk:k<l.length)(hj:l[k]=j)(hD:∀x,look x m=o3 (l.take k) x)(ha:look j.a m=none)(hb:look j.b m=none)(hne:¬(j.a.elem=j.b.elem/\j.a.en=j.b.en)):∀x,look x (put j.b j.a (put j.a j.b m))=o3 (l.take (k+1)) x:=by
 intro x;have:l.take (k+1)=l.take k++[j]:=by rw[List.take_succ_eq_append_getElem hk,hj]
 grind[Sc]
def N6{l:List oj}{j:oj}{m:List (cA×cA)}{k:Nat}(hk:k<l.length)(hj:l[k]=j)(hD:∀x,look x m=o3 (l.take k) x)(hJ:∀(i:Nat)(h:i<l.length),i<k->o3 (l.take i) (l[i]).a=none/\o3 (l.take i) (l[i]).b=none/\(l[i]).a≠(l[i]).b)(ha:look j.a m=none)(hb:look j.b m=none)(hne:¬(j.a.elem=j.b.elem/\j.a.en=j.b.en)) :
  ∀(i:Nat) (h:i<l.length),i<k+1->o3 (l.take i) (l[i]).a=none/\o3 (l.take i) (l[i]).b=none/\(l[i]).a≠(l[i]).b:=by
 grind
def VF{l:List nL}{n k:Nat}(hV:∀(i:Nat)(h:i<l.length),i<k->0<=(l[i]).at_.elem/\(l[i]).at_.elem<(n:Int)/\0<=(l[i]).at_.en)(hk:l.length<=k):∀s∈l,0<=s.at_.elem/\s.at_.elem<(n:Int)/\0<=s.at_.en:=by intro s a;obtain⟨i,b,rfl⟩:=ant.mp a;grind
def Kt{l:List nL}{n k:Nat}{x:nL}{hk:k<l.length}(hq:l[k]=x)(hV:∀(i:Nat)(h:i<l.length),i<k->0<=(l[i]).at_.elem/\(l[i]).at_.elem<(n:Int)/\0<=(l[i]).at_.en)(hx:0<=x.at_.elem/\x.at_.elem<(n:Int)/\0<=x.at_.en):∀(i:Nat)(h:i<l.length),i<k+1->0<=(l[i]).at_.elem/\(l[i]).at_.elem<(n:Int)/\0<=(l[i]).at_.en:=by grind
def K9{l:List nL}{k:Nat}{x:nL}{m:List (cA×Bool)}(hk:k<l.length)(hq:l[k]=x)(hD:∀y:cA,(∃s,s∈l.take k/\s.at_=y)->look y m=some true):∀y:cA,(∃s,s∈l.take (k+1)/\s.at_=y)->look y (put x.at_ true m)=some true:=by
 rintro y⟨s,a,rfl⟩;rw[qw];split;·rfl
 ·rename_i b;rw[List.take_succ_eq_append_getElem hk,hq]at a;grind
def Sz{l:List nL}{k:Nat}{x:nL}{m:List (cA×Bool)}(hk:k<l.length)(hq:l[k]=x)(hD:∀y:cA,(∃s,s∈l.take k/\s.at_=y)->look y m=some true)(hJ:∀(i:Nat)(h:i<l.length),i<k->∀y∈l.take i,y.at_≠(l[i]).at_)(hn:look x.at_ m=none):∀(i:Nat)(h:i<l.length),i<k+1->∀y∈l.take i,y.at_≠(l[i]).at_:=by grind
def Gu{α:Type}{P : α->Prop}{l:List α}{k:Nat}{x : α}(hl:∀y∈l,P y)(hx:P x):∀y∈l.set k x,P y:=by grind
def GD{e:Env}{h:aT}{t d o:Nat}{x y:Operand}{X:Ctx}{dd:Option Nat}{ti:TI}{r:AV}{new cs cs':List AV}(hT:X.C.T t=some ti)(hx:me e x=.la d o)(hy:me e y=r)(hnew:cellsOf ti r=some new)(hok:new.all AV.oq=true)(hl:nE h.ca d=some cs)(hsp:sJ cs o new=some cs'):mT (.store t x y) X e h dd=some (.undef,{ h with ca:=Ab h.ca d cs' }):=by simp only[mT,Fz,Dj,hT,hx,hy,Dr,hnew,hok,FW,Vj,hl,hsp]
section
variable {C:nu}{F:oP}{Pr:om}{fa:lg}{Q:Ex->Env->aT->Prop}{e:Env}{h:aT}
end
section
variable {C:nu}{F:oP}{Pr:om}{fa:lg}{Q:Ex->Env->aT->Prop}{e:Env}{h:aT}
def xE{a b:Code}{live:List Nat}{x y:mS}(P:Env->aT->Prop)(K:∀E Z,P E Z->Wp C F Pr fa b y Q E Z)(w:Wp C F Pr fa a x (zE (λe h=>P (proj live e) { h with ca:=pt live h.ca }) Q) e h):Wp C F Pr fa (.seq a b) (.seq live x y) Q e h:=by
 refine PU (w.mono ?_);intro d f g c;cases d with
 |oa=>exact K _ _ c
 |ext id=>exact c
 |ret=>exact c
end
def Nc{r:List AV}{l:List (List AV)}(h:r.all AV.Gb=true)(hl:ze l=true):ze (r::l)=true:=by grind[ze]
def Cn(d:cB):Prop:=d.runs.l.length<=8/\∀r∈d.runs.l,r.mh.l.length<=12/\0<=r.l9/\r.l9<(d.l9.l.length:Int)
def oB{α:Type}{P : α->Prop}{l:List α}{k:Nat}{x : α}{hk:k<l.length}(hq:l[k]=x)(hV:∀(i:Nat)(h:i<l.length),i<k->P (l[i]))(hx:P x):∀(i:Nat)(h:i<l.length),i<k+1->P (l[i]):=by grind
def vi{α:Type}{P : α->Prop}{l:List α}{x : α}(hl:∀y∈l,P y)(hx:P x):∀y∈l++[x],P y:=by grind
def abv{α:Type}{P : α->Prop}{l m:List α}(hl:∀y∈l,P y)(hm:∀y∈m,P y):∀y∈l++m,P y:=by grind
def Wr{l:List (Row nc)}{k:Nat}{r:Row nc}(hk:k<l.length)(hk1:k+1=l.length)(hr:l[k]=r)(h0:r.l.length=0):wt (l.take (l.length - 1))=wt l:=by rw[show l.length - 1=k from by omega];grind[ab1]
def NM{κ β:Type}[DecidableEq κ]{k : κ}{x : β}{l:List (κ×β)}(h:qy l)(hn:look k l=none):qy (put k x l):=by grind[qy,PK,JM]
def univ(n:ej):List cA:=⟨0,0⟩::n.next.map Prod.snd
theorem V0{n:ej}{x y:cA}(h:look x n.next=some y):y∈univ n:=by have:=s9 h;exact anp _ (anj.mpr ⟨_,this,rfl⟩)
def TX{κ β:Type}[DecidableEq κ]{k : κ}{x : β}{l:List (κ×β)}{U:List κ}(h:∀y∈l.map Prod.fst,y∈U)(hk:k∈U):∀y∈(put k x l).map Prod.fst,y∈U:=by intro y b;obtain⟨z,a,rfl⟩:=anj.mp b;rcases Kl a with rfl|a<;>grind
def D9{n:ej}{x y:cA}{b:Bool}(h:(b=true->look x n.next=some y)/\(b=false->look x n.next=none)/\(b=false->y=⟨0,0⟩)):y∈univ n:=by
 cases b with
 |true=>grind[V0]
 |false=>rw[h.2.2 rfl];exact anC
def WM{l:List oj}{j:oj}{m:List (cA×cA)}{k:Nat}(hk:k<l.length)(hj:l[k]=j)(hJ:Gz l)(hD:∀x,look x m=o3 (l.take k) x):∀x,look x (put j.b j.a (put j.a j.b m))=o3 (l.take (k+1)) x:=by obtain⟨c,d,e⟩:=hJ k hk;grind[GP,Gn]
def Xg{κ β:Type}[DecidableEq κ]{a b : κ}{x y : β}{l:List (κ×β)}{k:Nat}(h:l.length<=2*k):(put a x (put b y l)).length<=2*(k+1):=by grind[Rr,put]
theorem Dn(x:cA)(s:nL):∀(l:List nL)(i:Nat),ra x i (l++[s])=match ra x i l with
  |some y=>some y
  |none=>if s.at_=x then some ((i+l.length:Nat):Int)else none
 |[],i=>by rfl
 |a::l,i=>by
  simp only[List.cons_append,ra];split;·rfl
  ·rw[Dn x s l (i+1)];simp only[List.length_cons,show i+1+l.length=i+(l.length+1)from by omega]
theorem CQ{x:cA}:∀{l:List nL} {i:Nat},(∀s∈l,s.at_≠x)->ra x i l=none
 |[],_,_=>rfl
 |a::l,i,h=>by simp only[ra];rw[if_neg (h a List.mem_cons_self)];exact CQ λs b=>h s (anp _ b)
def Sp{l:List nL}{s:nL}{m:List (cA×Int)}{k:Nat}(hk:k<l.length)(hj:l[k]=s)(hS:FG l)(hR:∀x,look x m=tK (l.take k) x):∀x,look x (put s.at_ (k:Int) m)=tK (l.take (k+1)) x:=by intro x;have a:=hS k hk;rw[hj]at a;rw[qw,List.take_succ_eq_append_getElem hk,hj];grind[tK,Dn,CQ,look]
def JO:sg->sg
 |.nil=>.nil
 |_=>.oo
def Row.canon{α:Type}(r:Row α):Row α:=⟨r.l,JO r.c,r.ok,by cases r.c<;>rfl,λh=>r.nl (by cases a:r.c<;>first|rfl|(rw[a]at h;cases h))⟩
def nh.canon(x:nh):nh:={ x with elems:=x.elems.canon }
def Row.DY{α β:Type}(f : α->β)(r:Row α):Row β:=⟨r.l.map f,r.c,by rw[List.length_map];exact r.ok,r.sn,λh=>by rw[r.nl h];rfl⟩
def be.canon(p:be):be:={ p with elems:=p.elems.canon,mq:=p.mq.canon,signals:=p.signals.canon,lines:=(p.lines.DY nh.canon).canon }
theorem Row.af1{α:Type}{r s:Row α}(h1:r.l=s.l)(h2:r.c=s.c):r=s:=by cases r<;>simp_all
theorem KU(c:sg):JO (JO c)=JO c:=by cases c<;>rfl
theorem Row.Di{α:Type}(r:Row α):r.canon.canon=r.canon:=Row.af1 rfl (KU _)
theorem nh.Di(x:nh):x.canon.canon=x.canon:=by grind[nh.canon,Row.Di]
theorem be.Di(p:be):p.canon.canon=p.canon:=by simp_all[nh.canon,canon,Row.af1,Row.canon,Row.DY,KU,be.canon,Row.Di]
def Cx{α:Type}(r s:Row α):Prop:=r.l=s.l/\(r.c=.nil↔s.c=.nil)
def zw(x y:nh):Prop:=x.name=y.name/\Cx x.elems y.elems
def Gr(m:List (Int×Int×Int))(p:be):Prop:=(∀e y,look e m=some y->∃(i:Nat)(h:i<p.lines.l.length),y.1=(i:Int)/\e∈(p.lines.l[i]).elems.l)/\∀(i:Nat)(h:i<p.lines.l.length),∀e∈(p.lines.l[i]).elems.l,∃q,look e m=some ((i:Int),q)
def D8(m:List (Int×Int×Int))(ld:List (Int×Int)):Prop:=∀e y,look e m=some y->∃v,look e ld=some v
structure qz(n:ej)(p:be):Prop where
 nU:n.p=p.canon
 Pj:n.p.elems.l.length<=40
 elems:n.p.elems.l=p.elems.l
 signals:n.p.signals.l=p.signals.l
 G3:pd n.p
 rg:∀y∈univ n,vT n.p y
 x:Oq p
 Nw:Gr n.line p
 led:D8 n.line n.lead
 next:∀x,look x n.next=o3 p.mq.l x
 reads:∀x,look x n.reads=tK p.signals.l x
 len:n.next.length<=240
 sigs:FG p.signals.l
 amW:∀s∈p.signals.l,0<=s.at_.elem/\s.at_.elem<(p.elems.l.length:Int)/\0<=s.at_.en
def ajt{p:be}(h:Oq p):BG p ⟨0,0⟩:=by have a:=h.ne;have b:=(h.kd _ (adc a)).1;have e:mY p 0=(p.elems.l[0]).kind:=vZ (e:=0) (by omega) a rfl;refine⟨⟨by decide,by show(0:Int) < _;omega⟩,by decide,?_⟩;show(0:Int)<rE (mY p 0);rw[e];unfold rE;repeat' split;all_goals omega
def abL{p:be}{y:cA}{k:Int}(h:vT p y)(hk:k=mY p y.elem)(h2:k=2)(h0:¬y.en=0){n:Int}(hn:n=IntKind.i64.wrap (3 - y.en):=by rfl):FJ p ⟨y.elem,n⟩:=by
 have a:=h.2.2.2;have b:=h.2.2.1;rw[<- hk,h2]at a;have e:rE 2=3:=by decide
 rw[e]at a;rw[wU _ (by omega) (by omega)]at hn;refine⟨h.2.1,?_,?_⟩<;>simp only<;>omega
def afJ{p:be}{x:cA}{e:pc}{r:Int}(h0:0<=x.elem){hx:x.elem.toNat<p.elems.l.length}(hq:p.elems.l[x.elem.toNat]=e)(h2:0<=x.en)(hr:r=rE e.kind)(h3:x.en<r):BG p x:=by refine⟨⟨h0,by omega⟩,h2,?_⟩;rw[vZ h0 hx hq,<- hr];exact h3
def Vc{q p:be}{next:List (cA×cA)}{reads:List (cA×Int)}{line:List (Int×Int×Int)}{lead:List (Int×Int)}{k m:Nat}
  (hq:q.elems.l=p.elems.l/\q.mq.l=p.mq.l/\q.signals.l=p.signals.l/\q.lines.l.length=p.lines.l.length/\(∀x∈q.lines.l,x.elems.l.length<=60)/\q=p.canon) (h1:pd p)
  (hc:Gz p.mq.l/\FG p.signals.l/\(∀s∈p.signals.l,0<=s.at_.elem/\s.at_.elem<(p.elems.l.length:Int)/\0<=s.at_.en)/\p.elems.l.length<=40/\p.signals.l.length<=24/\p.mq.l.length<=80/\Oq p)
  (hD:∀x,look x next=o3 (p.mq.l.take k) x) (hR:∀x,look x reads=tK (p.signals.l.take m) x) (hN:next.length<=2*k) (hG:∀y∈next,vT p y.2) (hk:p.mq.l.length<=k/\k<=p.mq.l.length) (hm:p.signals.l.length<=m) (hL:Gr line p) (hE:D8 line lead):qz ⟨q,next,reads,line,lead⟩ p:=by
 obtain⟨d,e,f,o,g,b⟩:=hq;obtain⟨f1,r,t,u,w,h,i⟩:=h1;have j:∀x∈q.lines.l,∀z∈x.elems.l,pg z:=by subst b;intro x c;simp only[be.canon,Row.canon,Row.DY,List.mem_map]at c;obtain⟨y,a,rfl⟩:=c;exact i y a
 refine⟨b,by grind,d,f,⟨by grind,by grind,by grind,by grind,g,by rw[e];exact h,j⟩,?_,hc.2.2.2.2.2.2,hL,hE,?_,?_,by grind,hc.2.1,hc.2.2.1⟩
 ·intro y a;rcases ank.mp a with rfl|a
  ·subst b;exact⟨⟨by decide,by decide⟩,(ajt hc.2.2.2.2.2.2:BG p ⟨0,0⟩)⟩
  ·obtain⟨z,n,rfl⟩:=anj.mp a;subst b;exact hG z n
 ·grind
 ·intro x;show look x reads = _;rw[hR,List.take_of_length_le hm]
def Cn.ZY{d:cB}(h:Cn d):∀r∈d.runs.l,0<=r.l9/\r.l9<(d.l9.l.length:Int):=λr a=>(h.2 r a).2
def pV(p:be)(r:lv):Prop:=(∀s∈r.steps.l,vT p ⟨s.elem,s.qK⟩)/\r.rJ.l.length<=12/\(∀x∈r.rJ.l,Fp x)/\r.guards.l.length<=1000/\(r.holds.l.length<=1000/\0<=r.from_/\r.from_<(p.signals.l.length:Int))/\(∀x∈r.nC.l,FJ p x)/\∀x∈r.guards.l,FJ p x
def Hx{p:be}{r:lv}{l l2:List mA}{P P2:List Int}(h:r.steps.l=l2)(h2:l2=l)(hS:∀s∈l,vT p ⟨s.elem,s.qK⟩)(hp:P2=P)(hP:∀x∈P,tX x)(hn:∀x∈r.nC.l,(∃s∈l2,x.elem=s.elem)/\x.pos∈P2/\¬x.pos=0)(hz:r.guards.l=[]/\r.rJ.l=[]/\r.holds.l=[])(hf:0<=r.from_/\r.from_<(p.signals.l.length:Int)):pV p r:=by obtain⟨a,b,f⟩:=hz;refine⟨by rw[h,h2];exact hS,by simp[b],by simp[b],by simp[a],⟨by simp[f],hf⟩,λx g=>?_,by simp[a]⟩;obtain⟨⟨s,c,e⟩,i,j⟩:=hn x g;have d:=hP _ (hp▸i);rw[h2]at c;exact⟨e▸(hS s c).2.1,by have:=d.1;omega,d.2⟩
def V8{p:be}{r a:lv}(h:r.steps.l=a.steps.l)(h2:r.nC.l=a.nC.l)(hg:pV p a)(hz:r.rJ.l.length<=12/\(∀x∈r.rJ.l,Fp x)/\r.guards.l.length<=1000/\r.holds.l.length<=1000)(hG:∀x∈r.guards.l,FJ p x)(hf:r.from_=a.from_):pV p r :=
 ⟨by rw[h];exact hg.1,hz.1,hz.2.1,hz.2.2.1,⟨hz.2.2.2,hf▸hg.2.2.2.2.1.2⟩,by rw[h2];exact hg.2.2.2.2.2.1,hG⟩
def aeQ{p:be}{l:List mA}{k:Nat}{x x2:mA}(h:∀s∈l,vT p ⟨s.elem,s.qK⟩){hk:k<l.length}(hq:l[k]=x)(he:x2.elem=x.elem)(hi:x2.qK=x.qK):∀s∈l.set k x2,vT p ⟨s.elem,s.qK⟩:=by
 intro s a;rcases anU a with a|rfl
 ·exact h s a
 ·rw[he,hi,<- hq];exact h _ (adc _)
inductive Ty where
 |int|bool|str
 |slice (e:Ty)
 |struct (fs:List Ty)
mutual
def Ty.size:Ty->Nat
 |.struct fs=>Ty.BZ fs
 |_=>1
def Ty.BZ:List Ty->Nat
 |[]=>0
 |t::ts=>t.size+Ty.BZ ts
end
mutual
def Ac(P:Program):Ty->TypeId->Bool
 |.int,t=>match P.underlying t with
  |some (.int .i64)=>true
  |_=>false
 |.bool,t=>match P.underlying t with
  |some .bool=>true
  |_=>false
 |.str,t=>match P.underlying t with
  |some .string=>true
  |_=>false
 |.slice e,t=>match P.underlying t with
  |some (.slice te)=>Ac P e te&&Nat.beq (P.cellsOf te) e.size&&Nat.blt 0 e.size
  |_=>false
 |.struct fs,t=>match P.underlying t with
  |some (.struct fds)=>Nh P fs fds.toList 0&&Nat.beq (P.cellsOf t) (Ty.BZ fs)
  |_=>false
def Nh(P:Program):List Ty->List Field->Nat->Bool
 |[],[],_=>true
 |t::ts,f::fs,o=>Ac P t f.type&&Nat.beq f.offset o&&Nat.beq (P.cellsOf f.type) t.size&&Nh P ts fs (o+t.size)
 |_,_,_=>false
end
mutual
def Fit:Ty->List AV->Prop
 |.int,cs=>∃n,cs=[.int .i64 n]/\pg n
 |.bool,cs=>∃b,cs=[.bool b]
 |.str,cs=>∃s,cs=[.str s]/\s.length<=xn
 |.slice e,cs=>∃xs c,cs=[.sl xs c]/\(∀x∈xs,Fit e x)/\xs.length<=xn/\vF c=false/\(c=.nil->xs=[])
 |.struct fs,cs=>we fs cs
def we:List Ty->List AV->Prop
 |[],cs=>cs=[]
 |t::ts,cs=>∃a b,cs=a++b/\Fit t a/\we ts b
end
def Gj{α β:Type}{f : α->Option β}:∀{l:List α} {r:List β},l.mapM f=some r->r.length=l.length/\∀i (h:i<l.length),∃y,f l[i]=some y/\r[i]?=some y
 |[],r,h=>by grind
 |a::l,r,h=>by
  rw[List.mapM_cons]at h;cases b:f a with
  |none=>rw[b]at h;cases h
  |some y=>
   rw[b]at h;cases c:l.mapM f with
   |none=>rw[c]at h;cases h
   |some r'=>
    rw[c]at h;have:r=y::r':=(Option.some.inj h).symm;subst this;obtain⟨d,e⟩:=Gj c;refine⟨by simp[d],λi g=>?_⟩;cases i with
    |zero=>exact⟨y,b,rfl⟩
    |succ i=>exact e i (by simpa using g)
def G7{α:Type}{p:Nat->α->Prop}:∀(n:Nat),(∀i,i<n->∃x,p i x)->∃l:List α,l.length=n/\∀i x,l[i]?=some x->p i x
 |0,_=>⟨[],rfl,λi x h=>by simp at h⟩
 |n+1,h=>by obtain⟨l,a,b⟩:=G7 n λi c=>h i (by omega);obtain⟨x,d⟩:=h n (by omega);refine⟨l++[x],by simp[a],λi y e=>?_⟩;grind
theorem VD{w:World}{a:Addr}{n:Nat}{cs:List Value}(h:w.cells? 0 a n=some cs):cs.length=n/\∀j,j<n->∃v,w.cell? (a.add j)=some v/\cs[j]?=some v:=by unfold World.cells? at h;rw[if_pos (Nat.zero_le _)]at h;obtain⟨b,c⟩:=Gj h;grind
def Qq{w:World}{a:Addr}{v:Value}(h:w.cell? a=some v):a.spot=none/\∃c e fr,w.heap[a.block]?=some (.cells c e fr)/\c[a.off]?=some v:=by unfold World.cell? at h;split at h<;>simp_all
section
variable {H:Type}{enc:TypeId×Value->H}{P:Program}{w:World}{spare:Nat->Bool}{held:Bool}
abbrev TW(w:World):Bool->Nat->Prop:=λ_ B=>B<w.heap.size
def Reads(w:World)(ty:Ty)(cs:List Value):Prop:=∃xs:List AV,xs.length=cs.length/\cs.length=ty.size/\Fit ty xs/\(∀(i:Nat)(x:AV) (v:Value),xs[i]?=some x->cs[i]?=some v->PR w (TW w) false x v/\v.oneCell'=true)
theorem TG(a:Addr)(i j:Nat)(h:a.spot=none):(a.add i).add j=⟨a.block,a.off+i+j,none⟩:=by obtain⟨b,o,s⟩:=a;grind[Addr.add]
def yi{ty:Ty}(hs:ty.size=1){x:AV}{v:Value}(hf:Fit ty [x])(hp:PR w (TW w) false x v)(h1:v.oneCell'=true):Reads w ty [v]:=by refine⟨[x],rfl,by simp[hs],hf,?_⟩;grind
def FI{fuel:Nat}(ih:∀(ty:Ty)(t:TypeId) (cs:List Value) (r:DataW H×List MemPlace),Ac P ty t=true->DataW.trod enc P w 0 spare held fuel t cs=some r->Reads w ty cs)(cs:List Value) :
  ∀(tys:List Ty) (fds:List Field) (o:Nat),Nh P tys fds o=true->o+Ty.BZ tys=cs.length->(∀f∈fds,∃r,DataW.trod enc P w 0 spare held fuel f.type ((cs.drop f.offset).take (P.cellsOf f.type))=some r) ->
   ∃xs:List AV,xs.length=Ty.BZ tys/\we tys xs/\(∀(i:Nat) (x:AV) (v:Value),xs[i]?=some x->cs[o+i]?=some v->PR w (TW w) false x v/\v.oneCell'=true)
 |[],fds,o,a,hl,hr=>⟨[],rfl,rfl,λi x v h=>by simp at h⟩
 |t::ts,[],o,a,hl,hr=>by simp[Nh]at a
 |t::ts,f::fds,o,a,hl,hr=>by
  simp only[Nh,Bool.and_eq_true]at a;obtain⟨⟨⟨g,c⟩,d⟩,j⟩:=a;have c:=acl c;have d:=acl d;simp only[Ty.BZ]at hl;obtain⟨r,b⟩:=hr f anC;obtain⟨xs,m,n,k,p⟩:=ih t f.type _ r g b;obtain⟨e,q,l,s⟩:=FI ih cs ts fds (o+t.size) j (by omega) (λf a=>hr f (anp _ a));have u:xs.length=t.size:=by omega
  refine⟨xs++e,by grind[Ty.BZ],⟨xs,e,rfl,k,l⟩,?_⟩;grind
def Eg:∀(fuel:Nat)(ty:Ty) (t:TypeId) (cs:List Value) (r:DataW H×List MemPlace),Ac P ty t=true->DataW.trod enc P w 0 spare held fuel t cs=some r->Reads w ty cs:=by
 intro fuel;induction fuel with
 |zero=>intro ty t cs r _ h;simp[DataW.trod]at h
 |succ fuel ih=>
  intro ty t cs r g h;cases ty with
  |int=>
   simp only[Ac]at g;split at g
   ·rename_i d;rcases cs with _|⟨v,_|⟨R,u⟩⟩
    ·simp[DataW.trod,d]at h
    ·cases v<;>simp[DataW.trod,d]at h;rename_i k n;obtain⟨⟨rfl,J⟩,_⟩:=h;simp only[Lit.wf,Bool.and_eq_true,decide_eq_true_eq]at J;exact yi rfl ⟨n,rfl,J⟩ (.int _ _ n) rfl
    ·simp[DataW.trod,d]at h
   grind
  |bool=>
   simp only[Ac]at g;split at g
   ·rename_i d;rcases cs with _|⟨v,_|⟨R,u⟩⟩
    ·simp[DataW.trod,d]at h
    ·cases v<;>simp[DataW.trod,d]at h;rename_i b;exact yi rfl ⟨b,rfl⟩ (.bool _ b) rfl
    ·simp[DataW.trod,d]at h
   grind
  |str=>
   simp only[Ac]at g;split at g
   ·rename_i d;rcases cs with _|⟨v,_|⟨R,u⟩⟩
    ·simp[DataW.trod,d]at h
    ·cases v<;>simp[DataW.trod,d]at h;rename_i s;refine yi rfl ⟨s.data.toList,rfl,?_⟩ (.str _ _ s rfl) rfl;simp_all[maxLen]
    ·simp[DataW.trod,d]at h
   grind
  |slice e=>
   simp only[Ac]at g;split at g
   ·rename_i F d;simp only[Bool.and_eq_true]at g;obtain⟨⟨g,z⟩,A⟩:=g;have z:=acl z;have A:0<e.size:=anf.mp A;rcases cs with _|⟨v,_|⟨R,u⟩⟩
    ·simp[DataW.trod,d]at h
    ·(cases v<;>try (simp[DataW.trod,d]at h;done));rename_i a len B;cases a with
     |none=>(cases len<;>cases B<;>try (simp[DataW.trod,d]at h;done));exact yi rfl ⟨[],.nil,rfl,by simp,by simp,rfl,λ_=>rfl⟩ (.slnil _) rfl
     |some a=>
      simp only[DataW.trod,d]at h;split at h
      ·rename_i hc;obtain⟨_,S,hcm⟩:=hc;have hcb:B<=xn:=by grind[maxLen]
       cases T:(List.range len).mapM (λi=>(w.cells? 0 (a.add (i*P.cellsOf F)) (P.cellsOf F)).bind (DataW.trod enc P w 0 spare held fuel F))with
       |none=>grind
       |some elems=>
        obtain⟨_,U⟩:=Gj T
        have K:∀i,i<len->∃(m:List AV) (G:List Value),m.length=e.size/\G.length=e.size/\Fit e m/\(∀(j:Nat) (x:AV) (v:Value),m[j]?=some x->G[j]?=some v->PR w (TW w) false x v/\v.oneCell'=true) /\
          ∀j,j<e.size->∃v,w.cell? ((a.add (i*e.size)).add j)=some v/\G[j]?=some v:=by
         intro i O;obtain⟨y,V,_⟩:=U i (by grind);simp only[List.getElem_range]at V;cases C:w.cells? 0 (a.add (i*P.cellsOf F)) (P.cellsOf F)with
         |none=>grind
         |some G=>rw[C]at V;obtain⟨m,e1,e2,e3,e4⟩:=ih e F G y g V;grind[VD]
        cases len with
        |zero=>exact yi rfl ⟨[],.oo,rfl,by simp,by simp,rfl,λh=>by cases h⟩ (.sy _ .oo a B (λh=>by cases h) (ang _)) rfl
        |succ len0=>
         (obtain⟨xs0,vs0,_,_,_,_,W⟩:=K 0 (by omega);obtain⟨v00,L,_⟩:=W 0 A;obtain⟨hsp,c,et,fr,hB,_⟩:=Qq L;have X:a.spot=none:=by grind[Addr.add]);have hB:w.heap[a.block]?=some (.cells c et fr):=by grind[Addr.add]
         obtain⟨q,M,Y⟩:=G7 (p:=λi m=>m.length=e.size/\Fit e m/\∀(j:Nat) (x:AV),m[j]?=some x->∃v,c[a.off+i*e.size+j]?=some v/\PR w (TW w) false x v/\v.oneCell'=true) (len0+1) (by
          intro i O;obtain⟨m,G,q1,q2,q3,q4,q5⟩:=K i O;refine⟨m,q1,q3,λj x Q=>?_⟩;have hj:j<e.size:=by grind
          obtain⟨v,Z,hvj⟩:=q5 j hj;obtain⟨_,c',et',fr',hB',hcv⟩:=Qq Z
          grind[TG])
         have E:PR w (TW w) false (.sl q .oo) (.slice (some ⟨a.block,a.off,none⟩) q.length B):=by
          refine .sl false q .oo a.block a.off c et fr B e.size (λi j=>(c[a.off+i*e.size+j]?).getD .nilFunc) (λh=>by cases h) hB ?_ (by rw[M];exact S) (by omega) ?_ ?_ ?_ ?_;·grind
          ·grind
          ·grind
          ·grind
          ·intro i cs' j x N Q;obtain⟨v,Z,hp,_⟩:=(Y i cs' N).2.2 j x Q;rw[Z];exact hp
         rw[M]at E;have ha:a=⟨a.block,a.off,none⟩:=by obtain⟨b,o,s⟩:=a;grind
         rw[<- ha]at E;refine yi rfl ⟨q,.oo,rfl,?_,by omega,rfl,λh=>by cases h⟩ E rfl;intro x Q;obtain⟨i,O⟩:=anq Q;grind
      ·cases h
    ·simp[DataW.trod,d]at h
   grind
  |struct fs=>
   simp only[Ac]at g;split at g
   ·rename_i D d;simp only[Bool.and_eq_true]at g;obtain⟨hfs,z⟩:=g;have z:=acl z
    have C:cs.length=Ty.BZ fs/\∀f∈D.toList,∃r,DataW.trod enc P w 0 spare held fuel f.type ((cs.drop f.offset).take (P.cellsOf f.type))=some r:=by
     have key:(if cs.length=P.cellsOf t then(D.toList.mapM λf=>DataW.trod enc P w 0 spare held fuel f.type ((cs.drop f.offset).take (P.cellsOf f.type))).map λm=>(DataW.agg (m.map (·.1)),m.flatMap (·.2))else none)=some r:=by
      rw[<- h]
      conv=>rhs;unfold DataW.trod
      rw[d]
     split at key
     ·rename_i hl;refine⟨by omega,λf hf=>?_⟩;cases T:D.toList.mapM λf=>DataW.trod enc P w 0 spare held fuel f.type ((cs.drop f.offset).take (P.cellsOf f.type))with
      |none=>grind
      |some l=>obtain⟨_,h2⟩:=Gj T;obtain⟨i,O,rfl⟩:=ant.mp hf;grind
     grind
    obtain⟨m,x1,x2,x3⟩:=FI ih cs fs D.toList 0 hfs (by omega) C.2;refine⟨m,by omega,C.1,x2,?_⟩;grind
   grind
end
def DB:Ty:=.struct [.int,.int]
def RP:Ty:=.struct [.str,.int,.int]
def Sa:Ty:=.struct [DB,DB]
def Vz:Ty:=.struct [.str,DB,.bool]
def RB:Ty:=.struct [.str,.slice .int]
def Ls:Ty:=.struct [.slice RP,.slice Sa,.slice Vz,.slice RB,.int,.int,.int,.int,.bool]
def Mv:Ty:=.struct [.str,.int,.int,.int,.int]
def Va:Ty:=.struct [.bool,.int,.int,.int]
def V7:Ty:=.struct [.str,.int,.int,.int,.slice Va]
def LS:Ty:=.struct [.int,.slice Mv,.slice V7]
def Rp:Ty:=.struct [.int,.slice DB,.int,.int,.int]
def DA{α:Type}{enc : α->List AV}{Q : α->Prop}{e:Ty}(he:∀xs,Fit e xs->∃x : α,xs=enc x/\Q x){cs:List AV}(h:Fit (.slice e) cs):∃r:Row α,cs=[r.av enc]/\∀x∈r.l,Q x:=by
 simp only[Fit]at h;obtain⟨xs,c,rfl,b,j,d,k⟩:=h
 have:∀xs:List (List AV),(∀x∈xs,Fit e x)->∃l:List α,xs=l.map enc/\∀x∈l,Q x:=by
  intro xs;induction xs with
  |nil=>exactλ_=>⟨[],rfl,by simp⟩
  |cons a xs ih=>intro h;obtain⟨y,m,n⟩:=he a (h a anC);obtain⟨l,o,f⟩:=ih λx g=>h x (anp _ g);exact⟨y::l,by grind,by simp_all⟩
 obtain⟨l,rfl,i⟩:=this xs b;exact⟨⟨l,c,by grind,d,λp=>by grind⟩,rfl,i⟩
def uk{α:Type}{enc : α->List AV}{e:Ty}(he:∀xs,Fit e xs->∃x : α,xs=enc x){cs:List AV}(h:Fit (.slice e) cs):∃r:Row α,cs=[r.av enc]:=by obtain⟨r,a,_⟩:=DA (Q:=λ_=>True) (λxs b=>(he xs b).imp λ_ h=>⟨h,trivial⟩) h;exact⟨r,a⟩
def uo{cs:List AV}(h:Fit .int cs):∃n:Int,cs=mD n:=by unfold Fit at h;exact h.imp λ_ h=>h.1
def Wi{cs:List AV}(h:Fit .int cs):∃n:Int,cs=mD n/\pg n:=by unfold Fit at h;exact h
def E3{cs:List AV}(h:Fit DB cs):∃x:cA,cs=x.ay/\pg x.elem:=by simp only[DB,Fit,we]at h;obtain⟨_,_,rfl,⟨a,rfl,c⟩,_,_,rfl,⟨b,rfl,d⟩,rfl⟩:=h;exact⟨⟨a,b⟩,rfl,c⟩
def Nr{cs:List AV}(h:Fit DB cs):∃x:cA,cs=x.ay:=(E3 h).imp λ_ h=>h.1
def V2{cs:List AV}(h:Fit RP cs):∃x:pc,cs=x.ay:=by simp only[RP,Fit,we]at h;obtain⟨_,_,rfl,⟨s,rfl,c⟩,_,_,rfl,⟨a,rfl,_⟩,_,_,rfl,⟨b,rfl,_⟩,rfl⟩:=h;exact⟨⟨⟨s,c⟩,a,b⟩,rfl⟩
def W6{cs:List AV}(h:Fit Sa cs):∃x:oj,cs=x.ay/\pg x.a.elem/\pg x.b.elem:=by simp only[Sa,we]at h;unfold Fit at h;simp only[we]at h;obtain⟨_,_,rfl,c,_,_,rfl,d,rfl⟩:=h;obtain⟨x,rfl,e⟩:=E3 c;obtain⟨y,rfl,f⟩:=E3 d;exact⟨⟨x,y⟩,rfl,e,f⟩
def abo{cs:List AV}(h:Fit Vz cs):∃x:nL,cs=x.ay:=by simp only[Vz,Fit,we]at h;obtain⟨_,_,rfl,⟨s,rfl,a⟩,_,_,rfl,c,_,_,rfl,⟨b,rfl⟩,rfl⟩:=h;obtain⟨y,rfl⟩:=Nr c;exact⟨⟨⟨s,a⟩,y,b⟩,rfl⟩
def V4{cs:List AV}(h:Fit RB cs):∃x:nh,cs=x.ay/\∀z∈x.elems.l,pg z:=by simp only[RB,we]at h;unfold Fit at h;simp only[we]at h;obtain⟨_,_,rfl,a,_,_,rfl,b,rfl⟩:=h;simp only[Fit]at a;obtain⟨s,rfl,c⟩:=a;obtain⟨r,rfl,d⟩:=DA (λ_=>Wi) b;exact⟨⟨⟨s,c⟩,r⟩,rfl,d⟩
def SZ{cs:List AV}(h:Fit Mv cs):∃x:nm,cs=x.ay:=by simp only[Mv,Fit,we]at h;obtain⟨_,_,rfl,⟨s,rfl,e⟩,_,_,rfl,⟨a,rfl,_⟩,_,_,rfl,⟨b,rfl,_⟩,_,_,rfl,⟨c,rfl,_⟩,_,_,rfl,⟨d,rfl,_⟩,rfl⟩:=h;exact⟨⟨⟨s,e⟩,a,b,c,d⟩,rfl⟩
def aaU{cs:List AV}(h:Fit Va cs):∃x:nS,cs=x.ay:=by simp only[Va,Fit,we]at h;obtain⟨_,_,rfl,⟨t,rfl⟩,_,_,rfl,⟨a,rfl,_⟩,_,_,rfl,⟨b,rfl,_⟩,_,_,rfl,⟨c,rfl,_⟩,rfl⟩:=h;exact⟨⟨t,a,b,c⟩,rfl⟩
def abT{cs:List AV}(h:Fit V7 cs):∃x:nt,cs=x.ay:=by unfold V7 Fit at h;simp only[we]at h;obtain⟨_,_,rfl,d,_,_,rfl,e,_,_,rfl,f,_,_,rfl,g,_,_,rfl,i,rfl⟩:=h;simp only[Fit]at d e f g;obtain⟨s,rfl,j⟩:=d;obtain⟨a,rfl,_⟩:=e;obtain⟨b,rfl,_⟩:=f;obtain⟨c,rfl,_⟩:=g;obtain⟨r,rfl⟩:=uk (λ_=>aaU) i;exact⟨⟨⟨s,j⟩,a,b,c,r⟩,rfl⟩
def VY{cs:List AV}(h:Fit LS cs):∃x:cB,cs=x.ay:=by unfold LS Fit at h;simp only[we]at h;obtain⟨_,_,rfl,b,_,_,rfl,c,_,_,rfl,d,rfl⟩:=h;obtain⟨a,rfl⟩:=uo b;obtain⟨r,rfl⟩:=uk (λ_=>SZ) c;obtain⟨s,rfl⟩:=uk (λ_=>abT) d;exact⟨⟨a,r,s⟩,rfl⟩
def Vb{cs:List AV}(h:Fit Rp cs):∃x:mM,cs=x.ay:=by unfold Rp Fit at h;simp only[we]at h;obtain⟨_,_,rfl,e,_,_,rfl,f,_,_,rfl,g,_,_,rfl,i,_,_,rfl,j,rfl⟩:=h;obtain⟨a,rfl⟩:=uo e;obtain⟨r,rfl⟩:=uk (λ_=>Nr) f;obtain⟨b,rfl⟩:=uo g;obtain⟨c,rfl⟩:=uo i;obtain⟨d,rfl⟩:=uo j;exact⟨⟨a,r,b,c,d⟩,rfl⟩
def Vr{cs:List AV}(h:Fit Ls cs):∃x:be,cs=x.ay/\JG x:=by unfold Ls Fit at h;simp only[we]at h;obtain⟨_,_,rfl,f,_,_,rfl,g,_,_,rfl,i,_,_,rfl,j,_,_,rfl,k,_,_,rfl,l,_,_,rfl,m,_,_,rfl,n,_,_,rfl,e,rfl⟩:=h;obtain⟨o,rfl⟩:=uk (λ_=>V2) f;obtain⟨p,rfl,q⟩:=DA (λ_=>W6) g;obtain⟨r,rfl⟩:=uk (λ_=>abo) i;obtain⟨s,rfl,u⟩:=DA (λ_=>V4) j;obtain⟨a,rfl⟩:=uo k;obtain⟨b,rfl⟩:=uo l;obtain⟨c,rfl⟩:=uo m;obtain⟨d,rfl⟩:=uo n;simp only[Fit]at e;obtain⟨t,rfl⟩:=e;exact⟨⟨o,p,r,s,a,b,c,d,t⟩,rfl,q,u⟩
section
variable {w:World}
def KX{ty:Ty}{v:Value}(h:Reads w ty v.cells.toList)(h2:2<=ty.size):∃xs,Fit ty xs/\PR w (TW w) false (.agg xs) v:=by
 obtain⟨xs,e,f,b,c⟩:=h;have a:2<=v.cells.size:=by grind
 cases v with
 |agg cs=>
  refine⟨xs,b,.agg false xs cs (by grind[Value.cells]) ?_ ?_⟩
  ·intro i y g;have d:i<xs.length:=by grind[Value.cells]
   exact(c i xs[i] y (by simp[d]) (by grind[Value.cells])).2
  grind[Value.cells]
 |_=>simp[Value.cells]at a
end
section
variable {C:nu}{F:oP}{Pr:om}{fa:lg}{Q:Ex->Env->aT->Prop}{e:Env}{h h1:aT}{all rest:List Oper}{o:Oper}{q:Env->aT->Prop}{v:AV}{sch:List (Nat×List Nat)}{i:Nat}{a b:Code}{x y an:mS}{live:List Nat}
def oV(w:od C F Pr fa all rest q (my e o v) h1)(hw:mF all e o=some true:=by rfl)(hop:∀call,mT o.op ⟨C,fa,call⟩ e h o.dst=some (v,h1):=by exactλ_=>rfl):od C F Pr fa all (o::rest) q e h:=cr hw hop w
def rV(w:oe C F Pr fa all sch q (my e o v) h1)(ho:all[i]?=some o:=by rfl)(hw:mF all e o=some true:=by rfl)(hop:∀call,mT o.op ⟨C,fa,call⟩ e h o.dst=some (v,h1):=by exactλ_=>rfl):oe C F Pr fa all ((i,[])::sch) q e h:=js ho hw hop w
def oS(w:od C F Pr fa all rest q (my e o (.mw [])) h)(hw:mF all e o=some false:=by rfl):od C F Pr fa all (o::rest) q e h:=Ms hw w
def rS(w:oe C F Pr fa all sch q (my e o (.mw [])) h)(ho:all[i]?=some o:=by rfl)(hw:mF all e o=some false:=by rfl):oe C F Pr fa all ((i,[])::sch) q e h:=L4 ho hw w
def oN(w:q e h):od C F Pr fa all [] q e h:=Qj w
def rN(w:q e h):oe C F Pr fa all [] q e h:=QH w
def qq(w:Wp C F Pr fa a x (zE (Wp C F Pr fa b y Q) Q) e h):Wp C F Pr fa (.seq a b) (.sq x y) Q e h:=acQ w
def qs(w:Wp C F Pr fa a x (zE (λe h=>Wp C F Pr fa b y Q (proj live e) { h with ca:=pt live h.ca }) Q) e h):Wp C F Pr fa (.seq a b) (.seq live x y) Q e h:=PU w
def qk(w:Q .oa e h):Wp C F Pr fa .skip an Q e h:=VW w
def ql{l:Nat}(w:Q .oa e h):Wp C F Pr fa (.label l) an Q e h:=TU w
def qe{id:Nat}(w:Q (.ext id) e h):Wp C F Pr fa (.exit id) an Q e h:=U1 w
def qr(w:Q .ret e h):Wp C F Pr fa .ret an Q e h:=abb w
theorem qb{id:Nat}(w:Wp C F Pr fa a an (LF id Q) e h):Wp C F Pr fa (.block id a) an Q e h:=UZ w
def qg{id:Nat}{ops:Array Oper}(w:od C F Pr fa ops.toList ops.toList (Q .oa) e h):Wp C F Pr fa (.region id ops false) an Q e h:=Sd w
def qd{id:Nat}{ops:Array Oper}(w:oe C F Pr fa ops.toList sch (Q .oa) e h):Wp C F Pr fa (.region id ops true) (.zO sch) Q e h:=SE w
def qT{c:Operand}(w:Wp C F Pr fa a x Q e h)(hc:me e c=.bool true:=by rfl):Wp C F Pr fa (.cond c a b) (.two x y) Q e h:=NJ hc (λ_=>w) (λh=>by cases h)
def qF{c:Operand}(w:Wp C F Pr fa b y Q e h)(hc:me e c=.bool false:=by rfl):Wp C F Pr fa (.cond c a b) (.two x y) Q e h:=NJ hc (λh=>by cases h) (λ_=>w)
def lX{a b:Int}(w1:a<b->od C F Pr fa all rest q (my e o (.bool true)) h)(w2:¬(a<b)->od C F Pr fa all rest q (my e o (.bool false)) h){t u:Nat}{x y:Operand}{k k':IntKind}(ho:o.op=.binOp .lss t x y u:=by rfl)(hw:mF all e o=some true:=by rfl)(hx:me e x=.int k a:=by rfl)(hy:me e y=.int k' b:=by rfl)(hk:ua k k'=true:=by rfl):od C F Pr fa all (o::rest) q e h:=se hw (λ_=>by rw[ho];exact nf hx hy hk (Pz _ a b)) w1 w2
def tq{a b:Int}(w1:a<b->oe C F Pr fa all sch q (my e o (.bool true)) h)(w2:¬(a<b)->oe C F Pr fa all sch q (my e o (.bool false)) h){t u:Nat}{x y:Operand}{k k':IntKind}(hi:all[i]?=some o:=by rfl)(ho:o.op=.binOp .lss t x y u:=by rfl)(hw:mF all e o=some true:=by rfl)(hx:me e x=.int k a:=by rfl)(hy:me e y=.int k' b:=by rfl)(hk:ua k k'=true:=by rfl):oe C F Pr fa all ((i,[])::sch) q e h:=re hi hw (λ_=>by rw[ho];exact nf hx hy hk (Pz _ a b)) w1 w2
def wG{a b:Int}(w1:a<=b->od C F Pr fa all rest q (my e o (.bool true)) h)(w2:¬(a<=b)->od C F Pr fa all rest q (my e o (.bool false)) h){t u:Nat}{x y:Operand}{k k':IntKind}(ho:o.op=.binOp .leq t x y u:=by rfl)(hw:mF all e o=some true:=by rfl)(hx:me e x=.int k a:=by rfl)(hy:me e y=.int k' b:=by rfl)(hk:ua k k'=true:=by rfl):od C F Pr fa all (o::rest) q e h:=se hw (λ_=>by rw[ho];exact nf hx hy hk (Pw _ a b)) w1 w2
def RG{a b:Int}(w1:a<=b->oe C F Pr fa all sch q (my e o (.bool true)) h)(w2:¬(a<=b)->oe C F Pr fa all sch q (my e o (.bool false)) h){t u:Nat}{x y:Operand}{k k':IntKind}(hi:all[i]?=some o:=by rfl)(ho:o.op=.binOp .leq t x y u:=by rfl)(hw:mF all e o=some true:=by rfl)(hx:me e x=.int k a:=by rfl)(hy:me e y=.int k' b:=by rfl)(hk:ua k k'=true:=by rfl):oe C F Pr fa all ((i,[])::sch) q e h:=re hi hw (λ_=>by rw[ho];exact nf hx hy hk (Pw _ a b)) w1 w2
def nv{a b:Int}(w1:a > b->od C F Pr fa all rest q (my e o (.bool true)) h)(w2:¬(a > b)->od C F Pr fa all rest q (my e o (.bool false)) h){t u:Nat}{x y:Operand}{k k':IntKind}(ho:o.op=.binOp .gtr t x y u:=by rfl)(hw:mF all e o=some true:=by rfl)(hx:me e x=.int k a:=by rfl)(hy:me e y=.int k' b:=by rfl)(hk:ua k k'=true:=by rfl):od C F Pr fa all (o::rest) q e h:=se hw (λ_=>by rw[ho];exact nf hx hy hk (QD _ a b)) w1 w2
def HS{a b:Int}(w1:a > b->oe C F Pr fa all sch q (my e o (.bool true)) h)(w2:¬(a > b)->oe C F Pr fa all sch q (my e o (.bool false)) h){t u:Nat}{x y:Operand}{k k':IntKind}(hi:all[i]?=some o:=by rfl)(ho:o.op=.binOp .gtr t x y u:=by rfl)(hw:mF all e o=some true:=by rfl)(hx:me e x=.int k a:=by rfl)(hy:me e y=.int k' b:=by rfl)(hk:ua k k'=true:=by rfl):oe C F Pr fa all ((i,[])::sch) q e h:=re hi hw (λ_=>by rw[ho];exact nf hx hy hk (QD _ a b)) w1 w2
def oc{a b:Int}(w1:a>=b->od C F Pr fa all rest q (my e o (.bool true)) h)(w2:¬(a>=b)->od C F Pr fa all rest q (my e o (.bool false)) h){t u:Nat}{x y:Operand}{k k':IntKind}(ho:o.op=.binOp .geq t x y u:=by rfl)(hw:mF all e o=some true:=by rfl)(hx:me e x=.int k a:=by rfl)(hy:me e y=.int k' b:=by rfl)(hk:ua k k'=true:=by rfl):od C F Pr fa all (o::rest) q e h:=se hw (λ_=>by rw[ho];exact nf hx hy hk (Ph _ a b)) w1 w2
def tV{a b:Int}(w1:a>=b->oe C F Pr fa all sch q (my e o (.bool true)) h)(w2:¬(a>=b)->oe C F Pr fa all sch q (my e o (.bool false)) h){t u:Nat}{x y:Operand}{k k':IntKind}(hi:all[i]?=some o:=by rfl)(ho:o.op=.binOp .geq t x y u:=by rfl)(hw:mF all e o=some true:=by rfl)(hx:me e x=.int k a:=by rfl)(hy:me e y=.int k' b:=by rfl)(hk:ua k k'=true:=by rfl):oe C F Pr fa all ((i,[])::sch) q e h:=re hi hw (λ_=>by rw[ho];exact nf hx hy hk (Ph _ a b)) w1 w2
def mr{a b:Int}(w1:a=b->od C F Pr fa all rest q (my e o (.bool true)) h)(w2:¬(a=b)->od C F Pr fa all rest q (my e o (.bool false)) h){t u:Nat}{x y:Operand}{k k':IntKind}(ho:o.op=.binOp .eql t x y u:=by rfl)(hw:mF all e o=some true:=by rfl)(hx:me e x=.int k a:=by rfl)(hy:me e y=.int k' b:=by rfl)(hk:ua k k'=true:=by rfl):od C F Pr fa all (o::rest) q e h:=se hw (λ_=>by rw[ho];exact nf hx hy hk (PI _ a b)) w1 w2
def sv{a b:Int}(w1:a=b->oe C F Pr fa all sch q (my e o (.bool true)) h)(w2:¬(a=b)->oe C F Pr fa all sch q (my e o (.bool false)) h){t u:Nat}{x y:Operand}{k k':IntKind}(hi:all[i]?=some o:=by rfl)(ho:o.op=.binOp .eql t x y u:=by rfl)(hw:mF all e o=some true:=by rfl)(hx:me e x=.int k a:=by rfl)(hy:me e y=.int k' b:=by rfl)(hk:ua k k'=true:=by rfl):oe C F Pr fa all ((i,[])::sch) q e h:=re hi hw (λ_=>by rw[ho];exact nf hx hy hk (PI _ a b)) w1 w2
def nK{a b:Int}(w1:a≠b->od C F Pr fa all rest q (my e o (.bool true)) h)(w2:¬(a≠b)->od C F Pr fa all rest q (my e o (.bool false)) h){t u:Nat}{x y:Operand}{k k':IntKind}(ho:o.op=.binOp .neq t x y u:=by rfl)(hw:mF all e o=some true:=by rfl)(hx:me e x=.int k a:=by rfl)(hy:me e y=.int k' b:=by rfl)(hk:ua k k'=true:=by rfl):od C F Pr fa all (o::rest) q e h:=se hw (λ_=>by rw[ho];exact nf hx hy hk (Pn _ a b)) w1 w2
def Ea{a b:Int}(w1:a≠b->oe C F Pr fa all sch q (my e o (.bool true)) h)(w2:¬(a≠b)->oe C F Pr fa all sch q (my e o (.bool false)) h){t u:Nat}{x y:Operand}{k k':IntKind}(hi:all[i]?=some o:=by rfl)(ho:o.op=.binOp .neq t x y u:=by rfl)(hw:mF all e o=some true:=by rfl)(hx:me e x=.int k a:=by rfl)(hy:me e y=.int k' b:=by rfl)(hk:ua k k'=true:=by rfl):oe C F Pr fa all ((i,[])::sch) q e h:=re hi hw (λ_=>by rw[ho];exact nf hx hy hk (Pn _ a b)) w1 w2
def oC{f:Nat}{args:List AV}{R:AV->Prop}(w:∀h:aT,∃v,lZ C F Pr false f args h v h/\R v)(next:∀v,R v->od C F Pr fa all rest q (my e o v) h){g:Operand}{c:Call}(ho:o.op=.call c:=by rfl)(hw:mF all e o=some true:=by rfl)(hf:c.callee=.value g:=by rfl)(hg:me e g=.mH f [] []:=by rfl)(ha:c.args.toList.map (me e)=args:=by rfl)(hok:args.all AV.sR=true:=by rfl)(hs:fa.mP.elem f=false:=by rfl):od C F Pr fa all (o::rest) q e h:=Wl ho hw hf hg ha hok hs w next
def rC{f:Nat}{args:List AV}{R:AV->Prop}(w:∀h:aT,∃v,lZ C F Pr false f args h v h/\R v)(next:∀v,R v->oe C F Pr fa all sch q (my e o v) h){g:Operand}{c:Call}(hi:all[i]?=some o:=by rfl)(ho:o.op=.call c:=by rfl)(hw:mF all e o=some true:=by rfl)(hf:c.callee=.value g:=by rfl)(hg:me e g=.mH f [] []:=by rfl)(ha:c.args.toList.map (me e)=args:=by rfl)(hok:args.all AV.sR=true:=by rfl)(hs:fa.mP.elem f=false:=by rfl):oe C F Pr fa all ((i,[])::sch) q e h:=Xi hi hw ho hf hg ha hok hs w next
def wa{c:Code}(E:Env)(H:aT)(L:o1)(w:Wp C F Pr fa c an Q E { H with ca:=L })(he:e=E:=by rfl)(hh:h = { H with ca:=L }:=by rfl):Wp C F Pr fa c an Q e h:=Yd he hh w
end
def Row.lk{α:Type}(r:Row α):r.l.length<=9223372036854775807:=r.ok
def mB.lk{α:Type}(r:mB α):r.l.length<=9223372036854775807:=r.ok
def uz.lk(r:uz):r.l.length<=9223372036854775807:=r.ok
abbrev iv(n:Int):AV:=.int .i64 n
theorem FZ:(∀sn hp n k a,freeze sn hp (n+1) (.int k a)=some (.int k a))/\(∀sn hp n b,freeze sn hp (n+1) (.bool b)=some (.bool b))/\(∀sn hp n s,freeze sn hp (n+1) (.str s)=some (.str s)) /\
  (∀(α:Type) (enc : α->List AV) hp n r,freeze true hp (n+1) (mB.av enc r)=some (mB.av enc r))/\(∀(α:Type) (enc : α->List AV) sn hp n r,freeze sn hp (n+1) (Row.av enc r)=some (Row.av enc r)) /\
  (∀hp n c o s,freeze true hp (n+1) (.ip c o s)=some (.ip c o s))/\(∀sn hp n c o,freeze sn hp (n+1) (.ip c o false)=some (.ip c o false))/\(∀hp n c s,freeze true hp (n+1) (.fm c s)=some (.fm c s))/\(∀sn hp n c,freeze sn hp (n+1) (.fm c false)=some (.fm c false)) /\
  (∀sn hp n,freeze sn hp (n+1) (.sl [] .nil)=some (.sl [] .nil))/\(∀sn hp n,freeze sn hp (n+1) .oh=some .oh)/\(∀sn hp n,freeze sn hp (n+1) .ow=some .ow)/\(∀sn hp n m xs,freeze sn hp (n+1) (.sl xs (.exact m))=some (.sl xs (.exact m))) /\
  (∀sn hp n l,freeze sn hp (n+1) (.agg l)=(match nd (freeze sn hp n) l with
    |some l=>some (.agg l)
    |none=>none))/\(∀sn hp n l,freeze sn hp (n+1) (.mw l)=(match nd (freeze sn hp n) l with
    |some l=>some (.mw l)
    |none=>none))/\(∀x:cA,x.ay=[.int .i64 x.elem,.int .i64 x.en])/\(∀x:bY,x.ay=[.int .i64 x.elem,.int .i64 x.pos])/\(∀x:nc,x.ay=[.int .i64 x.out,.int .i64 x.pos])/\(∀x:mA,x.ay=[.int .i64 x.elem,.int .i64 x.qK,.int .i64 x.out])/\(∀x:pc,x.ay=[.str x.name.l,.int .i64 x.kind,.int .i64 x.len])/\(∀x:nS,x.ay=[.bool x.Hk,.int .i64 x.at_,.int .i64 x.end_,.int .i64 x.to]) /\
  (∀x:lv,x.ay=[.int .i64 x.from_,.int .i64 x.to,.int .i64 x.end_,x.steps.av mA.ay,x.nC.av bY.ay,x.guards.av bY.ay,x.rJ.av mD,x.holds.av mD,.bool x.bare])/\(∀x:zN,x.ay=[.int .i64 x.from_,.int .i64 x.to,.int .i64 x.end_,x.steps.av mA.ay,x.nC.av bY.ay,x.guards.av bY.ay,x.rJ.av mD,x.holds.av mD,.bool x.bare]) /\
  (∀x:tz,x.ay=[.int .i64 x.B4,x.steps.av mA.ay,x.pos.av mD,x.left.av (nI nc.ay)])/\(∀p:be,p.ay=[p.elems.av pc.ay,p.mq.av oj.ay,p.signals.av nL.ay,p.lines.av nh.ay,.int .i64 p.top,.int .i64 p.ns,.int .i64 p.nW,.int .i64 p.oi,.bool p.ot])/\(∀x:mn,x.ay=x.nU.ay++[x.roads.av lv.ay]) /\
  (∀x:mM,x.ay=[.int .i64 x.mode,x.ei.av cA.ay,.int .i64 x.left,.int .i64 x.qN,.int .i64 x.v])/\(∀x:oH,x.ay=[.str x.name.l,.int .i64 x.l9,.int .i64 x.at_.elem,.int .i64 x.at_.en,.int .i64 x.left])/\(∀x:nh,x.ay=[.str x.name.l,x.elems.av mD])/\(∀x:nt,x.ay=[.str x.name.l,.int .i64 x.l9,.int .i64 x.from_,.int .i64 x.left,x.mh.av nS.ay])/\(∀x:cB,x.ay=[.int .i64 x.BB,x.l9.av nm.ay,x.runs.av nt.ay]) /\
  (∀(f:AV->Option AV),nd f []=some [])/\(∀(f:AV->Option AV) v l,nd f (v::l)=(match f v with
    |none=>none
    |some w=>match nd f l with
     |none=>none
     |some l'=>some (w::l')))/\(∀(a b:List AV) v,(v::a)++b=v::(a++b))/\(∀b:List AV,[]++b=b):=by
 refine⟨λ_ _ _ _ _=>rfl,λ_ _ _ _=>rfl,λ_ _ _ _=>rfl,λ_ _ _ _ r=>Ou r,λ_ _ _ _ _ r=>y8 r,λ_ _ _ _ _=>P0 _ _ _,λ_ _ _ _ _=>abR _ _,λ_ _ _ _=>Qb _ _,λ_ _ _ _=>abY _,λ_ _ _=>rfl,λ_ _ _=>rfl,λ_ _ _=>rfl,λ_ _ _ _ _=>rfl,λ_ _ _ _=>rfl,λ_ _ _ _=>rfl,?_⟩;exact⟨λ_=>rfl,λ_=>rfl,λ_=>rfl,λ_=>rfl,λ_=>rfl,λ_=>rfl,λ_=>rfl,λ_=>rfl,λ_=>rfl,λ_=>rfl,λ_=>rfl,λ_=>rfl,λ_=>rfl,λ_=>rfl,λ_=>rfl,λ_=>rfl,λ_=>rfl,λ_ _ _=>rfl,λ_ _ _=>rfl,λ_=>rfl⟩
def Tb(amb:Bool)(a b:Option cA)(to:Int):Option cA:=match a,b with
 |some _,none=>some ⟨to,1⟩
 |none,some _=>some ⟨to,0⟩
 |_,_=>if amb=true then some ⟨to,-1⟩else none
def va(amb:Bool)(A:Int->Option cA)(N:cA->Option cA)(l:nS):Option cA:=if l.end_=1 then A l.to else if l.end_=3 then Tb amb (N ⟨l.to,0⟩) (N ⟨l.to,1⟩) l.to else none
def Dt(amb:Bool)(A:Int->Option cA)(N:cA->Option cA)(r:nt)(leg:Int):Option cA:=if leg=0 then A r.from_ else match r.mh.l[(leg - 1).toNat]? with
 |none=>none
 |some l=>va amb A N l
def pr(amb:Bool)(A:Int->Option cA)(N:cA->Option cA)(d:cB)(run leg:Int):Option cA:=if run<0 then none else match d.runs.l[run.toNat]? with
 |none=>none
 |some r=>if leg<0\/leg > r.mh.l.length then none else Dt amb A N r leg
section
variable {amb:Bool}{A:Int->Option cA}{N:cA->Option cA}{d:cB}{run leg:Int}{x:nt}{y:nS}
theorem AJ(h:run<0\/run>=d.runs.l.length):pr amb A N d run leg=none:=by grind[pr]
theorem EJ(h0:0<=run)(hx:run.toNat<d.runs.l.length)(hq:d.runs.l[run.toNat]=x):pr amb A N d run leg=if leg<0\/leg > x.mh.l.length then none else Dt amb A N x leg:=by grind[pr]
theorem AL(h0:0<=run)(hx:run.toNat<d.runs.l.length)(hq:d.runs.l[run.toNat]=x)(h:leg<0\/leg > x.mh.l.length):pr amb A N d run leg=none:=by grind[EJ]
def abI{hx:run.toNat<d.runs.l.length}(hq:d.runs.l[run.toNat]=x)(h:leg<(x.mh.l.length:Int)):∀h:run.toNat<d.runs.l.length,leg<((d.runs.l[run.toNat]).mh.l.length:Int):=by grind
def Kv(h:leg<0):pr amb A N d run leg=none:=by grind[pr]
theorem OH(h0:0<=run)(hx:run.toNat<d.runs.l.length)(hq:d.runs.l[run.toNat]=x)(h:leg=0):pr amb A N d run leg=A x.from_:=by rw[EJ h0 hx hq,if_neg (by omega),Dt,if_pos h]
theorem Mb(h0:0<=run)(hx:run.toNat<d.runs.l.length)(hq:d.runs.l[run.toNat]=x)(h1:0<leg)(h2:leg<=x.mh.l.length)(hy:(leg - 1).toNat<x.mh.l.length)(hz:x.mh.l[(leg - 1).toNat]=y):pr amb A N d run leg=va amb A N y:=by rw[EJ h0 hx hq,if_neg (by omega),Dt,if_neg (by omega),List.getElem?_eq_getElem hy,hz]
theorem GL(h:y.end_=1):va amb A N y=A y.to:=by grind[va]
theorem Gk(h:¬y.end_=1)(h3:y.end_=3):va amb A N y=Tb amb (N ⟨y.to,0⟩) (N ⟨y.to,1⟩) y.to:=by grind[va]
theorem Kq(h:¬y.end_=1)(h3:¬y.end_=3):va amb A N y=none:=by grind[va]
end
def LZ(amb:Bool)(K:Int->Int)(R:cA->Int)(h:cA)(l:nS):Int:=if l.Hk=true then if K h.elem=1 then R ⟨h.elem,IntKind.i64.wrap (1 - h.en)⟩else -1 else R h
def sV(amb:Bool)(A:Int->Option cA)(N:cA->Option cA)(K:Int->Int)(R:cA->Int)(d:cB)(run leg:Int):Int:=match pr amb A N d run leg with
 |none=>-1
 |some h=>if amb=true/\h.en<0 then -1 else match d.runs.l[run.toNat]? with
  |none=>-1
  |some r=>match r.mh.l[leg.toNat]? with
   |none=>-1
   |some l=>LZ amb K R h l
def JZ(d:cB)(run leg:Int):Prop:=run<0\/run>=d.runs.l.length\/leg<0\/∃h:run.toNat<d.runs.l.length,leg > ((d.runs.l[run.toNat]).mh.l.length:Int)
section
variable {amb:Bool}{A:Int->Option cA}{N:cA->Option cA}{K:Int->Int}{R:cA->Int}{d:cB}{run leg:Int}{x:nt}{y:nS}{h:cA}
theorem vj(hh:pr amb A N d run leg=none):sV amb A N K R d run leg = -1:=by rw[sV,hh]
def SP(hl:JZ d run leg):pr amb A N d run leg=none:=by
 by_cases a:run<0\/run>=d.runs.l.length;·exact AJ a
 ·have b:run.toNat<d.runs.l.length:=by omega
  refine AL (by omega) b rfl ?_;rcases hl with hl|hl|hl|⟨_,hl⟩<;>grind
theorem KV(hh:pr true A N d run leg=some h)(hn:h.en<0):sV true A N K R d run leg = -1:=by grind[sV]
def KY(hx:run.toNat<d.runs.l.length)(hq:d.runs.l[run.toNat]=x)(hl:leg>=x.mh.l.length):sV amb A N K R d run leg = -1:=by grind[sV]
theorem Jh(hh:pr amb A N d run leg=some h)(hn:amb=false\/¬h.en<0)(hx:run.toNat<d.runs.l.length)(hq:d.runs.l[run.toNat]=x)(hy:leg.toNat<x.mh.l.length)(hz:x.mh.l[leg.toNat]=y):sV amb A N K R d run leg=LZ amb K R h y:=by grind[sV]
theorem Wk(hA:∀i h,A i=some h->0<=h.en):sV false A N K R d run leg=sV true A N K R d run leg:=by
 have f:∀l:nS,(va false A N l=none/\va true A N l=none)\/(∃h,va false A N l=none/\va true A N l=some h/\h.en<0)\/∃h,va false A N l=some h/\va true A N l=some h/\0<=h.en:=by
  intro l;by_cases a:l.end_=1;·rw[GL a,GL a];cases h:A l.to<;>grind
  ·by_cases b:l.end_=3;·rw[Gk a b,Gk a b];cases N ⟨l.to,0⟩<;>cases N ⟨l.to,1⟩<;>simp[Tb]
   grind[Kq]
 have e:(pr false A N d run leg=none/\pr true A N d run leg=none)\/(∃h,pr false A N d run leg=none/\pr true A N d run leg=some h/\h.en<0)\/∃h,pr false A N d run leg=some h/\pr true A N d run leg=some h/\0<=h.en:=by
  unfold pr;split;·simp
  ·cases d.runs.l[run.toNat]? with
   |none=>simp
   |some r=>
    simp only;split;·simp
    ·unfold Dt;split;·cases h:A r.from_<;>grind
     ·cases r.mh.l[(leg - 1).toNat]?<;>grind
 rcases e with⟨a,c⟩|⟨h,a,c,b⟩|⟨h,a,c,b⟩
 ·grind[vj]
 ·grind[vj,KV]
 ·simp only[sV,a,c,Bool.false_eq_true,false_and,true_and,if_false];rw[if_neg (by omega)];rfl
end
def wc(b:mM):Option cA:=b.ei.l[((b.ei.l.length:Int) - 1).toNat]?
def RQ{b:mM}(h:b.ei.l.length=0):wc b=none:=by grind[wc]
def SH{b:mM}{x:cA}(hx:((b.ei.l.length:Int) - 1).toNat<b.ei.l.length)(hq:b.ei.l[((b.ei.l.length:Int) - 1).toNat]=x):wc b=some x:=by unfold wc;rw[List.getElem?_eq_getElem hx,hq]
def abC{p:be}(h:∀s∈p.signals.l,0<=s.at_.elem/\s.at_.elem<(p.elems.l.length:Int)/\0<=s.at_.en):∀i x,qG p.signals.l i=some x->0<=x.en:=by grind[qG]
section
variable (X:Ctx)(lp:F8)
def xa:List Bool->Code->mS->Env->aT->RC
 |[],_,_,e,h=>some (.oa,e,h)
 |true::p,.seq a b,.sq x y,e,h=>andThen (xa p b y) (nP X lp a x e h)
 |true::p,.seq a b,.seq live x y,e,h=>andThen (qm live (xa p b y)) (nP X lp a x e h)
 |false::p,.seq a _,.sq x _,e,h=>xa p a x e h
 |false::p,.seq a _,.seq _ x _,e,h=>xa p a x e h
 |false::p,.block _ a,an,e,h=>xa p a an e h
 |false::p,.scope a,an,e,h=>xa p a an e h
 |_,_,_,_,_=>none
def behind:List Bool->Code->mS->RC->RC
 |[],_,_,r=>r
 |true::p,.seq _ b,.sq _ y,r=>behind p b y r
 |true::p,.seq _ b,.seq _ _ y,r=>behind p b y r
 |false::p,.seq a b,.sq x y,r=>andThen (nP X lp b y) (behind p a x r)
 |false::p,.seq a b,.seq live x y,r=>andThen (qm live (nP X lp b y)) (behind p a x r)
 |false::p,.block id a,an,r=>atEnd id (behind p a an r)
 |false::p,.scope a,an,r=>behind p a an r
 |_,_,_,r=>r
end
def xH:List Bool->Code->mS->Code×mS
 |[],c,an=>(c,an)
 |true::p,.seq _ b,.sq _ y=>xH p b y
 |true::p,.seq _ b,.seq _ _ y=>xH p b y
 |false::p,.seq a _,.sq x _=>xH p a x
 |false::p,.seq a _,.seq _ x _=>xH p a x
 |false::p,.block _ a,an=>xH p a an
 |false::p,.scope a,an=>xH p a an
 |_,c,an=>(c,an)
section
variable {X:Ctx}{lp:F8}
def G5{k:Env->aT->RC}{r:RC}{e0:Env}{h0:aT}(h:andThen k r=some (.oa,e0,h0)):∃e h,r=some (.oa,e,h)/\k e h=some (.oa,e0,h0):=by unfold andThen at h;grind
def xy:Nat->(Env->aT->RC)->Env->aT->RC
 |0,_,e,h=>some (.oa,e,h)
 |n+1,f,e,h=>match f e h with
  |some (.oa,e,h)=>xy n f e h
  |r=>r
end
def AH(args0:List AV)(v0:AV)(shd:Bool)(args:List AV)(h:aT):R2:=match shd,rl (pk 12) args0 args with
 |false,true=>some (v0,h)
 |_,_=>none
def G9{P:Program}{C:nu}{F:oP}{Pr:om}(T:vC P C F Pr){f n:Nat}{args0:List AV}{v0:AV}{h0:aT}(h:qi C F Pr n false f args0 aT.empty=some (v0,h0)):qD P f (AH args0 v0) where
 call:=by
  intro e d a v h' c;unfold AH at c;split at c;·rename_i _ g;cases c;have:=sa (uS 12) _ _ g;subst this;obtain⟨_,k⟩:=wD T n f args0 aT.empty v0 h0 h;exact tF T n false f args0 a v0 a (k a (λb o i=>by grind[Ks]))
  grind
 BQ:=by grind[AH]
end Go.Sx
