/- Proves rules for the walks and their soundness. -/
import Derived.Shelf.SlIterI.Nil
import Derived.Shelf.SortM.Plain
import Derived.Shelf.SortM.SortNone
import Derived.Lib.RowBridge
import Derived.Test.YtmnmenklbegmeaaGreatHae
set_option linter.all false
namespace Go.Sx
open Go
section
variable {C:nu}{F:oP}{Pr:om}
theorem lZ.xi{shd:Bool}{f:Nat}{args:List AV}{h h1 h2:aT}{v1 v2:AV}(a:lZ C F Pr shd f args h v1 h1)(b:lZ C F Pr shd f args h v2 h2):v1=v2/\h1=h2:=by obtain⟨m,c⟩:=a;obtain⟨n,d⟩:=b;have:=(c (m+n) (by omega)).symm.trans (d (m+n) (by omega));grind
def Fi(Pr:om):Prop:=∀f p,Pr f=some p->∀(args:List AV)(h:aT) (v:AV) (h':aT),p false args h=some (v,h')->h'=h/\∀h2:aT,(∀b o,h.get b=some o->h2.get b=some o)->p false args h2=some (v,h2)
def Jy(T:Fi Pr)(n:Nat):uP (qi C F Pr n):=by
 intro f b h v h' a;cases n with
 |zero=>cases a
 |succ n=>
  simp only[qi]at a;cases c:Pr f with
  |some p=>rw[c]at a;obtain⟨k1,k2⟩:=T f p c _ _ _ _ a;grind[qi]
  |none=>grind[KI,qi]
open Classical in
noncomputable def res(C:nu)(F:oP)(Pr:om)(f:Nat)(args:List AV):AV :=
 if H:∃v,lZ C F Pr false f args aT.empty v aT.empty then Classical.choose H else .undef
theorem lZ.at(T:Fi Pr){f:Nat}{args:List AV}{v:AV}(h:aT)(hc:lZ C F Pr false f args aT.empty v aT.empty):lZ C F Pr false f args h v h:=by
 obtain⟨m,a⟩:=hc;refine⟨m,λk c=>(Jy T k f args aT.empty v _ (a k c)).2 h ?_⟩;intro b o d;have:aT.empty.get b=none:=by rfl
 grind
def aer(T:Fi Pr){f:Nat}{args:List AV}{R:AV->Prop}(w:∀h:aT,∃v,lZ C F Pr false f args h v h/\R v){h:aT}{v:AV}(hc:lZ C F Pr false f args h v h):res C F Pr f args=v:=by obtain⟨a,b,_⟩:=w aT.empty;have H:∃v,lZ C F Pr false f args aT.empty v aT.empty:=⟨a,b⟩;have e:res C F Pr f args=Classical.choose H:=dif_pos H;rw[e];exact((Classical.choose_spec H).at T h).xi hc |>.1
def tR(T:Fi Pr){f:Nat}{args:List AV}{R:AV->Prop}(w:∀h:aT,∃v,lZ C F Pr false f args h v h/\R v)(h:aT):∃v,lZ C F Pr false f args h v h/\R v/\res C F Pr f args=v:=by obtain⟨v,a,b⟩:=w h;exact⟨v,a,b,aer T w a⟩
end
def Fj:sg->sg
 |.exact _=>.oo
 |c=>c
mutual
def Aq:AV->AV
 |.sl xs c=>.sl (Ae xs) (Fj c)
 |.agg l=>.agg (Ap l)
 |v=>v
def Ap:List AV->List AV
 |[]=>[]
 |v::l=>Aq v::Ap l
def Ae:List (List AV)->List (List AV)
 |[]=>[]
 |x::l=>Ap x::Ae l
end
theorem Db:∀(l:List AV)(i:Nat),(Ap l)[i]?=(l[i]?).map Aq
 |[],i=>by rfl
 |v::l,0=>by rfl
 |v::l,i+1=>by simp[Ap,Db l i]
theorem GA:∀(l:List AV),(Ap l).length=l.length
 |[]=>rfl
 |v::l=>by simp[Ap,GA l]
theorem Ox:∀(l:List (List AV)) (i:Nat),(Ae l)[i]?=(l[i]?).map Ap
 |[],i=>by rfl
 |v::l,0=>by rfl
 |v::l,i+1=>by simp[Ae,Ox l i]
theorem Ek:∀(l:List (List AV)),(Ae l).length=l.length
 |[]=>rfl
 |v::l=>by simp[Ae,Ek l]
theorem P8{c:sg}{n m:Nat}(h:uu c n m)(hle:n<=m):uu (Fj c) n m:=by cases c<;>first|exact h|exact hle
def PR.wk{w:World}{T:Bool->Nat->Prop}{m:Bool}{v:AV}{u:Value}(h:PR w T m v u):PR w T m (Aq v) u:=by
 induction h with
 |undef m v h=>exact .undef m v h
 |bool m b=>exact .bool m b
 |int m k n=>exact .int m k n
 |str m s b h=>exact .str m s b h
 |oh m=>exact .oh m
 |ip m cells off sn B base c e fr f hm hB hI hc h1 hr=>exact .ip m cells off sn B base c e fr f hm hB hI hc h1 hr
 |slnil m=>exact .slnil m
 |sy m cap a c hm h=>exact .sy m (Fj cap) a c (by rw[show vK (Fj cap)=vK cap from by cases cap<;>rfl];exact hm) (P8 h (ang _))
 |sl m xs cap B base c e fr cap' esz f hm hB hI hcap hle hz hc h1 hr ih=>
  have p:vK (Fj cap)=vK cap:=by cases cap<;>rfl
  have q:∀(i:Nat) (cs:List AV),(Ae xs)[i]?=some cs->∃cs0,xs[i]?=some cs0/\cs=Ap cs0:=by grind[Ox]
  have o:∀(cs0:List AV) (j:Nat) (x:AV),(Ap cs0)[j]?=some x->∃x0,cs0[j]?=some x0/\x=Aq x0:=by grind[Db]
  have d:=PR.sl (w:=w) (T:=T) m (Ae xs) (Fj cap) B base c e fr cap' esz f (by grind) hB (by grind) (by grind[Ek,P8]) (by grind[Ek])
   (by grind[GA])
   (by grind)
   (by grind)
   (by grind)
  rw[Ek]at d;exact d
 |ow m=>exact .ow m
 |fm m es sn r ents clk hm hB hI hl hy hko hk hv=>exact .fm m es sn r ents clk hm hB hI hl hy hko hk hv
 |pC m=>exact .pC m
 |mH m g a c a' c' ha hc hra hrc=>exact .mH m g a c a' c' ha hc hra hrc
 |agg m l vs hl h1 hr ih=>refine .agg m (Ap l) vs (by grind[GA]) h1 ?_;grind[Db]
def abx{v:AV}(h:v.oI=true):(Aq v).oI=true:=by cases v<;>first|exact h|(simp[AV.oI]at h)
def VR.wk{G:Ga}{v:AV}{u:Value}(h:VR G v u):VR G (Aq v) u:=by
 induction h with
 |undef v=>exact .undef v
 |mR hp h=>exact .mR (abx hp) h.wk
 |ptr b g i o a hb hg h=>exact .ptr b g i o a hb hg h
 |hs b g off len a cap' hb hg hle h=>exact .hs b g off len a cap' hb hg hle h
 |hm b r hb h=>exact .hm b r hb h
 |la d o B hd=>exact .la d o B hd
 |mH g a c a' c' ha hc hna hnc hra hrc=>exact .mH g a c a' c' ha hc hna hnc hra hrc
 |agg l vs hl hn h1 hr ih=>
  refine .agg (Ap l) vs (by grind[GA]) ?_ h1 ?_;·intro x j;obtain⟨i,e⟩:=anq j;rw[Db]at e;obtain⟨f,k,rfl⟩:=Option.map_eq_some_iff.mp e;have:=hn f (alc k);cases f<;>first|exact this|rfl
  grind[Db]
 |mw l vs hl hr=>exact .mw l vs hl hr
open Classical in
noncomputable def zG(C:nu)(F:oP)(Pr:om)(f:Nat)(shd:Bool)(args:List AV)(h:aT):Option (AV×aT):=match shd with
 |true=>none
 |false=>if H:∃v,lZ C F Pr false f args h v h then some (Aq (Classical.choose H),h)else none
theorem D3{C:nu}{F:oP}{Pr:om}{f:Nat}{args:List AV}{h:aT}{v:AV}(hc:lZ C F Pr false f args h v h):zG C F Pr f false args h=some (Aq v,h):=by have H:∃v,lZ C F Pr false f args h v h:=⟨v,hc⟩;have e:zG C F Pr f false args h=some (Aq (Classical.choose H),h):=dif_pos H;rw[e,((Classical.choose_spec H).xi hc).1]
def MW{C:nu}{F:oP}{Pr:om}(T:Fi Pr)(f:Nat):∀(args:List AV)(h:aT) (v:AV) (h':aT),zG C F Pr f false args h=some (v,h')->h'=h/\∀h2:aT,(∀b o,h.get b=some o->h2.get b=some o)->zG C F Pr f false args h2=some (v,h2):=by
 intro args h v h' c;by_cases H:∃v,lZ C F Pr false f args h v h;·obtain⟨d,a⟩:=H;rw[D3 a]at c;cases c;refine⟨rfl,λh2 E=>?_⟩;obtain⟨m,e⟩:=a;have:lZ C F Pr false f args h2 d h2:=⟨m,λk g=>(Jy T k f args h d h (e k g)).2 h2 E⟩;exact D3 this
 grind[zG]
def Tt(args0:List AV)(v0:AV):∀(args:List AV)(h:aT) (v:AV) (h':aT),AH args0 v0 false args h=some (v,h')->h'=h/\∀h2:aT,(∀b o,h.get b=some o->h2.get b=some o)->AH args0 v0 false args h2=some (v,h2):=by grind[AH]
def aa3{P:Program}{C:nu}{F:oP}{Pr:om}(T:vC P C F Pr):Fi Pr:=λf p a=>(T.Lu f p a).BQ
def OT{P:Program}{C:nu}{F:oP}{Pr:om}(T:vC P C F Pr)(f:Nat):qD P f (zG C F Pr f) where
 call:=by
  intro d a h v h' e;cases d with
  |true=>cases e
  |false=>
   by_cases H:∃v,lZ C F Pr false f a h v h;·obtain⟨g,c⟩:=H;rw[D3 c]at e;cases e;obtain⟨m,i⟩:=c;have j:=tF T m false f a h g h (i m (abs _));intro G b k l n o p q;obtain⟨k1,k2⟩:=j G b k l n o p q;exact⟨k1,λR r=>k2 R λu G' s t w x=>r u G' s t w λm L=>(x m L).wk⟩
   grind[zG]
 BQ:=MW (aa3 T) f
def TD{n:Nat}{h h':aT}{s v':AV}{ys:List (List AV)}(ha:append n h s ys=some (v',h'))(hs:s≠.sl [] .nil):v'≠.sl [] .nil:=by
 unfold append at ha;split at ha;·grind
 ·split at ha;·cases ha
  ·split at ha<;>grind[yS,sj,Im]
section
variable {C:nu}{F:oP}{Pr:om}{fa:lg}{e:Env}{α:Type}{enc : α->List AV}{H:aT}{L:List mZ}{i:Nat}{w tt:Bool}{v:AV}{n:Nat}{l:List α}{ls:o1}
def Bg{cl:Call}{s x:Operand}{t u:Nat}{ti:TI}{d:Option Nat}(ys:List α)(hS:Sep H L)(hi:L[i]?=some (.sl w tt v n (l.map enc)))(hc:cl.callee=.builtin .append)(ha:cl.args.toList=[s,x])(hts:cl.argTypes.toList=[t,u])(hT:wM C [t,u]=some ti)(hSr:JX C [t,u]=true)(hn:ti.size=n)
  (hs:me e s=v) (hx:vm { H with ca:=ls } (me e x)=some (ys.map enc)) (hok:∀y,(enc y).all AV.oq=true) (ht:tt=true\/ys.length=1) (hm:l.length+ys.length<=xJ) (henc:∀x,(enc x).length=n) :
  ∃v' H',(∀call,mT (.call cl) ⟨C,fa,call⟩ e { H with ca:=ls } d=some (v',{ H' with ca:=ls }))/\Sep H' (L.set i (.sl w tt v' n ((l++ys).map enc)))/\(v≠.sl [] .nil->v'≠.sl [] .nil):=by
 obtain⟨v',H',b,c⟩:=N1 (ls:=ls) (ys:=ys.map enc) hS hi (by grind) (by grind) (by grind);refine⟨v',H',λcall=>?_,by grind,TD b⟩;have a:Gs (ys.map enc)=true:=by grind[Gs]
 simp only[mT,uQ,tW,hc,ha,hts,qS,HU,y6,List.map_cons,List.map_nil,hT,hSr,hn,hs,hx,a,b]
def A6(hS:Sep H L)(hi:L[i]?=some (.sl w tt v n (l.map enc)))(hl:l.length<=xn):∃r:Row α,r.l=l/\(r.c=.nil↔v=.sl [] .nil)/\∀ls m,(∀x,nd (freeze false { H with ca:=ls } m) (enc x)=some (enc x))->freeze false { H with ca:=ls } (m+1) v=some (r.av enc):=by
 obtain⟨a,⟨d,rfl⟩|⟨_,rfl⟩|⟨b,g,j,q,rfl,e,f⟩⟩:=hS.at hi;·have:l=[]:=anx.mp d;subst this;exact⟨⟨[],.nil,ang _,rfl,λ_=>rfl⟩,rfl,⟨λ_=>rfl,λ_=>rfl⟩,λ_ _ _=>rfl⟩
 ·exact⟨⟨l,.exact (l.map enc).length,hl,rfl,λh=>by cases h⟩,rfl,⟨λh=>(by cases h),λh=>(AV.sl.inj h).2⟩,λ_ _ _=>rfl⟩
 ·refine⟨⟨l,.oo,hl,rfl,λh=>by cases h⟩,rfl,⟨λh=>(by cases h),λh=>(by cases h)⟩,λls m s=>?_⟩;have k:Nat.ble (0+(l.map enc).length) (l.map enc++j).length=true:=anf.mpr (by simp);have o:((l.map enc++j).drop 0).take (l.map enc).length=l.map enc:=by simp
  have p:∀ys:List (List AV),(∀x∈ys,nd (freeze false { H with ca:=ls } m) x=some x)->sZ (freeze false { H with ca:=ls } m) ys=some ys:=by intro ys;induction ys<;>grind[sZ]
  simp only[freeze,aT.oR,e,Nat.beq_refl,k,Bool.and_self,o,p (l.map enc) (by grind),Ix];rfl
end
def mB.GH{α:Type}{r:mB α}:r.isNil=true↔r.c=.nil:=by grind[mB.isNil]
theorem Cx.trans{α:Type}{a b c:Row α}(h:Cx a b)(g:Cx b c):Cx a c:=⟨h.1.trans g.1,h.2.trans g.2⟩
theorem zw.trans{a b c:nh}(h:zw a b)(g:zw b c):zw a c:=⟨h.1.trans g.1,h.2.trans g.2⟩
def Tu{l m:List nh}(h:∀(i:Nat)(h:i<l.length) (h2:i<m.length),zw l[i] m[i]){k:Nat}{x x':nh}(hk:k<l.length)(hq:l[k]=x)(hx:zw x' x) :
  ∀(i:Nat) (h:i<(l.set k x').length) (h2:i<m.length),zw (l.set k x')[i] m[i]:=by
 intro i a h2;rw[List.getElem_set];split;·rename_i e;subst e;exact hx.trans (by grind)
 grind
def RM(r p:be):Prop:=Cx r.elems p.elems/\Cx r.mq p.mq/\Cx r.signals p.signals/\(r.lines.c=.nil↔p.lines.c=.nil)/\r.lines.l.length=p.lines.l.length/\(∀(i:Nat)(h:i<r.lines.l.length) (h2:i<p.lines.l.length),zw r.lines.l[i] p.lines.l[i])/\r.top=p.top/\r.ns=p.ns/\r.nW=p.nW/\r.oi=p.oi/\r.ot=p.ot
theorem SO{α:Type}{r s:Row α}(h:r.c=.nil↔s.c=.nil):Fj r.c=JO s.c:=by have a:=r.sn;cases b:r.c<;>cases d:s.c<;>simp_all[Fj,JO,vF]
theorem NC{α:Type}{enc : α->List AV}(h:∀x : α,Ap (enc x)=enc x):∀l:List α,Ae (l.map enc)=l.map enc
 |[]=>rfl
 |x::l=>by simp only[List.map_cons,Ae,h,NC h l]
theorem JF{α:Type}{enc : α->List AV}{r s:Row α}(h:Cx r s)(he:∀x : α,Ap (enc x)=enc x):Aq (r.av enc)=s.canon.av enc:=by simp only[Row.av,Aq,Row.canon,NC he,h.1,SO h.2]
theorem Iv:∀{l m:List nh},l.length=m.length->(∀(i:Nat)(h:i<l.length) (h2:i<m.length),zw l[i] m[i])->Ae (l.map nh.ay)=(m.map nh.canon).map nh.ay
 |[],[],_,_=>rfl
 |[],_::_,h,_=>by simp at h
 |_::_,[],h,_=>by simp at h
 |x::l,y::m,hl,h=>by
  obtain⟨a,h2⟩:=h 0 (by simp) (by simp);simp only[List.getElem_cons_zero]at a h2;have b:=Iv (l:=l) (m:=m) (by simpa using hl) λi c d=>by have:=h (i+1) (by simpa using c) (by simpa using d);simpa using this
  simp only[List.map_cons,Ae,b];congr 1;simp only[nh.ay,nh.canon,Ap,JF h2 (enc:=mD) (λx=>rfl),a];rfl
theorem QE{r p:be}(h:RM r p):Aq (.agg r.ay)=.agg p.canon.ay:=by
 obtain⟨c,d,e,f,g,i,j,k,l,a,b⟩:=h;have m:Aq (r.lines.av nh.ay)=(p.lines.DY nh.canon).canon.av nh.ay:=by simp only[Row.av,Aq,Iv g i,Row.canon,Row.DY,SO f]
 simp only[be.ay,Aq,Ap,be.canon,JF c (enc:=pc.ay) (λx=>rfl),JF d (enc:=oj.ay) (λx=>rfl),JF e (enc:=nL.ay) (λx=>rfl),m,j,k,l,a,b]
def R9{C:nu}{F:oP}{Pr Pr2:om}{f:Nat}{args:List AV}{h:aT}{v:AV}(hp:Pr2 f=some (zG C F Pr f))(hc:lZ C F Pr false f args h v h):lZ C F Pr2 false f args h (Aq v) h:=by refine⟨1,λk a=>?_⟩;cases k<;>grind[qi,D3]
section
variable {amb:Bool}{A:Int->Option cA}{N:cA->Option cA}{K:Int->Int}{R:cA->Int}{d:cB}{run leg:Int}
def TL(hz:0<=sV amb A N K R d run leg):0<=run/\run<(d.runs.l.length:Int)/\0<=leg/\∀h:run.toNat<d.runs.l.length,leg<((d.runs.l[run.toNat]).mh.l.length:Int):=by
 by_cases a:run<0\/run>=d.runs.l.length;·grind[vj,AJ]
 ·have b:run.toNat<d.runs.l.length:=by omega
  by_cases c:leg<0\/leg > (d.runs.l[run.toNat]).mh.l.length<;>grind[vj,AL,sV]
def Sg{r:Int}(h:r=sV amb A N K R d run leg):(0<=r->0<=run/\run<(d.runs.l.length:Int)/\0<=leg/\∀h:run.toNat<d.runs.l.length,leg<((d.runs.l[run.toNat]).mh.l.length:Int))/\r=sV amb A N K R d run leg:=⟨λa=>TL (h▸a),h⟩
end
def rk(p:be)(t:List cA):List Int:=(t.filter λh=>mY p h.elem≠4).map (·.elem)
theorem Qn{α β:Type}{l:List α}{k:Nat}{x : α}(hk:k<l.length)(hq:l[k]=x)(p : α->Bool)(f : α->β):((l.take (k+1)).filter p).map f=((l.take k).filter p).map f++if p x then [f x]else []:=by rw[List.take_add_one,List.getElem?_eq_getElem hk,hq];grind
def VM{p:be}{t:List cA}{l:List Int}{k:Nat}{x:cA}{n:Int}(hk:k<t.length)(hq:t[k]=x)(h:l=rk p (t.take k))(hK:n=mY p x.elem)(hn:n≠4):l++[x.elem]=rk p (t.take (k+1)):=by subst hK;unfold rk at h ⊢;rw[Qn hk hq,<- h,if_pos (by grind)]
def ab9{p:be}{t:List cA}{l:List Int}{k:Nat}{x:cA}{n:Int}(hk:k<t.length)(hq:t[k]=x)(h:l=rk p (t.take k))(hK:n=mY p x.elem)(hn:¬n≠4):l=rk p (t.take (k+1)):=by subst hK;unfold rk at h ⊢;rw[Qn hk hq,<- h,if_neg (by grind),List.append_nil]
def VG(p:be)(t:List cA):(rk p t).length<=t.length:=by grind[rk]
def MF{l:List nt}{k:Nat}{x:nt}{hk:k<l.length}(hq:l[k]=x)(h:∀(i j:Nat)(h:j<l.length) (hij:i<j),j<k->(l[i]).name.l≠(l[j]).name.l)(hx:∀y∈l.take k,¬y.name.l=x.name.l) :
  ∀(i j:Nat) (h:j<l.length) (hij:i<j),j<k+1->(l[i]).name.l≠(l[j]).name.l:=by
 intro i j c hij b;rcases anz.mp b with a|a
 ·grind
 ·subst a;rw[hq];exact hx _ (anW.mpr ⟨i,by omega,rfl⟩)
def pP{α:Type}{P : α->Prop}{l:List α}{k:Nat}(h:∀(i:Nat)(h:i<l.length),i<k->P (l[i]))(hk:l.length<=k):∀x∈l,P x:=by intro x a;obtain⟨i,b,rfl⟩:=ant.mp a;grind
def p9(p:be)(d:cB)(i:Nat):oH:=match d.runs.l[i]? with
 |none=>⟨⟨[],by decide⟩,0,⟨0,0⟩,0⟩
 |some r=>
  let a:=(qG p.signals.l r.from_).getD ⟨0,0⟩
  ⟨r.name,r.l9,a,if mY p a.elem=4 then 0 else r.left⟩
def TM{p:be}{d:cB}{i:Int}{r:nt}{a:cA}{m:Int}(hi:i.toNat<d.runs.l.length)(hq:d.runs.l[i.toNat]=r)(ha:a=(qG p.signals.l r.from_).getD ⟨0,0⟩)(hm:m=if mY p a.elem=4 then 0 else r.left):(⟨r.name,r.l9,a,m⟩:oH)=p9 p d i.toNat:=by grind[p9]
structure Tk(L:Nat->List Int)(k:Nat)(m:List (Int×Bool))(e:Int):Prop where
 look:∀i,i<k->∀x∈L i,look x m=some true
 val:∀y∈m,y.2=true
 KB:e=0->∀i j,i<j->j<k->∀x∈L i,x∉L j
structure Bl(L:Nat->List Int)(k:Nat)(r:List Int)(m:List (Int×Bool))(e:Int):Prop where
 tk:Tk L k m e
 QY:∀x∈r,Go.Sx.look x m=some true
 aep:e=0->∀i,i<k->∀x∈L i,x∉r
def Tk.zero(L:Nat->List Int):Tk L 0 [] 0:=⟨λi h=>by omega,by simp,λ_ i j a b=>by omega⟩
def Tk.start{L:Nat->List Int}{k:Nat}{m:List (Int×Bool)}{e:Int}(h:Tk L k m e)(r:List Int):Bl L k (r.take 0) m e:=⟨h,by simp,λ_ _ _ _ _=>by simp⟩
theorem uw{α:Type}{r:List α}{j:Nat}{x : α}(hj:j<r.length)(hq:r[j]=x):r.take (j+1)=r.take j++[x]:=by rw[List.take_add_one,List.getElem?_eq_getElem hj,hq];rfl
def zX{m:List (Int×Bool)}{x y:Int}(h:look y m=some true):look y (put x true m)=some true:=by grind[qw]
def Bl.Iz{L:Nat->List Int}{k:Nat}{r:List Int}{m:List (Int×Bool)}{e e':Int}{j:Nat}{x:Int}(h:Bl L k (r.take j) m e)(hj:j<r.length)(hq:r[j]=x)(he:e'≠0):Bl L k (r.take (j+1)) (put x true m) e':=by
 refine⟨⟨λi c y a=>zX (h.tk.look i c y a),xU (P:=λy:Bool=>y=true) h.tk.val rfl,λb=>absurd b he⟩,?_,λb=>absurd b he⟩;rw[uw hj hq];intro y a;rcases anm.mp a with a|a
 ·exact zX (h.QY y a)
 grind[qw]
def Bl.Wn{L:Nat->List Int}{k:Nat}{r:List Int}{m:List (Int×Bool)}{e:Int}{j:Nat}{x:Int}(h:Bl L k (r.take j) m e)(hj:j<r.length)(hq:r[j]=x)(hn:look x m=none):Bl L k (r.take (j+1)) (put x true m) e:=by
 refine⟨⟨λi c y a=>zX (h.tk.look i c y a),xU (P:=λy:Bool=>y=true) h.tk.val rfl,h.tk.KB⟩,?_,?_⟩
 ·rw[uw hj hq];intro y a;rcases anm.mp a with a|a
  ·exact zX (h.QY y a)
  grind[qw]
 ·intro d i c y a b;rw[uw hj hq]at b;rcases anm.mp b with b|b
  ·exact h.aep d i c y a b
  ·simp at b;subst b;rw[h.tk.look i c y a]at hn;cases hn
def Bl.done{L:Nat->List Int}{k:Nat}{r:List Int}{m:List (Int×Bool)}{e:Int}{j:Nat}(h:Bl L k (r.take j) m e)(hj:r.length<=j)(hr:r=L k):Tk L (k+1) m e:=by
 rw[List.take_of_length_le hj,hr]at h;refine⟨λi g x b=>?_,h.tk.val,λf i l c d x b=>?_⟩
 ·rcases anz.mp g with a|a
  ·exact h.tk.look i a x b
  ·subst a;exact h.QY x b
 ·rcases anz.mp d with a|a
  ·exact h.tk.KB f i l c a x b
  ·subst a;exact h.aep f i c x b
def xI(d:cB)(i:Nat):Int:=match d.runs.l[i]? with
 |none=>0
 |some r=>match d.l9.l[r.l9.toNat]? with
  |none=>0
  |some s=>s.len
theorem xV{d:cB}{k:Nat}{x:nt}{y:nm}(hk:k<d.runs.l.length)(hq:d.runs.l[k]=x)(hs:x.l9.toNat<d.l9.l.length)(hqs:d.l9.l[x.l9.toNat]=y):y.len=xI d k:=by grind[xI]
def Gi{Q:Nat->Prop}{k:Nat}(h:∀i,i<k->Q i)(hk:Q k):∀i,i<k+1->Q i:=by grind
def stQ{f:List AV->AV}{n:AV}{p:be}{d:cB}{k:Nat}{len e:Int}{t:oH}{b:mM}(hs:f [n,.int .i64 len,.agg t.ay]=.mw [.agg b.ay,.int .i64 e])(hl:len=xI d k)(ht:t=p9 p d k)(he:¬e≠0):∃b:mM,f [n,.int .i64 (xI d k),.agg (p9 p d k).ay]=.mw [.agg b.ay,.int .i64 0]:=by grind
structure L1 where
 state:Int
 front:Int
 off:Bool
 seen:Row Bool
def L1.ay(x:L1):List AV:=[.int .i64 x.state,.int .i64 x.front,.bool x.off,x.seen.av aiQ]
def aax(cs:List AV):Prop:=∀c∈cs,∀(hp:aT)(n:Nat),freeze false hp (n+2) c=some c
def fzB:AV->Bool
 |.int _ _|.bool _|.ip _ _ false=>true
 |_=>false
def aax.of{cs:List AV}(h:cs.all fzB=true):aax cs:=by intro c a b n;have:=anD.mp h c a;unfold fzB at this;grind[freeze]
def LT(tr:List oH)(p:be)(i:Nat):List Int:=match tr[i]? with
 |none=>[]
 |some t=>rk p [t.at_]
def Mt(L:Nat->List Int)(k:Nat)(r:List Int)(m:List Bool):Prop:=∀(x:Nat)(h:x<m.length),m[x]=true->(∃i,i<k/\(x:Int)∈L i)\/(x:Int)∈r
def Mt.zero(L:Nat->List Int)(n:Nat):Mt L 0 [] (List.replicate n false):=by intro x h a;simp at a
theorem Mt.set{L:Nat->List Int}{k j:Nat}{r:List Int}{m:List Bool}{x:Int}(h:Mt L k (r.take j) m)(hj:j<r.length)(hq:r[j]=x)(h0:0<=x):Mt L k (r.take (j+1)) (m.set x.toNat true):=by
 intro y b a;rw[List.getElem_set]at a;rw[uw hj hq];split at a;·grind
 ·rcases h y (by simpa using b) a with c|c<;>grind
def Mt.done{L:Nat->List Int}{k j:Nat}{r:List Int}{m:List Bool}(h:Mt L k (r.take j) m)(hj:r.length<=j)(hr:r=L k):Mt L (k+1) [] m:=by intro y a b;rw[List.take_of_length_le hj]at h;rcases h y a b with⟨i,d,c⟩|c<;>grind
def IN(tr:List oH)(ks sl:List nm)(k:Nat):Prop:=sl.length=k/\∀(i:Nat)(x:oH) (y:nm),tr[i]?=some x->sl[i]?=some y->ks[x.l9.toNat]?=some y
def IN.zero(tr:List oH)(ks:List nm):IN tr ks [] 0:=⟨rfl,λi x y _ h=>by simp at h⟩
def IN.snoc{tr:List oH}{ks sl:List nm}{k:Nat}{x:oH}{y:nm}(h:IN tr ks sl k){hk:k<tr.length}(hq:tr[k]=x){hs:x.l9.toNat<ks.length}(hy:ks[x.l9.toNat]=y):IN tr ks (sl++[y]) (k+1):=by
 refine⟨by simp[h.1],λi a b e c=>?_⟩;rcases ans i sl.length with d|d
 ·rw[List.getElem?_append_left d]at c;exact h.2 i a b e c
 ·have f:i=k:=by have:=(alt.mp c).1;simp at this;have:=h.1;omega
  grind
end Go.Sx
namespace Go.Sx
open Go Go.Proofs Go.RowKit Go.Maps Go.WideElems Go.WideShapes
def Ht(x:Int):List Int->List Int
 |[]=>[x]
 |y::l=>if x<=y then x::y::l else y::Ht x l
def nz:List Int->List Int
 |[]=>[]
 |x::l=>Ht x (nz l)
def Cw:AV->Option Int
 |.int .i64 n=>if -9223372036854775808<=n/\n<=9223372036854775807 then some n else none
 |_=>none
def zD:List (AV×AV)->Option (List Int)
 |[]=>some []
 |p::l=>match Cw p.1 with
  |some n=>match zD l with
   |some ks=>some (n::ks)
   |none=>none
  |none=>none
def DE:List Int->Bool
 |[]=>true
 |x::l=>!(l.contains x)&&DE l
def MY:List Int->AV
 |[]=>.sl [] .nil
 |l=>.sl (l.map λn=>[.int .i64 n]) .oo
def Ch(shd:Bool)(l:List Int)(h:aT):AV×aT:=match shd,l with
 |true,x::l=>(.hs h.size 0 0 (l.length+1),h.push (.lU 0 1 ((x::l).map λn=>[.int .i64 n])))
 |_,l=>(MY l,h)
def vL(shd:Bool)(ks:Option (List Int))(h:aT):R2:=match ks with
 |some ks=>match DE ks&&Nat.ble ks.length 1000000 with
  |true=>some (Ch shd (nz ks) h)
  |false=>none
 |none=>none
def Q7(p:AV×AV×Nat):AV×AV:=(p.1,p.2.1)
def qO(shd:Bool)(args:List AV)(h:aT):R2:=match args with
 |[.ow]=>some (.sl [] .nil,h)
 |[.fm es _]=>vL shd (zD es) h
 |[.hm b]=>match h.get b with
  |some (.map es _)=>vL shd (zD (es.map Q7)) h
  |_=>none
 |_=>none
def Fc(x:Int):∀l,(Ht x l).Perm (x::l)
 |[]=>.refl _
 |y::l=>by
  unfold Ht;split;·exact .refl _
  ·exact((Fc x l).cons y).trans (.swap x y l)
theorem rh:∀l,(nz l).Perm l
 |[]=>.refl _
 |x::l=>(Fc x _).trans ((rh l).cons x)
def GQ(x:Int):∀{l:List Int},l.Pairwise (·<=·)->(Ht x l).Pairwise (·<=·)
 |[],_=>by simp[Ht]
 |y::l,h=>by
  unfold Ht;rw[List.pairwise_cons]at h;split
  ·rename_i b;refine anw.2 ⟨λz a=>?_,anw.2 h⟩;rcases ank.1 a with rfl|a
   ·exact b
   ·exact Int.le_trans b (h.1 z a)
  ·(refine anw.2 ⟨λz a=>?_,GQ x h.2⟩;rcases ank.1 ((Fc x l).mem_iff.1 a)with rfl|a);·omega
   ·exact h.1 z a
def xr:∀l,(nz l).Pairwise (·<=·)
 |[]=>.nil
 |x::l=>GQ x (xr l)
theorem KK{l l':List Int}(h:l.Perm l'):l.mergeSort leI=nz l':=by rw[mergeSort_of_perm_i (h.trans (rh l').symm)];exact List.mergeSort_of_pairwise ((xr l').imp (by simp))
theorem Cj{v:AV}{n:Int}(h:Cw v=some n):v=.int .i64 n/\-9223372036854775808<=n/\n<=9223372036854775807:=by unfold Cw at h;grind
def I3:∀{es:List (AV×AV)} {ks:List Int},zD es=some ks->es.map (·.1)=ks.map (AV.int .i64)/\∀n∈ks,-9223372036854775808<=n/\n<=9223372036854775807
 |[],ks,h=>by grind[zD]
 |p::l,ks,h=>by
  unfold zD at h;split at h
  ·rename_i n b;split at h
   ·rename_i c d;obtain⟨e,f⟩:=Cj b;obtain⟨g,i⟩:=I3 d;simp only[Option.some.injEq]at h;subst h;refine⟨by simp[e,g],λm a=>?_⟩;rcases ank.1 a with rfl|a
    ·exact f
    ·exact i m a
   ·cases h
  ·cases h
def IF:∀{l:List Int},DE l=true->l.Nodup
 |[],_=>.nil
 |x::l,h=>by simp only[DE,Bool.and_eq_true,Bool.not_eq_true',List.contains_eq_mem,decide_eq_false_iff_not]at h;exact anV.2 ⟨h.1,IF h.2⟩
def IM{G:Ga}(hW:WR G){w':World}(hb:Below G.w.heap.size G.w w')(Tn:Bool->Nat->Prop)(hT:∀s B,Tn s B->G.w.heap.size<=B/\B<w'.heap.size) :
  let G':Ga:=⟨w',λs B=>G.T s B\/Tn s B,G.h,G.pi,G.L⟩
  Step G G'/\WR G':=by
 intro G';have a:∀B,B<G.w.heap.size->G'.w.heap[B]?=G.w.heap[B]?:=hb.block;have E:Ext G G':=⟨λ_ _ h=>.inl h,λs B h=>a B (hW.sB s B h),abs _,λb _ g z i h=>⟨g,z,i,h,abs _,λ_=>⟨rfl,λ_ h=>h⟩⟩,λb _ j c h=>⟨j,c,h,λ_ h=>h⟩,λ_ _ h=>h⟩;obtain⟨k1,k2,k3⟩:=hW.keep E a;have f:=hb.size;refine⟨⟨E,hb.os,hb.output,⟨hb.tape,λh=>False.elim h⟩,hb.size,λB h _ _=>a B h,λb l h=>.inl ⟨l,h,rfl⟩,λb l h=>.inl (by grind),?_,rfl,λ_ _ _=>rfl,λ_ _ h=>.inl h,λd B h=>.inl (by grind),λ_ _ _ h=>h⟩,k1,k2,k3,?_,hW.rY,?_,hW.uI,?_,hW.u7,?_,?_,hW.lo,hW.lt⟩;·grind
 ·exactλb l h=>⟨ane (hW.oW b l h).1 f,(hW.oW b l h).2⟩
 ·rintro s b l h (e|e);·exact hW.w0 s b l h e
  ·have:=(hW.oW b l h).1;grind
 ·rintro s d B h (e|e);·exact hW.LT s d B h e
  ·have:=(hW.qL d B h).1;grind
 ·exactλd B h=>⟨ane (hW.qL d B h).1 f,(hW.qL d B h).2⟩
 ·rintro s B (h|h);·exact ane (hW.sB s B h) f
  grind
section
variable {G:Ga}{w':World}
def ab4(hW:WR G){g cap z:Nat}{xs:List (List AV)}(hb:Below G.w.heap.size G.w w')(hg:G.w.heap.size<=g)(hlt:g<w'.heap.size)
  (hblk:∀G',Ext G G'->G'.w=w'->tc G' ⟨g,0,cap⟩ z xs) :
  Step G ⟨w',G.T,G.h.push (.lU 0 z xs),rp G.pi G.h.size (some ⟨g,0,cap⟩),G.L⟩/\WR ⟨w',G.T,G.h.push (.lU 0 z xs),rp G.pi G.h.size (some ⟨g,0,cap⟩),G.L⟩:=by
 obtain⟨p,k⟩:=Lk hW (.lU 0 z xs);have x:G.pi G.h.size=none:=Ig hW (abs _);have q:(G.h.push (.lU 0 z xs)).get G.h.size=some (.lU 0 z xs):=by rw[aT.uH _ _ _ hW.lo,if_pos rfl]
 have m:∀b l,G.pi b=some l->rp G.pi G.h.size (some ⟨g,0,cap⟩) b=some l:=by grind[sr]
 have f:∀B,B<G.w.heap.size->w'.heap[B]?=G.w.heap[B]?:=hb.block;have r:=hb.size
 have E:Ext ⟨G.w,G.T,G.h.push (.lU 0 z xs),G.pi,G.L⟩ ⟨w',G.T,G.h.push (.lU 0 z xs),rp G.pi G.h.size (some ⟨g,0,cap⟩),G.L⟩ :=
  ⟨λ_ _ h=>h,λs B i=>f B (hW.sB s B i),abs _,λb _ g z xs h=>⟨g,z,xs,h,abs _,λ_=>⟨rfl,m b⟩⟩,λb _ y c h=>⟨y,c,h,m b⟩,λ_ _ h=>h⟩
 obtain⟨k1,k2,k3⟩:=k.keep E (λB i=>f B i);have a:∀b l,rp G.pi G.h.size (some ⟨g,0,cap⟩) b=some l->(b=G.h.size/\l=⟨g,0,cap⟩)\/(b≠G.h.size/\G.pi b=some l):=by grind[pD,sr]
 have A:z7 ⟨G.w,G.T,G.h.push (.lU 0 z xs),G.pi,G.L⟩ ⟨w',G.T,G.h.push (.lU 0 z xs),rp G.pi G.h.size (some ⟨g,0,cap⟩),G.L⟩ (·=G.h.size) (λ_=>False):=by refine⟨E,hb.os,hb.output,⟨hb.tape,λh=>False.elim h⟩,r,λB i=>f B i,?_,?_,rfl,rfl,λ_ _ h=>.inl h,λ_ _ h=>.inl (ani.2 ⟨_,h⟩)⟩<;>grind
 refine⟨p.fill A (by omega) (λ_ h=>h.elim),?_⟩;have D:=hblk _ (p.ext.trans E) rfl;constructor;·grind
 ·grind
 ·exact k3
 ·intro b l e;rcases a b l e with⟨rfl,rfl⟩|⟨_,e⟩
  ·simp_all
  ·have:=k.oW b l e;grind
 ·intro b b' l l' e n C;rcases a b l e with⟨rfl,rfl⟩|⟨_,t⟩
  ·rcases a b' l' n with⟨rfl,rfl⟩|⟨_,j⟩
   ·rfl
   ·have:=(hW.oW b' l' j).1;grind
  ·rcases a b' l' n with⟨rfl,rfl⟩|⟨_,j⟩
   ·have:=(hW.oW b l t).1;grind
   ·exact hW.rY b b' l l' t j C
 ·intro s b l e u;rcases a b l e with⟨rfl,rfl⟩|⟨_,e⟩
  ·have:=hW.sB s _ u;grind
  ·exact hW.w0 s b l e u
 ·exact hW.uI
 ·exact hW.LT
 ·intro d B b l o e;rcases a b l e with⟨rfl,rfl⟩|⟨_,e⟩
  ·have:=(hW.qL d B o).1;grind
  ·exact hW.u7 d B b l o e
 ·intro d B o;have:=k.qL d B o;grind
 ·intro s B i;exact ane (hW.sB s B i) r
 ·exact k.lo
 ·exact k.lt
end
def GX{P:Program}{f kt:Nat}(hk:P.underlying kt=some (.int .i64))    (h1:∀(b nn:Nat)(D0:DataW Unit) (w:World),w.ownsMap P kt (λ_=>some (.nil,[])) b nn D0->Maps.size D0<=maxLen->Maps.size D0*8<=140737488355328->      Calls P f #[.map (some b)] w λe w'=>∃(v:Value)(ss:List Int),e=.returned v/\ss.Perm (intKeys D0)/\      w'.ownsRow w.heap.size kt 1 v ss.length ((ss.mergeSort leI).map encZ)/\(v=.slice none 0 0↔ss=[])/\Below w.heap.size w w')
  {G:Ga} (hW:WR G) {es:List (AV×AV)} {ks:List Int} (hks:zD es=some ks) (hn:(DE ks&&Nat.ble ks.length 1000000)=true)
  {r:Nat} {ents:Array MapEntry} {clk:Nat} (hB:G.w.heap[r]?=some (.map ents clk)) (hll:es.length=ents.size) (hyo:Vy ents clk)
  (hkk:∀(i:Nat) (p:AV×AV) (e:MapEntry),es[i]?=some p->ents[i]?=some e->∃m,PR G.w G.T m p.1 e.key)
  (shd:Bool) {R:Ending->World->Prop} (hR:∀u G',Step G G'->WR G'->G'.h=(Ch shd (nz ks) G.h).2->(∀m L,VR (G'.nB m L) (Ch shd (nz ks) G.h).1 u)->R (.returned u) G'.w) :
  Calls P f #[.map (some r)] G.w R:=by
 simp only[Bool.and_eq_true,Nat.ble_eq]at hn;obtain⟨hn,k⟩:=hn;have hnd:=IF hn;obtain⟨o,U⟩:=I3 hks;have hel:es.length=ks.length:=by simpa using congrArg List.length o
 have q:ents.toList.map (·.key)=ks.map encZ:=by
  apply anR;intro i;simp only[List.getElem?_map,Array.getElem?_toList];cases V:ents[i]? with
  |none=>grind
  |some e=>
   (have S:i<es.length:=by grind);obtain⟨m,W⟩:=hkk i es[i] e (by simp[S]) V;have H:(es.map (·.1))[i]?=some es[i].1:=by simp[S]
   rw[o,List.getElem?_map]at H;cases X:ks[i]? with
   |none=>grind
   |some n=>
    rw[X]at H;simp only[Option.map_some,Option.some.injEq]at H;rw[<- H]at W;have y:e.key=.int .i64 n:=by generalize e.key=kv at W;cases W;rfl
    simp[y]
 have hrd:∀x∈ents.toList,∃n∈ks,x.key=encZ n/\rd P kt (λ_=>some ((.nil,[]):DataW Unit×List MemPlace)) x=some (.int .i64 n,.nil):=by
  intro x y;have:x.key∈ks.map encZ:=q▸List.mem_map_of_mem y;obtain⟨n,hn,V⟩:=anj.1 this;refine⟨n,hn,V.symm,?_⟩;have hw:(Lit.int .i64 n).wf=true:=by (have:=U n hn;have e1:IntKind.i64.min = -9223372036854775808:=by decide);simp_all[Lit.wf]
  grind[rd,keyOf_int_mk]
 have Y:ents.size=ks.length:=by omega
 have J:G.w.ownsMap P kt (λ_=>some (.nil,[])) r ents.size (.map ((ents.toList.map (rg P kt (λ_=>some ((.nil,[]):DataW Unit×List MemPlace)))).foldr DataW.insert [])) :=
  ⟨ents,clk,hB,⟨by rw[Y];exact anh k (by decide),⟨λx y=>by obtain⟨i,S⟩:=anq y;exact hyo.1 i x (by grind),hyo.2,by grind⟩,λx y=>by grind⟩,abs _,rfl⟩
 have A:(intKeys (.map ((ents.toList.map (rg P kt (λ_=>some ((.nil,[]):DataW Unit×List MemPlace)))).foldr DataW.insert []))).Perm ks:=by
  refine((sorted_perm _).map (λp:Lit×DataW Unit=>intOf p.1)).trans ?_;rw[List.map_map];have:ents.toList.map ((λp:Lit×DataW Unit=>intOf p.1) ∘ rg P kt (λ_=>some ((.nil,[]):DataW Unit×List MemPlace)))=(ents.toList.map (·.key)).map (λv=>match v with|.int _ n=>n|_=>0):=by rw[List.map_map];refine anM λx y=>?_;grind[rg_of,intOf]
  rw[this,q,List.map_map];exact .of_eq (by simp[Function.comp_def])
 have Z:Maps.size (.map ((ents.toList.map (rg P kt (λ_=>some ((.nil,[]):DataW Unit×List MemPlace)))).foldr DataW.insert []))=ks.length:=by have:=A.length_eq;grind[intKeys,Maps.size]
 refine(h1 r _ _ G.w J (by rw[Z];exact anh k (by decide)) (by omega)).mono ?_;rintro e w' ⟨v,ss,rfl,K,t,hnil,hb⟩;rw[KK (K.trans A)]at t;have yX:ss.length=(nz ks).length:=by rw[(K.trans A).length_eq,(rh ks).length_eq]
 rcases t.2 with⟨rfl,hz⟩|⟨g,cap,d,rfl,C,M,r1,r2,r3,r4⟩
 ·obtain⟨S1,W1⟩:=IM hW hb (λ_ _=>False) (λ_ _ h=>h.elim);have:nz ks=[]:=ann (by omega);have N:Ch shd (nz ks) G.h=(.sl [] .nil,G.h):=by rw[this];cases shd<;>rfl
  exact hR _ _ S1 W1 (by rw[N]) (λm L=>by rw[N];exact VR.nB (.mR rfl (.slnil _)) rfl)
 ·have O:g<w'.heap.size:=(ano.1 M).1;have hne:nz ks≠[]:=by grind
  have hrw:MY (nz ks)=.sl ((nz ks).map λn=>[.int .i64 n]) .oo:=by
   cases H:nz ks with
   |nil=>grind
   |cons a l=>rfl
  have hcell:∀(i:Nat) (n:Int),(nz ks)[i]?=some n->d[i]?=some (.int .i64 n):=by
   intro i n hn;have S:i<(nz ks).length:=(alt.1 hn).1;have h2:(d.toList.take (ss.length*1))[i]?=((nz ks).map encZ)[i]?:=by rw[r4]
   grind
  have c:∀(i:Nat) (D:List AV),((nz ks).map λn=>([.int .i64 n]:List AV))[i]?=some D->∃n,(nz ks)[i]?=some n/\D=[.int .i64 n]:=by simp
  cases shd with
  |false=>
   obtain⟨S1,W1⟩:=IM hW hb (λs B=>s=false/\B=g) (λ_ _ h=>by omega)
   have key:PR w' (λs B=>G.T s B\/s=false/\B=g) true (.sl ((nz ks).map λn=>[.int .i64 n]) .oo) (.slice (some ⟨g,0,none⟩) ((nz ks).map λn=>([.int .i64 n]:List AV)).length cap):=by
    refine .sl _ _ .oo g 0 d kt (0,0) cap 1 (λi _=>.int .i64 ((nz ks).getD i 0)) (λh=>by cases h) M (.inr ⟨rfl,rfl⟩) ?_ ?_ ?_ ?_ ?_ ?_;·show _<=_;grind
    ·grind
    ·simp
    ·grind
    ·intro i D j x _ _;rfl
    ·intro i D j x h F;obtain⟨n,hn,rfl⟩:=c i D h;cases j with
     |zero=>simp only[List.getElem?_cons_zero,Option.some.injEq]at F;subst F;rw[List.getD_eq_getElem?_getD,hn];exact .int _ _ _
     |succ j=>cases F
   rw[List.length_map,<- yX]at key;exact hR _ _ S1 W1 rfl (λm L=>by rw[show Ch false (nz ks) G.h=(MY (nz ks),G.h)from rfl,hrw];exact VR.nB (.mR rfl key) rfl)
  |true=>
   have Q:Ch true (nz ks) G.h=(.hs G.h.size 0 0 ss.length,G.h.push (.lU 0 1 ((nz ks).map λn=>[.int .i64 n]))):=by
    rw[yX];cases H:nz ks with
    |nil=>grind
    |cons a l=>rfl
   obtain⟨S1,W1⟩:=ab4 (cap:=cap) (z:=1) (xs:=(nz ks).map λn=>[.int .i64 n]) hW hb C O (by
    intro G' E e;refine⟨d,kt,by grind,by grind,by grind,?_,?_⟩;·simp
    ·intro i D j x h F;obtain⟨n,hn,rfl⟩:=c i D h;cases j with
     |zero=>simp only[List.getElem?_cons_zero,Option.some.injEq]at F;subst F;refine⟨.int .i64 n,?_,rfl,⟨.mR rfl (.int _ _ _),rfl⟩⟩;grind
     |succ j=>cases F)
   refine hR _ _ S1 W1 (by rw[Q]) (λm L=>?_);rw[Q];refine VR.nB (.hs _ 0 0 _ _ cap ?_ (λ_ _ _ _=>ang _) r1 ?_) rfl<;>grind[VR.nB,size,aT.size_push,pD]
def BY{shd:Bool}{ks:Option (List Int)}{h:aT}{v:AV}{h':aT}(hc:vL shd ks h=some (v,h')):∃l,ks=some l/\(DE l&&Nat.ble l.length 1000000)=true/\Ch shd (nz l) h=(v,h'):=by unfold vL at hc;grind
def Jr:∀(args:List AV)(h:aT) (v:AV) (h':aT),qO false args h=some (v,h')->h'=h/\∀h2:aT,(∀b o,h.get b=some o->h2.get b=some o)->qO false args h2=some (v,h2):=by
 intro args h v h' d;unfold qO at d;split at d;·cases d;exact⟨rfl,λ_ _=>rfl⟩
 ·obtain⟨g,a,f,c⟩:=BY d;cases c;exact⟨rfl,λh2 _=>by simp only[qO,vL,a,f];rfl⟩
 ·split at d;·rename_i e;obtain⟨g,a,f,c⟩:=BY d;cases c;exact⟨rfl,λh2 i=>by simp only[qO,vL,i _ _ e,a,f];rfl⟩
  grind
 grind
theorem Lh {P : Program} {f kt : Nat} (hex : ∃ fn, P.funcs[f]? = some fn ∧ fn.body.isNone = false ∧ (fn.name == "runtime.NumGoroutine") = false)
  (hk:P.underlying kt=some (.int .i64))
  (h1:∀(b nn:Nat) (D0:DataW Unit) (w:World),w.ownsMap P kt (λ_=>some (.nil,[])) b nn D0->Maps.size D0<=maxLen->Maps.size D0*8<=140737488355328 ->
    Calls P f #[.map (some b)] w λe w'=>∃(v:Value) (ss:List Int),e=.returned v/\ss.Perm (intKeys D0) /\
    w'.ownsRow w.heap.size kt 1 v ss.length ((ss.mergeSort leI).map encZ)/\(v=.slice none 0 0↔ss=[])/\Below w.heap.size w w')
  (h0:∀w:World,Calls P f #[.map none] w λe w'=>e=.returned (.slice none 0 0)/\Below w.heap.size w w'):qD P f qO where
 call:=by
  intro t z h v h' o G d U V hL F O X;refine⟨hex,?_⟩;intro R H;subst U
  have one:∀x:AV,z=[x]->∃y,d = #[y]/\VC G x y:=by
   rintro x rfl;cases d with|mk l=>
   cases l with
   |nil=>simp at O
   |cons y l=>
    cases l with
    |nil=>exact⟨y,rfl,X 0 x y rfl rfl⟩
    |cons _ _=>simp at O
  unfold qO at o;split at o
  ·obtain⟨y,rfl,A⟩:=one _ rfl;cases o;have B:=A.vr;cases B with
   |mR _ a=>cases a;refine(h0 G.w).mono ?_;rintro e w' ⟨rfl,Y⟩;obtain⟨S1,W1⟩:=IM F Y (λ_ _=>False) (λ_ _ h=>h.elim);exact H _ _ S1 W1 (λm=>rfl) (λm L=>VR.nB (.mR rfl (.slnil _)) rfl)
  ·obtain⟨y,rfl,A⟩:=one _ rfl;obtain⟨Z,k,J,K⟩:=BY o;have B:=A.vr;cases B with
   |mR _ a=>
    cases a with
    |fm _ _ _ r g clk _ M hI hll n hko hkk hvv=>exact GX hk h1 F k J M hll n (λi p e a s=>⟨_,hkk i p e a s⟩) t (λu G' S W e B=>H u G' S W (λm=>by grind) (by grind))
  ·obtain⟨y,rfl,A⟩:=one _ rfl;split at o
   ·rename_i N c C;obtain⟨Z,k,J,K⟩:=BY o;obtain⟨l,g,hpi,rfl,M,j,n⟩:=yp F A.vr C;have D:N.length=g.size:=by simpa using j.1
    have E:∀(i:Nat) (p:AV×AV×Nat) (e:MapEntry),N[i]?=some p->g[i]?=some e->p.1.vU=true/\PR G.w G.T false p.1 e.key/\VC G p.2.1 e.val/\p.2.2=e.born:=λi p e a s=>j.2 i p e a (by grind);refine GX hk h1 F k J M (by grind) (n.ach D λi p e a s=>(E i p e a s).2.2.2) (λi p e a s=>?_) t (λu G' S W e B=>H u G' S W (λm=>by grind) (by grind));rw[List.getElem?_map]at a;cases Q:N[i]? with
    |none=>grind
    |some q=>rw[Q]at a;cases a;exact⟨_,(E i q e Q s).2.1⟩
   grind
  grind
 BQ:=Jr
end Go.Sx
set_option maxHeartbeats 0
namespace Go.Sx
open Go
def mB.take{α:Type}(r:mB α)(k:Nat):mB α:=⟨r.l.take k,r.c,by have:=r.ok;grind,λh=>by rw[r.nl h];simp⟩
structure AB where
 free:Row Int
 end_:Int
def AB.ay(x:AB):List AV:=[x.free.av mD,.int .i64 x.end_]
structure rj where
 at_:Row Int
 mh:Row AB
def rj.ay(x:rj):List AV:=[x.at_.av mD,x.mh.av AB.ay]
def Mi{α:Type}{enc : α->List AV}{e:Env}{h:aT}{X:Ctx}{d:Option Nat}{t el:Nat}{x y:Operand}{ti te:TI}{r:mB α}{k:IntKind}{n:Int}(hT:X.C.T t=some ti)(hk:ti.kind=.slice el)(hE:X.C.T el=some te)(hx:me e x=r.av enc)(hi:me e y=.int k n)(h0:0<=n)
  (hn:n.toNat<r.l.length) (hl:(enc r.l[n.toNat]).length=te.size):mT (.indexAddr t x y) X e h d=some (.ip (enc r.l[n.toNat]) 0 (vF r.c),h):=by
 grind[sd]
def CW.erase{es:List (AV×AV×Nat)}{c:Nat}(h:CW es c)(i:Nat):CW (es.eraseIdx i) c :=
 ⟨λx a=>h.1 x ((anY es i).mem a),h.2.sublist (anY es i)⟩
section
variable {C:nu}{fa:lg}{e:Env}{H:aT}{L:List mZ}{ls:o1}{i n:Nat}{v:AV}{w tt:Bool}
def Cu(v:AV)(k m:Nat)(v2:AV):Prop:=∃b g,v=.hs b g 0 m/\v2=.hs b g k (m - k)
def DP{t el k:Nat}{x y:Operand}{ti te:TI}{kd:IntKind}{d:Option Nat}{xs:List (List AV)}(hS:Sep H L)(hi:L[i]?=some (.sl true tt v n xs))(hT:C.T t=some ti)(hk:ti.kind=.slice el)(hE:C.T el=some te)(hn:te.size=n)(hx:me e x=v)(hy:me e y=.int kd (k:Int))(hkl:k<xs.length) :
  ∃v',(∀call,mT (.slice t x (some y) none none) ⟨C,fa,call⟩ e { H with ca:=ls } d=some (v',{ H with ca:=ls }))/\Cu v k xs.length v':=by
 obtain⟨f,⟨a,rfl⟩|⟨a|a,rfl⟩|⟨b,g,j,p,rfl,h,l⟩⟩:=hS.at hi;·grind
 ·cases a
 ·grind
 ·have c:uA (.int kd (k:Int))=some k:=rfl;have a:Nat.ble k xs.length=true:=anf.mpr (by omega);have m:Nat.ble xs.length (xs++j).length=true:=anf.mpr (by simp);have o:Nat.ble 0 (xs++j).length=true:=anf.mpr (by simp);refine⟨.hs b g k (xs.length - k),λcall=>?_,b,g,rfl,rfl⟩;simp only[mT,vD,uX,hT,hk,hE,hx,hy,slice,JQ,aT.oR,h,hn,Nat.beq_refl,Bool.and_self,sX,bound,c,vY,Option.getD_none,a,m,o,Bool.and_true,Bool.true_and,Jo,sj,oz,Nat.zero_add]
def Qs{α:Type}{enc : α->List AV}{cl:Call}{t k:Nat}{y:Operand}{ti:TI}{d:Option Nat}{l:List α}{z : α}{v':AV}(hS:Sep H L)(hi:L[i]?=some (.sl true tt v n (l.map enc)))(ht:Cu v k (l.map enc).length v')(hc:cl.callee=.builtin .clear)(ha:cl.args.toList=[y])(hts:cl.argTypes.toList=[t])(hT:wM C [t]=some ti)(hn:ti.size=n)(hy:me e y=v')(hz:enc z=ti.zero)(hzl:(enc z).length=n)(hkl:k<l.length) :
  ∃w H',(∀call,mT (.call cl) ⟨C,fa,call⟩ e { H with ca:=ls } d=some (w,{ H' with ca:=ls }))/\w=.mw []/\Sep H' (L.set i (.sl true tt v n ((l.take k++List.replicate (l.length - k) z).map enc))):=by
 obtain⟨o,p,rfl,rfl⟩:=ht;obtain⟨q,⟨r,a⟩|⟨r,a⟩|⟨b,g,j,A,a,s,h⟩⟩:=hS.at hi;·cases a
 ·cases a
 ·cases a;simp only[List.length_map]at hy ⊢;have c:k+(l.length - k)=l.length:=by omega
  have u:Nat.ble (k+(l.length - k)) (l.map enc++j).length=true:=anf.mpr (by grind);have x:overwrite (l.map enc++j) k (List.replicate (l.length - k) (enc z))=(l.take k++List.replicate (l.length - k) z).map enc++j:=by unfold overwrite;rw[List.length_replicate,c,List.take_append_of_le_length (by grind),List.map_append,List.map_take,List.map_replicate];simp
  refine⟨.mw [],H.set o (.lU p n ((l.take k++List.replicate (l.length - k) z).map enc++j)),λcall=>?_,rfl,?_⟩;·simp only[mT,uQ,tW,hc,ha,hts,qS,QB,Da,List.map_cons,List.map_nil,hT,hn,hy,M5,aT.oR,s,Nat.beq_refl,u,Bool.and_self,<- hz,x,aT.s7]
  ·refine hS.rp hi (by simpa using hS.lo) (by simp) ⟨?_,.inr (.inr ⟨o,p,j,by simp_all,by grind,?_,h⟩)⟩ ?_ ?_;·grind
   ·grind[aT.pa,aT.qZ]
   ·intro b' f m;rw[aT.pa,if_neg (by rintro⟨rfl,_⟩;exact m rfl)]
   ·intro b' f;exact .inl f
end
section
variable {H:aT}{L:List mZ}{i:Nat}{v:AV}{tt:Bool}{n:Nat}{α:Type}{enc : α->List AV}{l:List α}
end
def L9:∀{l:List (Int×Bool)},(∀x∈l,pg x.1)->zD (nG iK bK l)=some (l.map Prod.fst)
 |[],_=>rfl
 |x::l,h=>by have a:=h x (by simp);have b:=L9 (l:=l) λy c=>h y (anp _ c);simp only[pg]at a;simp only[nG,List.map_cons,zD,Cw,iK,a,and_self,if_true]at b ⊢;rw[b]
theorem QS:∀{l:List Int},l.Nodup->DE l=true
 |[],_=>rfl
 |x::l,h=>by rw[List.nodup_cons]at h;simp[DE,h.1,QS h.2]
end Go.Sx
namespace Go.Sx
open Go
def MD{κ β:Type}[DecidableEq κ]{k : κ}{x : β}{l:List (κ×β)}(h:qy l):qy (put k x l):=by
 cases a:look k l with
 |none=>exact NM h a
 |some y=>
  have:(put k x l).map Prod.fst=l.map Prod.fst:=by clear h;induction l<;>grind[look,put]
  grind[qy]
def Gm{κ β:Type}[DecidableEq κ]{k : κ}{x : β}:∀{l:List (κ×β)},(put k x l).length<=l.length+1
 |[]=>by simp[put]
 |p::l=>by
  unfold put;split;·simp
  ·have:=Gm (k:=k) (x:=x) (l:=l);simp;omega
def J5{β:Type}{k:Int}{x : β}{l:List (Int×β)}(h:∀y∈l,pg y.1)(hk:pg k):∀y∈put k x l,pg y.1:=by intro y a;rcases Kl a with rfl|a<;>grind
def SC{p:be}{k e:Int}(h:k=mY p e)(hk:k=4\/k=1):0<=e/\e<(p.elems.l.length:Int):=by grind[wg]
def Og{b:mM}{a:cA}{m:Int}(h:b.ei.l=[a]/\0<=a.elem/\a.elem<m):b.ei.l.length<=1/\∀h∈b.ei.l,0<=h.elem/\h.elem<m:=by grind
theorem tH{α:Type}{f : α->α->Bool}:∀{l:List α},(∀x∈l,f x x=true)->rl f l l=true
 |[],_=>rfl
 |x::l,h=>by rw[rl,h x List.mem_cons_self,tH λy a=>h y (List.mem_cons_of_mem _ a)];rfl
def V1{r:Row Int}:pk 8 (r.av mD) (r.av mD)=true:=by
 have a:vc r.c r.c=true:=by cases r.c<;>simp[vc]
 show(rl (rl (pk 7)) (r.l.map mD) (r.l.map mD)&&vc r.c r.c)=true;rw[a,tH];rfl;intro x b;obtain⟨n,_,rfl⟩:=anj.mp b;refine tH λy d=>?_;simp_all[mD,pk,ua,u5]
section
variable {C:nu}{F:oP}{Pr:om}{fa:lg}{e:Env}{h:aT}{all rest:List Oper}{o:Oper}{q:Env->aT->Prop}{H:aT}{ls:o1}
end
def IH(t:Nat):List (Nat×Nat)->Option Nat
 |[]=>none
 |p::l=>match Nat.beq p.1 t with
  |true=>some p.2
  |false=>IH t l
def Kc(L:List mZ)(i:Nat):AV:=match L[i]? with
 |some r=>r.v
 |none=>.undef
def EZ(k:Bool)(L:List mZ)(ix:List (Nat×Nat)):Env->Env
 |[]=>[]
 |p::E=>(p.1,match IH p.1 ix with
  |some i=>(match k with
   |true=>keep p.1 (Kc L i)
   |false=>Kc L i)
  |none=>p.2)::EZ k L ix E
theorem QK{H:aT}{L:List mZ}(hS:Sep H L)(ix:List (Nat×Nat)):∀E,EZ true L ix E=EZ false L ix E
 |[]=>rfl
 |p::E=>by
  simp only[EZ];rw[QK hS ix E];cases IH p.1 ix with
  |none=>rfl
  |some i=>
   simp only[Kc];cases a:L[i]? with
   |none=>simp only[keep];split<;>rfl
   |some r=>rw[hS.Rb a p.1]
def Ya{H:aT}{L:List mZ}{e E:Env}(hS:Sep H L)(ix:List (Nat×Nat))(h1:e=EZ true L ix E:=by rfl)(h2:EZ false L ix E=E:=by rfl):e=E :=
 h1.trans ((QK hS ix E).trans h2)
def DT:List Nat->List AV->Env
 |t::ts,v::vs=>(t,v)::DT ts vs
 |_,_=>[]
def At(live:List Nat)(vs:List AV)(H:aT)(L:o1)(e:Env)(h:aT):Prop:=proj live e=DT live vs/\{ h with ca:=pt live h.ca } = { H with ca:=L }
def atR{live:List Nat}{vs:List AV}{H:aT}{L:o1}{e:Env}{h:aT}(h1:proj live e=DT live vs:=by rfl)(h2:{ h with ca:=pt live h.ca } = { H with ca:=L }:=by rfl):At live vs H L e h:=⟨h1,h2⟩
def l3{live:List Nat}{vs:List AV}{H:aT}{L:o1}{e:Env}{h:aT}{H0:aT}{R:List mZ}(hS:Sep H0 R)(ix:List (Nat×Nat))(h1:proj live e=EZ true R ix (DT live vs):=by rfl)(h3:EZ false R ix (DT live vs)=DT live vs:=by rfl)(h2:{ h with ca:=pt live h.ca } = { H with ca:=L }:=by rfl):At live vs H L e h:=⟨Ya hS ix h1 h3,h2⟩
section
variable {C:nu}{F:oP}{Pr:om}{fa:lg}{c:Code}{an:mS}{Q:Ex->Env->aT->Prop}{live:List Nat}{e:Env}{h:aT}
def tZ{vs:List AV}{H:aT}{L:o1}(hA:At live vs H L e h)(w:Wp C F Pr fa c an Q (DT live vs) { H with ca:=L }):Wp C F Pr fa c an Q (proj live e) { h with ca:=pt live h.ca }:=Yd hA.1 hA.2 w
def wz(vs:List AV)(H:aT)(L:o1)(w:Wp C F Pr fa c an Q (DT live vs) { H with ca:=L })(hA:At live vs H L e h:=by exact atR):Wp C F Pr fa c an Q (proj live e) { h with ca:=pt live h.ca }:=tZ hA w
def wy(vs:List AV)(L:o1)(w:Wp C F Pr fa c an Q (DT live vs) { aT.empty with ca:=L })(hA:At live vs aT.empty L e h:=by exact atR):Wp C F Pr fa c an Q (proj live e) { h with ca:=pt live h.ca }:=tZ hA w
end
section
variable {Q:Prop}{H:aT}{L:List mZ}{α:Type}{enc : α->List AV}{w tt:Bool}{v:AV}{n:Nat}{l:List α}
def sQ(hS:Sep H L)(i:Nat)(K:∀r:mB α,r.l=l->r.l.length=l.length->(∀m,freeze true { H with ca:=[] } (m+2) v=some (r.av enc))->Q)(hi:L[i]?=some (.sl w tt v n (l.map enc)):=by rfl)(he:∀m x,nd (freeze true { H with ca:=[] } (m+1)) (enc x)=some (enc x):=by first|exactλ_ _=>rfl|(intro _ _;simp only[be.ay,pc.ay,cA.ay,oj.ay,nL.ay,nh.ay,nm.ay,nS.ay,nt.ay,cB.ay,mA.ay,bY.ay,lv.ay,mM.ay,nc.ay,oH.ay,L1.ay,AB.ay,rj.ay,nI,nd,zr,y8,AW,zk,AS]))(hl:l.length<=xn:=by simp only[xn];first|omega|(simp<;>omega)):Q:=by obtain⟨r,a,b⟩:=abj hS hi hl;grind
end
def ZL(k:Bool)(R:List mZ)(ix:List (Nat×Nat))(live:List Nat)(e:Env):Env:=live.map λt=>(t,match IH t ix with
 |some i=>(match k with
  |true=>keep t (Kc R i)
  |false=>Kc R i)
 |none=>keep t (p3 e t))
theorem aeS{H:aT}{L:List mZ}(hS:Sep H L)(ix:List (Nat×Nat))(live:List Nat)(e:Env):ZL true L ix live e=ZL false L ix live e:=by
 refine anM λt _=>?_;cases IH t ix with
 |none=>rfl
 |some i=>
  simp only[Kc];cases a:L[i]? with
  |none=>rfl
  |some r=>rw[hS.Rb a t]
def wk{C:nu}{F:oP}{Pr:om}{fa:lg}{c:Code}{an:mS}{Q:Ex->Env->aT->Prop}{live:List Nat}{e:Env}{h H0:aT}{R:List mZ}(hS:Sep H0 R)(ix:List (Nat×Nat))(w:Wp C F Pr fa c an Q (ZL false R ix live e) { h with ca:=pt live h.ca })(he:proj live e=ZL true R ix live e:=by rfl):Wp C F Pr fa c an Q (proj live e) { h with ca:=pt live h.ca }:=by grind[aeS]
section
variable {X:Ctx}{e:Env}{h:aT}{d:Option Nat}{ti te:TI}{t el n k dd:Nat}{x y:Operand}{l:List Bool}{b:Bool}
def zH(hT:X.C.T t=some ti)(hk:ti.kind=.array n el)(hE:X.C.T el=some te)(hz:te.size=1)(hx:me e x=.la dd 0)(hy:me e y=.int .i64 (k:Int))(hn:k<n):mT (.indexAddr t x y) X e h d=some (.la dd k,h):=by
 have a:uA (.int .i64 (k:Int))=some k:=rfl;have b:Nat.blt k n=true:=by simp_all
 simp only[mT,uB,tB,hT,hk,hE,hx,hy,a,b,HP,Vi,sj,oz,hz,Nat.mul_one,Nat.zero_add]
def ZV(hT:X.C.T t=some ti)(ha:ti.agg=false)(hx:me e x=.la dd k)(hl:nE h.ca dd=some (List.map AV.bool l))(hk:k<l.length)(hq:l[k]=b):mT (.load t x) X e h d=some (.bool b,h):=by simp only[mT,BM,Au,hT,hx,xz,No,hl,part,ha,oz];rw[List.getElem?_map,List.getElem?_eq_getElem hk,hq];rfl
def IK(hT:X.C.T t=some ti)(ha:ti.agg=true)(hs:ti.size=n)(hx:me e x=.la dd 0)(hl:nE h.ca dd=some (List.map AV.bool l))(hk:l.length=n):mT (.load t x) X e h d=some (.agg (List.map AV.bool l),h):=by subst hk;simp only[mT,BM,Au,hT,hx,xz,No,hl,part,ha,hs,List.drop_zero];rw[List.take_of_length_le (by simp)];simp[u3,Fv,oz]
def Ck(hT:X.C.T t=some ti)(ha:ti.agg=false)(hz:ti.size=1)(hx:me e x=.la dd k)(hy:me e y=.bool b)(hl:nE h.ca dd=some (List.map AV.bool l))(hk:k<l.length):mT (.store t x y) X e h d=some (.undef,{ h with ca:=Ab h.ca dd (List.map AV.bool (l.set k b)) }):=by
 have a:cellsOf ti (.bool b)=some [.bool b]:=by simp only[cellsOf,ha,hz];rfl
 refine GD hT hx hy a rfl hl ?_;have c:Nat.ble (k+1) l.length=true:=anf.mpr hk;simp only[sJ,List.length_map,List.length_cons,List.length_nil,Nat.zero_add,c,u3];congr 1;rw[List.set_eq_take_append_cons_drop,if_pos hk,List.map_append,List.map_cons,List.map_take,List.map_drop];simp
def LM(hT:X.C.T t=some ti)(hk:ti.kind=.array n el)(hE:X.C.T el=some te)(ha:te.agg=false)(hz:te.size=1)(hx:me e x=.agg (List.map AV.bool l))(hy:me e y=.int .i64 (k:Int))(hn:k<n)(hl:k<l.length)(hq:l[k]=b):mT (.index t x y) X e h d=some (.bool b,h):=by
 have a:uA (.int .i64 (k:Int))=some k:=rfl;have c:Nat.blt k n=true:=by simp_all
 simp only[mT,EN,C3,hT,hk,hE,hx,hy,a,c,AV.agg?,part,ha,hz,Nat.mul_one];rw[List.getElem?_map,List.getElem?_eq_getElem hl,hq];rfl
end
def tA(p:be)(e:Int):Int:=if e<0 then 0 else match p.elems.l[e.toNat]? with
 |some x=>x.len
 |none=>0
theorem Hi{p:be}{e:Int}(h:e<0\/e>=p.elems.l.length):tA p e=0:=by grind[tA]
theorem Ki{p:be}{e:Int}{x:pc}(h0:0<=e)(hx:e.toNat<p.elems.l.length)(hq:p.elems.l[e.toNat]=x):tA p e=x.len:=by grind[tA]
def Nz{α:Type}{l:List α}{k:Nat}{x y : α}{hk:k<l.length}(h:l[k]=x)(e:x=y):y∈l:=by grind
def aau{α:Type}{l:List α}{k:Nat}{y : α}(h:∀(i:Nat)(hi:i<l.length),i<k->¬l[i]=y)(hk:l.length<=k):y∉l:=by intro a;obtain⟨i,hi,e⟩:=ant.mp a;grind
def Cm(p:be)(s:nm)(e:Int):Bool:=if mY p e=1 then decide (IntKind.i64.wrap (s.len+p.nW)<=tA p e)else decide (mY p e=4)
def Af(l:List nL)(i:Int):Int:=match qG l i with
 |some x=>x.elem
 |none=>-1
def N9(B:Int->Int)(r:nt)(leg:Int):Int:=if leg=0 then B r.from_ else match r.mh.l[(leg - 1).toNat]? with
 |none=>-1
 |some l=>if l.end_=1 then B l.to else if l.end_=3 then l.to else -1
def Fw(B:Int->Int)(d:cB)(run leg:Int):Int:=if run<0 then -1 else match d.runs.l[run.toNat]? with
 |none=>-1
 |some r=>if leg<0\/leg > r.mh.l.length then -1 else N9 B r leg
section
variable {B:Int->Int}{d:cB}{run leg:Int}{x:nt}{y:nS}
def aaZ(h:JZ d run leg):Fw B d run leg = -1:=by
 unfold Fw;split;·rfl
 ·split;·rfl
  ·rename_i a;obtain⟨b,rfl⟩:=alt.mp a;rw[if_pos];rcases h with h|h|h|⟨c,e⟩<;>omega
theorem aev(h0:0<=run)(hx:run.toNat<d.runs.l.length)(hl0:0<=leg)(hl1:leg<=((d.runs.l[run.toNat]).mh.l.length:Int)):Fw B d run leg=N9 B (d.runs.l[run.toNat]) leg:=by grind[Fw]
theorem ahQ(h:leg=0):N9 B x leg=B x.from_:=by grind[N9]
theorem ahR(h0:¬leg=0){r:Row nS}(hr:r=x.mh)(hy:(leg - 1).toNat<r.l.length)(hq:r.l[(leg - 1).toNat]=y):N9 B x leg=if y.end_=1 then B y.to else if y.end_=3 then y.to else -1:=by subst hr;rw[N9,if_neg h0,List.getElem?_eq_getElem hy,hq]
end
theorem Mk{l:List nL}{N:cA->Option cA}{d:cB}{run leg:Int}:Fw (Af l) d run leg=match pr true (qG l) N d run leg with
 |some h=>h.elem
 |none=>-1:=by
 unfold Fw pr;by_cases h:run<0;·simp[h]
 ·simp only[h,if_false];cases d.runs.l[run.toNat]? with
  |none=>rfl
  |some r=>
   simp only;by_cases a:leg<0\/leg > r.mh.l.length;·simp[a]
   ·simp only[a,if_false];unfold N9 Dt Af;by_cases b:leg=0;·simp[b]
    ·simp only[b,if_false];cases r.mh.l[(leg - 1).toNat]? with
     |none=>rfl
     |some y=>
      simp only;unfold va;by_cases c:y.end_=1;·simp[c]
      ·simp only[c,if_false];by_cases e:y.end_=3;·simp only[e,if_true];cases N ⟨y.to,0⟩<;>cases N ⟨y.to,1⟩<;>rfl
       grind
def aba{l:List nL}{N:cA->Option cA}{d:cB}{run leg:Int}{h:cA}(e:pr true (qG l) N d run leg=some h):h.elem=Fw (Af l) d run leg:=by rw[Mk (N:=N),e]
def aa4{l:List nL}{N:cA->Option cA}{d:cB}{run leg:Int}(e:pr true (qG l) N d run leg=none) : -1=Fw (Af l) d run leg:=by rw[Mk (N:=N),e]
def GK(r:lv):Int:=match r.steps.l[((r.steps.l.length:Int) - 1).toNat]? with
 |some s=>s.elem
 |none=>0
def xL{r:lv}{x:mA}{h:((r.steps.l.length:Int) - 1).toNat<r.steps.l.length}(hq:r.steps.l[((r.steps.l.length:Int) - 1).toNat]=x):GK r=x.elem:=by rw[GK,List.getElem?_eq_getElem h,hq]
def ym(r:lv)(l:nS):Bool:=decide (r.end_=l.end_/\0<r.steps.l.length/\if l.end_=1 then r.to=l.to else GK r=l.to)
def Tm{r:lv}{l:nS}(h:true=ym r l):0<r.steps.l.length:=by have:=of_decide_eq_true h.symm;omega
def yC{α:Type}(P : α->Bool):Nat->List α->List Int
 |_,[]=>[]
 |i,a::l=>if P a=true then(i:Int)::yC P (i+1) l else yC P (i+1) l
theorem Od{α:Type}{P : α->Bool}{x : α}:∀(l:List α)(i:Nat),yC P i (l++[x])=yC P i l++if P x=true then [((i+l.length:Nat):Int)]else []
 |[],i=>by rfl
 |a::l,i=>by have h:=Od (P:=P) (x:=x) l (i+1);simp only[List.cons_append,yC,h,List.length_cons];rw[show i+1+l.length=i+(l.length+1)by omega];split<;>simp
section
variable {α:Type}{P : α->Bool}{l:List α}{k:Nat}{x : α}{o:List Int}
theorem OA{hk:k<l.length}(hq:l[k]=x):yC P 0 (l.take (k+1))=yC P 0 (l.take k)++if P x=true then [(k:Int)]else []:=by rw[List.take_add_one,List.getElem?_eq_getElem hk,hq,Option.toList_some,Od,List.length_take,Nat.zero_add,Nat.min_eq_left (by omega)]
def PL{hk:k<l.length}(hq:l[k]=x)(h:o=yC P 0 (l.take k))(hp:P x=true):o++[(k:Int)]=yC P 0 (l.take (k+1)):=by rw[OA hq,if_pos hp,h]
def xh{hk:k<l.length}(hq:l[k]=x)(h:o=yC P 0 (l.take k))(hp:P x=false):o=yC P 0 (l.take (k+1)):=by rw[OA hq,hp,h];simp
def aa8(h:o=yC P 0 (l.take k))(hk:l.length<=k):o=yC P 0 l:=by
 rwa [anA hk]at h
theorem NA(h:∀x,P x=false):∀(l:List α)(i:Nat),yC P i l=[]
 |[],_=>rfl
 |a::l,i=>by simp[yC,h,NA h l]
end
def BU(p:be)(d:cB)(run leg:Int):Int:=sV true (qG p.signals.l) (o3 p.mq.l) (mY p) (λx=>(tK p.signals.l x).getD (-1)) d run leg
def Jw(p:be)(d:cB)(run leg:Int):Int:=Fw (Af p.signals.l) d run leg
def wj(p:be)(d:cB)(run leg:Int)(r:lv):Bool:=match d.runs.l[run.toNat]? with
 |none=>false
 |some x=>match x.mh.l[leg.toNat]?,d.l9.l[x.l9.toNat]? with
  |some l,some k=>decide (0<=x.l9/\r.from_=BU p d run leg/\ym r l=true/\r.bare=false/\¬Jw p d run leg∈r.rJ.l/\Cm p k (GK r)=true)
  |_,_=>false
def p8(p:be)(L:List lv)(d:cB)(run leg:Int):List Int:=if BU p d run leg<0 then []else yC (wj p d run leg) 0 L
section
variable {p:be}{d:cB}{run leg:Int}{r:lv}{x:nt}{l:nS}{k:nm}{L:List lv}{f:Int}
def TP(hf:f=BU p d run leg)(h:¬r.from_=f):wj p d run leg r=false:=by grind[wj]
def Ud{hx:run.toNat<d.runs.l.length}(hq:d.runs.l[run.toNat]=x){hy:leg.toNat<x.mh.l.length}(hl:x.mh.l[leg.toNat]=l)(h:false=ym r l):wj p d run leg r=false:=by grind[wj]
def Ta(h:r.bare=true):wj p d run leg r=false:=by grind[wj]
def Tf{s:Int}(hs:s=Jw p d run leg)(h:s∈r.rJ.l):wj p d run leg r=false:=by grind[wj]
def UD{hx:run.toNat<d.runs.l.length}(hq:d.runs.l[run.toNat]=x){hz:x.l9.toNat<d.l9.l.length}(hk:d.l9.l[x.l9.toNat]=k){e:Int}(he:GK r=e)(h:false=Cm p k e):wj p d run leg r=false:=by grind[wj]
def Su{hx:run.toNat<d.runs.l.length}(hq:d.runs.l[run.toNat]=x){hy:leg.toNat<x.mh.l.length}(hl:x.mh.l[leg.toNat]=l){hz:x.l9.toNat<d.l9.l.length}(hk:d.l9.l[x.l9.toNat]=k){s e:Int}(h0:0<=x.l9)(hf:f=BU p d run leg)(h1:r.from_=f)(h2:true=ym r l)(h3:r.bare=false)(hs:s=Jw p d run leg)(h4:s∉r.rJ.l)(he:GK r=e)(h5:true=Cm p k e):wj p d run leg r=true:=by grind[wj]
def Ip(hf:f=BU p d run leg)(h:f<0){o:List Int}(ho:o=[]):o=p8 p L d run leg:=by grind[p8]
def Iy(hf:f=BU p d run leg)(h:¬f<0){o:List Int}{n:Nat}(ho:o=yC (wj p d run leg) 0 (L.take n))(hn:L.length<=n):o=p8 p L d run leg:=by subst hf;rw[p8,if_neg h];exact aa8 ho hn
def Tv{hx:run.toNat<d.runs.l.length}(hq:d.runs.l[run.toNat]=x)(h:x.l9<0\/x.l9>=(d.l9.l.length:Int)) : []=p8 p L d run leg:=by grind[wj,p8,NA]
end
structure sk(n:ej):Prop where
 next:∀x,look x n.next=o3 n.p.mq.l x
 reads:∀x,look x n.reads=tK n.p.signals.l x
 en:∀i x,qG n.p.signals.l i=some x->0<=x.en
 Nw:Gr n.line n.p
theorem sk.from_{n:ej}(h:sk n){d:cB}{run leg:Int}:sV false (qG n.p.signals.l) (λx=>look x n.next) (mY n.p) (λx=>(look x n.reads).getD (-1)) d run leg=BU n.p d run leg:=by
 have a:(λx=>look x n.next)=o3 n.p.mq.l:=funext h.next;have b:(λx=>(look x n.reads).getD (-1))=(λx=>(tK n.p.signals.l x).getD (-1)):=by funext x;rw[h.reads]
 rw[a,b,Wk h.en];rfl
theorem zI(p:be):p.canon.lines.l=p.lines.l.map nh.canon:=rfl
def OS{m:List (Int×Int×Int)}{p:be}(h:Gr m p):Gr m p.canon:=by
 refine⟨λe y c=>?_,λi d e b=>?_⟩;·obtain⟨i,d,f,g⟩:=h.1 e y c;refine⟨i,by grind[zI],f,?_⟩;simp only[zI,List.getElem_map];exact g
 ·have a:i<p.lines.l.length:=by grind[zI]
  simp only[zI,List.getElem_map]at b;exact h.2 i a e b
def qz.self{n:ej}{p:be}(h:qz n p):sk n:=by
 have a:n.p.mq.l=p.mq.l:=by rw[h.nU];rfl
 exact⟨λx=>by rw[h.next,a],λx=>by rw[h.reads,h.signals],by rw[h.signals];exact abC h.amW,by rw[h.nU];exact OS h.Nw⟩
def LO(p:be)(x:cA):Prop:=0<=x.en/\((mY p x.elem=1->x.en<2)/\(mY p x.elem=4->x.en<1))
def xc(p:be)(len:Int)(t:oH):Int :=
 if len<1\/4000<len\/(¬mY p t.at_.elem=4/\¬mY p t.at_.elem=1)\/t.at_.en<0\/(if mY p t.at_.elem=1 then 2 else 1)<=t.at_.en then 1
 else if(tK p.signals.l t.at_).getD (-1)<0 then 7
 else if mY p t.at_.elem=4 then(if t.left=0 then 0 else 1)
 else if t.left<0\/tA p t.at_.elem<t.left then 1
 else if tA p t.at_.elem<IntKind.i64.wrap (t.left+len)then 9 else 0
def OO{p:be}{len:Int}{t:oH}(h:xc p len t=0):mY p t.at_.elem=1\/mY p t.at_.elem=4:=by grind[xc]
def Bc(p:be)(d:cB)(i:Nat):Int:=xc p (xI d i) (p9 p d i)
def uJ(p:be)(d:cB)(i:Nat):List Int:=rk p [(p9 p d i).at_]
def uO(L:Nat->List Int)(k:Nat):Prop:=∃i j,i<j/\j<k/\∃x∈L i,x∈L j
def uO.mono{L:Nat->List Int}{k m:Nat}(h:uO L k)(hk:k<=m):uO L m:=by obtain⟨i,j,a,c,b⟩:=h;exact⟨i,j,a,by omega,b⟩
def sb(p:be)(d:cB)(r:Int):Prop :=
 (∃i,i<d.runs.l.length/\r=Bc p d i/\r≠0/\∀j,j<i->Bc p d j=0) \/
 ((∀i,i<d.runs.l.length->Bc p d i=0)/\((r=0/\¬uO (uJ p d) d.runs.l.length)\/(r=18/\uO (uJ p d) d.runs.l.length)))
theorem sb.xi{p:be}{d:cB}{r s:Int}(h1:sb p d r)(h2:sb p d s):r=s:=by rcases h1 with⟨i,e,h1,a,f⟩|⟨h1,a⟩<;>rcases h2 with⟨j,g,b,c,h⟩|⟨b,c⟩<;>grind
structure w6(L:Nat->List Int)(k:Nat)(r:List Int)(m:List (Int×Bool))(e:Int):Prop where
 src:∀x,look x m=some true->(∃i,i<k/\x∈L i)\/x∈r
 err:e=0\/e=18/\uO L (k+1)
def w6.zero(L:Nat->List Int):w6 L 0 [] [] 0:=⟨λx h=>by simp[look]at h,.inl rfl⟩
def w6.start{L:Nat->List Int}{k:Nat}{m:List (Int×Bool)}{e:Int}(h:w6 L k [] m e)(r:List Int):w6 L k (r.take 0) m e:=by grind
theorem w6.put{L:Nat->List Int}{k j:Nat}{r:List Int}{m:List (Int×Bool)}{e:Int}{x:Int}(h:w6 L k (r.take j) m e)(hj:j<r.length)(hq:r[j]=x):w6 L k (r.take (j+1)) (put x true m) e:=by
 refine⟨λy c=>?_,h.err⟩;rw[uw hj hq];by_cases a:y=x;·grind
 ·have:look y m=some true:=by grind[qw]
  rcases h.src y this with b|b<;>grind
def w6.Iz{L:Nat->List Int}{k j:Nat}{r:List Int}{m:List (Int×Bool)}{e e':Int}{x:Int}(h:w6 L k (r.take j) m e)(hj:j<r.length)(hq:r[j]=x)(hr:r=L k)(h1:r.length<=1)(hl:look x m=some true)(he:e'=18):w6 L k (r.take (j+1)) (Go.Sx.put x true m) e':=by
 have c:=h.put hj hq;refine⟨c.src,.inr ⟨he,?_⟩⟩;have a:j=0:=by omega
 subst a;rcases h.src x hl with⟨i,d,b⟩|b
 ·exact⟨i,k,d,by omega,x,b,by grind⟩
 grind
def w6.done{L:Nat->List Int}{k j:Nat}{r:List Int}{m:List (Int×Bool)}{e:Int}(h:w6 L k (r.take j) m e)(hj:r.length<=j)(hr:r=L k):w6 L (k+1) [] m e:=by
 rw[List.take_of_length_le hj,hr]at h;refine⟨λx b=>?_,?_⟩;·rcases h.src x b with⟨i,d,a⟩|a<;>grind
 ·rcases h.err with a|⟨a,c⟩
  ·omega
  ·exact .inr ⟨a,c.mono (by omega)⟩
def G8{p:be}{d:cB}{k:Nat}{r len:Int}{t:oH}(hE:∀i,i<k->Bc p d i=0)(hk:k<d.runs.l.length)(hl:len=xI d k)(ht:t=p9 p d k)(h:r=xc p len t)(hr:¬r=0):sb p d r:=by subst hl ht;exact .inl ⟨k,hk,h,hr,hE⟩
def afR{p:be}{d:cB}{k:Nat}{r len:Int}{t:oH}(hl:len=xI d k)(ht:t=p9 p d k)(h:r=xc p len t)(hr:r=0):Bc p d k=0:=by subst hl ht;exact h.symm.trans hr
def OJ{p:be}{d:cB}{k:Nat}{e:Int}{m:List (Int×Bool)}(hE:∀i,i<k->Bc p d i=0)(hk:d.runs.l.length<=k)(hk2:k<=d.runs.l.length)(h1:Tk (uJ p d) k m e)(h2:e=0\/e=18/\uO (uJ p d) k):sb p d e:=by
 have:k=d.runs.l.length:=by omega
 subst this;refine .inr ⟨hE,?_⟩;rcases h2 with h|⟨h,a⟩
 ·refine .inl ⟨h,λ⟨i,j,hij,hj,x,hx,hx2⟩=>?_⟩;exact h1.KB h i j hij hj x hx hx2
 grind
def HB(n:Int):Prop:=(97<=n/\n<=122)\/(65<=n/\n<=90)
def Ko(i:Nat)(n:Int):Prop:=HB n\/(0<i/\48<=n/\n<=57)
def Eb(s:List UInt8):Prop:=1<=s.length/\s.length<=8/\∀(i:Nat)(h:i<s.length),Ko i ((s[i]).toNat:Int)
def ab3{s:List UInt8}{k:Nat}{c:UInt8}{hk:k<s.length}(hq:s[k]=c)(h:∀(i:Nat)(h:i<s.length),i<k->Ko i ((s[i]).toNat:Int))(hc:Ko k (c.toNat:Int)):∀(i:Nat)(h:i<s.length),i<k+1->Ko i ((s[i]).toNat:Int):=by grind
theorem Qg{s:List UInt8}{k:Nat}{c:UInt8}{hk:k<s.length}(hq:s[k]=c)(h:Eb s)(hl:¬HB (c.toNat:Int))(hd:k=0\/(c.toNat:Int)<48\/(c.toNat:Int) > 57):False:=by have:=h.2.2 k hk;rw[hq]at this;rcases this with a|a<;>grind
def Oo{s:List UInt8}{k:Nat}{c d:UInt8}{hk:k<s.length}(hq:s[k]=c)(h:Eb s)(hl:¬HB (c.toNat:Int))(hd:(d.toNat:Int)<48\/(d.toNat:Int) > 57)(hq2:s[k]=d):False:=by grind[Qg]
def C1(s:nm):Prop:=Eb s.name.l/\1<=s.len/\s.len<=4000/\1<=s.top/\s.top<=60/\1<=s.acc/\s.acc<=10/\1<=s.ns/\s.ns<=10
def IZ(l:List nm):Prop:=l.length<=4/\(∀s∈l,C1 s)/\∀(i j:Nat)(h:j<l.length) (hij:i<j),¬(l[i]).name.l=(l[j]).name.l
def DL(p:be)(l:List nm):Prop:=IZ l/\∀s∈l,s.top<=p.top/\p.ns<=s.ns
def WW{l:List nm}{k:Nat}{x:nm}{r:Int}{hk:k<l.length}(hq:l[k]=x)(h:∀(i j:Nat)(h:j<l.length) (hij:i<j),j<k->¬(l[i]).name.l=(l[j]).name.l)(hf:∀(j:Nat)(h:j<l.length),(j:Int)<r->¬(l[j]).name.l=x.name.l)(hr:¬r≠(k:Int)) :
  ∀(i j:Nat) (h:j<l.length) (hij:i<j),j<k+1->¬(l[i]).name.l=(l[j]).name.l:=by
 grind
def Xn{l:List nm}{k j:Nat}{x y:nm}(h:IZ l){r:Row nm}{hk:k<l.length}(hq:l[k]=x){hj:j<r.l.length}(hy:r.l[j]=y)(he:y.name.l=x.name.l)(hr:r.l=l.take k:=by rfl):False:=by
 subst hq hy;have a:j<k:=by grind
 refine h.2.2 j k hk a ?_;grind
def Gl(p:be)(x:nS):Prop:=(x.end_=1/\0<=x.to/\x.to<(p.signals.l.length:Int))\/(x.end_=2/\mY p x.to=4)\/(x.end_=3/\mY p x.to=1)
def Jm(l:List nS):Nat->Int
 |0=>0
 |k+1=>match l[k]? with
  |some x=>x.at_
  |none=>0
def af4{l:List nS}{k:Nat}{x:nS}{hk:k<l.length}(hq:l[k]=x):x.at_=Jm l (k+1):=by grind[Jm]
def GB(p:be)(l:List nS)(i:Nat)(x:nS):Prop:=0<=x.at_/\Jm l i<=x.at_/\x.at_<=2000/\Gl p x
def MN(p:be)(l:List nS):Prop:=∀(i:Nat)(h:i<l.length),GB p l i l[i]
def aeN{p:be}{l:List nS}{k:Nat}(h:∀(i:Nat)(h:i<l.length),i<k->GB p l i l[i])(hk:k<=l.length):0<=Jm l k:=by
 cases k with
 |zero=>simp[Jm]
 |succ k=>have:=(h k (by omega) (by omega)).1;grind[Jm]
def Xa{p:be}{l:List nS}{k:Nat}{x:nS}{hk:k<l.length}(hq:l[k]=x)(h:∀(i:Nat)(h:i<l.length),i<k->GB p l i l[i])(hx:GB p l k x):∀(i:Nat)(h:i<l.length),i<k+1->GB p l i l[i]:=by grind
def Vf{p:be}{l:List nS}{k:Nat}{x:nS}{n:Int}(h:MN p l){hk:k<l.length}(hq:l[k]=x)(hn:n=Jm l k)(hd:¬(0<=x.at_/\x.at_<=2000)\/x.at_<n\/¬Gl p x):False:=by have a:=h k hk;rw[hq]at a;obtain⟨b,c,d,e⟩:=a;grind
def Ec(p:be)(d:cB)(r:nt):Prop:=Eb r.name.l/\(0<=r.l9/\r.l9<(d.l9.l.length:Int))/\(0<=r.from_/\r.from_<(p.signals.l.length:Int))/\(0<=r.left/\r.left<=4000)/\MN p r.mh.l
structure Aj(p:be)(d:cB):Prop where
 runs:d.runs.l.length<=8
 mh:∀r∈d.runs.l,r.mh.l.length<=12
 ZY:DL p d.l9.l
 beg:0<=d.BB/\d.BB<=86399
 ok:∀r∈d.runs.l,Ec p d r
 name:∀(i j:Nat) (h:j<d.runs.l.length) (hij:i<j),¬(d.runs.l[i]).name.l=(d.runs.l[j]).name.l
theorem Aj.uK{p:be}{d:cB}(h:Aj p d):Cn d:=⟨h.runs,λr a=>⟨h.mh r a,(h.ok r a).2.1⟩⟩
def VV{l:List nt}{k j:Nat}{x y:nt}{r:Row nt}{hk:k<l.length}(hq:l[k]=x){hj:j<r.l.length}(hy:r.l[j]=y)(h:∀y∈(l.take k).take j,∀x,l[k]?=some x->¬y.name.l=x.name.l)(hn:¬x.name.l=y.name.l)(hr:r.l=l.take k:=by rfl):∀y∈(l.take k).take (j+1),∀x,l[k]?=some x->¬y.name.l=x.name.l:=by
 intro z d w c;rw[List.getElem?_eq_getElem hk,hq]at c;cases c;have a:j<(l.take k).length:=by grind
 have b:(l.take k)[j]=y:=by grind
 rw[uw a b]at d;grind
def WK{l:List nt}{k j:Nat}{x:nt}{hk:k<l.length}(hq:l[k]=x)(h0:∀(i j:Nat)(h:j<l.length) (hij:i<j),j<k->¬(l[i]).name.l=(l[j]).name.l)(h:∀y∈(l.take k).take j,∀x,l[k]?=some x->¬y.name.l=x.name.l){r:Row nt}(hj:¬(j:Int)<(r.l.length:Int))(hr:r.l=l.take k:=by rfl):∀(i j:Nat)(h:j<l.length) (hij:i<j),j<k+1->¬(l[i]).name.l=(l[j]).name.l:=by
 replace hj:(l.take k).length<=j:=by grind
 rw[List.take_of_length_le hj]at h;exact MF hq h0 λy a=>h y a x (by grind)
def abB{l:List nt}{k:Nat}{x:nt}{r:mB nt}{hk:k<l.length}(hq:l[k]=x)(h:∀(i j:Nat)(h:j<l.length) (hij:i<j),¬(l[i]).name.l=(l[j]).name.l)(he:∃y∈r.l,y.name.l=x.name.l)(hr:r.l=l.take k:=by rfl):False:=by subst hq;obtain⟨y,a,he⟩:=he;rw[hr]at a;obtain⟨i,b,rfl⟩:=anW.mp a;grind
def xm(p:be)(L:List lv)(d:cB)(i:Nat):Prop:=∃x,d.runs.l[i]?=some x/\(x.mh.l.length=0\/(∃y,x.mh.l[((x.mh.l.length:Int) - 1).toNat]?=some y/\y.end_≠2)\/∃j:Nat,j<x.mh.l.length/\p8 p L d i j=[])
def qE(p:be)(L:List lv)(d:cB)(r:Int):Prop :=
 ((∃s∈p.signals.l,s.auto=true)/\r=7)\/((∀s∈p.signals.l,s.auto=false)/\∃e,sb p d e/\((e≠0/\r=e)\/(e=0/\((r=10/\∃i,i<d.runs.l.length/\xm p L d i)\/(r=0/\∀i,i<d.runs.l.length->¬xm p L d i)))))
theorem qE.xi{p:be}{L:List lv}{d:cB}{r s:Int}(h1:qE p L d r)(h2:qE p L d s):r=s:=by
 rcases h1 with⟨⟨x,h,i⟩,a⟩|⟨a,e,b,j⟩<;>rcases h2 with⟨⟨y,k,l⟩,c⟩|⟨c,f,g,m⟩
 ·omega
 ·grind
 ·grind
 ·have:=b.xi g;grind
section
variable {p:be}{L:List lv}{d:cB}{k j:Nat}{x:nt}{y:nS}{e:Int}
def Vl{s:nL}{hk:k<p.signals.l.length}(hq:p.signals.l[k]=s)(h:s.auto=true):qE p L d 7:=.inl ⟨⟨s,by grind,h⟩,rfl⟩
def Hv(hS:∀s∈p.signals.l,s.auto=false)(h:sb p d e)(he:¬e=0):qE p L d e:=.inr ⟨hS,e,h,.inl ⟨he,rfl⟩⟩
def yf(hS:∀s∈p.signals.l,s.auto=false)(h:sb p d 0)(hk:k<d.runs.l.length)(hb:xm p L d k):qE p L d 10:=.inr ⟨hS,0,h,.inr ⟨rfl,.inl ⟨rfl,k,hk,hb⟩⟩⟩
def Ol(hS:∀s∈p.signals.l,s.auto=false)(h:sb p d 0)(hb:∀i,i<k->¬xm p L d i)(hk:d.runs.l.length<=k):qE p L d 0:=.inr ⟨hS,0,h,.inr ⟨rfl,.inr ⟨rfl,λi a=>hb i (by omega)⟩⟩⟩
def ZZ{hk:k<d.runs.l.length}(hq:d.runs.l[k]=x)(h:(x.mh.l.length:Int)=0):xm p L d k:=⟨x,by grind,.inl (by omega)⟩
def Y0{hk:k<d.runs.l.length}(hq:d.runs.l[k]=x){hl:((x.mh.l.length:Int) - 1).toNat<x.mh.l.length}(hy:x.mh.l[((x.mh.l.length:Int) - 1).toNat]=y)(h:y.end_≠2):xm p L d k:=⟨x,by grind,.inr (.inl ⟨y,by rw[List.getElem?_eq_getElem hl,hy],h⟩)⟩
def YR{hk:k<d.runs.l.length}(hq:d.runs.l[k]=x){r:List Int}(hr:r=p8 p L d k j)(h:(r.length:Int)=0)(hj:j<x.mh.l.length):xm p L d k:=⟨x,by grind,.inr (.inr ⟨j,hj,by simp_all⟩)⟩
def afk{hk:k<d.runs.l.length}(hq:d.runs.l[k]=x)(h1:¬(x.mh.l.length:Int)=0){hl:((x.mh.l.length:Int) - 1).toNat<x.mh.l.length}(hy:x.mh.l[((x.mh.l.length:Int) - 1).toNat]=y)(h2:¬y.end_≠2)(h3:∀i:Nat,i<j->p8 p L d k i≠[])(hj:x.mh.l.length<=j):¬xm p L d k:=by
 rintro⟨z,a,h⟩;rw[List.getElem?_eq_getElem hk,hq]at a;cases a;rcases h with h|⟨w,b,h⟩|⟨i,c,h⟩
 ·omega
 ·rw[List.getElem?_eq_getElem hl,hy]at b;grind
 grind
def ne_nil{r:List Int}(hr:r=p8 p L d k j)(h:¬(r.length:Int)=0):p8 p L d k j≠[]:=by grind
def B8{m:Nat}(hE:∀i,i<k->Bc p d i=0)(h1:d.runs.l.length<=k)(hM:¬uO (uJ p d) m)(h2:d.runs.l.length<=m)(h3:m<=d.runs.l.length):sb p d 0:=by
 have:m=d.runs.l.length:=by omega
 subst this;exact .inr ⟨λi a=>hE i (by omega),.inl ⟨rfl,hM⟩⟩
def AtK(p:be)(d:cB)(k:Nat)(l:List Int):Prop:=∀x,x∈l↔∃i,i<k/\x∈uJ p d i
def AtK.zero:AtK p d 0 []:=λx=>by simp
def Hp{t:oH}{n:Int}(ht:t=p9 p d k)(hK:n=mY p t.at_.elem)(h:n=1):uJ p d k=[t.at_.elem]:=by grind[uJ,rk]
def Ob{t:oH}{n:Int}{m:Nat}(hE:∀i,i<m->Bc p d i=0)(hk:k<m)(ht:t=p9 p d k)(hK:n=mY p t.at_.elem)(h:¬n=1):uJ p d k=[]:=by subst ht;have:=OO (hE k hk);grind[uJ,rk]
def AtK.snoc{l:List Int}{z:Int}(h:AtK p d k l)(hz:uJ p d k=[z]):AtK p d (k+1) (l++[z]):=by intro x;rw[List.mem_append,h x];grind
def AtK.same{l:List Int}(h:AtK p d k l)(hz:uJ p d k=[]):AtK p d (k+1) l:=by intro x;rw[h x];grind
def MV{L:Nat->List Int}(h:¬uO L k)(hn:∀x∈L k,∀i,i<k->x∉L i):¬uO L (k+1):=by
 rintro⟨i,j,a,d,x,e,b⟩;rcases anz.mp d with c|c
 ·exact h ⟨i,j,a,c,x,e,b⟩
 grind
def US{L:Nat->List Int}(h:¬uO L k)(hz:L k=[]):¬uO L (k+1):=MV h (by grind)
def AtK.Wn{l:List Int}{z:Int}{s:List Int}(h:AtK p d k l)(hs:s=l)(hz:uJ p d k=[z])(hM:¬uO (uJ p d) k)(hn:z∉s):¬uO (uJ p d) (k+1):=by subst hs;refine MV hM λx a i b c=>?_;rw[hz]at a;simp at a;subst a;exact hn ((h x).mpr ⟨i,b,c⟩)
def AtK.Iz{l:List Int}{z:Int}{s:List Int}(h:AtK p d k l)(hs:s=l)(hz:uJ p d k=[z])(hi:z∈s)(hE:∀i,i<j->Bc p d i=0)(h1:d.runs.l.length<=j)(hk:k<d.runs.l.length):sb p d 18:=by subst hs;obtain⟨i,a,b⟩:=(h z).mp hi;exact .inr ⟨λi hi=>hE i (by omega),.inr ⟨rfl,i,k,a,hk,z,b,by grind⟩⟩
end
theorem Mr(p:be):p8 p.canon=p8 p:=rfl
theorem Me(p:be):sb p.canon=sb p:=rfl
def Gv{p:be}{d:cB}{e:Int}(h:sb p d e)(he:¬e≠0):sb p d 0:=by grind
def ahV{p:be}(h:∀e∈p.elems.l,(1<=e.kind/\e.kind<=4)/\(e.kind=4->e.len=0)):RO p:=h
def ako{p:be}{k:Nat}(h:∀(i:Nat)(h:i<p.mq.l.length),i<k->BG p (p.mq.l[i]).a/\BG p (p.mq.l[i]).b)(hk:p.mq.l.length<=k):JV p:=pP (P:=λj:oj=>BG p j.a/\BG p j.b) h hk
def akz{p:be}{e:Int}{el:pc}(h0:0<=e){hx:e.toNat<p.elems.l.length}(hq:p.elems.l[e.toNat]=el)(h1:el.kind=1):VL p e:=⟨⟨h0,by omega⟩,by grind[vZ]⟩
def aa6{m:List (Int×Int×Int)}{ld:List (Int×Int)}(h:D8 m ld){e v:Int}{c:Int×Int}:D8 (put e c m) (put e v ld):=by
 intro d y b;by_cases a:d=e;·simp_all[qw]
 ·obtain⟨w,f⟩:=h d y (by grind[qw]);grind[qw]
structure CT(p:be)(k j:Nat)(m:List (Int×Bool)):Prop where
 val:∀(i:Nat) (h:i<p.lines.l.length),i<k->∀e∈(p.lines.l[i]).elems.l,VL p e/\look e m=some true
 KB:∀(i j:Nat) (h:j<p.lines.l.length) (hij:i<j),j<k->∀e∈(p.lines.l[i]).elems.l,e∉(p.lines.l[j]).elems.l
 cur:∀x,p.lines.l[k]?=some x->∀e∈x.elems.l.take j,VL p e/\look e m=some true/\∀(i:Nat) (h:i<p.lines.l.length),i<k->e∉(p.lines.l[i]).elems.l
section
variable {p:be}{k j:Nat}{m:List (Int×Bool)}{x:nh}{e:Int}
def CT.zero:CT p 0 0 []:=⟨λ_ _ h=>by omega,λ_ _ _ _ h=>by omega,λ_ _ e h=>by simp at h⟩
theorem CT.put(h:CT p k j m){hk:k<p.lines.l.length}(hq:p.lines.l[k]=x){hj:j<x.elems.l.length}(he:x.elems.l[j]=e)(hv:VL p e)(hl:¬look e m=some true):CT p k (j+1) (put e true m):=by
 have f:∀y,look y m=some true->look y (Go.Sx.put e true m)=some true:=λy a=>zX a;refine⟨λi c b y a=>⟨(h.val i c b y a).1,f y (h.val i c b y a).2⟩,h.KB,λz d y a=>?_⟩;rw[List.getElem?_eq_getElem hk,hq]at d;cases d;rw[uw hj he]at a;rcases anm.mp a with a|a
 ·have:=h.cur x (by grind) y a;grind
 ·simp at a;subst a;exact⟨hv,by grind[qw],λi c b g=>hl (h.val i c b _ g).2⟩
theorem CT.next(h:CT p k j m){hk:k<p.lines.l.length}(hq:p.lines.l[k]=x)(hj:x.elems.l.length<=j):CT p (k+1) 0 m:=by
 have n:=h.cur x (by grind);rw[List.take_of_length_le hj]at n;refine⟨λi o b e c=>?_,λi q d f g e c=>?_,λ_ _ e h=>by simp at h⟩
 ·rcases anz.mp b with a|a
  ·exact h.val i o a e c
  grind
 ·rcases anz.mp g with a|a
  ·exact h.KB i q d f a e c
  grind
theorem CT.ok(h:CT p k 0 m)(hk:p.lines.l.length<=k):Q6 p:=by refine⟨λx b e c=>?_,λi j d a=>h.KB i j d a (by omega)⟩;obtain⟨i,f,rfl⟩:=ant.mp b;exact(h.val i f (by omega) e c).1
end
def ah5{p:be}(h:JV p)(h40:p.elems.l.length<=40):∀j∈p.mq.l,vT p j.a/\vT p j.b:=λj c=>⟨⟨⟨(h j c).1.1.1,by have:=(h j c).1.1.2;omega⟩,(h j c).1⟩,⟨(h j c).2.1.1,by have:=(h j c).2.1.2;omega⟩,(h j c).2⟩
structure xN(p:be)(k j:Nat)(m:List (Int×Int×Int)):Prop where
 snd:∀e y,look e m=some y->(∃(i:Nat) (h:i<p.lines.l.length),i<k/\y.1=(i:Int)/\e∈(p.lines.l[i]).elems.l)\/(y.1=(k:Int)/\∃x,p.lines.l[k]?=some x/\e∈x.elems.l.take j)
 cmp:∀(i:Nat) (h:i<p.lines.l.length),i<k->∀e∈(p.lines.l[i]).elems.l,∃q,look e m=some ((i:Int),q)
 cur:∀x,p.lines.l[k]?=some x->∀e∈x.elems.l.take j,∃q,look e m=some ((k:Int),q)
section
variable {p:be}{k j:Nat}{m:List (Int×Int×Int)}{x:nh}{e c:Int}
def xN.zero:xN p 0 0 []:=⟨λe y h=>by simp[look]at h,λ_ _ h=>by omega,λ_ _ e h=>by simp at h⟩
theorem xN.put(hp:Q6 p)(h:xN p k j m){hk:k<p.lines.l.length}(hq:p.lines.l[k]=x){hj:j<x.elems.l.length}(he:x.elems.l[j]=e):xN p k (j+1) (put e ((k:Int),c) m):=by
 have r:p.lines.l[k]?=some x:=by grind
 have s:e∈x.elems.l:=by grind
 refine⟨λd y a=>?_,λi t b d a=>?_,λz g d a=>?_⟩
 ·by_cases f:d=e
  ·subst f;have:y=((k:Int),c):=by grind[qw]
   simp_all[uw]
  ·(have n:look d m=some y:=by grind[qw]);rcases h.snd d y n with u|⟨u,z,g,A⟩<;>grind
 ·have w:d≠e:=by rintro rfl;exact hp.2 i k hk b d a (by grind)
  obtain⟨q,o⟩:=h.cmp i t b d a;grind[qw]
 ·rw[r]at g;cases g;by_cases f:d=e;·simp_all[qw]
  ·rw[uw hj he]at a;rcases anm.mp a with a|a
   ·obtain⟨q,o⟩:=h.cur x r d a;grind[qw]
   grind
theorem xN.next(h:xN p k j m){hk:k<p.lines.l.length}(hq:p.lines.l[k]=x)(hj:x.elems.l.length<=j):xN p (k+1) 0 m:=by
 have g:p.lines.l[k]?=some x:=by grind
 refine⟨λd y b=>?_,λi f c d b=>?_,λ_ _ e h=>by simp at h⟩;·rcases h.snd d y b with⟨i,f,a,n⟩|⟨a,z,o,n⟩<;>grind
 ·rcases anz.mp c with a|a
  ·exact h.cmp i f a d b
  ·subst a;rw[hq]at b;exact h.cur x g d (by rwa [anA hj])
theorem xN.ok(h:xN p k 0 m)(hk:p.lines.l.length<=k):Gr m p:=by refine⟨λd y a=>?_,λi b d a=>h.cmp i b (by omega) d a⟩;rcases h.snd d y a with⟨i,b,c,e,f⟩|⟨c,z,g,e⟩<;>grind
end
def CE(P:Int->Bool)(l l2:List Int)(i j:Int):Prop:=l2.take i.toNat=(l.take j.toNat).filter P/\l2.drop j.toNat=l.drop j.toNat
section
variable {P:Int->Bool}{l l2:List Int}{i j x y:Int}
def Mp{l l2:List Int}{n:Nat}(h:l2.drop n=l.drop n){h1:n<l2.length}(hq:l2[n]=x):∃h2:n<l.length,l[n]=x:=by
 have a:(l2.drop n)[0]?=some x:=by grind
 grind
def Yu{l l2:List Int}{n:Nat}(h:l2.drop n=l.drop n):l2.drop (n+1)=l.drop (n+1):=by
 have:∀m:List Int,m.drop (n+1)=(m.drop n).drop 1:=λm=>by simp
 grind
def CE.start(h0:0<=i)(hb:∀(k:Nat)(h:k<l.length),(k:Int)<i->P l[k]=true)(hi:i<l.length)(hP:∀(h:i.toNat<l.length),P l[i.toNat]=false):CE P l l i (i+1):=by
 have e:(i+1).toNat=i.toNat+1:=by omega
 have b:i.toNat<l.length:=by omega
 refine⟨?_,rfl⟩;rw[e,List.take_add_one,List.getElem?_eq_getElem b,Option.toList_some,List.filter_append,List.filter_cons,hP b];simp only[Bool.false_eq_true,if_false,List.filter_nil,List.append_nil];symm;rw[List.filter_eq_self];intro a c;obtain⟨k,d,rfl⟩:=anW.mp c;grind
theorem CE.keep(h:CE P l l2 i j)(h0:0<=i)(hij:i<j){hj:j.toNat<l2.length}(hq:l2[j.toNat]=x)(hP:P x=true):CE P l (l2.set i.toNat x) (i+1) (j+1):=by
 have c:(i+1).toNat=i.toNat+1:=by omega
 have b:(j+1).toNat=j.toNat+1:=by omega
 obtain⟨d,a⟩:=Mp h.2 hq;refine⟨?_,?_⟩;·rw[c,b,List.take_add_one,List.getElem?_set_self (by omega),List.take_add_one,List.getElem?_eq_getElem d,a,Option.toList_some,List.filter_append,<- h.1,List.take_set_of_le (Nat.le_refl _)];simp[hP]
 ·rw[b,List.drop_set_of_lt (by omega)];exact Yu h.2
def CE.skip(h:CE P l l2 i j)(h0:0<=i)(hij:i<j){hj:j.toNat<l2.length}(hq:l2[j.toNat]=x)(hP:P x=false):CE P l l2 i (j+1):=by
 have b:(j+1).toNat=j.toNat+1:=by omega
 obtain⟨c,a⟩:=Mp h.2 hq;refine⟨?_,by rw[b];exact Yu h.2⟩;rw[b,List.take_add_one,List.getElem?_eq_getElem c,a,Option.toList_some,List.filter_append,<- h.1];simp[hP]
def CE.done(h:CE P l l2 i j)(hj:(l.length:Int)<=j)(hi:i.toNat<=l2.length){n:Nat}:(l2.take i.toNat++List.replicate n y).take i.toNat=l.filter P:=by rw[List.take_append_of_le_length (by grind),List.take_take,Nat.min_self,h.1,List.take_of_length_le (by omega)]
end
def vA(m:List (Int×Bool))(y:Int):Prop:=∃b,look y m=some b
theorem abD{m:List (Int×Bool)}{x y:Int}{b:Bool}:vA (put x b m) y↔y=x\/vA m y:=by
 unfold vA;by_cases h:y=x;·simp_all[qw]
 grind[qw]
def PJ{y:Int}:¬vA [] y:=by rintro⟨b,h⟩;simp[look]at h
def abp{m:List (Int×Bool)}{y:Int}(hn:qy m):vA m y↔y∈m.map Prod.fst:=by
 induction m with
 |nil=>simp[vA,look]
 |cons a m ih=>
  have b:qy m:=(anV.mp hn).2;have:=ih b;unfold vA at this ⊢;simp only[List.map_cons,List.mem_cons];by_cases h:a.1=y;·simp_all[look]
  grind[look]
def adH(ln:List (Int×Int×Int))(ll:List nh)(x y:Int):Prop:=y=x\/∃(l:Nat)(h:l<ll.length) (q:Int),look x ln=some ((l:Int),q)/\y∈(ll[l]).elems.l
section
variable {ln:List (Int×Int×Int)}{ll:List nh}{m mo:List (Int×Bool)}{x y r e:Int}{k:Nat}{L:nh}{E:Row Int}
end
def rO(l:List Int):Prop:=l.Pairwise (· < ·)
def rO.ext{l m:List Int}(h1:rO l)(h2:rO m)(h:∀x,x∈l↔x∈m):l=m:=by
 induction l generalizing m with
 |nil=>cases m with
  |nil=>rfl
  |cons b m=>have:=(h b).mpr (by simp);grind
 |cons a l ih=>
  cases m with
  |nil=>have:=(h a).mp (by simp);grind
  |cons b m=>(obtain⟨f,d⟩:=anw.mp h1;obtain⟨g,e⟩:=anw.mp h2;have c:a=b:=by have i:=(h a).mp (by simp);have j:=(h b).mpr (by simp);grind);subst c;congr 1;refine ih d e λx=>?_;grind
def TN{l:List Int}(h:l.Nodup):rO (nz l):=by have c:=xr l;have d:(nz l).Nodup:=(rh l).nodup_iff.mpr h;exact(c.and d).imp λ⟨a,b⟩=>by omega
def RdS(ln:List (Int×Int×Int))(ll:List nh)(rd:lv)(y:Int):Prop:=(∃s∈rd.steps.l,adH ln ll s.elem y)\/∃z∈rd.rJ.l,adH ln ll z y
def amF(ln:List (Int×Int×Int))(ll:List nh)(L:List lv)(R:List Int)(k:Nat)(y:Int):Prop:=∃i∈R.take k,∃rd,L[i.toNat]?=some rd/\RdS ln ll rd y
section
variable {ln:List (Int×Int×Int)}{ll:List nh}{L:List lv}{R:List Int}{k j:Nat}{m mo:List (Int×Bool)}{i:Int}{rd:lv}{s:mA}{z:Int}
end
def rH(l:List Bool)(y:Int):Prop:=0<=y/\l[y.toNat]?=some true
def Lb{n:Nat}:∀y,¬rH (List.replicate n false) y:=by rintro y⟨h0,h⟩;grind
section
variable {l:List Bool}{x y:Int}{b:Bool}
theorem Na(h0:0<=x)(hx:x.toNat<l.length):∀y,rH (l.set x.toNat true) y↔rH l y\/y=x:=by grind[rH]
theorem UU(hx:x.toNat<l.length)(hq:l[x.toNat]=b):l.set x.toNat b=l:=by subst hq;simp
def V6(h0:0<=x){hx:x.toNat<l.length}(hq:l[x.toNat]=b):rH l x↔b=true:=by grind[rH]
end
def ClK(p:be)(B:Int->Prop)(k:Nat)(y:Int):Prop:=B y\/∃(i:Nat)(h:i<p.lines.l.length),i<k/\y∈(p.lines.l[i]).elems.l/\∃x∈(p.lines.l[i]).elems.l,B x
section
variable {p:be}{B:Int->Prop}{k j:Nat}{l l2:List Bool}{x:nh}{e:Int}{b c:Bool}
end
def zo(l:List Bool)(Q:Int->Prop)(k:Nat)(o:List Int):Prop:=rO o/\(∀y∈o,y<k)/\∀y,y∈o↔y<k/\rH l y/\Q y
section
variable {l:List Bool}{Q:Int->Prop}{k:Nat}{o:List Int}{b:Bool}
def akc:zo l Q 0 []:=⟨List.Pairwise.nil,by simp,λy=>⟨by simp,λ⟨h1,h2,_⟩=>by have:=h2.1;omega⟩⟩
def aiy(h:zo l Q k o){hk:k<l.length}(hq:l[k]=b)(hb:b=true)(hQ:Q (k:Int)):zo l Q (k+1) (o++[(k:Int)]):=by
 subst hb;refine⟨anH.mpr ⟨h.1,by simp,λa f c e=>by simp at e;subst e;exact h.2.1 a f⟩,λy g=>?_,λy=>?_⟩
 ·rcases anm.mp g with d|d
  ·have:=h.2.1 y d;omega
  grind
 ·rw[List.mem_append,h.2.2 y];simp only[List.mem_singleton];constructor
  ·rintro(⟨d,i⟩|rfl);·grind
   ·exact⟨by omega,⟨by omega,by grind⟩,hQ⟩
  grind
def ajo(h:zo l Q k o)(hn:∀(h:k<l.length),l[k]=true->¬Q (k:Int)):zo l Q (k+1) o:=by
 refine⟨h.1,λy b=>by have:=h.2.1 y b;omega,λy=>?_⟩;rw[h.2.2 y];constructor;·grind
 ·rintro⟨e,a,c⟩;refine⟨?_,a,c⟩;by_cases d:y<k;·exact d
  ·exfalso;have:y=(k:Int):=by omega
   subst this;obtain⟨_,f⟩:=a;grind
theorem J7(h:zo l Q k o)(hk:l.length<=k):rO o/\∀y,y∈o↔rH l y/\Q y:=by
 refine⟨h.1,λy=>?_⟩;rw[h.2.2 y];constructor;·simp
 ·rintro⟨a,b⟩;refine⟨?_,a,b⟩;obtain⟨c,d⟩:=a;grind
end
def alQ(p:be)(d:cB)(run leg:Int):Int:=if mY p (Jw p d run (leg+1))=4 then -1 else Jw p d run (leg+1)
def ahG(p:be)(L:List lv)(d:cB)(run leg:Int)(y:Int):Prop:=amF [] [] L (p8 p L d run leg) (p8 p L d run leg).length y
def I9(p:be)(L:List lv)(d:cB)(run leg:Int)(w:List Int×Int):Prop:=rO w.1/\(∀y,y∈w.1↔ClK p (ahG p L d run leg) p.lines.l.length y/\y≠Jw p d run leg/\mY p y≠4)/\w.2=alQ p d run leg
theorem I9.xi{p:be}{L:List lv}{d:cB}{run leg:Int}{w v:List Int×Int}(h1:I9 p L d run leg w)(h2:I9 p L d run leg v):w=v:=Prod.ext (h1.1.ext h2.1 λx=>by rw[h1.2.1 x,h2.2.1 x]) (h1.2.2.trans h2.2.2.symm)
def atP(p:be)(d:cB)(run:Int):List Int:=if mY p (Jw p d run 0)=0\/mY p (Jw p d run 0)=4 then []else [Jw p d run 0]
def WL(p:be)(L:List lv)(d:cB)(run:Int)(l:List AB)(k:Nat):Prop:=l.length=k/\∀(i:Nat)(h:i<l.length),I9 p L d run (i:Int) ((l[i]).free.l,(l[i]).end_)
def SG(p:be)(L:List lv)(d:cB)(run:Int)(c:rj):Prop:=c.at_.l=atP p d run/\∃x,d.runs.l[run.toNat]?=some x/\WL p L d run c.mh.l x.mh.l.length
section
variable {p:be}{L:List lv}{d:cB}{run:Int}{l:List AB}{k:Nat}{w:AB}{n:Int}{c c2:rj}{x:nt}
def WL.zero:WL p L d run [] 0:=⟨rfl,λi h=>by simp at h⟩
def WL.snoc(h:WL p L d run l k)(hw:I9 p L d run (k:Int) (w.free.l,w.end_)):WL p L d run (l++[w]) (k+1):=by
 refine⟨by simp[h.1],λi b=>?_⟩;by_cases a:i<l.length;·rw[List.getElem_append_left a];exact h.2 i a
 ·have:i=l.length:=by grind
  subst this;rw[List.getElem_append_right (Nat.le_refl _)];simp only[Nat.sub_self,List.getElem_cons_zero];rw[h.1];exact hw
end
def sP(d:cB)(run:Int):Nat:=match d.runs.l[run.toNat]? with
 |some x=>x.mh.l.length
 |none=>0
theorem GI{d:cB}{run:Int}{x:nt}{h:run.toNat<d.runs.l.length}(hq:d.runs.l[run.toNat]=x):sP d run=x.mh.l.length:=by grind[sP]
def ye(p:be)(L:List lv)(d:cB)(l:List rj)(k:Nat):Prop:=l.length=k/\∀(i:Nat)(h:i<l.length),SG p L d (i:Int) l[i]
def ye.zero{p:be}{L:List lv}{d:cB}:ye p L d [] 0:=⟨rfl,λi h=>by simp at h⟩
def ye.snoc{p:be}{L:List lv}{d:cB}{l:List rj}{k:Nat}{c:rj}(h:ye p L d l k)(hc:SG p L d (k:Int) c):ye p L d (l++[c]) (k+1):=by
 refine⟨by simp[h.1],λi b=>?_⟩;by_cases a:i<l.length;·rw[List.getElem_append_left a];exact h.2 i a
 ·have:i=l.length:=by grind
  subst this;rw[List.getElem_append_right (Nat.le_refl _)];simp only[Nat.sub_self,List.getElem_cons_zero];rw[h.1];exact hc
def ye.end_{p:be}{L:List lv}{d:cB}{l r:List rj}{k n:Nat}(h:ye p L d l k)(hr:r=l)(h1:n<=k)(h2:k<=n):ye p L d r n:=by grind
def Wf(s:Int)(S:Int->Prop):Prop:=∃b:BitVec 64,s=(b.toNat:Int)/\∀i:Nat,i<64->(b.getLsbD i=true↔S (i:Int))
def Wf.congr{s:Int}{S T:Int->Prop}(h:Wf s S)(e:∀i:Int,0<=i->(S i↔T i)):Wf s T:=by obtain⟨b,a,c⟩:=h;exact⟨b,a,λi d=>(c i d).trans (e i (by omega))⟩
abbrev CX:=List Int×List (List Int)
def zj(c:rj):CX:=(c.at_.l,c.mh.l.map λw=>w.free.l)
def JN(c:List CX)(k:Nat):Prop:=∀(i:Nat)(h:i<c.length),i≠k->∀e∈(c[i]).1,∀x,c[k]?=some x->∀w∈x.2,e∉w
def EL(c:List CX)(home:List Bool)(k:Nat):Prop:=home[k]?=some false/\JN c k/\∀j,j<k->¬(home[j]?=some false/\JN c j)
theorem EL.xi{c:List CX}{home:List Bool}{k j:Nat}(h1:EL c home k)(h2:EL c home j):k=j:=by
 rcases anE k j with h|h|h
 ·exact absurd ⟨h1.1,h1.2.1⟩ (h2.2.2 k h)
 ·exact h
 ·exact absurd ⟨h2.1,h2.2.1⟩ (h1.2.2 j h)
inductive yG(c0:List CX):Nat->List CX->List Bool->Prop
 |zero:yG c0 0 c0 (List.replicate c0.length false)
 |succ {m k:Nat} {c:List CX} {home:List Bool} (h:yG c0 m c home) (n:EL c home k):yG c0 (m+1) (c.set k ([],[])) (home.set k true)
theorem yG.xi{c0:List CX}{m:Nat}{c:List CX}{home:List Bool}(h:yG c0 m c home):∀{c':List CX} {home':List Bool},yG c0 m c' home'->c=c'/\home=home':=by
 induction h with
 |zero=>intro c' home' h;cases h<;>grind
 |succ h n ih=>
  intro c' home' h';cases h' with
  |succ h2 n2=>obtain⟨rfl,rfl⟩:=ih h2;obtain rfl:=n.xi n2;simp
def yG.back{c0:List CX}{m:Nat}{c:List CX}{home:List Bool}(h:yG c0 m c home):∀j,j<m->∃c' home' k,yG c0 j c' home'/\EL c' home' k:=by
 induction h with
 |zero=>omega
 |succ h n ih=>intro j a;rcases anz.mp a with b|b<;>grind
def Jf(c0:List CX)(b:Bool):Prop:=∃m c home,yG c0 m c home/\((b=true/\∀x∈home,x=true)\/(b=false/\false∈home/\∀k,¬EL c home k))
theorem Jf.xi{c0:List CX}{a b:Bool}(h1:Jf c0 a)(h2:Jf c0 b):a=b:=by
 obtain⟨m,c,home,f,h1⟩:=h1;obtain⟨m',c',g,d,h2⟩:=h2;have no:∀{c:List CX} {home:List Bool} {k:Nat},(∀x∈home,x=true)->¬EL c home k:=by intro c home k h n;have:=h false (alc n.1);cases this
 rcases anE m m' with h|h|h
 ·obtain⟨j,e,k,i,l⟩:=d.back m h;obtain⟨rfl,rfl⟩:=f.xi i;grind
 ·subst h;obtain⟨rfl,rfl⟩:=f.xi d;grind
 ·obtain⟨j,e,k,i,l⟩:=f.back m' h;obtain⟨rfl,rfl⟩:=d.xi i;grind
theorem yG.len{c0:List CX}{m:Nat}{c:List CX}{home:List Bool}(h:yG c0 m c home):c.length=c0.length/\home.length=c0.length:=by induction h<;>grind
def Xc(l:List rj):Prop:=∀c∈l,∀x∈c.at_.l,0<=x/\x<40
def NoX(c:List CX)(home:List Bool)(n:Int):Prop:=∀j:Nat,(j:Int)<n->¬(home[j]?=some false/\JN c j)
section
variable {c:List CX}{home:List Bool}{n z a b:Int}{x:Bool}{l:List rj}{y:rj}{c0:List CX}{k m:Nat}
theorem yG.go(h:yG c0 k (l.map zj) home)(hno:NoX (l.map zj) home n)(h0:0<=n){hk:n.toNat<home.length}(hq:home[n.toNat]=x)(hx:x=false)(hc:JN (l.map zj) n.toNat)(hy:zj y=([],[]):=by rfl):yG c0 (k+1) ((l.set n.toNat y).map zj) (home.set n.toNat true):=by rw[List.map_set,hy];refine h.succ ⟨by grind,hc,λj a=>hno j (by omega)⟩
theorem Xc.set(h:Xc l)(hy:y.at_.l=[]:=by rfl):Xc (l.set k y):=by
 intro d b x c;rcases anU b with a|a
 ·exact h d a x c
 grind
def KW:∀{home:List Bool},home.count true<home.length->false∈home
 |[],h=>by simp at h
 |true::l,h=>by simp at h;exact anp _ (KW h)
 |false::l,_=>by simp
def afY(h:yG c0 k c home)(hc:home.count true=k)(hk:k<home.length)(hno:NoX c home n)(hn:(home.length:Int)<=n):Jf c0 false:=by refine⟨k,c,home,h,.inr ⟨rfl,KW (by omega),λj a=>?_⟩⟩;obtain⟨b,_⟩:=alt.mp a.1;exact hno j (by omega) ⟨a.1,a.2.1⟩
end
def NV(n:Nat)(o:List Int):List Bool:=(List.range n).map λj:Nat=>decide ((j:Int)∈o)
theorem QM{n j:Nat}{o:List Int}(h:j<n):(NV n o)[j]?=some (decide ((j:Int)∈o)):=by simp[NV,h]
def yG.count{c0:List CX}{m:Nat}{c:List CX}{home:List Bool}(h:yG c0 m c home):home.count true=m:=by
 induction h with
 |zero=>grind
 |succ h n ih=>obtain⟨a,b⟩:=alt.mp n.1;grind
def xP(l0:List rj)(o0:List Int)(n:Nat)(b:Bool)(l:List rj)(o:List Int)(k:Nat):Prop :=
 (b=false->l=l0/\o=o0/\NoX (l0.map zj) (NV n o0) k)/\(b=true->∃j:Nat,EL (l0.map zj) (NV n o0) j/\l.map zj=(l0.map zj).set j ([],[])/\o=o0++[(j:Int)])
section
variable {l0 l:List rj}{o0 o:List Int}{n k m:Nat}{b:Bool}{c0:List CX}
def xP.zero:xP l0 o0 n false l0 o0 0:=⟨λ_=>⟨rfl,rfl,λj a=>absurd a (by omega)⟩,λh=>by cases h⟩
def xP.qK{s:List Int}(h:xP l0 o0 n b l o k)(hb:b=false)(hs:s=o)(hi:(k:Int)∈s)(hk:k<n):xP l0 o0 n b l o (k+1):=by
 subst hb;replace hb:false=false:=rfl;obtain⟨a,c,d⟩:=h.1 hb;refine⟨λ_=>⟨a,c,λj f=>?_⟩,λh=>by cases h⟩;by_cases e:j<k;·exact d j (by omega)
 grind[QM]
def xP.no{s:mB rj}(h:xP l0 o0 n b l o k)(hb:b=false)(hs:s.l=l)(hc:¬JN (s.l.map zj) k):xP l0 o0 n b l o (k+1):=by
 subst hb;replace hb:false=false:=rfl;obtain⟨a,c,d⟩:=h.1 hb;refine⟨λ_=>⟨a,c,λj f=>?_⟩,λh=>by cases h⟩;by_cases e:j<k;·exact d j (by omega)
 grind
def xP.yes{t:List Int}{s:mB rj}{y:rj}(h:xP l0 o0 n b l o k)(hb:b=false)(ht:t=o)(hi:(k:Int)∉t)(hs:s.l=l)(hc:JN (s.l.map zj) k)(hk:k<n)(hy:zj y=([],[]):=by rfl):xP l0 o0 n true (l.set k y) (o++[(k:Int)]) (k+1):=by obtain⟨a,c,d⟩:=h.1 hb;subst a c;refine⟨λh=>(by cases h),λ_=>⟨k,⟨by grind[QM],by grind,λj e=>d j (by omega)⟩,by simp_all,rfl⟩⟩
theorem xP.len(h:xP l0 o0 n b l o k)(hb:b=true):o.length=o0.length+1:=by obtain⟨j,_,_,a⟩:=h.2 hb;grind
def xP.stuck(h:xP l0 o0 n b l o k)(hb:b=false)(hr:yG c0 o0.length (l0.map zj) (NV n o0))(hn:n<=k)(hm:o0.length<n):Jf c0 false:=by
 obtain⟨c,d,a⟩:=h.1 hb;have e:(NV n o0).length=n:=by simp[NV]
 exact afY hr hr.count (by omega) a (by omega)
end
section
variable {d e:cB}{L M:List lv}{p:be}{run leg:Int}
end
section
variable {p:be}{L M:List lv}{d f:cB}{e w:Int}{l m:List rj}{k:Nat}{b:Bool}
end
def Uw{p:be}(h:RO p)(e:Int)(hk:mY p e=4):tA p e=0:=by
 unfold mY at hk;unfold tA;by_cases a:e<0;·simp[a]
 ·rw[if_neg a]at hk ⊢;cases b:p.elems.l[e.toNat]? with
  |none=>rfl
  |some x=>rw[b]at hk;obtain⟨c,d⟩:=alt.mp b;exact(h x (d▸adc c)).2 hk
open Go Go.Proofs Go.RowKit Go.Maps Go.Sort
def Ie:List AV->Option Int
 |[v]=>Cw v
 |_=>none
def wN:List (List AV)->Option (List Int)
 |[]=>some []
 |c::l=>match Ie c with
  |some n=>match wN l with
   |some ks=>some (n::ks)
   |none=>none
  |none=>none
def putAt(xs:List (List AV))(o l:Nat)(ys:List (List AV)):List (List AV):=xs.take o++ys++xs.drop (o+l)
def so(l:List Int):List (List AV):=l.map λn=>[.int .i64 n]
def vW(shd:Bool)(args:List AV)(h:aT):R2:=match args with
 |[.sl [] _]=>some (.mw [],h)
 |[.hs b g o l]=>match l with
  |0=>some (.mw [],h)
  |k+1=>match shd with
   |false=>none
   |true=>match h.get b with
    |some (.lU g' z xs)=>match Nat.beq g g'&&(Nat.beq z 1&&(Nat.ble (o+(k+1)) xs.length&&Nat.ble (k+1) 1000000))with
     |true=>match wN ((xs.drop o).take (k+1))with
      |some ks=>some (.mw [],h.set b (.lU g' z (putAt xs o (k+1) (so (nz ks)))))
      |none=>none
     |false=>none
    |_=>none
 |_=>none
theorem Rs{c:List AV}{n:Int}(h:Ie c=some n):c=[.int .i64 n]:=by unfold Ie at h;grind[Cj]
theorem DH:∀{l:List (List AV)} {ks:List Int},wN l=some ks->l=so ks
 |[],ks,h=>by simp only[wN,Option.some.injEq]at h;subst h;rfl
 |c::l,ks,h=>by
  unfold wN at h;split at h
  ·rename_i n a;split at h;·rename_i b d;simp only[Option.some.injEq]at h;subst h;rw[Rs a,DH d];rfl
   ·cases h
  ·cases h
theorem Co{xs ys:List (List AV)}{o l i:Nat}(hy:ys.length=l)(hl:o+l<=xs.length):(putAt xs o l ys)[i]?=if o<=i/\i<o+l then ys[i - o]? else xs[i]?:=by unfold putAt;rw[List.append_assoc,List.getElem?_append];grind
theorem K7{xs ys:List (List AV)}{o l:Nat}(hy:ys.length=l)(hl:o+l<=xs.length):(putAt xs o l ys).length=xs.length:=by grind[putAt]
def NO{G:Ga}(hW:WR G){b g z:Nat}{xs xs':List (List AV)}{L:Loc}(hp:G.pi b=some L)(hget:G.h.get b=some (.lU g z xs)){w1 w':World}{c':Array Value}{e:TypeId}
  (hP:wF G.w w1 L.B (.cells c' e (0,0))) (hb:Below w1.heap.size w1 w') (hblk:∀G',Ext G G'->G'.w.heap[L.B]?=some (.cells c' e (0,0))->tc G' L z xs') :
  ∃T',Step G ⟨w',T',G.h.set b (.lU g z xs'),G.pi,G.L⟩/\WR ⟨w',T',G.h.set b (.lU g z xs'),G.pi,G.L⟩:=by
 obtain⟨a,W1⟩:=A1 (ob:=.lU g z xs') hW hp hP (.inl ⟨g,z,xs,xs',hget,rfl⟩) (by grind) (by simp);obtain⟨c,W2⟩:=IM W1 hb (λ_ _=>False) (λ_ _ h=>h.elim);exact⟨_,a.trans c,W2⟩
theorem E4{G:Ga}{n:Int}{v:Value}(h:VC G (.int .i64 n) v):v=.int .i64 n:=by
 cases h.vr with
 |mR _ hp=>cases hp;rfl
def KM{G:Ga}(hW:WR G){b g o l:Nat}{xs:List (List AV)}(hget:G.h.get b=some (.lU g 1 xs))(hle:o+l<=xs.length){ks:List Int}(hks:wN ((xs.drop o).take l)=some ks){L:Loc}(hp:G.pi b=some L) :
  ks.length=l/\Holds (Value.int .i64) G.w L.B (L.base+o*1) ks.toArray:=by
 obtain⟨c,e,t,m,q,u,r⟩:=hW.lU b L g 1 xs hp hget;have a:=DH hks;have d:ks.length=l:=by have:=congrArg List.length a;grind[so]
 have f:∀(i:Nat) (n:Int),ks[i]?=some n->xs[o+i]?=some [.int .i64 n]:=by
  intro i n p;have x:i<l:=by grind
  have y:((xs.drop o).take l)[i]?=(so ks)[i]?:=by rw[a]
  grind[so]
 have k:∀(i:Nat) (n:Int),ks[i]?=some n->c[L.base+o*1+i]?=some (.int .i64 n):=by intro i n p;obtain⟨v,z,_,s⟩:=r (o+i) _ 0 _ (f i n p) rfl;grind[E4]
 refine⟨d,λj A=>?_⟩;grind[World.cell?,World.frozen?]
def P1{G:Ga}(hW:WR G){b g o l:Nat}{xs:List (List AV)}(hget:G.h.get b=some (.lU g 1 xs))(hle:o+l<=xs.length){L:Loc}(hp:G.pi b=some L)(ys:List Int)(yX:ys.length=l)(n:Nat)(os:Array Obj) :
  ∃T',Step G ⟨grow (putRow (Value.int .i64) (Sort.ahead G.w n) L.B (L.base+o*1) ys.toArray) os,T',G.h.set b (.lU g 1 (putAt xs o l (so ys))),G.pi,G.L⟩ /\
   WR ⟨grow (putRow (Value.int .i64) (Sort.ahead G.w n) L.B (L.base+o*1) ys.toArray) os,T',G.h.set b (.lU g 1 (putAt xs o l (so ys))),G.pi,G.L⟩:=by
 obtain⟨c,e,y,s,z,A,C⟩:=hW.lU b L g 1 xs hp hget;have d:(so ys).length=l:=by simp[so,yX]
 have D:wF G.w (putRow (Value.int .i64) (Sort.ahead G.w n) L.B (L.base+o*1) ys.toArray) L.B (.cells (putCells (Value.int .i64) (L.base+o*1) ys.toArray c) e (0,0)):=by
  refine⟨?_,λk f=>?_,by simp,rfl,rfl,⟨rfl,λh=>False.elim h⟩⟩;·simp[putRow,mapBlock,Array.getElem?_modify,y,onCells]
  ·simp[putRow,mapBlock,Array.getElem?_modify,Ne.symm f]
 have p:Below (putRow (Value.int .i64) (Sort.ahead G.w n) L.B (L.base+o*1) ys.toArray).heap.size (putRow (Value.int .i64) (Sort.ahead G.w n) L.B (L.base+o*1) ys.toArray) (grow (putRow (Value.int .i64) (Sort.ahead G.w n) L.B (L.base+o*1) ys.toArray) os) :=
  ⟨rfl,rfl,rfl,by simp,λk f=>heap_grow_old _ _ f⟩
 refine NO (xs':=putAt xs o l (so ys)) hW hp hget D p ?_;intro G' E F;refine⟨_,_,F,by grind[K7],by grind[putCells],?_,?_⟩;·grind[Co,so]
 ·intro i t j x h a;rw[Co d hle]at h;split at h
  ·rename_i H;simp only[so,List.getElem?_map,Option.map_eq_some_iff]at h;obtain⟨m,M,rfl⟩:=h;cases j with
   |succ j=>cases a
   |zero=>(simp only[List.getElem?_cons_zero,Option.some.injEq]at a;subst a;have u:L.base+i*1+0<c.size:=by omega);refine⟨.int .i64 m,?_,rfl,⟨.mR rfl (.int _ _ _),rfl⟩⟩;grind[putCells]
  ·rename_i H;have J:=A i t h;have q:j=0:=by grind
   subst q;obtain⟨v,N,K,r⟩:=C i t 0 x h a;refine⟨v,?_,K,r.mono E⟩;grind[putCells]
def UM{P:Program}{f:Nat}
  (h1:∀(lU off cap:Nat) (zs:List Int) (w:World),Holds (Value.int .i64) w lU off zs.toArray->lU<w.heap.size->zs.length<4611686018427387904 ->
    Calls P f #[.slice (some ⟨lU,off,none⟩) zs.length cap] w λe w'=>e=.returned (.tuple #[])/\∃n os,w'=grow (putRow (Value.int .i64) (Sort.ahead w n) lU off (zs.mergeSort λx y=>decide (x<=y)).toArray) os)
  {G:Ga} (hW:WR G) {b g o l:Nat} {xs:List (List AV)} (hget:G.h.get b=some (.lU g 1 xs)) (hle:o+l<=xs.length) (hl:l<=1000000) {ks:List Int} (hks:wN ((xs.drop o).take l)=some ks) {L:Loc} (hp:G.pi b=some L) {cap':Nat}
  {R:Ending->World->Prop} (hR:∀G',Step G G'->WR G'->G'.h=G.h.set b (.lU g 1 (putAt xs o l (so (nz ks))))->R (.returned (.tuple #[])) G'.w) :
  Calls P f #[.slice (some ⟨L.B,L.base+o*1,none⟩) l cap'] G.w R:=by
 obtain⟨a,i⟩:=KM hW hget hle hks hp;have c:L.B<G.w.heap.size:=(hW.oW b L hp).1;rw[<- a];refine(h1 L.B (L.base+o*1) cap' ks G.w i c (by omega)).mono ?_;rintro e' w' ⟨rfl,n,os,rfl⟩;have d:(ks.mergeSort λx y=>decide (x<=y))=nz ks:=KK (.refl _);have j:(nz ks).length=l:=by rw[(rh ks).length_eq,a]
 rw[d];obtain⟨T',S1,W1⟩:=P1 hW hget hle hp (nz ks) j n os;grind
def AM(ks:List Int):List Int:=Lib.compact ks++List.replicate (ks.length - (Lib.compact ks).length) 0
theorem TQ(ks:List Int):(AM ks).length=ks.length:=by grind[Lib.compact_length_le,AM]
def Ss{P:Program}{f:Nat}
  (h1:∀(lU off cap:Nat) (zs:List Int) (w:World),Holds (Value.int .i64) w lU off zs.toArray->zs.length<=9223372036854775807->zs.length<=cap ->
    Calls P f #[.slice (some ⟨lU,off,none⟩) zs.length cap] w λe w'=>e=.returned (.slice (some ⟨lU,off,none⟩) (Lib.compact zs).length cap)/\∃q,w'=putRow (Value.int .i64) (Sort.ahead w q) lU off (Lib.compact zs++List.replicate (zs.length - (Lib.compact zs).length) 0).toArray)
  {G:Ga} (hW:WR G) {b g o l:Nat} {xs:List (List AV)} (hget:G.h.get b=some (.lU g 1 xs)) (hle:o+l<=xs.length) (hl:l<=1000000) {ks:List Int} (hks:wN ((xs.drop o).take l)=some ks) {L:Loc} (hp:G.pi b=some L) {cap':Nat} (hcl:l<=cap')
  {R:Ending->World->Prop} (hR:∀G',Step G G'->WR G'->G'.pi=G.pi->G'.h=G.h.set b (.lU g 1 (putAt xs o l (so (AM ks))))->R (.returned (.slice (some ⟨L.B,L.base+o*1,none⟩) (Lib.compact ks).length cap')) G'.w) :
  Calls P f #[.slice (some ⟨L.B,L.base+o*1,none⟩) l cap'] G.w R:=by
 obtain⟨a,c⟩:=KM hW hget hle hks hp;rw[<- a];refine(h1 L.B (L.base+o*1) cap' ks G.w c (by omega) (by omega)).mono ?_;rintro e' w' ⟨rfl,n,rfl⟩;obtain⟨T',S1,W1⟩:=P1 hW hget hle hp (AM ks) (by rw[TQ,a]) n #[];rw[grow_empty]at S1 W1;exact hR _ S1 W1 rfl rfl
def vN(shd:Bool)(args:List AV)(h:aT):R2:=match args with
 |[.sl [] c]=>some (.sl [] c,h)
 |[.hs b g o l]=>match l with
  |0=>some (.hs b g o 0,h)
  |k+1=>match shd with
   |false=>none
   |true=>match h.get b with
    |some (.lU g' z xs)=>match Nat.beq g g'&&(Nat.beq z 1&&(Nat.ble (o+(k+1)) xs.length&&Nat.ble (k+1) 1000000))with
     |true=>match wN ((xs.drop o).take (k+1))with
      |some ks=>some (.hs b g o (Lib.compact ks).length,h.set b (.lU g' z (putAt xs o (k+1) (so (AM ks)))))
      |none=>none
     |false=>none
    |_=>none
 |_=>none
def Ma:∀(args:List AV)(h:aT) (v:AV) (h':aT),vN false args h=some (v,h')->h'=h/\∀h2:aT,(∀b o,h.get b=some o->h2.get b=some o)->vN false args h2=some (v,h2):=by
 intro args h v h' a;unfold vN at a;split at a;·cases a;exact⟨rfl,λ_ _=>rfl⟩
 ·split at a;·cases a;exact⟨rfl,λ_ _=>rfl⟩
  grind
 grind
theorem OW {P : Program} {f : Nat} (hex : ∃ fn, P.funcs[f]? = some fn ∧ fn.body.isNone = false ∧ (fn.name == "runtime.NumGoroutine") = false)
  (h1:∀(lU off cap:Nat) (zs:List Int) (w:World),Holds (Value.int .i64) w lU off zs.toArray->zs.length<=9223372036854775807->zs.length<=cap ->
    Calls P f #[.slice (some ⟨lU,off,none⟩) zs.length cap] w λe w'=>e=.returned (.slice (some ⟨lU,off,none⟩) (Lib.compact zs).length cap)/\∃q,w'=putRow (Value.int .i64) (Sort.ahead w q) lU off (Lib.compact zs++List.replicate (zs.length - (Lib.compact zs).length) 0).toArray)
  (h0:∀(p:Option Addr) (cap:Nat) (w:World),Calls P f #[.slice p 0 cap] w λe w'=>e=.returned (.slice p 0 cap)/\w'=w):qD P f vN where
 call:=by
  intro J r h v h' c G d K M Z A D N;refine⟨hex,?_⟩;intro R B;subst K
  have one:∀x:AV,r=[x]->∃y,d = #[y]/\VC G x y:=by
   rintro x rfl;cases d with|mk l=>
   cases l with
   |nil=>simp at D
   |cons y l=>
    cases l with
    |nil=>exact⟨y,rfl,N 0 x y rfl rfl⟩
    |cons _ _=>simp at D
  unfold vN at c;split at c
  ·obtain⟨y,rfl,C⟩:=one _ rfl;cases c;have s:=C.vr;cases s with
   |mR hi u=>(have n:∃p cap,y=.slice p 0 cap:=by cases u<;>exact⟨_,_,rfl⟩);obtain⟨p,cap,rfl⟩:=n;refine(h0 _ _ G.w).mono ?_;rintro e w' ⟨rfl,rfl⟩;exact B _ _ (Step.refl G) A (λm=>rfl) (λm L=>VR.nB (.mR hi u) rfl)
  ·obtain⟨y,rfl,C⟩:=one _ rfl;rename_i b g o l;have s:=C.vr;split at c
   ·cases c
    have n:∃p cap,y=.slice p 0 cap:=by
     cases s with
     |mR hi _=>cases hi
     |hs=>simp
    obtain⟨p,cap,rfl⟩:=n;refine(h0 _ _ G.w).mono ?_;rintro e w' ⟨rfl,rfl⟩;exact B _ _ (Step.refl G) A (λm=>rfl) (λm L=>VR.nB s rfl)
   ·rename_i k;split at c;·cases c
    ·split at c
     ·rename_i g' z xs i;split at c
      ·rename_i E;simp only[Bool.and_eq_true,Nat.ble_eq]at E;obtain⟨O,Q,T,U⟩:=E;obtain rfl:=acl O;obtain rfl:=acl Q;split at c
       ·rename_i F t;cases c;have j:=(DH t);have j:F.length=k+1:=by have:=congrArg List.length j;grind[so]
        have V:=Lib.compact_length_le F;cases s with
        |mR hi _=>cases hi
        |hs _ _ _ _ a cap' hb hg hle hh=>
        obtain⟨L,u,H,X⟩:=hh _ _ i;rw[X (by omega)];refine Ss h1 A i T U t u hle (λG' S W Y e=>B _ _ S W (λm=>by rw[e]) (λm L0=>VR.nB ?_ rfl));refine .hs b g o _ _ cap' (by rw[e];simpa using hb) ?_ (by omega) ?_<;>grind[aT.pa,aT.qZ]
       grind
      grind
     grind
  grind
 BQ:=Ma
def Oy:∀(args:List AV)(h:aT) (v:AV) (h':aT),vW false args h=some (v,h')->h'=h/\∀h2:aT,(∀b o,h.get b=some o->h2.get b=some o)->vW false args h2=some (v,h2):=by
 intro args h v h' a;unfold vW at a;split at a;·cases a;exact⟨rfl,λ_ _=>rfl⟩
 ·split at a;·cases a;exact⟨rfl,λ_ _=>rfl⟩
  grind
 grind
theorem Pa {P : Program} {f : Nat} (hex : ∃ fn, P.funcs[f]? = some fn ∧ fn.body.isNone = false ∧ (fn.name == "runtime.NumGoroutine") = false)
  (h1:∀(lU off cap:Nat) (zs:List Int) (w:World),Holds (Value.int .i64) w lU off zs.toArray->lU<w.heap.size->zs.length<4611686018427387904 ->
    Calls P f #[.slice (some ⟨lU,off,none⟩) zs.length cap] w λe w'=>e=.returned (.tuple #[])/\∃n os,w'=grow (putRow (Value.int .i64) (Sort.ahead w n) lU off (zs.mergeSort λx y=>decide (x<=y)).toArray) os)
  (h0:∀(p:Option Addr) (cap:Nat) (w:World),Calls P f #[.slice p 0 cap] w λe w'=>e=.returned (.tuple #[])/\w'=w):qD P f vW where
 call:=by
  intro F j h v h' c G d H J U q C K;refine⟨hex,?_⟩;intro R r;subst H
  have one:∀x:AV,j=[x]->∃y,d = #[y]/\VC G x y:=by
   rintro x rfl;cases d with|mk l=>
   cases l with
   |nil=>simp at C
   |cons y l=>
    cases l with
    |nil=>exact⟨y,rfl,K 0 x y rfl rfl⟩
    |cons _ _=>simp at C
  unfold vW at c;split at c
  ·obtain⟨y,rfl,s⟩:=one _ rfl;cases c;have t:=s.vr;cases t with
   |mR _ u=>(have A:∃p cap,y=.slice p 0 cap:=by cases u<;>exact⟨_,_,rfl⟩);obtain⟨p,cap,rfl⟩:=A;refine(h0 _ _ G.w).mono ?_;rintro e w' ⟨rfl,rfl⟩;exact r _ _ (Step.refl G) q (λm=>rfl) (λm L=>.mw [] #[] rfl (by simp))
  ·obtain⟨y,rfl,s⟩:=one _ rfl;rename_i b g o l;have t:=s.vr;cases t with
   |mR hi _=>cases hi
   |hs _ _ _ _ a cap' hb hg hle hh=>
   split at c;·cases c;refine(h0 _ _ G.w).mono ?_;rintro e w' ⟨rfl,rfl⟩;exact r _ _ (Step.refl G) q (λm=>rfl) (λm L=>.mw [] #[] rfl (by simp))
   ·rename_i k;split at c;·cases c
    ·split at c
     ·rename_i g' z V i;split at c
      ·rename_i D;simp only[Bool.and_eq_true,Nat.ble_eq]at D;obtain⟨M,N,O,Q⟩:=D;obtain rfl:=acl M;obtain rfl:=acl N;split at c;·rename_i X B;cases c;obtain⟨L,u,E,T⟩:=hh _ _ i;rw[T (by omega)];exact UM h1 q i O Q B u (λG' S W e=>r _ _ S W (λm=>by rw[e]) (λm L=>.mw [] #[] rfl (by simp)))
       grind
      grind
     grind
  grind
 BQ:=Oy
end Go.Sx
namespace Go.Sx
open Go Go.Proofs
theorem HJ:∀{l:List Int},(∀x∈l,pg x)->wN (l.map mD)=some l
 |[],_=>rfl
 |x::l,h=>by
  have a:Ie (mD x)=some x:=by have:=h x (by simp);simp only[Ie,mD,Cw];exact if_pos (by unfold pg at this;omega)
  simp only[List.map_cons,wN,a,HJ (λy b=>h y (List.mem_cons_of_mem _ b))]
def Wt{C:nu}{F0:oP}{Pr:om}{f:Nat}(hp:Pr f=some vW){H:aT}{t:Bool}{v:AV}{l:List Int}{F:List mZ}(hS:Sep H (.sl true t v 1 (l.map mD)::F))(q1:l.length<=1000000)(q2:∀x∈l,pg x) :
  ∃u H',lZ C F0 Pr true f [v] { H with ca:=[] } u H'/\u=.mw []/\Sep H' (.sl true t v 1 ((nz l).map mD)::F):=by
 have A:(nz l).length=l.length:=(rh l).length_eq;have a:∀(H':aT),vW true [v] { H with ca:=[] }=some (.mw [],H')->lZ C F0 Pr true f [v] { H with ca:=[] } (.mw []) H':=by intro H' h;refine⟨1,λk q=>?_⟩;cases k<;>grind[qi]
 obtain⟨B,D⟩:=hS.at (i:=0) rfl;have nil:l=[]->vW true [v] { H with ca:=[] }=some (.mw [],{ H with ca:=[] })->∃u H',lZ C F0 Pr true f [v] { H with ca:=[] } u H'/\u=.mw []/\Sep H' (.sl true t v 1 ((nz l).map mD)::F):=by rintro rfl h;exact⟨_,_,a _ h,rfl,hS.ca _⟩
 rcases D with⟨d,rfl⟩|⟨d|d,rfl⟩|⟨b,g,j,J,rfl,r,n⟩
 ·exact nil (anx.mp d) rfl
 ·cases d
 ·have:=anx.mp d;subst this;exact nil rfl rfl
 ·cases s:l with
  |nil=>subst s;exact nil rfl rfl
  |cons x t'=>
   (have c:(l.map mD).length=t'.length+1:=by grind);have w:H.lo<=b:=aT.qZ r
   have E:vW true [.hs b g 0 (l.map mD).length] { H with ca:=[] }=some (.mw [],{ H.set b (.lU g 1 ((nz l).map mD++j))with ca:=[] }):=by
    rw[c];have q:wN (((l.map mD++j).drop 0).take (t'.length+1))=some l:=by grind[HJ]
    (have o:(Nat.ble (0+(t'.length+1)) (l.map mD++j).length&&Nat.ble (t'.length+1) 1000000)=true:=by simp_all);have e:putAt (l.map mD++j) 0 (t'.length+1) (so (nz l))=(nz l).map mD++j:=by unfold putAt;rw[Nat.zero_add,<- c,List.drop_left];rfl
    simp only[vW,aT.oR,r,Nat.beq_refl,Bool.true_and,o,q,e,aT.s7]
   rw[<- s];refine⟨_,_,a _ E,rfl,Sep.ca ?_ _⟩;refine(hS.rp (i:=0) rfl (r':=.sl true t (.hs b g 0 (l.map mD).length) 1 ((nz l).map mD)) (by simpa using hS.lo) (by simp) ⟨?_,.inr (.inr ⟨b,g,j,by simp_all,by simp[A],?_,n⟩)⟩ ?_ ?_);·intro z G;obtain⟨y,_,rfl⟩:=anj.mp G;rfl
   ·grind[aT.pa]
   ·intro b' m p;rw[aT.pa,if_neg (by rintro⟨rfl,_⟩;exact p rfl)]
   ·intro b' m;exact .inl m
def V5{C:nu}{F0:oP}{Pr:om}{f:Nat}(hp:Pr f=some vN){H:aT}{t:Bool}{v:AV}{l:List Int}{F:List mZ}(hS:Sep H (.sl true t v 1 (l.map mD)::F))(q1:l.length<=1000000)(q2:∀x∈l,pg x) :
  ∃u H',lZ C F0 Pr true f [v] { H with ca:=[] } u H'/\Sep H' (.sl true false u 1 ((Lib.compact l).map mD)::F):=by
 have A:=Lib.compact_length_le l;have a:∀(u:AV) (H':aT),vN true [v] { H with ca:=[] }=some (u,H')->lZ C F0 Pr true f [v] { H with ca:=[] } u H':=by intro u H' h;refine⟨1,λk q=>?_⟩;cases k<;>grind[qi]
 have n:Sep H (.sl true false v 1 (l.map mD)::F):=hS.zq (i:=0) rfl;obtain⟨B,D⟩:=hS.at (i:=0) rfl;have nil:l=[]->vN true [v] { H with ca:=[] }=some (v,{ H with ca:=[] })->∃u H',lZ C F0 Pr true f [v] { H with ca:=[] } u H'/\Sep H' (.sl true false u 1 ((Lib.compact l).map mD)::F):=by rintro rfl h;exact⟨_,_,a _ _ h,n.ca _⟩
 rcases D with⟨d,rfl⟩|⟨d|d,rfl⟩|⟨b,g,j,K,rfl,r,E⟩
 ·exact nil (anx.mp d) rfl
 ·cases d
 ·have:=anx.mp d;subst this;exact nil rfl rfl
 ·cases s:l with
  |nil=>subst s;exact nil rfl rfl
  |cons x t'=>
   (have c:(l.map mD).length=t'.length+1:=by grind);have w:H.lo<=b:=aT.qZ r
   have G:vN true [.hs b g 0 (l.map mD).length] { H with ca:=[] }=some (.hs b g 0 (Lib.compact l).length,{ H.set b (.lU g 1 ((AM l).map mD++j))with ca:=[] }):=by
    rw[c];have q:wN (((l.map mD++j).drop 0).take (t'.length+1))=some l:=by grind[HJ]
    (have o:(Nat.ble (0+(t'.length+1)) (l.map mD++j).length&&Nat.ble (t'.length+1) 1000000)=true:=by simp_all);have e:putAt (l.map mD++j) 0 (t'.length+1) (so (AM l))=(AM l).map mD++j:=by unfold putAt;rw[Nat.zero_add,<- c,List.drop_left];rfl
    simp only[vN,aT.oR,r,Nat.beq_refl,Bool.true_and,o,q,e,aT.s7]
   rw[<- s];refine⟨_,_,a _ _ G,Sep.ca ?_ _⟩;refine(hS.rp (i:=0) rfl (r':=.sl true false (.hs b g 0 (Lib.compact l).length) 1 ((Lib.compact l).map mD)) (by simpa using hS.lo) (by simp) ⟨?_,.inr (.inr ⟨b,g,(List.replicate (l.length - (Lib.compact l).length) 0).map mD++j,by simp_all,by simp,?_,λh=>by cases h⟩)⟩ ?_ ?_);·intro z J;obtain⟨y,_,rfl⟩:=anj.mp J;rfl
   ·grind[aT.pa,AM]
   ·intro b' m p;rw[aT.pa,if_neg (by rintro⟨rfl,_⟩;exact p rfl)]
   ·intro b' m;exact .inl m
def aek{d:Array Int}(h:∀i j:Nat,i<=j->j<d.size->d[i]!<=d[j]!):∀m:Nat,m<=d.size->rO (Lib.compactUpTo d m)/\(∀x,x∈Lib.compactUpTo d m↔∃i,i<m/\(d[i]!)=x)
 |0,_=>⟨.nil,λx=>by simp[Lib.compactUpTo]⟩
 |m+1,hm=>by
  obtain⟨l,k⟩:=aek h m (by omega);rw[Lib.compactUpTo_succ];by_cases f:Lib.keeps d m=true
  ·rw[if_pos f];refine⟨?_,λx=>?_⟩
   ·refine anH.mpr ⟨l,by simp,λa o b n=>?_⟩;simp only[List.mem_singleton]at n;subst n;obtain⟨i,g,rfl⟩:=(k a).mp o;have r:=h i (m - 1) (by omega) (by omega);have s:=h (m - 1) m (by omega) (by omega)
    have t:d[m]!≠d[m - 1]!:=by
     (have:=of_decide_eq_true f;rcases this with rfl|h);·omega
     ·exact h
    omega
   ·simp only[List.mem_append,k,List.mem_singleton];constructor
    ·rintro(⟨i,g,rfl⟩|rfl);·exact⟨i,by omega,rfl⟩
     ·exact⟨m,by omega,rfl⟩
    ·rintro⟨i,g,rfl⟩;rcases ans i m with h|h
     ·exact .inl ⟨i,h,rfl⟩
     ·exact .inr (by rw[show i=m from by omega])
  ·rw[if_neg f,List.append_nil];refine⟨l,λx=>(k x).trans ⟨λ⟨i,g,e⟩=>⟨i,by omega,e⟩,?_⟩⟩;rintro⟨i,g,rfl⟩;rcases ans i m with h|h
   ·exact⟨i,h,rfl⟩
   ·(obtain rfl:i=m:=by omega);have p:¬(i=0\/d[i]!≠d[i - 1]!):=λq=>f (decide_eq_true q);exact⟨i - 1,by omega,by have:=λc=>p (.inr c);exact(Classical.byContradiction λc=>this (λe=>c e.symm))⟩
def OK{l:List Int}(h:l.Pairwise (·<=·)):rO (Lib.compact l)/\∀x,x∈Lib.compact l↔x∈l:=by
 have c:=anK.mp h
 obtain⟨e,f⟩:=aek (d:=l.toArray) (by
  intro i j g a;have a:j<l.length:=by simpa using a
  rw[getElem!_pos _ i (by simp;omega),getElem!_pos _ j (by simpa using a)];rcases ans i j with h|h
  ·simpa using c i j (by omega) a h
  ·obtain rfl:i=j:=by omega
   exact Int.le_refl _) l.length (by simp)
 refine⟨e,λx=>(f x).trans ?_⟩;constructor;·rintro⟨i,b,rfl⟩;rw[getElem!_pos _ i (by simpa using b)];simp
 ·intro k;obtain⟨i,b,rfl⟩:=ant.mp k;exact⟨i,b,by rw[getElem!_pos _ i (by simpa using b)];simp⟩
theorem Wy(l:List Int):rO (Lib.compact (nz l))/\∀x,x∈Lib.compact (nz l)↔x∈l:=by obtain⟨a,b⟩:=OK (xr l);exact⟨a,λx=>(b x).trans (rh l).mem_iff⟩
end Go.Sx
