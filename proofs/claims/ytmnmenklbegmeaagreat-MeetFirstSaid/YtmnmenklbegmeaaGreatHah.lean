/- Proves rules for the walks and their soundness. -/
import Derived.Test.YtmnmenklbegmeaaGreatHag
set_option linter.all false
set_option maxHeartbeats 0
namespace Go.Sx
open Go
def fi{α:Type}(f:Nat->Option α)(lo:Nat):Nat->Option α
 |0=>none
 |n+1=>match fi f lo n with
  |some x=>some x
  |none=>if lo<=n then f n else none
section
variable {α:Type}{f:Nat->Option α}{lo k n:Nat}{x : α}
def amI(h:n<=lo):fi f lo n=none:=by induction n<;>grind[fi]
def w8(h:fi f lo k=none)(h2:f k=none):fi f lo (k+1)=none:=by grind[fi]
def vQ(h:fi f lo k=none)(h2:n<=k):fi f lo n=none:=by induction k<;>grind[fi]
def xg(h:fi f lo k=none)(h2:f k=some x)(h0:lo<=k)(h1:k<n):fi f lo n=some x:=by induction n<;>grind[fi]
end
def Ik(C:Int->Prop)(w:Int):Prop:=C w/\∀v,C v->w<=v
open Classical in
noncomputable def yF(C:Int->Prop):Option Int:=if h:∃w,Ik C w then some h.choose else none
section
variable {C:Int->Prop}{w:Int}
def GG(h:Ik C w):yF C=some w:=by have a:∃w,Ik C w:=⟨w,h⟩;unfold yF;rw[dif_pos a];have b:=a.choose_spec;have c:=b.2 w h.1;have d:=h.2 _ b.1;grind
def PH(h:C w)(h2:∀v,C v->v=w):yF C=some w:=GG ⟨h,λv hv=>by grind⟩
def yb(h:∀w,¬C w):yF C=none:=by unfold yF;rw[dif_neg];rintro⟨w,a,_⟩;grind
def pY(C:Int->Prop)(f:Bool)(w:Int):Prop:=(f=true->Ik C w)/\(f=false->∀v,¬C v)
variable {f:Bool}{D:Int->Prop}{v:Int}
def ZM(h:∀v,¬C v):pY C false w:=⟨λh2=>(by cases h2),λ_=>h⟩
def Bk(h:pY C f w)(h2:∀v,C v↔D v):pY D f w:=by have:C=D:=funext λv=>propext (h2 v);grind
def QU(h:pY C f w)(hf:f=false\/v<w)(h2:∀u,D u↔C u\/u=v):pY D true v:=by
 refine⟨λ_=>⟨(h2 v).mpr (.inr rfl),λu a=>?_⟩,λh=>(by cases h)⟩;rcases(h2 u).mp a with a|rfl
 ·cases b:f with
  |false=>exact absurd a (h.2 b u)
  |true=>have:=(h.1 b).2 u a;grind
 ·omega
theorem Pp(h:pY C f w)(hf:f=true)(hw:¬v<w)(h2:∀u,D u↔C u\/u=v):pY D f w:=by
 subst hf;refine⟨λ_=>⟨(h2 w).mpr (.inl (h.1 rfl).1),λu a=>?_⟩,λh=>(by cases h)⟩;rcases(h2 u).mp a with a|rfl
 ·exact(h.1 rfl).2 u a
 ·omega
def Om(h:pY C f w)(hf:f=true):yF C=some w:=GG (h.1 hf)
def Nt(h:pY C f w)(hf:f=false):yF C=none:=yb (h.2 hf)
end
theorem EY(S:bY->Prop)(n:Nat):∃o,rL S (n:Int) 1 o:=by
 induction n with
 |zero=>exact⟨[],rL.zero⟩
 |succ n ih=>
  obtain⟨o,h⟩:=ih
  have b:∃o,rL S (n:Int) 2 o:=by
   by_cases a:S ⟨n,1⟩;·exact⟨_,h.yes (by omega) (by omega) (by omega) a⟩
   ·exact⟨_,h.no a⟩
  obtain⟨o,h⟩:=b
  have b:∃o,rL S (n:Int) 3 o:=by
   by_cases a:S ⟨n,2⟩;·exact⟨_,h.yes (by omega) (by omega) (by omega) a⟩
   ·exact⟨_,h.no a⟩
  obtain⟨o,h⟩:=b;exact⟨o,h.next rfl⟩
theorem rL.xi{S:bY->Prop}{e:Int}{o r:List bY}(h:rL S e 1 o)(h2:rL S e 1 r):o=r :=
 J0 Uz MJ h.1 h2.1 λx=>(h.2 x).trans (h2.2 x).symm
open Classical in
noncomputable def K8(S:bY->Prop)(n:Nat):List bY:=(EY S n).choose
def Ui{S:bY->Prop}{n:Nat}{o:List bY}(h:rL S (n:Int) 1 o):o=K8 S n:=h.xi (EY S n).choose_spec
def Sy[Inhabited bY][DecidableEq bY]{S:bY->Prop}{n:Nat}{l lo r:List bY}(hr:r=Lib.compact lo)(hl:FL l lo)(hS:∀x,x∈l↔S x)(hb:∀x,S x->0<=x.elem/\x.elem<(n:Int)/\1<=x.pos/\x.pos<=2):r=K8 S n :=
 (EY S n).choose_spec.eq hr hl hS hb
def ab0{S:bY->Prop}{n:Nat}{x:bY}:x∈K8 S n↔(S x/\0<=x.elem/\1<=x.pos/\x.pos<=2/\x.elem<(n:Int)):=by rw[K8,(EY S n).choose_spec.2 x];grind
noncomputable def rm(p:be)(L:List lv)(d:cB)(run:Int):List bY:=K8 (vV Br p L d run (sP d run)) p.elems.l.length
noncomputable def wA(n:ej)(L:List lv)(d:cB)(run:Int):List bY:=K8 (vV (yP n) n.p L d run (sP d run)) n.p.lines.l.length
structure mX where
 tg:ej
 roads:Row lv
 traces:Row mj
 uR:mB (Row bY)
 leads:mB (Row bY)
def mX.ay(x:mX):List AV:=[.ip (ej.ay x.tg) 0 false,x.roads.av lv.ay,x.traces.av mj.ay,x.uR.av (nI bY.ay),x.leads.av (nI bY.ay)]
structure oK where
 kind:Int
 a:Int
 b:Int
 tick:Int
 Gd:Int
def oK.ay(x:oK):List AV:=[iv x.kind,iv x.a,iv x.b,iv x.tick,iv x.Gd]
def wO(t:mj)(k:Int):Int:=(t.roads.l[k.toNat]?).getD (-1)
def sS(t:mj)(k:Int):List Int:=((t.nO.l[k.toNat]?).map Row.l).getD []
def rZ(L:List lv)(t:mj)(k:Int):Int:=if wO t k<0 then -1 else((L[(wO t k).toNat]?).map lv.from_).getD (-1)
def BT(p:be)(m:Nat)(len:Int)(t:mj)(i:Nat):Prop:=(∀b,t.dO.l[i]?=some b->yn p len b)/\(∀x,t.roads.l[i]?=some x->-1<=x/\x<(m:Int))/\(∀s,t.steps.l[i]?=some s->∀e∈s.l,qB p e)/\∀s,t.nO.l[i]?=some s->∀e∈s.l,qB p e
def LN(t:mj):Prop:=0<t.dO.l.length/\t.roads.l.length=t.dO.l.length/\t.steps.l.length=t.dO.l.length/\t.nO.l.length=t.dO.l.length
def xw(p:be)(m:Nat)(len:Int)(t:mj):Prop:=LN t/\∀i,i<t.dO.l.length->BT p m len t i
section
variable {p:be}{m:Nat}{len:Int}{t:mj}{k:Nat}{b:mM}{x:Int}{s z:Row Int}
def M3{h1:k<t.dO.l.length}(e1:t.dO.l[k]=b){h2:k<t.roads.l.length}(e2:t.roads.l[k]=x){h3:k<t.steps.l.length}(e3:t.steps.l[k]=s){h4:k<t.nO.l.length}(e4:t.nO.l[k]=z)
  (q1:yn p len b) (q2 : -1<=x) (q2':x<(m:Int)) (q3:∀e∈s.l,qB p e) (q4:∀e∈z.l,qB p e):BT p m len t k:=by
 refine⟨λb' h=>?_,λb' h=>?_,λb' h=>?_,λb' h=>?_⟩<;>grind
def Uf(h:∀i<k,BT p m len t i)(h2:BT p m len t k):∀i<k+1,BT p m len t i:=by grind
def TA(h0:LN t)(h:∀i<k,BT p m len t i)(hk:t.dO.l.length<=k):xw p m len t:=⟨h0,λi a=>h i (by omega)⟩
def Pl{h1:k<t.dO.l.length}(e1:t.dO.l[k]=b)(h:¬yn p len b):¬xw p m len t:=λg=>h ((g.2 k h1).1 b (by grind))
def Qk{h1:k<t.roads.l.length}(e1:t.roads.l[k]=x)(hk:k<t.dO.l.length)(h:x < -1\/x>=(m:Int)):¬xw p m len t:=λg=>by have:=(g.2 k hk).2.1 x (by grind);omega
def PW{h1:k<t.steps.l.length}(e1:t.steps.l[k]=s)(hk:k<t.dO.l.length)(h:∃e∈s.l,¬qB p e):¬xw p m len t:=λg=>by obtain⟨e,a,b⟩:=h;exact b ((g.2 k hk).2.2.1 s (by grind) e a)
def PY{h1:k<t.nO.l.length}(e1:t.nO.l[k]=s)(hk:k<t.dO.l.length)(h:∃e∈s.l,¬qB p e):¬xw p m len t:=λg=>by obtain⟨e,a,b⟩:=h;exact b ((g.2 k hk).2.2.2 s (by grind) e a)
def Pt(h:¬LN t):¬xw p m len t:=λg=>h g.1
def QL(h:t.dO.l.length=0\/¬t.roads.l.length=t.dO.l.length\/¬t.steps.l.length=t.dO.l.length\/¬t.nO.l.length=t.dO.l.length):¬LN t:=λg=>by obtain⟨a,b,c,d⟩:=g;omega
end
section
variable {p:be}{m:Nat}{len:Int}{t:mj}{b:mM}
def adk(h:yn p len b):CA p b:=by
 obtain⟨_,h|h|h⟩:=h
 ·obtain⟨_,_,c,_,d⟩:=h;have a:0<b.ei.l.length:=by omega
  exact Uj (x:=ur b.ei.l 0) (h0:=a) (th (h:=a) rfl).symm rfl d c
 ·exact SB h.2.2
 ·obtain⟨j,f,_⟩:=h;refine UR (λx a=>?_) (by omega);obtain⟨i,g,rfl⟩:=anB a;have k:=(f.2 i g).1;by_cases e:(b.ei.l[i]).elem<0\/(b.ei.l[i]).elem>=p.elems.l.length;·grind[K5]
  ·exact⟨by omega,by omega⟩
def aef(h:yn p len b)(hm:b.mode=1):b.ei.l.length=1:=by obtain⟨_,h|h|h⟩:=h<;>grind
structure DM(p:be)(m:Nat)(t:mj):Prop where
 ok:vR p t
 EE:∀s∈t.nO.l,∀e∈s.l,qB p e
 C0:∀x∈t.roads.l,-1<=x/\x<(m:Int)
 wt:∀b∈t.dO.l,b.mode=1->b.ei.l.length=1
def afV(h:xw p m len t):DM p m t:=by
 obtain⟨⟨e,f,g,j⟩,h⟩:=h;refine⟨⟨e,g,j,f,λb c=>?_,λs d=>?_⟩,λs d=>?_,λx k=>?_,λb c=>?_⟩;·obtain⟨i,a,rfl⟩:=anB c;exact adk ((h i (by omega)).1 _ (anr a))
 ·obtain⟨i,a,rfl⟩:=anB d;exact(h i (by omega)).2.2.1 _ (anr a)
 ·obtain⟨i,a,rfl⟩:=anB d;exact(h i (by omega)).2.2.2 _ (anr a)
 ·obtain⟨i,a,rfl⟩:=anB k;exact(h i (by omega)).2.1 _ (anr a)
 ·obtain⟨i,a,rfl⟩:=anB c;exact aef ((h i (by omega)).1 _ (anr a))
theorem adq{k y:Int}(h:vR p t)(hh:qu p t k y):qB p y:=by
 obtain⟨_,⟨b,a,z,c,rfl,_⟩|⟨b,a,z,c,rfl,_⟩|⟨_,s,a,c⟩⟩:=hh;·exact(h.GS b (alc a)).1 z c
 ·exact(h.GS b (alc a)).1 z c
 ·exact h.row s (alc a) y c
end
structure rB where
 p:be
 L:List lv
 lf:Int->Int
 wJ:List (List bY)
 lds:List (List bY)
 ts:List mj
def pW(T:mX):rB:=⟨T.tg.p,T.roads.l,p4 T.tg,T.uR.l.map Row.l,T.leads.l.map Row.l,T.traces.l⟩
noncomputable def nA(p:be)(L:List lv)(n:ej)(d:cB)(ts:List mj):rB:=⟨p,L,p4 n,(List.range d.runs.l.length).map λ(r:Nat)=>rm n.p L d r,(List.range d.runs.l.length).map λ(r:Nat)=>wA n L d r,ts⟩
def aag(E:rB)(ta tb:mj)(k w:Int):Prop:=w=rZ E.L tb k/\∃y,qG E.p.signals.l w=some y/\mY E.p y.elem=4/\∃b,ta.dO.l[(min (k - 1) ((ta.dO.l.length:Int) - 1)).toNat]?=some b/\b.mode=1/\(ur b.ei.l 0).elem=y.elem
def acC(E:rB)(ta tb:mj)(k w:Int):Prop:=0<=w/\w=rZ E.L ta k/\w=rZ E.L tb k
def LG(E:rB)(w:Int):Prop:=(∃l∈E.lds,(⟨w,1⟩:bY)∈l)/\∃l∈E.lds,(⟨w,2⟩:bY)∈l
def zv(E:rB)(ta tb:mj)(k w:Int):Prop:=0<=w/\(∃e,qu E.p ta k e/\E.lf e=w)/\(∃e,qu E.p tb k e/\E.lf e=w)/\LG E w
def vq(E:rB)(ta tb:mj)(k w:Int):Prop:=(qu E.p ta k w/\(qu E.p tb k w\/w∈sS tb k))\/(w∈sS ta k/\qu E.p tb k w)
def CI(E:rB)(kind:Int)(ta tb:mj)(k w:Int):Prop:=(kind=2/\aag E ta tb k w)\/(kind=3/\acC E ta tb k w)\/(kind=4/\zv E ta tb k w)\/(kind=5/\vq E ta tb k w)
section
variable {E:rB}{ta tb:mj}{k kd:Int}
theorem UK(h:kd=2):CI E kd ta tb k=aag E ta tb k:=by grind[CI]
theorem Nf(h:kd=3):CI E kd ta tb k=acC E ta tb k:=by grind[CI]
theorem Md(h:kd=4):CI E kd ta tb k=zv E ta tb k:=by grind[CI]
theorem NG(h:kd=5):CI E kd ta tb k=vq E ta tb k:=by grind[CI]
end
def OE(o:Option Int)(w:Int)(f:Bool):Prop:=o=if f=true then some w else none
def xQ(E:rB)(kd:Int)(ta tb:mj)(k w:Int)(f:Bool):Prop:=OE (yF (CI E kd ta tb k)) w f
open Classical in
noncomputable def Em(Wa Wb:List bY)(i:Nat):Option Int:=(Wa[i]?).bind λx=>if x.pos=2/\∃y∈Wb,y.elem=x.elem then some x.elem else none
noncomputable def NK(Wa Wb:List bY):Option Int:=fi (Em Wa Wb) 0 Wa.length
section
variable {Wa Wb:List bY}{k:Nat}{x:bY}
def aaj{h:k<Wa.length}(hq:Wa[k]=x)(h1:x.pos=2)(h2:∃y∈Wb,y.elem=x.elem):Em Wa Wb k=some x.elem:=by simp_all[Em]
def Sn{h:k<Wa.length}(hq:Wa[k]=x)(h1:¬x.pos=2\/∀y∈Wb,¬y.elem=x.elem):Em Wa Wb k=none:=by grind[Em]
end
noncomputable def Ds(E:rB)(a b:Nat):Option oK:=(E.wJ[a]?).bind λwa=>(E.wJ[b]?).bind λc=>if a=b then none else(NK wa c).map λw=>⟨1,a,b,0,w⟩
noncomputable def PA(E:rB)(a:Nat):Option oK:=fi (Ds E a) 0 E.wJ.length
noncomputable def PM(E:rB):Option oK:=fi (PA E) 0 E.wJ.length
def wR(ts:List mj):Nat:=ts.foldl (λm t=>max m t.dO.l.length) 0
noncomputable def MK(E:rB)(kind a b k:Nat):Option oK:=(E.ts[a]?).bind λta=>(E.ts[b]?).bind λtb=>(yF (CI E kind ta tb k)).map λw=>⟨kind,a,b,k,w⟩
noncomputable def MB(E:rB)(kind a b:Nat):Option oK:=fi (MK E kind a b) 1 (wR E.ts)
noncomputable def MA(E:rB)(kind a:Nat):Option oK:=fi (MB E kind a) (a+1) E.ts.length
noncomputable def MI(E:rB)(kind:Nat):Option oK:=fi (MA E kind) 0 E.ts.length
noncomputable def MS(E:rB):Option oK:=fi (MI E) 2 6
noncomputable def FM(E:rB):Option oK:=match PM E with
 |some m=>some m
 |none=>MS E
def OM(o:Option oK)(r:oK):Prop:=(o=some r/\¬r.kind=0)\/(o=none/\r=⟨0,0,0,0,0⟩)
theorem OM.xi{o:Option oK}{r s:oK}(h:OM o r)(h2:OM o s):r=s:=by rcases h with⟨h,_⟩|⟨h,h'⟩<;>rcases h2 with⟨h2,_⟩|⟨h2,a⟩<;>grind
section
variable {E:rB}{kind a b k:Nat}{ta tb:mj}{w:Int}{f:Bool}{kd ai bi ki:Int}{r:oK}
def alM{ha:a<E.ts.length}(qa:E.ts[a]=ta){hb:b<E.ts.length}(qb:E.ts[b]=tb)(h:xQ E kind ta tb k w true):MK E kind a b k=some ⟨kind,a,b,k,w⟩:=by unfold MK;rw[List.getElem?_eq_getElem ha,List.getElem?_eq_getElem hb,qa,qb,Option.bind_some,Option.bind_some,h];rfl
def amh{ha:a<E.ts.length}(qa:E.ts[a]=ta){hb:b<E.ts.length}(qb:E.ts[b]=tb)(h:xQ E kind ta tb k w false):MK E kind a b k=none:=by unfold MK;rw[List.getElem?_eq_getElem ha,List.getElem?_eq_getElem hb,qa,qb,Option.bind_some,Option.bind_some,h];rfl
def Xw{wa wb:List bY}{ha:a<E.wJ.length}(qa:E.wJ[a]=wa){hb:b<E.wJ.length}(qb:E.wJ[b]=wb)(h:¬a=b)(h2:OE (NK wa wb) w true):Ds E a b=some ⟨1,a,b,0,w⟩:=by unfold Ds;rw[List.getElem?_eq_getElem ha,List.getElem?_eq_getElem hb,qa,qb,Option.bind_some,Option.bind_some,if_neg h,h2];rfl
def Zo{wa wb:List bY}{ha:a<E.wJ.length}(qa:E.wJ[a]=wa){hb:b<E.wJ.length}(qb:E.wJ[b]=wb)(h2:a=b\/OE (NK wa wb) w false):Ds E a b=none:=by
 unfold Ds;rw[List.getElem?_eq_getElem ha,List.getElem?_eq_getElem hb,qa,qb,Option.bind_some,Option.bind_some];split;·rfl
 ·rcases h2 with h2|h2
  ·omega
  ·rw[h2];rfl
def SF{l:List mj}{t:mj}{m r:Int}(h:m=((wR (l.take k):Nat):Int)){hk:k<l.length}(hq:l[k]=t)(hr:r=max m (t.dO.l.length:Int)):r=((wR (l.take (k+1)):Nat):Int):=by rw[hr,h,List.take_add_one,List.getElem?_eq_getElem hk,hq];grind[wR]
def Js{l:List mj}{m:Int}(h:m=((wR (l.take k):Nat):Int))(hk:l.length<=k):m=((wR l:Nat):Int):=by rwa [anA hk]at h
def aeU(h:fi (PA E) 0 a=none)(h2:fi (Ds E a) 0 b=none)(h3:Ds E a b=some r)(ha:a<E.wJ.length)(hb:b<E.wJ.length)(hr:¬r.kind=0):OM (FM E) r:=by have:PM E=some r:=xg h (xg h2 h3 (by omega) hb) (by omega) ha;unfold FM;rw[this];exact .inl ⟨rfl,hr⟩
def TY(h:PM E=none)(h1:fi (MI E) 2 kind=none)(h2:fi (MA E kind) 0 a=none)(h3:fi (MB E kind a) (a+1) b=none)(h4:fi (MK E kind a b) 1 k=none)(h5:MK E kind a b k=some r)(hk:2<=kind)(hk2:kind<6)(ha:a<E.ts.length)(hb:b<E.ts.length)(hab:a+1<=b)(hk0:1<=k)(hkm:k<wR E.ts)(hr:¬r.kind=0):OM (FM E) r:=by have:MS E=some r:=xg h1 (xg h2 (xg h3 (xg h4 h5 hk0 hkm) hab hb) (by omega) ha) hk hk2;unfold FM;rw[h];exact .inl ⟨this,hr⟩
def QA(h:PM E=none)(h1:fi (MI E) 2 kind=none)(hk:6<=kind):OM (FM E) ⟨0,0,0,0,0⟩:=by unfold FM;rw[h];exact .inr ⟨vQ h1 hk,rfl⟩
theorem akX{o:Option oK}(h:OM o r)(hk:¬r.kind=0):o=some r:=by rcases h with⟨h,_⟩|⟨_,h⟩<;>grind
def aan{o:Option oK}(h:OM o r)(hk:r.kind=0):o=none:=by rcases h with⟨_,h⟩|⟨h,_⟩<;>grind
def aiG(h:OM (PM E) r)(hk:¬r.kind=0):OM (FM E) r:=by unfold FM;rw[akX h hk];exact .inl ⟨rfl,hk⟩
end
section
variable {L:List lv}{t:mj}{k x v:Int}{r:lv}{z:Row Int}
theorem Hj{h:k.toNat<t.roads.l.length}(hq:t.roads.l[k.toNat]=x):wO t k=x:=by grind[wO]
theorem Kx(h0:0<=k)(h:(t.roads.l.length:Int)<=k):wO t k = -1:=by grind[wO]
def On{h:k.toNat<t.nO.l.length}(hq:t.nO.l[k.toNat]=z):sS t k=z.l:=by grind[sS]
def KS(h0:0<=k)(h:(t.nO.l.length:Int)<=k):sS t k=[]:=by grind[sS]
def J9(h:wO t k<0):rZ L t k = -1:=by grind[rZ]
def QO(h:wO t k=x)(h0:¬x<0){hx:x.toNat<L.length}(hq:L[x.toNat]=r):rZ L t k=r.from_:=by grind[rZ]
end
def aff{p:be}{t:List cA}{k:Nat}{r1 r2 r3 r:List Int}(h1:r1=rk p (t.take k))(hk:t.length<=k)(h2:r2=nz r1)(h3:r3=Lib.compact r2)(hr:r=r3)(hl:t.length<=1):r=rk p t:=by
 obtain⟨a,b⟩:=Oj h1 hk h2 h3 hr;refine a.ext ?_ λx=>(b x).trans Ho.symm
 match t,hl with
 |[],_=>simp[rk,rO]
 |[x],_=>grind[rk,rO]
structure Av(T:mX):Prop where
 G3:pd T.tg.p
 Pj:T.tg.p.elems.l.length<=40
 sgs:T.tg.p.signals.l.length<=60
 ln:Fg T.tg
 C4:∀t∈T.traces.l,DM T.tg.p T.roads.l.length t
 YQ:∀t∈T.traces.l,wo t
 n10:T.traces.l.length<=10
 frm:∀r∈T.roads.l,0<=r.from_/\r.from_<(T.tg.p.signals.l.length:Int)
 wl:T.uR.l.length=T.traces.l.length
 ll:T.leads.l.length=T.traces.l.length
 lb:∀w∈T.leads.l,w.l.length<=60/\∀x∈w.l,(0<=x.elem/\x.elem<20)/\1<=x.pos/\x.pos<=2
def pA(E:rB)(a:Int)(t:mj):Prop:=E.ts[a.toNat]?=some t
def yq{E:rB}{a:Int}{t x:mj}(h:pA E a t){ha:a.toNat<E.ts.length}(hq:E.ts[a.toNat]=x):x=t:=by grind[pA]
def Jb{E:rB}{i:Nat}{x:mj}{hi:i<E.ts.length}(hx:E.ts[i]=x):pA E i x:=by grind[pA]
def xq{E:rB}{a:Int}{x:mj}{hi:a.toNat<E.ts.length}(hx:E.ts[a.toNat]=x):pA E a x:=by grind[pA]
def qW(E:rB)(kd a b k w:Int)(f:Bool):Prop:=∀ta tb,pA E a ta->pA E b tb->xQ E kd ta tb k w f
def D6(E:rB)(kd a b k w:Int):Prop:=(0<=w->qW E kd a b k w true)/\(w<0->qW E kd a b k w false)
section
variable {E:rB}{a b k w:Int}{kd:Int}{ta tb x y:mj}{f:Bool}
def ID(h:qW E kd a b k w true)(h0:0<=w):D6 E kd a b k w:=⟨λ_=>h,λc=>by omega⟩
def xl(h:qW E kd a b k w false)(h0:w<0):D6 E kd a b k w:=⟨λc=>by omega,λ_=>h⟩
def acY{v:Int}(h:qW E kd a b k w false):qW E kd a b k v false:=h
def agF{i j m:Nat}(h:qW E kd i j m w true)(hk:0<=kd){hi:i<E.ts.length}(hx:E.ts[i]=x){hj:j<E.ts.length}(hy:E.ts[j]=y):MK E kd.toNat i j m=some ⟨kd,i,j,m,w⟩:=by have e:((kd.toNat:Nat):Int)=kd:=aig hk;have:=alM (kind:=kd.toNat) (k:=m) hx hy (e.symm▸h x y (Jb hx) (Jb hy));grind
def akd{i j m:Nat}(h:qW E kd i j m w false)(hk:0<=kd){hi:i<E.ts.length}(hx:E.ts[i]=x){hj:j<E.ts.length}(hy:E.ts[j]=y):MK E kd.toNat i j m=none:=by have e:((kd.toNat:Nat):Int)=kd:=aig hk;exact amh (kind:=kd.toNat) (k:=m) hx hy (e.symm▸h x y (Jb hx) (Jb hy))
def aat{i j m:Nat}(h:qW E kd i j m w true)(hk:0<=kd)(hi:i<E.ts.length)(hj:j<E.ts.length):MK E kd.toNat i j m=some ⟨kd,i,j,m,w⟩:=agF h hk (hi:=hi) rfl (hj:=hj) rfl
def Xx{i j m:Nat}(h:qW E kd i j m w false)(hk:0<=kd)(hi:i<E.ts.length)(hj:j<E.ts.length):MK E kd.toNat i j m=none:=akd h hk (hi:=hi) rfl (hj:=hj) rfl
def SY{bd:mM}{z:cA}(hk:kd=2)(hx:∀t,pA E a t->x=t)(hw:∀t,pA E b t->w=rZ E.L t k)(hs:qG E.p.signals.l w=some z)(hK:mY E.p z.elem=4)(hb:x.dO.l[(min (k - 1) ((x.dO.l.length:Int) - 1)).toNat]?=some bd)(hm:bd.mode=1)(he:(ur bd.ei.l 0).elem=z.elem):qW E kd a b k w true:=by intro ta tb d e;have f:=hx ta d;subst f;have c:=hw tb e;unfold xQ;rw[UK hk];exact PH ⟨c,z,hs,hK,bd,hb,hm,he⟩ λv g=>by rw[g.1,c]
def FO{v:Int}(hk:kd=2)(hx:∀t,pA E a t->x=t)(hw:∀t,pA E b t->w=rZ E.L t k)(h:∀y bd,qG E.p.signals.l w=some y->mY E.p y.elem=4->x.dO.l[(min (k - 1) ((x.dO.l.length:Int) - 1)).toNat]?=some bd->bd.mode=1->¬(ur bd.ei.l 0).elem=y.elem):qW E kd a b k v false:=by intro ta tb c d;have e:=hx ta c;subst e;have g:=hw tb d;unfold xQ;rw[UK hk];refine yb λv f=>?_;obtain⟨i,y,j,m,bd,n,o,q⟩:=f;grind
def PF{v:Int}(hk:kd=2)(hx:∀t,pA E a t->x=t)(hw:∀t,pA E b t->w=rZ E.L t k)(h:qG E.p.signals.l w=none):qW E kd a b k v false:=FO hk hx hw λy c g _ _ _=>by grind
def Qo{v:Int}{z:cA}(hk:kd=2)(hx:∀t,pA E a t->x=t)(hw:∀t,pA E b t->w=rZ E.L t k)(h:qG E.p.signals.l w=some z)(hK:¬mY E.p z.elem=4):qW E kd a b k v false:=FO hk hx hw λy c g d _ _=>by grind
def Qe{v:Int}{bd:mM}(hk:kd=2)(hx:∀t,pA E a t->x=t)(hw:∀t,pA E b t->w=rZ E.L t k)(hb:x.dO.l[(min (k - 1) ((x.dO.l.length:Int) - 1)).toNat]?=some bd)(hm:¬bd.mode=1):qW E kd a b k v false:=FO hk hx hw λy c _ _ g d=>by grind
def Qa{v:Int}{bd:mM}{z:cA}(hk:kd=2)(hx:∀t,pA E a t->x=t)(hw:∀t,pA E b t->w=rZ E.L t k)(h:qG E.p.signals.l w=some z)(hb:x.dO.l[(min (k - 1) ((x.dO.l.length:Int) - 1)).toNat]?=some bd)(he:¬(ur bd.ei.l 0).elem=z.elem):qW E kd a b k v false:=FO hk hx hw λy c d _ g _=>by grind
theorem SU{bd:mM}{z:cA}(h:wc bd=some z)(hl:bd.ei.l.length=1):ur bd.ei.l 0=z:=by simp_all[wc,ur]
def adS{bd:mM}(h:wc bd=none)(hl:bd.ei.l.length=1):False:=by simp_all[wc]
def tl{hi:a.toNat<E.ts.length}(hx:E.ts[a.toNat]=x):∀t,pA E a t->x=t:=λ_ b=>yq b hx
def JD{hi:a.toNat<E.ts.length}(hx:E.ts[a.toNat]=x)(h:w=rZ E.L x k):∀t,pA E a t->w=rZ E.L t k:=λ_ b=>yq b hx▸h
def ZO{l:List Int}{hi:a.toNat<E.ts.length}(hx:E.ts[a.toNat]=x)(h:l=sS x k):∀t,pA E a t->l=sS t k:=λ_ b=>yq b hx▸h
def aaz{v:Int}(hk:kd=3)(h1:∀t,pA E a t->w=rZ E.L t k)(h0:w<0):qW E kd a b k v false:=by intro ta tb c d;have f:=h1 ta c;unfold xQ;rw[Nf hk];exact yb λu e=>by obtain⟨c,d,g⟩:=e;omega
def aeJ{v u:Int}(hk:kd=3)(h2:∀t,pA E b t->v=rZ E.L t k)(h0:v<0):qW E kd a b k u false:=by intro ta tb d c;have f:=h2 tb c;unfold xQ;rw[Nf hk];exact yb λu e=>by obtain⟨d,c,g⟩:=e;omega
def ad8{kk:Int}(h:qW E kk a b k w f)(hk:kd=kk):qW E kd a b k w f:=hk▸h
def Q4{v:Int}(hk:kd=3)(h1:∀t,pA E a t->w=rZ E.L t k)(h2:∀t,pA E b t->v=rZ E.L t k)(hf:BI f (0<=w/\w=v)):qW E kd a b k w f:=by
 intro ta tb e g;have h:=h1 ta e;have i:=h2 tb g;unfold xQ;rw[Nf hk];cases f with
 |true=>obtain⟨c,j⟩:=hf.yes;exact PH ⟨c,h,j.trans i⟩ λu d=>d.2.1.trans h.symm
 |false=>
  have c:=hf.no
  exact yb λu d=>c (by
   obtain⟨e,g,l⟩:=d
   omega)
def acU{S:Int->Prop}(hk:kd=4)(h:pY S f w)(hS:∀ta tb,pA E a ta->pA E b tb->∀v,S v↔zv E ta tb k v):qW E kd a b k w f:=by
 intro ta tb d e;unfold xQ;rw[Md hk];have c:=Bk h (hS ta tb d e);cases f with
 |true=>exact Om c rfl
 |false=>exact Nt c rfl
def acO{S:Int->Prop}(hk:kd=5)(h:pY S f w)(hS:∀ta tb,pA E a ta->pA E b tb->∀v,S v↔vq E ta tb k v):qW E kd a b k w f:=by
 intro ta tb d e;unfold xQ;rw[NG hk];have c:=Bk h (hS ta tb d e);cases f with
 |true=>exact Om c rfl
 |false=>exact Nt c rfl
def acf(hk:kd=4)(hx:∀t,pA E a t->x=t)(hy:∀t,pA E b t->y=t)(h:zv E x y k w)(h2:∀v,0<=v->v<w->¬zv E x y k v):qW E kd a b k w true:=by
 intro ta tb d f;have g:=hx ta d;have i:=hy tb f;subst g i;unfold xQ;rw[Md hk];refine GG ⟨h,λv c=>?_⟩;by_cases e:v<w;·exact absurd c (h2 v c.1 e)
 ·omega
def aeA(hk:kd=4)(hx:∀t,pA E a t->x=t)(hy:∀t,pA E b t->y=t)(h2:∀v,¬zv E x y k v):qW E kd a b k w false:=by intro ta tb c d;have e:=hx ta c;have f:=hy tb d;subst e f;unfold xQ;rw[Md hk];exact yb h2
def Pu(h1:vR E.p x)(h2:vR E.p y){v:Int}(h:vq E x y k v):qB E.p v:=by rcases h with⟨h,_⟩|⟨_,h⟩<;>grind[adq]
def age(hk:kd=5)(hx:∀t,pA E a t->x=t)(hy:∀t,pA E b t->y=t)(q1:vR E.p x)(q2:vR E.p y){m:Nat}(hw:w=(m:Int))(h:vq E x y k w)(h2:∀i:Nat,i<m->¬vq E x y k i):qW E kd a b k w true:=by
 intro ta tb c d;have f:=hx ta c;have g:=hy tb d;subst f g;unfold xQ;rw[NG hk];refine GG ⟨h,λv j=>?_⟩;have l:=(Pu q1 q2 j).1;by_cases e:v<w;·exact absurd (show vq E x y k ((v.toNat:Nat):Int)by grind) (h2 v.toNat (by omega))
 ·omega
def afu(hk:kd=5)(hx:∀t,pA E a t->x=t)(hy:∀t,pA E b t->y=t)(q1:vR E.p x)(q2:vR E.p y){m:Nat}(h2:∀i:Nat,i<m->¬vq E x y k i)(hm:E.p.elems.l.length<=m):qW E kd a b k w false:=by intro ta tb c d;have e:=hx ta c;have f:=hy tb d;subst e f;unfold xQ;rw[NG hk];refine yb λv g=>?_;obtain⟨h,j⟩:=Pu q1 q2 g;exact absurd (show vq E x y k ((v.toNat:Nat):Int)by grind) (h2 v.toNat (by omega))
def acX(hk:¬kd=2/\¬kd=3/\¬kd=4/\¬kd=5):qW E kd a b k w false:=by intro ta tb _ _;unfold xQ;refine yb λv c=>?_;rcases c with h|h|h|h<;>omega
end
section
variable {W:List (Row bY)}{ia ib k:Nat}{WA WB:Row bY}{x:bY}{E:rB}{w v:Int}{f:Bool}
def FC(W:List (Row bY))(ib:Nat)(WA:Row bY)(k:Nat):Prop:=∀wb:Row bY,W[ib]?=some wb->fi (Em WA.l wb.l) 0 k=none
def Mn(W:List (Row bY))(ia ib:Nat)(w:Int)(f:Bool):Prop:=∀wa wb:Row bY,W[ia]?=some wa->W[ib]?=some wb->OE (NK wa.l wb.l) w f
def akU:FC W ib WA 0:=λ_ _=>rfl
def agi(h:FC W ib WA k){hk:k<WA.l.length}(hq:WA.l[k]=x)(hn:¬x.pos=2):FC W ib WA (k+1):=λa b=>w8 (h a b) (Sn hq (.inl hn))
def aiF(h:FC W ib WA k){hk:k<WA.l.length}(hq:WA.l[k]=x){hb:ib<W.length}(eb:W[ib]=WB)(hn:¬ ∃y∈WB.l,y.elem=x.elem):FC W ib WA (k+1):=λc a=>by rw[List.getElem?_eq_getElem hb,eb]at a;cases a;exact w8 (h WB (by grind)) (Sn hq (.inr λy b e=>hn ⟨y,b,e⟩))
def alx{ha:ia<W.length}(ea:W[ia]=WA){hb:ib<W.length}(eb:W[ib]=WB)(h:FC W ib WA k){hk:k<WA.l.length}(hq:WA.l[k]=x)(h1:x.pos=2)(h2:∃y∈WB.l,y.elem=x.elem):Mn W ia ib x.elem true:=by intro wa c a b;rw[List.getElem?_eq_getElem ha,ea]at a;rw[List.getElem?_eq_getElem hb,eb]at b;cases a;cases b;exact xg (h WB (by grind)) (aaj hq h1 h2) (by omega) hk
def alZ{ha:ia<W.length}(ea:W[ia]=WA)(h:FC W ib WA k)(hk:WA.l.length<=k):Mn W ia ib v false:=by intro wa b a c;rw[List.getElem?_eq_getElem ha,ea]at a;cases a;exact vQ (h b c) hk
def afB(h:Mn W ia ib w true)(hE:E.wJ=W.map Row.l)(ha:ia<W.length)(hb:ib<W.length)(hne:¬ia=ib):Ds E ia ib=some ⟨1,ia,ib,0,w⟩:=by
 have c:=h _ _ (anr ha) (anr hb);have a:ia<E.wJ.length:=by grind
 have b:ib<E.wJ.length:=by grind
 exact Xw (ha:=a) (by grind) (hb:=b) (by grind) hne c
def UW(h:ia=ib\/Mn W ia ib w false)(hE:E.wJ=W.map Row.l)(ha:ia<W.length)(hb:ib<W.length):Ds E ia ib=none:=by
 have a:ia<E.wJ.length:=by grind
 have b:ib<E.wJ.length:=by grind
 exact Zo (ha:=a) (by grind) (hb:=b) (by grind) (h.imp id λh=>h _ _ (anr ha) (anr hb))
end
section
variable {l m:List Int}{k:Nat}{x w:Int}{S:Int->Prop}{f:Bool}
def wX(S:Int->Prop)(l m:List Int)(v:Int):Prop:=S v\/(v∈l/\v∈m)
def alL(h:pY S f w):pY (wX S (l.take 0) m) f w:=Bk h λv=>⟨.inl,λh=>h.elim id λh=>by simp at h⟩
def Ze{hk:k<l.length}(hq:l[k]=x)(hx:x∈m)(u:Int):wX S (l.take (k+1)) m u↔wX S (l.take k) m u\/u=x:=by unfold wX;rw[rQ hq];grind
def akK{hk:k<l.length}(hq:l[k]=x)(hx:x∈m)(h:pY (wX S (l.take k) m) f w)(hf:f=false\/x<w):pY (wX S (l.take (k+1)) m) true x:=QU h hf (Ze hq hx)
def amG{hk:k<l.length}(hq:l[k]=x)(hx:x∈m)(h:pY (wX S (l.take k) m) f w)(hf:f=true)(hw:¬x<w):pY (wX S (l.take (k+1)) m) f w:=Pp h hf hw (Ze hq hx)
def ak9{hk:k<l.length}(hq:l[k]=x)(hx:¬x∈m)(h:pY (wX S (l.take k) m) f w):pY (wX S (l.take (k+1)) m) f w:=by refine Bk h λu=>?_;unfold wX;rw[rQ hq];grind
def amj(h:pY (wX S (l.take k) m) f w)(hk:l.length<=k):pY (wX S l m) f w:=by rwa [anA hk]at h
end
def LC(_:Int):Prop:=False
theorem Tx{E:rB}{ta tb:mj}{k:Int}{o t za zb:List Int}(h1:∀y,y∈o↔qu E.p ta k y)(h2:∀y,y∈t↔qu E.p tb k y)(h3:zb=sS tb k)(h4:za=sS ta k)(v:Int):wX (wX (wX LC o t) o zb) t za v↔vq E ta tb k v:=by grind[wX,vq,LC]
def EF(E:rB)(a k v:Int):Prop:=∃t,pA E a t/\∃e,qu E.p t k e/\E.lf e=v
def Kb(all:List bY)(x:bY):Prop:=∃y∈all,y.elem=x.elem/\¬y.pos=x.pos
def Al(E:rB)(a b k:Int)(all l:List bY)(v:Int):Prop:=∃x∈l,x.elem=v/\Kb all x/\EF E a k v/\EF E b k v
section
variable {E:rB}{a b k w:Int}{all:List bY}{j:Nat}{x:bY}{f:Bool}
def ai6:pY (Al E a b k all (all.take 0)) false w:=ZM λv ⟨x,h,_⟩=>by simp at h
theorem UX{hk:j<all.length}(hq:all[j]=x)(ho:Kb all x)(ha:EF E a k x.elem)(hb:EF E b k x.elem)(u:Int):Al E a b k all (all.take (j+1)) u↔Al E a b k all (all.take j) u\/u=x.elem:=by
 constructor
 ·rintro⟨z,c,rfl,h⟩;rcases(rQ hq).mp c with c|rfl
  ·exact .inl ⟨z,c,rfl,h⟩
  omega
 ·rintro(⟨z,c,h⟩|rfl);·exact⟨z,(rQ hq).mpr (.inl c),h⟩
  ·exact⟨x,(rQ hq).mpr (.inr rfl),rfl,ho,ha,hb⟩
def aj9{hk:j<all.length}(hq:all[j]=x)(h:pY (Al E a b k all (all.take j)) f w)(ho:Kb all x)(ha:EF E a k x.elem)(hb:EF E b k x.elem)(hf:f=false\/x.elem<w):pY (Al E a b k all (all.take (j+1))) true x.elem:=QU h hf (UX hq ho ha hb)
theorem FK{hk:j<all.length}(hq:all[j]=x)(h:pY (Al E a b k all (all.take j)) f w)(hn:¬(Kb all x/\EF E a k x.elem/\EF E b k x.elem)):pY (Al E a b k all (all.take (j+1))) f w:=by
 refine Bk h λu=>⟨λ⟨z,c,h⟩=>⟨z,(rQ hq).mpr (.inl c),h⟩,?_⟩;rintro⟨z,c,rfl,h⟩;rcases(rQ hq).mp c with c|rfl
 ·exact⟨z,c,rfl,h⟩
 grind
def agR{hk:j<all.length}(hq:all[j]=x)(h:pY (Al E a b k all (all.take j)) f w)(hf:f=true)(hw:¬x.elem<w):pY (Al E a b k all (all.take (j+1))) f w:=by grind[Kb,EF,Pp,UX,FK]
def agk(h:pY (Al E a b k all (all.take j)) f w)(hj:all.length<=j):pY (Al E a b k all all) f w:=by rwa [anA hj]at h
def Du{t:mj}(h:pA E a t)(v:Int):EF E a k v↔∃e,qu E.p t k e/\E.lf e=v:=by
 constructor;·rintro⟨s,c,b⟩;grind[pA]
 ·exactλb=>⟨t,h,b⟩
def abA{ta tb:mj}(hall:∀x,x∈all↔∃l∈E.lds,x∈l)(hb2:∀x∈all,0<=x.elem/\1<=x.pos/\x.pos<=2)(h1:pA E a ta)(h2:pA E b tb)(v:Int):Al E a b k all all v↔zv E ta tb k v:=by
 unfold Al zv LG Kb;constructor;·rintro⟨x,c,rfl,⟨y,g,e,h⟩,d,f⟩;refine⟨(hb2 x c).1,(Du h1 _).mp d,(Du h2 _).mp f,?_⟩;have i:=(hb2 x c).2;have j:=(hb2 y g).2;have k1:=(hall x).mp c;have k2:=(hall y).mp g;obtain⟨m,n⟩:=x;obtain⟨o,p⟩:=y;grind
 ·rintro⟨q,d,f,k1,k2⟩;exact⟨⟨v,1⟩,(hall _).mpr k1,rfl,⟨⟨v,2⟩,(hall _).mpr k2,rfl,by simp⟩,(Du h1 _).mpr d,(Du h2 _).mpr f⟩
end
def afc{E:rB}{a k v:Int}{b:Bool}{x:mj}{r:List Int}(h:∀y,y∈r↔qu E.p x k y)(hC:BI b (∃X∈r,E.lf X=v)){hi:a.toNat<E.ts.length}(hx:E.ts[a.toNat]=x):BI b (EF E a k v) :=
 hC.trans ⟨λ⟨X,h1,c⟩=>⟨x,xq hx,X,(h X).mp h1,c⟩,λc=>by
  obtain⟨e,d,f⟩:=(Du (xq hx) v).mp c
  grind⟩
def RW{E:rB}{a b k:Int}{x y ta tb:mj}{o t za zb:List Int}(h1:∀v,v∈o↔qu E.p x k v)(h2:∀v,v∈t↔qu E.p y k v)(h3:∀t,pA E b t->zb=sS t k)(h4:∀t,pA E a t->za=sS t k){hi:a.toNat<E.ts.length}(hx:E.ts[a.toNat]=x){hj:b.toNat<E.ts.length}(hy:E.ts[b.toNat]=y)(g1:pA E a ta)(g2:pA E b tb)(v:Int):wX (wX (wX LC o t) o zb) t za v↔vq E ta tb k v:=by have c:=yq g1 hx;have d:=yq g2 hy;grind[Tx]
def VX{l:List (Row bY)}{x:bY}:(∃r∈l,x∈r.l)↔∃o∈l.map Row.l,x∈o:=by grind
theorem Ti{n:ej}{p:be}(h:qz n p){i:Nat}{x:nh}{hi:i<p.lines.l.length}(hq:p.lines.l[i]=x)(e:Int):p4 n e=(i:Int)↔e∈x.elems.l:=by
 subst hq;unfold p4;constructor
 ·intro a;split at a;·rename_i y b;obtain⟨j,c,d,f⟩:=h.Nw.1 e y b;grind
  ·omega
 ·intro a;obtain⟨q,hq⟩:=h.Nw.2 i hi e a;rw[hq]
def VZ{n:ej}{p:be}(h:qz n p){e v:Int}(h0:0<=v)(hv:p4 n e=v):v<(p.lines.l.length:Int):=by
 unfold p4 at hv;split at hv;·rename_i y a;obtain⟨j,b,c,_⟩:=h.Nw.1 e y a;omega
 ·omega
def QQ:∀(l:List bY)(a b:Int),l.Pairwise Dk->(∀x∈l,1<=x.pos/\x.pos<=2/\a<=2*x.elem+x.pos/\2*x.elem+x.pos<b)->(l.length:Int)<=max 0 (b - a)
 |[],a,b,_,_=>by grind
 |x::l,a,b,hp,hb=>by
  obtain⟨d,c⟩:=anw.mp hp;have e:=hb x (by simp);have f:=QQ l (2*x.elem+x.pos+1) b c λy g=>by grind[Dk]
  grind
theorem abM{S:bY->Prop}{n:Nat}:(K8 S n).length<=2*n:=by
 have h:=(EY S n).choose_spec;have b:=QQ _ 1 (2*(n:Int)+1) h.1 λx a=>by have c:=((h.2 x).mp a).2;omega
 grind[K8]
def VB{l:List nL}{i:Int}{x:cA}(h:qG l i=some x):0<=i/\i<(l.length:Int):=by grind[HD]
theorem Yz{t:mj}{k:Nat}{b:mM}(h:t.dO.l[k]?=some b)(hw:∀b∈t.dO.l,b.mode=1->b.ei.l.length=1)(hm:b.mode=1):b.ei.l.length=1:=hw b (alc h) hm
def abf{E:rB}{kd a b k w v:Int}{x:mj}{bd:mM}(hk:kd=2)(hx:∀t,pA E a t->x=t)(hw:∀t,pA E b t->w=rZ E.L t k)(hb:x.dO.l[(min (k - 1) ((x.dO.l.length:Int) - 1)).toNat]?=some bd)(hh:wc bd=none)(hwt:∀b∈x.dO.l,b.mode=1->b.ei.l.length=1):qW E kd a b k v false:=by refine FO hk hx hw λy d _ _ g c=>?_;rw[hb]at g;cases g;exact(adS hh (hwt _ (alc hb) c)).elim
section
variable {l:List (Row bY)}{o:List bY}{k:Nat}{r:Row bY}
def akN:∀x,x∈([]:List bY)↔∃r∈l.take 0,x∈r.l:=λx=>⟨λh=>by simp at h,λ⟨r,h,_⟩=>by simp at h⟩
def akV(h:∀x,x∈o↔∃r∈l.take k,x∈r.l){hk:k<l.length}(hq:l[k]=r):∀x,x∈o++r.l↔∃r∈l.take (k+1),x∈r.l:=by
 intro x;rw[List.mem_append,h x];constructor
 ·rintro(⟨z,a,b⟩|a);·grind
  ·exact⟨r,(rQ hq).mpr (.inr rfl),a⟩
 ·rintro⟨z,a,b⟩;rcases(rQ hq).mp a with a|rfl<;>grind
def afg(h:∀x,x∈o↔∃r∈l.take k,x∈r.l)(hk:l.length<=k):∀x,x∈o↔∃r∈l,x∈r.l:=by rwa [anA hk]at h
end
def ajH{l:List (Row bY)}{x:bY}(h:∀w∈l,w.l.length<=60/\∀x∈w.l,(0<=x.elem/\x.elem<20)/\1<=x.pos/\x.pos<=2)(hx:∃r∈l,x∈r.l):0<=x.elem/\1<=x.pos/\x.pos<=2:=by grind
theorem ad7{k:Int}(h:0<=k):(k+1).toNat=k.toNat+1:=by omega
theorem DZ{κ β:Type}{ek : κ->AV}{ev : β->AV}(hk:∀a b,ek a=ek b->a=b)(hv:∀a b,ev a=ev b->a=b):∀(l m:List (κ×β)),nG ek ev l=nG ek ev m->l=m
 |[],[],_=>rfl
 |[],_::_,h=>by simp[nG]at h
 |_::_,[],h=>by simp[nG]at h
 |(a,b)::l,(c,d)::m,h=>by simp only[nG,List.map_cons,List.cons.injEq,Prod.mk.injEq]at h;obtain⟨⟨e,f⟩,g⟩:=h;rw[hk _ _ e,hv _ _ f,DZ hk hv l m g]
def T9(g:List AV->AV)(p:be)(n:ej):Prop:=qz n p/\g [.agg (be.ay p)]=.mw [.ip (ej.ay n) 0 false,iv 0]
def afT{g:List AV->AV}{p:be}{n m:ej}(h1:T9 g p n)(h2:T9 g p m):n.line=m.line/\n.lead=m.lead/\n.p=m.p:=by have h:=h1.2.symm.trans h2.2;simp only[AV.mw.injEq,List.cons.injEq,AV.ip.injEq,ej.ay,AV.fm.injEq,and_true,true_and]at h;refine⟨DZ (λa b h=>?_) (λa b h=>?_) _ _ h.2.2.2.2.2.2.2.2.2.2.2.1,DZ (λa b h=>?_) (λa b h=>?_) _ _ h.2.2.2.2.2.2.2.2.2.2.2.2,h1.1.nU.trans h2.1.nU.symm⟩<;>grind[DZ,iK,yz,AV.agg.injEq,AV.int.injEq]
def abN{n m:ej}{p:be}{L:List lv}{d:cB}{ts:List mj}(h:n.line=m.line/\n.lead=m.lead/\n.p=m.p):nA p L n d ts=nA p L m d ts:=by
 obtain⟨a,b,c⟩:=h;have e:p4 n=p4 m:=by grind[p4]
 have f:xv n=xv m:=by grind[xv]
 have g:yP n=yP m:=by funext r y;unfold yP yd;rw[show FU n=FU m from by funext o s;simp_all[FU]]
 grind[nA,wA]
def A9(p:be)(m:Nat)(d:cB)(ts:List mj)(i:Nat):Prop:=∀t,ts[i]?=some t->xw p m (xI d i) t
def sG(p:be)(m:Nat)(d:cB)(ts:List mj):Prop:=ts.length=d.runs.l.length/\∀i,i<ts.length->A9 p m d ts i
section
variable {p:be}{m k:Nat}{d:cB}{ts:List mj}{t:mj}{len:Int}
def QR(h:∀i<k,A9 p m d ts i){h1:k<ts.length}(e1:ts[k]=t)(hl:len=xI d k)(ht:xw p m len t):∀i<k+1,A9 p m d ts i:=by
 intro i a;by_cases e:i=k;·subst e;intro t' b;grind
 grind
def Dv{h1:k<ts.length}(e1:ts[k]=t)(hl:len=xI d k)(ht:¬xw p m len t):¬sG p m d ts:=λh=>ht (by rw[hl];exact h.2 k h1 t (by grind))
def PS(h:∀i<k,A9 p m d ts i)(hk:ts.length<=k)(hl:ts.length=d.runs.l.length):sG p m d ts:=⟨hl,λi a=>h i (by omega)⟩
def Mq(hl:¬ts.length=d.runs.l.length):¬sG p m d ts:=λh=>hl h.1
def PB(h:∀i<k,A9 p m d ts i)(hk:ts.length<=k):∀t∈ts,DM p m t:=by intro t a;obtain⟨i,b,rfl⟩:=anB a;exact afV (h i (by omega) _ (anr b))
def Mf(h:sG p m d ts):∀t∈ts,DM p m t:=PB (k:=ts.length) h.2 (abs _)
def aaV{x y:List Int}{k:Nat}(h:∀(i:Nat)(h:i<(([]++x)++y).length),i<k->qB p ((([]++x)++y)[i]))(hk:(([]++x)++y).length<=k):∀e∈y,qB p e:=by have a:=pP (P:=qB p) h hk;grind
def Qv{l:List Int}(h:¬ ∃X∈l,¬qB p X):∀e∈l,qB p e:=λe a=>Classical.byContradiction λb=>h ⟨e,a,b⟩
def aiE{x y:List Int}{i:Nat}{v:Int}{hi:i<(([]++x)++y).length}(hq:(([]++x)++y)[i]=v)(hn:¬qB p v):(∃e∈x,¬qB p e)\/∃e∈y,¬qB p e:=by grind
def abX{p:be}{m:Nat}{len:Int}{t:mj}{s z:Row Int}{k i:Nat}{v:Int}{h1:k<t.steps.l.length}(e1:t.steps.l[k]=s){h2:k<t.nO.l.length}(e2:t.nO.l[k]=z)(hk:k<t.dO.l.length){hi:i<(([]++s.l)++z.l).length}(hq:(([]++s.l)++z.l)[i]=v)(hn:¬qB p v):¬xw p m len t:=by
 rcases aiE hq hn with h|h
 ·exact PW e1 hk h
 ·exact PY e2 hk h
end
def CM(p:be)(L:List lv)(n:ej)(d:cB)(ts:List mj)(r:oK)(e:Int):Prop :=
 ∃c,qE p L d c/\(c≠0->e=c/\r=⟨0,0,0,0,0⟩)/\(c=0->(¬sG p L.length d ts->e=1/\r=⟨0,0,0,0,0⟩)/\(sG p L.length d ts->e=0/\OM (FM (nA p L n d ts)) r))
section
variable {p:be}{L:List lv}{n:ej}{d:cB}{ts:List mj}{r s:oK}{e c:Int}{b:Bool}
def ajg(h:qE p L d c)(hc:c≠0)(he:e=c):CM p L n d ts ⟨0,0,0,0,0⟩ e:=⟨c,h,λ_=>⟨he,rfl⟩,λa=>absurd a hc⟩
def Y8(h:qE p L d c)(hc:c=0)(hr:¬sG p L.length d ts):CM p L n d ts ⟨0,0,0,0,0⟩ 1:=⟨c,h,λa=>absurd hc a,λ_=>⟨λ_=>⟨rfl,rfl⟩,λb=>absurd b hr⟩⟩
def aix(h:qE p L d c)(hc:c=0)(hr:sG p L.length d ts)(hm:OM (FM (nA p L n d ts)) r):CM p L n d ts r 0:=⟨c,h,λa=>absurd hc a,λ_=>⟨λb=>absurd hr b,λ_=>⟨rfl,hm⟩⟩⟩
theorem XF(h:CM p L n d ts r e)(hc:qE p L d c)(h0:c≠0):e=c/\r=⟨0,0,0,0,0⟩:=by obtain⟨c',a,b,_⟩:=h;have:=hc.xi a;grind
theorem Yk(h:CM p L n d ts r e)(hc:qE p L d c)(h0:c=0)(hR:BI b (sG p L.length d ts))(hb:b=false):e=1/\r=⟨0,0,0,0,0⟩:=by obtain⟨c',a,_,f⟩:=h;have:=hc.xi a;subst this;exact(f h0).1 (hR.ny hb)
theorem aka(h:CM p L n d ts r e)(hc:qE p L d c)(h0:c=0)(hR:BI b (sG p L.length d ts))(hb:b=true)(hm:OM (FM (nA p L n d ts)) s):e=0/\r=s:=by obtain⟨c',a,_,f⟩:=h;have:=hc.xi a;subst this;obtain⟨g,i⟩:=(f h0).2 (hR.mp hb);exact⟨g,i.xi hm⟩
end
end Go.Sx
namespace Go.Sx
open Go
def aiW{E:rB}{a b k w:Int}{all:List bY}{j:Nat}{f g:Bool}(h:pY (Al E a b k all (all.take j)) f w)(hj:all.length<=j)(hf:f=g):pY (Al E a b k all all) g w:=hf▸agk h hj
def aim{C:Int->Prop}{f g:Bool}{w:Int}(h:pY C f w)(hf:f=g):pY C g w:=hf▸h
section
variable {l:List (Row bY)}{f:Nat->List bY}{k n:Nat}{r:Row bY}
def aey(h:l.map Row.l=(List.range k).map f)(hr:r.l=f k):(l++[r]).map Row.l=(List.range (k+1)).map f:=by rw[List.map_append,h,List.range_succ,List.map_append];simp[hr]
def aeb(h:l.map Row.l=(List.range k).map f)(hk:k=n):l.map Row.l=(List.range n).map f:=hk▸h
end
def abd{n:ej}{p:be}{L:List lv}{d:cB}{run:Int}(h:qz n p)(hL:∀r∈L,pV n.p r):∀x,vV (yP n) n.p L d run (sP d run) x->0<=x.elem/\x.elem<(n.p.lines.l.length:Int)/\1<=x.pos/\x.pos<=2:=by rw[h.nU,K0,<- h.nU];exact aej h hL
def ahr{l:List (Row bY)}{n:ej}{L:List lv}{d:cB}{m:Nat}(h:l.map Row.l=(List.range m).map λ(r:Nat)=>wA n L d r)(h20:n.p.lines.l.length<=20):∀w∈l,w.l.length<=60/\∀x∈w.l,(0<=x.elem/\x.elem<20)/\1<=x.pos/\x.pos<=2:=by
 intro w b;have a:w.l∈l.map Row.l:=anj.mpr ⟨w,b,rfl⟩;rw[h]at a;obtain⟨r,_,c⟩:=anj.mp a;rw[<- c];unfold wA;refine⟨?_,λx e=>?_⟩;·grind[abM,vV,yP,sP]
 ·have:=(ab0.mp e).2;omega
def abE{n:ej}{p:be}{R:Row lv}{ts:Row mj}{d:cB}{w l:mB (Row bY)}(hp:n.p=p)(hw:w.l.map Row.l=(List.range d.runs.l.length).map λ(r:Nat)=>rm n.p R.l d r)(hl:l.l.map Row.l=(List.range d.runs.l.length).map λ(r:Nat)=>wA n R.l d r):pW ⟨n,R,ts,w,l⟩=nA p R.l n d ts.l:=by grind[pW,nA]
section
variable {p:be}{L:List lv}{n:ej}{d:cB}{ts:List mj}{a b k j m:Nat}{x y:bY}{WA WB:List bY}
def PD(h:d.runs.l.length<=m):(nA p L n d ts).wJ.length<=m:=by grind[nA]
def Dz(h:a<d.runs.l.length):∃hx:a<(nA p L n d ts).wJ.length,(nA p L n d ts).wJ[a]=rm n.p L d a:=by grind[nA]
def ahB(ha:a<d.runs.l.length)(hb:b<d.runs.l.length)(h:a=b\/fi (Em (rm n.p L d a) (rm n.p L d b)) 0 k=none)(hA:WA=rm n.p L d a)(hk:WA.length<=k):Ds (nA p L n d ts) a b=none:=by obtain⟨f,c⟩:=Dz (p:=p) (L:=L) (n:=n) (ts:=ts) ha;obtain⟨g,e⟩:=Dz (p:=p) (L:=L) (n:=n) (ts:=ts) hb;refine Zo (w:=0) c e (h.imp id λh=>?_);rw[hA]at hk;exact vQ h hk
def ak2(h:a=b\/fi (Em (rm n.p L d a) (rm n.p L d b)) 0 k=none)(hA:WA=rm n.p L d a)(hB:WB=rm n.p L d b){hk:k<WA.length}(hq:WA[k]=x)(hy:∀y∈WB.take j,¬(a≠b/\x.pos=2/\y.elem=x.elem))(hj:WB.length<=j):a=b\/fi (Em (rm n.p L d a) (rm n.p L d b)) 0 (k+1)=none:=by
 rw[List.take_of_length_le hj]at hy;by_cases e:a=b;·omega
 ·right;rcases h with h|h
  ·omega
  ·subst hA hB;refine w8 h (Sn hq ?_);grind
def al8{P:bY->Prop}(h:∀y∈WB.take j,P y){hj:j<WB.length}(hq:WB[j]=y)(hp:P y):∀y∈WB.take (j+1),P y:=by intro z a;rcases(rQ hq).mp a with a|rfl<;>grind
def ak8(hPa:∀ts,fi (PA (nA p L n d ts)) 0 a=none)(hPb:∀ts,fi (Ds (nA p L n d ts) a) 0 b=none)(h:a=b\/fi (Em (rm n.p L d a) (rm n.p L d b)) 0 k=none)(hA:WA=rm n.p L d a)(hB:WB=rm n.p L d b){hk:k<WA.length}(hq:WA[k]=x){hj:j<WB.length}(hr:WB[j]=y)
  (ha:a<d.runs.l.length) (hb:b<d.runs.l.length) (hne:a≠b) (h2:x.pos=2) (he:y.elem=x.elem):∀ts,OM (PM (nA p L n d ts)) ⟨1,a,b,0,x.elem⟩:=by
 intro ts;obtain⟨c,e⟩:=Dz (p:=p) (L:=L) (n:=n) (ts:=ts) ha;obtain⟨f,g⟩:=Dz (p:=p) (L:=L) (n:=n) (ts:=ts) hb;have i:fi (Em (rm n.p L d a) (rm n.p L d b)) 0 k=none:=h.resolve_left hne;have m:OE (NK (rm n.p L d a) (rm n.p L d b)) x.elem true:=by subst hA hB;exact xg i (aaj hq h2 ⟨y,by grind,he⟩) (by omega) hk
 exact .inl ⟨xg (hPa ts) (xg (hPb ts) (Xw e g hne m) (by omega) f) (by omega) c,by simp⟩
def akR(hPa:∀ts,fi (PA (nA p L n d ts)) 0 a=none)(ha:d.runs.l.length<=a):∀ts,OM (PM (nA p L n d ts)) ⟨0,0,0,0,0⟩:=λts=>.inr ⟨vQ (hPa ts) (PD ha),rfl⟩
end
theorem zS{a b:Int}{l m:List AV}{q:Bool}(h:pX l m=some q):pX (.int .i64 a::l) (.int .i64 b::m)=some (decide (a=b)&&q):=by
 have c:qV (.int .i64 a) (.int .i64 b)=some (decide (a=b)):=by show(match ua .i64 .i64 with|true=>some (MC a b)|false=>none) = _;grind[wS,u5]
 grind[pX]
def Dd{X:Ctx}{ee:Env}{h:aT}{dd:Option Nat}{t u:Nat}{x y:Operand}{ti:TI}{a b c d e a' b' c' d' e':Int}(hx:me ee x=.agg [.int .i64 a,.int .i64 b,.int .i64 c,.int .i64 d,.int .i64 e])(hy:me ee y=.agg [.int .i64 a',.int .i64 b',.int .i64 c',.int .i64 d',.int .i64 e'])
  (hT:X.C.T t=some ti) (hf:Cp ti (.agg [.int .i64 a,.int .i64 b,.int .i64 c,.int .i64 d,.int .i64 e]) (.agg [.int .i64 a',.int .i64 b',.int .i64 c',.int .i64 d',.int .i64 e'])=pX [.int .i64 a,.int .i64 b,.int .i64 c,.int .i64 d,.int .i64 e] [.int .i64 a',.int .i64 b',.int .i64 c',.int .i64 d',.int .i64 e']) :
  mT (.binOp .eql t x y u) X ee h dd=some (.bool (decide (a=a'/\b=b'/\c=c'/\d=d'/\e=e')),h):=by
 have f:pX [.int .i64 a,.int .i64 b,.int .i64 c,.int .i64 d,.int .i64 e] [.int .i64 a',.int .i64 b',.int .i64 c',.int .i64 d',.int .i64 e']=some (decide (a=a'/\b=b'/\c=c'/\d=d'/\e=e')):=by rw[zS (zS (zS (zS (zS (q:=true) rfl))))];simp
 simp_all[mT,Dy,binOp,AV.int?,AV.str?,C9,oz]
def M2{q p:be}{L:List lv}{d:cB}{r:Int}{o:List bY}(h:rL (vV Br q L d r (sP d r)) ((p.elems.l.length:Nat):Int) 1 o)(e:q=p):o=rm q L d r:=by subst e;exact Ui h
def SJ{n:ej}{p:be}{L:List lv}{d:cB}{r:Int}{o:List bY}(h:rL (vV (yP n) n.p L d r (sP d r)) ((p.lines.l.length:Nat):Int) 1 o)(e:n.p=p):o=wA n L d r:=by subst e;exact Ui h
theorem SI:(∀x:mj,mj.ay x=[x.dO.av mM.ay,x.roads.av mD,x.steps.av (nI mD),x.nO.av (nI mD),.int .i64 x.done])/\(∀x:oK,oK.ay x=[.int .i64 x.kind,.int .i64 x.a,.int .i64 x.b,.int .i64 x.tick,.int .i64 x.Gd]):=⟨λ_=>rfl,λ_=>rfl⟩
open Go Go.Proofs
def KG{r:Row Int}:pk 7 (r.av mD) (r.av mD)=true:=by
 have b:vc r.c r.c=true:=by cases r.c<;>simp[vc]
 show(rl (rl (pk 6)) (r.l.map mD) (r.l.map mD)&&vc r.c r.c)=true;rw[b,tH];rfl;intro x d;obtain⟨n,_,rfl⟩:=anj.mp d;refine tH λy a=>?_;simp only[mD,List.mem_singleton]at a;subst a;exact zc _ _ _
def MR{r:Row (Row Int)}:pk 8 (r.av (nI mD)) (r.av (nI mD))=true:=by
 have b:vc r.c r.c=true:=by cases r.c<;>simp[vc]
 show(rl (rl (pk 7)) (r.l.map (nI mD)) (r.l.map (nI mD))&&vc r.c r.c)=true;rw[b,tH];rfl;intro x d;obtain⟨n,_,rfl⟩:=anj.mp d;refine tH λy a=>?_;simp only[nI,List.mem_singleton]at a;subst a;exact KG
def adR{n o:Nat}{a:AV}{b:Bool}(h:pk n a a=true):pk (n+1) (.ip [a] o b) (.ip [a] o b)=true:=by cases b<;>simp[pk,rl,h,Jn]
def yg{α:Type}{enc : α->List AV}{n:Nat}{r:Row α}(h:∀x,∀y∈enc x,pk n y y=true):pk (n+1) (r.av enc) (r.av enc)=true:=by
 have a:vc r.c r.c=true:=by cases r.c<;>simp[vc]
 show(rl (rl (pk n)) (r.l.map enc) (r.l.map enc)&&vc r.c r.c)=true;rw[a,tH];rfl;intro x b;obtain⟨z,_,rfl⟩:=anj.mp b;exact tH λy d=>h z y d
def UG{n:Nat}(x:Int):∀y∈mD x,pk (n+1) y y=true:=by intro y a;simp only[mD,List.mem_singleton]at a;subst a;exact zc _ _ _
def HY{n:Nat}(x:bY):∀y∈bY.ay x,pk (n+1) y y=true:=by intro y a;simp only[bY.ay,List.mem_cons,List.not_mem_nil,or_false]at a;rcases a with rfl|rfl<;>exact zc _ _ _
def afn{n:Nat}(x:mA):∀y∈mA.ay x,pk (n+1) y y=true:=by intro y a;simp only[mA.ay,List.mem_cons,List.not_mem_nil,or_false]at a;rcases a with rfl|rfl|rfl<;>exact zc _ _ _
def Ux{n:Nat}(x:lv):∀y∈lv.ay x,pk (n+2) y y=true:=by
 intro y a;simp only[lv.ay,List.mem_cons,List.not_mem_nil,or_false]at a;rcases a with rfl|rfl|rfl|rfl|rfl|rfl|rfl|rfl|rfl
 ·exact zc _ _ _
 ·exact zc _ _ _
 ·exact zc _ _ _
 ·exact yg afn
 ·exact yg HY
 ·exact yg HY
 ·exact yg UG
 ·exact yg UG
 ·exact VK _ _
def abZ{n o:Nat}{l:List AV}{b:Bool}(h:∀y∈l,pk n y y=true):pk (n+1) (.ip l o b) (.ip l o b)=true:=by have:=tH (f:=pk n) h;cases b<;>simp[pk,this,Jn]
section
variable {C:nu}{F:oP}{Pr:om}{fa:lg}{e:Env}{H:aT}{all rest:List Oper}{o:Oper}{q:Env->aT->Prop}
def aci(l:List Int):sg:=match l with
 |[]=>.nil
 |_=>.oo
def aaW(l:List Int):MY l=.sl (l.map mD) (aci l):=by cases l<;>rfl
def W0{l:List Int}(h:l.length<=1000000):∃r:Row Int,r.l=l/\MY l=r.av mD:=by
 refine⟨⟨l,aci l,by unfold xn;omega,by cases l<;>rfl,λb=>?_⟩,rfl,aaW l⟩;cases l with
 |nil=>rfl
 |cons a t=>cases b
def zu{f bm i:Nat}{c:Call}{ls:o1}{l:List (Int×Bool)}{L:List mZ}{g:Operand}(ho:o.op=.call c)(hw:mF all e o=some true)(hf:c.callee=.value g)(hg:me e g=.mH f [] [])(ha:c.args.toList.map (me e)=[.hm bm])(hs:fa.mP.elem f=false)
  (hp:Pr f=some qO) (hS:Sep H L) (hi:L[i]?=some (.map (.hm bm) (nG iK bK l))) (q1:qy l) (q2:l.length<=1000000) (q3:∀x∈l,pg x.1)
  (next:∀r:Row Int,r.l=nz (l.map Prod.fst)->od C F Pr fa all rest q (my e o (r.av mD)) { H with ca:=ls }):od C F Pr fa all (o::rest) q e { H with ca:=ls }:=by
 obtain⟨b,es,c',y,n,a,s,t⟩:=hS.at hi;cases n;have j:zD (es.map Q7)=some (l.map Prod.fst):=by have:es.map Q7=tn es:=rfl;rw[this,s];exact L9 q3
 have u:(DE (l.map Prod.fst)&&Nat.ble (l.map Prod.fst).length 1000000)=true:=by rw[QS q1,Bool.true_and,Nat.ble_eq];simpa using q2
 have m:(nz (l.map Prod.fst)).length=l.length:=by rw[(rh _).length_eq,List.length_map]
 obtain⟨r,w,d⟩:=W0 (l:=nz (l.map Prod.fst)) (by omega);have h:qO false [.hm bm] { H with ca:=[] }=some (r.av mD,{ H with ca:=[] }):=by simp only[qO,aT.oR,a,vL,j,u,Ch,d]
 refine C7 hw ?_ (next r w);rw[ho];refine ES (p:=[]) (r:=[]) hf hg ha rfl hs ⟨1,λk j=>?_⟩;cases k with
 |zero=>omega
 |succ k=>simp only[qi,hp];exact h
end
end Go.Sx
namespace Go.Sx
open Go
section
variable {E:rB}{a b k kd w:Int}{m j:Nat}{x y ta tb:mj}{X Y XZ YZ:List Int}{v:Int}{f g:Bool}
def P6(E:rB)(a b k:Int)(m:Nat):Prop:=∀ta tb,pA E a ta->pA E b tb->∀i:Nat,i<m->¬vq E ta tb k i
def akr:P6 E a b k 0:=λ_ _ _ _ i h=>by omega
theorem MG(h1:∀v,v∈X↔qu E.p x k v)(h2:∀v,v∈Y↔qu E.p y k v)(h3:XZ=sS x k)(h4:YZ=sS y k):vq E x y k v↔(v∈X/\(v∈Y\/v∈YZ))\/(v∈XZ/\v∈Y):=by grind[vq]
def aiR{ha:a.toNat<E.ts.length}(hx:E.ts[a.toNat]=x){hb:b.toNat<E.ts.length}(hy:E.ts[b.toNat]=y)(h1:∀v,v∈X↔qu E.p x k v)(h2:∀v,v∈Y↔qu E.p y k v)(h3:XZ=sS x k)(h4:YZ=sS y k)(h:P6 E a b k m)(m1:(m:Int)∉X\/((m:Int)∉Y/\(m:Int)∉YZ))(m2:(m:Int)∉XZ\/(m:Int)∉Y):P6 E a b k (m+1):=by
 intro ta tb c d i j;by_cases e:i=m;·subst e;have f:=yq c hx;have g:=yq d hy;subst f g;rw[MG h1 h2 h3 h4];grind
 ·exact h ta tb c d i (by omega)
def ag9(hk:kd=5){ha:a.toNat<E.ts.length}(hx:E.ts[a.toNat]=x){hb:b.toNat<E.ts.length}(hy:E.ts[b.toNat]=y)(q1:vR E.p x)(q2:vR E.p y)(h1:∀v,v∈X↔qu E.p x k v)(h2:∀v,v∈Y↔qu E.p y k v)(h3:XZ=sS x k)(h4:YZ=sS y k)(h:P6 E a b k m)(hm:((m:Int)∈X/\((m:Int)∈Y\/(m:Int)∈YZ))\/((m:Int)∈XZ/\(m:Int)∈Y)):D6 E kd a b k m :=
 ID (age hk (tl hx) (tl hy) q1 q2 rfl ((MG h1 h2 h3 h4).mpr hm) (h x y (xq hx) (xq hy))) (by omega)
def ahJ(hk:kd=5){ha:a.toNat<E.ts.length}(hx:E.ts[a.toNat]=x){hb:b.toNat<E.ts.length}(hy:E.ts[b.toNat]=y)(q1:vR E.p x)(q2:vR E.p y)(h:P6 E a b k m)(hm:E.p.elems.l.length<=m):D6 E kd a b k (-1) :=
 xl (afu hk (tl hx) (tl hy) q1 q2 (h x y (xq hx) (xq hy)) hm) (by decide)
def Ci(E:rB)(a b k:Int)(m:Nat):Prop:=∀ta tb,pA E a ta->pA E b tb->∀v,0<=v->v<(m:Int)->¬zv E ta tb k v
def ajN:Ci E a b k 0:=λ_ _ _ _ v h1 h2=>by omega
def LU{ha:a.toNat<E.ts.length}(hx:E.ts[a.toNat]=x){hb:b.toNat<E.ts.length}(hy:E.ts[b.toNat]=y)(h:Ci E a b k m)(hn:¬zv E x y k m):Ci E a b k (m+1):=by
 intro ta tb c d v f g;by_cases e:v=(m:Int);·subst e;have i:=yq c hx;have j:=yq d hy;grind
 ·exact h ta tb c d v f (by omega)
def LY{n:ej}{p:be}(hN:qz n p){l:nh}{hi:m<p.lines.l.length}(hq:p.lines.l[m]=l)(h1:∀v,v∈X↔qu p x k v):(∃e∈l.elems.l,e∈X)↔∃e,qu p x k e/\p4 n e=(m:Int):=by grind[Ti]
end
section
variable {p:be}{L:List lv}{n:ej}{d:cB}{ts:List mj}{a b k kd:Int}{m j r:Nat}{x y:mj}{X Y:List Int}{l:nh}{f g:Bool}{ld:List bY}{u:bY}{W:List Bool}
def ai9(hN:qz n p){ha:a.toNat<ts.length}(hx:ts[a.toNat]=x){hb:b.toNat<ts.length}(hy:ts[b.toNat]=y)(h:Ci (nA p L n d ts) a b k m){hi:m<p.lines.l.length}(hq:p.lines.l[m]=l)(h1:∀v,v∈X↔qu p x k v)(hM:BI f (∃e∈l.elems.l.take j,e∈X))(hj:l.elems.l.length<=j)(hf:f=false):Ci (nA p L n d ts) a b k (m+1) :=
 LU (E:=nA p L n d ts) hx hy h λc=>(AZ hM hj).ny hf ((LY hN hq h1).mpr c.2.1)
def agE(hN:qz n p){ha:a.toNat<ts.length}(hx:ts[a.toNat]=x){hb:b.toNat<ts.length}(hy:ts[b.toNat]=y)(h:Ci (nA p L n d ts) a b k m){hi:m<p.lines.l.length}(hq:p.lines.l[m]=l)(h1:∀v,v∈Y↔qu p y k v)(hM:BI f (∃e∈l.elems.l.take j,e∈Y))(hj:l.elems.l.length<=j)(hf:f=false):Ci (nA p L n d ts) a b k (m+1) :=
 LU (E:=nA p L n d ts) hx hy h λc=>(AZ hM hj).ny hf ((LY hN hq h1).mpr c.2.2.1)
def IW(p:be)(L:List lv)(n:ej)(d:cB)(r:Nat)(y:bY):Prop:=∃i,i<r/\y∈wA n L d (i:Nat)
def WyS(W:List Bool)(S1 S2:Prop):Prop:=W.length=3/\(W[1]?=some true↔S1)/\(W[2]?=some true↔S2)
def OG(p:be)(L:List lv)(n:ej)(d:cB)(m:Int)(r:Nat)(W:List Bool):Prop:=WyS W (IW p L n d r ⟨m,1⟩) (IW p L n d r ⟨m,2⟩)
def Nl(p:be)(L:List lv)(n:ej)(d:cB)(m:Int)(r:Nat)(ld:List bY)(j:Nat)(W:List Bool):Prop:=WyS W (IW p L n d r ⟨m,1⟩\/⟨m,1⟩∈ld.take j) (IW p L n d r ⟨m,2⟩\/⟨m,2⟩∈ld.take j)
variable {mi:Int}
def am5:OG p L n d mi 0 (List.replicate 3 false):=⟨rfl,⟨λh=>by grind,λ⟨i,h,_⟩=>by omega⟩,⟨λh=>by grind,λ⟨i,h,_⟩=>by omega⟩⟩
def ahj(h:OG p L n d mi r W):Nl p L n d mi r ld 0 W:=⟨h.1,h.2.1.trans ⟨.inl,λh=>h.elim id λh=>by simp at h⟩,h.2.2.trans ⟨.inl,λh=>h.elim id λh=>by simp at h⟩⟩
def amY(h:Nl p L n d mi r ld j W){hj:j<ld.length}(hq:ld[j]=u)(hn:¬(u.elem=mi/\(u.pos=1\/u.pos=2))):Nl p L n d mi r ld (j+1) W:=by
 obtain⟨a,b,c⟩:=h;refine⟨a,b.trans ?_,c.trans ?_⟩;·rw[rQ hq];grind
 ·rw[rQ hq];grind
def akZ(h:Nl p L n d mi r ld j W){hj:j<ld.length}(hq:ld[j]=u)(he:u.elem=mi)(hp:u.pos=1\/u.pos=2):Nl p L n d mi r ld (j+1) (W.set u.pos.toNat true):=by
 obtain⟨a,b,c⟩:=h;obtain⟨e,f⟩:=u;simp only at he hp;subst he;refine⟨by grind,?_,?_⟩;·rw[List.getElem?_set,rQ hq];grind
 ·rw[List.getElem?_set,rQ hq];grind
def acb(h:Nl p L n d mi r ld j W)(hj:ld.length<=j)(hl:ld=wA n L d (r:Nat)):OG p L n d mi (r+1) W:=by
 obtain⟨f,b,c⟩:=h;rw[List.take_of_length_le hj,hl]at b c
 have a:∀y,(IW p L n d r y\/y∈wA n L d (r:Nat))↔IW p L n d (r+1) y:=by
  intro y;constructor
  ·rintro(⟨i,h,h'⟩|h);·exact⟨i,by omega,h'⟩
   ·exact⟨r,by omega,h⟩
  ·rintro⟨i,h,h'⟩;by_cases e:i=r;·grind
   ·exact .inl ⟨i,by omega,h'⟩
 exact⟨f,b.trans (a _),c.trans (a _)⟩
def L7(hr:d.runs.l.length=r)(v:Int):LG (nA p L n d ts) v↔IW p L n d r ⟨v,1⟩/\IW p L n d r ⟨v,2⟩:=by grind[nA,IW,LG]
def aid(hN:qz n p)(hk:kd=4){ha:a.toNat<ts.length}(hx:ts[a.toNat]=x){hb:b.toNat<ts.length}(hy:ts[b.toNat]=y)(h:Ci (nA p L n d ts) a b k m){hi:m<p.lines.l.length}(hq:p.lines.l[m]=l)(h1:∀v,v∈X↔qu p x k v)(h2:∀v,v∈Y↔qu p y k v)(hM:BI f (∃e∈l.elems.l.take j,e∈X))(hM2:BI g (∃e∈l.elems.l.take j,e∈Y))(hj:l.elems.l.length<=j)(hf:f=true)(hg:g=true)(hW:OG p L n d m r W)(hr:d.runs.l.length<=r)(hr2:r<=d.runs.l.length){c1 c2:Bool}{g1:1<W.length}(w1:W[1]=c1)(v1:c1=true){g2:2<W.length}(w2:W[2]=c2)(v2:c2=true):D6 (nA p L n d ts) kd a b k m:=by refine ID (acf (E:=nA p L n d ts) hk (tl hx) (tl hy) ⟨by omega,(LY hN hq h1).mp ((AZ hM hj).mp hf),(LY hN hq h2).mp ((AZ hM2 hj).mp hg),(L7 (show d.runs.l.length=r by omega) _).mpr ⟨hW.2.1.mp ?_,hW.2.2.mp ?_⟩⟩ λv c i=>h x y (xq hx) (xq hy) v c i) (by omega)<;>grind
def aj3{ha:a.toNat<ts.length}(hx:ts[a.toNat]=x){hb:b.toNat<ts.length}(hy:ts[b.toNat]=y)(h:Ci (nA p L n d ts) a b k m)(hW:OG p L n d m r W)(hr:d.runs.l.length<=r)(hr2:r<=d.runs.l.length){c1:Bool}{g1:1<W.length}(w1:W[1]=c1)(v1:c1=false):Ci (nA p L n d ts) a b k (m+1) :=
 LU (E:=nA p L n d ts) hx hy h λc=>by have e:=hW.2.1.mpr ((L7 (show d.runs.l.length=r by omega) _).mp c.2.2.2).1;grind
def agD{ha:a.toNat<ts.length}(hx:ts[a.toNat]=x){hb:b.toNat<ts.length}(hy:ts[b.toNat]=y)(h:Ci (nA p L n d ts) a b k m)(hW:OG p L n d m r W)(hr:d.runs.l.length<=r)(hr2:r<=d.runs.l.length){c1:Bool}{g1:2<W.length}(w1:W[2]=c1)(v1:c1=false):Ci (nA p L n d ts) a b k (m+1) :=
 LU (E:=nA p L n d ts) hx hy h λc=>by have e:=hW.2.2.mpr ((L7 (show d.runs.l.length=r by omega) _).mp c.2.2.2).2;grind
def ajV(hN:qz n p)(hk:kd=4){ha:a.toNat<ts.length}(hx:ts[a.toNat]=x){hb:b.toNat<ts.length}(hy:ts[b.toNat]=y)(h:Ci (nA p L n d ts) a b k m)(hm:p.lines.l.length<=m):D6 (nA p L n d ts) kd a b k (-1):=by refine xl (aeA (E:=nA p L n d ts) hk (tl hx) (tl hy) λv c=>?_) (by decide);obtain⟨f,⟨e,_,g⟩,_⟩:=id c;have:=VZ hN f g;exact h x y (xq hx) (xq hy) v f (by omega) c
end
section
variable {E:rB}{a b k kd w v:Int}{x y:mj}{r s:lv}{bd:mM}{z:cA}
def akw{l:List nL}{i:Int}{o:Bool}(h:(o=true->qG l i=some z)/\(o=false->qG l i=none))(hi:0<=i/\i<(l.length:Int)):qG l i=some z:=by simp_all[QG]
def FY{hi:a.toNat<E.ts.length}(hx:E.ts[a.toNat]=x)(h:v=wO x k)(h0:¬v<0){hr:v.toNat<E.L.length}(hq:E.L[v.toNat]=r):∀t,pA E a t->r.from_=rZ E.L t k:=JD hx (QO h.symm h0 hq).symm
def WI{hi:a.toNat<E.ts.length}(hx:E.ts[a.toNat]=x)(h:v=wO x k)(h0:v<0):∀t,pA E a t->-1=rZ E.L t k:=JD hx (J9 (h▸h0)).symm
end
section
variable {E:rB}{kd w:Int}{i j m kn:Nat}
def ahI(h:D6 E kd i j m w)(hk:kd=(kn:Int))(h0:0<=w)(hi:i<E.ts.length)(hj:j<E.ts.length):MK E kn i j m=some ⟨kd,i,j,m,w⟩:=by have a:=aat (h.1 h0) (by omega) hi hj;grind
def ajv(h:D6 E kd i j m w)(hk:kd=(kn:Int))(h0:w<0)(hi:i<E.ts.length)(hj:j<E.ts.length):MK E kn i j m=none:=by have a:=Xx (h.2 h0) (by omega) hi hj;grind
def ajU{r:Row Int}{x:Int}{k:Nat}{h:k<r.l.length}(hq:r.l[k]=x)(hr:r.l=[2,3,4,5]):x=(k:Int)+2/\k<4:=by grind
end
section
variable {p:be}{L:List lv}{n m:ej}{d:cB}{ts:List mj}{r s:oK}{e c:Int}{b:Bool}
def adE(h:CM p L n d ts r e)(hc:qE p L d c)(h0:c≠0)(he:e≠c):False:=he (XF h hc h0).1
def af5(h:CM p L n d ts r e)(hc:qE p L d c)(h0:c≠0)(he:¬(r.kind=0/\r.a=0/\r.b=0/\r.tick=0/\r.Gd=0)):False:=he (by grind[XF])
def adX(h:CM p L n d ts r e)(hc:qE p L d c)(h0:c=0)(hR:BI false (sG p L.length d ts))(he:e≠1):False:=he (Yk h hc h0 hR rfl).1
def acM(h:CM p L n d ts r e)(hc:qE p L d c)(h0:c=0)(hR:BI false (sG p L.length d ts))(he:¬(r.kind=0/\r.a=0/\r.b=0/\r.tick=0/\r.Gd=0)):False:=he (by grind[Yk])
def aeM(h:CM p L n d ts r e)(hc:qE p L d c)(h0:c=0)(hR:BI true (sG p L.length d ts))(he:e≠0):False:=by obtain⟨c',a,_,b⟩:=h;have:=hc.xi a;subst this;exact he ((b h0).2 hR.yes).1
def acz(h:CM p L n d ts r e)(hc:qE p L d c)(h0:c=0)(hR:BI true (sG p L.length d ts))(hE:nA p L n d ts=nA p L m d ts)(hm:OM (FM (nA p L m d ts)) s)(he:¬(r.kind=s.kind/\r.a=s.a/\r.b=s.b/\r.tick=s.tick/\r.Gd=s.Gd)):False:=he (by
 grind[aka])
end
def T7{p:be}{m:Nat}{t:mj}{k r:Int}(h:DM p m t)(e:r=wO t k) : -1<=r/\r<(m:Int):=by
 subst e;unfold wO;cases a:t.roads.l[k.toNat]? with
 |none=>grind
 |some x=>exact h.C0 x (alc a)
section
variable {α:Type}{enc : α->List AV}{e:Env}{h:aT}
def um{X:Ctx}{d:Option Nat}{t el:Nat}{x y:Operand}{ti te:TI}{r:Row α}{k:IntKind}{n:Int}{z : α}(hT:X.C.T t=some ti)(hk:ti.kind=.slice el)(hE:X.C.T el=some te)(hx:me e x=r.av enc)(hi:me e y=.int k n)(h0:0<=n)
  {hn:n.toNat<r.l.length} (hq:r.l[n.toNat]=z) (hl:(enc z).length=te.size):mT (.indexAddr t x y) X e h d=some (.ip (enc z) 0 false,h):=by
 grind[F7]
def C5{X:Ctx}{d:Option Nat}{t el:Nat}{x y:Operand}{ti te:TI}{r:Row α}{k:IntKind}{n:Nat}{z : α}(hT:X.C.T t=some ti)(hk:ti.kind=.slice el)(hE:X.C.T el=some te)(hx:me e x=r.av enc)(hi:me e y=.int k (n:Int))
  {hn:n<r.l.length} (hq:r.l[n]=z) (hl:(enc z).length=te.size):mT (.indexAddr t x y) X e h d=some (.ip (enc z) 0 false,h):=by
 grind[xk]
end
section
variable {P:Program}{X:Ctx}{N:Nat}{G0:Ga}
theorem E6 {C : nu} {f : Nat} {fa : lg} (hC : nV P C) {fn : Func} (hfn : P.funcs[f]? = some fn) (hbody : fn.body = some fa.body) (hres : fn.results.toList = fa.res) (hname : (fn.name == "runtime.NumGoroutine") = false) {args args0 : List AV} {x : Ex} {e' : Env} {h' : aT} {v : AV} {h : aT}
  (hr:∀G0:Ga,G0.h=aT.empty->ri P fn.ntmps G0 fa.body (params 0 args0) aT.empty x e' h') (hv:frozen h (leave C fa.res (some (x,e',h')))=some (v,h)) (hargs:pb h args=some args0):GF P f args h v h:=by
 intro G a M N O A Q q;refine⟨⟨fn,hfn,by grind,hname⟩,?_⟩;intro R T;subst M;obtain⟨k1,k2⟩:=Ez A hargs Q q;have D:=QN A
 have n:∀e i,leave.leave1 C fa.res e' h'=some (e,i)->freeze false i 8 e=some v->(x=.oa\/x=.ret)->Calls P f a G.w R:=by
  intro e i r E U;refine calls_of_wp (w:=(vM G).w) hfn hbody ?_
  have F:Fr (vM G) (vM G):=by
   refine⟨⟨⟨λ_ _ h=>h,λ_ _ _=>rfl,abs _,λ_ _ g z V h=>⟨g,z,V,h,abs _,λ_=>⟨rfl,λ_ h=>h⟩⟩,λ_ _ W c h=>⟨W,c,h,λ_ h=>h⟩,λd B h=>(by cases h)⟩,rfl,rfl,.rfl _,abs _,λ_ _ _ _=>rfl,
    λ_ l h=>.inl ⟨l,h,rfl⟩,λ_ _ h=>(by cases h),λ_ _ h=>.inl h,rfl,λ_ _ _=>rfl,λ_ _ h=>(by cases h),λ_ _ h=>(by cases h),λd c _ X=>(by cases X)⟩,λd B h=>(by cases h)⟩
  have H:St fn.ntmps (vM G) (vM G) (params 0 args0) { tmps:=a++Array.replicate (fn.ntmps - a.size) undef,defers:=[] } :=
   ⟨F,D,K6 k1 k2 _,rfl,by grind⟩
  refine hr (vM G) rfl (vM G) _ _ rfl H ?_;intro G1 Y J j
  have k:∃u,(results fn Y.tmps).run P G1.w=.ok u G1.w/\R (.returned u) G1.w:=by
   rw[<- J,<- hres]at r;obtain⟨Z,u,e2,e3⟩:=EM j.wr hC j.er r;refine⟨u,e2,?_⟩;have S2:=j.fr.S;have W2:WR (G1.nB [] λ_=>none):=j.wr.LJ (λd B h=>by cases h) (λd B h=>by cases h);obtain⟨S3,W3⟩:=KL A O S2 W2;have s:freeze false (G1.nB [] λ_=>none).h 8 e=some v:=by refine AE (h:=i) ?_ _ _ _ E;intro b o K;rw[Z]at K;exact K
   exact T u (zZ G (G1.nB [] λ_=>none)) S3 W3 (λm=>rfl) (λm L=>(Iu S2 W2 s e3.nB).nB.vr)
  rcases U with rfl|rfl
  ·exact⟨j.df,k⟩
  ·exact⟨j.df,k⟩
 have t:∀e i,leave C fa.res (some (x,e',h'))=some (e,i)->freeze false i 8 e=some v:=by grind[frozen]
 cases x with
 |oa=>
  cases p:leave C fa.res (some (.oa,e',h'))with
  |none=>rw[p]at hv;cases hv
  |some y=>obtain⟨e,i⟩:=y;exact n e i p (t e i p) (.inl rfl)
 |ret=>
  cases p:leave C fa.res (some (.ret,e',h'))with
  |none=>rw[p]at hv;cases hv
  |some y=>obtain⟨e,i⟩:=y;exact n e i p (t e i p) (.inr rfl)
 |ext id=>cases hv
theorem Hc{h h2:aT}{args tY:List AV}(ha:pb h args=some tY)(E:∀b o,h.get b=some o->h2.get b=some o):pb h2 args=some tY:=by
 unfold pb at ha ⊢;split at ha
 ·have:∀(l l':List AV),nd (freeze true h 8) l=some l'->nd (freeze true h2 8) l=some l':=by intro l;induction l<;>grind[nd,AE]
  grind
 ·grind
def Pq(a0:List AV)(v0:AV)(a1:List AV)(v1:AV)(shd:Bool)(args:List AV)(h:aT):R2:=match shd with
 |true=>none
 |false=>match pb h args with
  |some a=>match rl (pk 12) a0 a with
   |true=>some (v0,h)
   |false=>match rl (pk 12) a1 a with
    |true=>some (v1,h)
    |false=>none
  |none=>none
def abm{f:Nat}{a0 a1:List AV}{v0 v1:AV}(h0:∀args h1,pb h1 args=some a0->GF P f args h1 v0 h1)(h1:∀args h2,pb h2 args=some a1->GF P f args h2 v1 h2):qD P f (Pq a0 v0 a1 v1) where
 call:=by
  intro e args h v h' b;unfold Pq at b;split at b;·cases b
  ·split at b
   ·rename_i a c;split at b;·rename_i d;cases b;have:=sa (uS 12) _ _ d;subst this;exact h0 args h c
    ·split at b;·rename_i d;cases b;have:=sa (uS 12) _ _ d;subst this;exact h1 args h c
     ·cases b
   ·cases b
 BQ:=by
  intro args h v h' b;unfold Pq at b;split at b;·rename_i g;cases g
  ·split at b
   ·rename_i a c;split at b;·rename_i d;cases b;refine⟨rfl,λh2 E=>?_⟩;unfold Pq;simp only[Hc c E,d]
    ·split at b;·cases b;refine⟨rfl,λh2 E=>?_⟩;unfold Pq;rw[Hc c E];simp_all
     ·cases b
   ·cases b
end
end Go.Sx
