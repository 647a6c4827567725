/- Proves rules for the walks and their soundness. -/
import Derived.Lib.SlicesCompact
import Derived.Test.YtmnmenklbegmeaaGreatHae
import Derived.Test.YtmnmenklbegmeaaGreatHaf
set_option linter.all false
namespace Go.Sx
open Go
section
variable (X:Ctx) (lp:zO)
def qi:List Bool->Code->lz->Env->aT->RC
 | [],_,_,e,h=>some (.j1,e,h)
 | true::p,.seq a b,.sq x y,e,h=>andThen (qi p b y) (jN X lp a x e h)
 | true::p,.seq a b,.seq live x y,e,h=>andThen (lH live (qi p b y)) (jN X lp a x e h)
 | false::p,.seq a _,.sq x _,e,h=>qi p a x e h
 | false::p,.seq a _,.seq _ x _,e,h=>qi p a x e h
 | false::p,.block _ a,an,e,h=>qi p a an e h
 | false::p,.scope a,an,e,h=>qi p a an e h
 | _,_,_,_,_=>none
def behind:List Bool->Code->lz->RC->RC
 | [],_,_,r=>r
 | true::p,.seq _ b,.sq _ y,r=>behind p b y r
 | true::p,.seq _ b,.seq _ _ y,r=>behind p b y r
 | false::p,.seq a b,.sq x y,r=>andThen (jN X lp b y) (behind p a x r)
 | false::p,.seq a b,.seq live x y,r=>andThen (lH live (jN X lp b y)) (behind p a x r)
 | false::p,.block id a,an,r=>atEnd id (behind p a an r)
 | false::p,.scope a,an,r=>behind p a an r
 | _,_,_,r=>r
end
def qJ:List Bool->Code->lz->Code×lz
 | [],c,an=>(c,an)
 | true::p,.seq _ b,.sq _ y=>qJ p b y
 | true::p,.seq _ b,.seq _ _ y=>qJ p b y
 | false::p,.seq a _,.sq x _=>qJ p a x
 | false::p,.seq a _,.seq _ x _=>qJ p a x
 | false::p,.block _ a,an=>qJ p a an
 | false::p,.scope a,an=>qJ p a an
 | _,c,an=>(c,an)
section
variable {X:Ctx} {lp:zO}
def Ao {k:Env->aT->RC} {r:RC} {e0:Env} {h0:aT} (h:andThen k r=some (.j1,e0,h0)):∃ e h,r=some (.j1,e,h)/\k e h=some (.j1,e0,h0):=by
 unfold andThen at h
 grind
def qy:Nat->(Env->aT->RC)->Env->aT->RC
 | 0,_,e,h=>some (.j1,e,h)
 | n+1,f,e,h=>match f e h with
   | some (.j1,e,h)=>qy n f e h
   | r=>r
end
def tN (args0:List AV) (v0:AV) (shd:Bool) (args:List AV) (h:aT):R2:=match shd,nq (lM 12) args0 args with
 | false,true=>some (v0,h)
 | _,_=>none
def Af {P:Program} {C:jE} {F:kJ} {Pr:ko} (T:pf P C F Pr) {f n:Nat} {args0:List AV} {v0:AV} {h0:aT} (h:mg C F Pr n false f args0 aT.empty=some (v0,h0)):mq P f (tN args0 v0) where
 call:=by
  intro shd args h1 v h' hc
  unfold tN at hc
  split at hc
  ·rename_i _ ha
   cases hc
   have:=mO (oK 12) _ _ ha
   subst this
   obtain ⟨_,k⟩:=pP T n f args0 aT.empty v0 h0 h
   exact nG T n false f args0 h1 v0 h1 (k h1 (λb o hb=>by grind [Dq]))
  grind
 wU:=by
  grind [tN]
end Go.Sx
namespace Go.Sx
open Go
section
variable {C:jE} {F:kJ} {Pr:ko}
theorem iZ.wA {shd:Bool} {f:Nat} {args:List AV} {h h1 h2:aT} {v1 v2:AV} (a:iZ C F Pr shd f args h v1 h1) (b:iZ C F Pr shd f args h v2 h2):v1=v2/\h1=h2:=by
 obtain ⟨m,ha⟩:=a
 obtain ⟨n,hb⟩:=b
 have:=(ha (m+n) (by omega)).symm.trans (hb (m+n) (by omega))
 grind
def yn (Pr:ko):Prop:=∀ f p,Pr f=some p->∀ (args:List AV) (h:aT) (v:AV) (h':aT),p false args h=some (v,h')->h'=h/\∀ h2:aT,(∀ b o,h.get b=some o->h2.get b=some o)->p false args h2=some (v,h2)
def Ci (T:yn Pr) (n:Nat):oz (mg C F Pr n):=by
 intro f args h v h' hc
 cases n with
 | zero=>cases hc
 | succ n =>
   simp only [mg] at hc
   cases hp:Pr f with
   | some p =>
     rw [hp] at hc
     obtain ⟨k1,k2⟩:=T f p hp _ _ _ _ hc
     grind [mg]
   | none =>
     grind [Dv,mg]
open Classical in
noncomputable def res (C:jE) (F:kJ) (Pr:ko) (f:Nat) (args:List AV):AV :=
 if H:∃ v,iZ C F Pr false f args aT.empty v aT.empty then Classical.choose H else .undef
theorem iZ.at (T:yn Pr) {f:Nat} {args:List AV} {v:AV} (h:aT) (hc:iZ C F Pr false f args aT.empty v aT.empty):iZ C F Pr false f args h v h:=by
 obtain ⟨m,hm⟩:=hc
 refine ⟨m,λk hk=>(Ci T k f args aT.empty v _ (hm k hk)).2 h ?_⟩
 intro b o hb
 have:aT.empty.get b=none:=by
  rfl
 grind
def Vg (T:yn Pr) {f:Nat} {args:List AV} {R:AV->Prop} (w:∀ h:aT,∃ v,iZ C F Pr false f args h v h/\R v) {h:aT} {v:AV} (hc:iZ C F Pr false f args h v h):res C F Pr f args=v:=by
 obtain ⟨v0,h0,_⟩:=w aT.empty
 have H:∃ v,iZ C F Pr false f args aT.empty v aT.empty:=⟨v0,h0⟩
 have e:res C F Pr f args=Classical.choose H:=dif_pos H
 rw [e]
 exact ((Classical.choose_spec H).at T h).wA hc |>.1
def qG (T:yn Pr) {f:Nat} {args:List AV} {R:AV->Prop} (w:∀ h:aT,∃ v,iZ C F Pr false f args h v h/\R v) (h:aT):∃ v,iZ C F Pr false f args h v h/\R v/\res C F Pr f args=v:=by
 obtain ⟨v,hc,hR⟩:=w h
 exact ⟨v,hc,hR,Vg T w hc⟩
end
def zh:mV->mV
 | .exact _=>.j6
 | c=>c
mutual
def tw:AV->AV
 | .sl xs c=>.sl (tj xs) (zh c)
 | .agg l=>.agg (tn l)
 | v=>v
def tn:List AV->List AV
 | []=>[]
 | v::l=>tw v::tn l
def tj:List (List AV)->List (List AV)
 | []=>[]
 | x::l=>tn x::tj l
end
theorem wL:∀ (l:List AV) (i:Nat),(tn l)[i]?=(l[i]?).map tw
 | [],i=>by rfl
 | v::l,0=>by rfl
 | v::l,i+1=>by simp [tn,wL l i]
theorem zm:∀ (l:List AV),(tn l).length=l.length
 | []=>rfl
 | v::l=>by simp [tn,zm l]
theorem F4:∀ (l:List (List AV)) (i:Nat),(tj l)[i]?=(l[i]?).map tn
 | [],i=>by rfl
 | v::l,0=>by rfl
 | v::l,i+1=>by simp [tj,F4 l i]
theorem xH:∀ (l:List (List AV)),(tj l).length=l.length
 | []=>rfl
 | v::l=>by simp [tj,xH l]
theorem G3 {c:mV} {n m:Nat} (h:nY c n m) (hle:n<=m):nY (zh c) n m:=by
 cases c<;>first | exact h | exact hle
def PR.wk {w:World} {T:Bool->Nat->Prop} {m:Bool} {v:AV} {u:Value} (h:PR w T m v u):PR w T m (tw v) u:=by
 induction h with
 | undef m v h=>exact .undef m v h
 | bool m b=>exact .bool m b
 | int m k n=>exact .int m k n
 | str m s b h=>exact .str m s b h
 | jV m=>exact .jV m
 | ip m cells off sn B base c e fr f hm hB hI hc h1 hr=>exact .ip m cells off sn B base c e fr f hm hB hI hc h1 hr
 | slnil m=>exact .slnil m
 | ng m cap a c hm h=>exact .ng m (zh cap) a c (by rw [show pr (zh cap)=pr cap from by cases cap<;>rfl]; exact hm) (G3 h (Nat.zero_le _))
 | sl m xs cap B base c e fr cap' esz f hm hB hI hcap hle hz hc h1 hr ih =>
   have hs:pr (zh cap)=pr cap:=by cases cap<;>rfl
   have ex:∀ (i:Nat) (cs:List AV),(tj xs)[i]?=some cs->∃ cs0,xs[i]?=some cs0/\cs=tn cs0:=by
    grind [F4]
   have ex2:∀ (cs0:List AV) (j:Nat) (x:AV),(tn cs0)[j]?=some x->∃ x0,cs0[j]?=some x0/\x=tw x0:=by
    grind [wL]
   have key:=PR.sl (w:=w) (T:=T) m (tj xs) (zh cap) B base c e fr cap' esz f (by grind) hB (by grind) (by grind [xH,G3]) (by grind [xH])
    (by grind [zm])
    (by grind)
    (by grind)
    (by grind)
   rw [xH] at key
   exact key
 | ka m=>exact .ka m
 | fm m es sn r ents clk hm hB hI hl hy hko hk hv=>exact .fm m es sn r ents clk hm hB hI hl hy hko hk hv
 | kX m=>exact .kX m
 | jz m g a c a' c' ha hc hra hrc=>exact .jz m g a c a' c' ha hc hra hrc
 | agg m l vs hl h1 hr ih =>
   refine .agg m (tn l) vs (by grind [zm]) h1 ?_
   grind [wL]
def Tf {v:AV} (h:v.kg=true):(tw v).kg=true:=by
 cases v<;>first | exact h | (simp [AV.kg] at h)
def VR.wk {G:Ga} {v:AV} {u:Value} (h:VR G v u):VR G (tw v) u:=by
 induction h with
 | undef v=>exact .undef v
 | jm hp h=>exact .jm (Tf hp) h.wk
 | ptr b g i o a hb hg h=>exact .ptr b g i o a hb hg h
 | hs b g off len a cap' hb hg hle h=>exact .hs b g off len a cap' hb hg hle h
 | hm b r hb h=>exact .hm b r hb h
 | la d o B hd=>exact .la d o B hd
 | jz g a c a' c' ha hc hna hnc hra hrc=>exact .jz g a c a' c' ha hc hna hnc hra hrc
 | agg l vs hl hn h1 hr ih =>
   refine .agg (tn l) vs (by grind [zm]) ?_ h1 ?_
   ·intro x hx
    obtain ⟨i,hi⟩:=List.getElem?_of_mem hx
    rw [wL] at hi
    obtain ⟨x0,g1,rfl⟩:=Option.map_eq_some_iff.mp hi
    have:=hn x0 (List.mem_of_getElem? g1)
    cases x0<;>first | exact this | rfl
   grind [wL]
 | je l vs hl hr=>exact .je l vs hl hr
open Classical in
noncomputable def sJ (C:jE) (F:kJ) (Pr:ko) (f:Nat) (shd:Bool) (args:List AV) (h:aT):Option (AV×aT):=match shd with
 | true=>none
 | false=>if H:∃ v,iZ C F Pr false f args h v h then some (tw (Classical.choose H),h) else none
theorem w3 {C:jE} {F:kJ} {Pr:ko} {f:Nat} {args:List AV} {h:aT} {v:AV} (hc:iZ C F Pr false f args h v h):sJ C F Pr f false args h=some (tw v,h):=by
 have H:∃ v,iZ C F Pr false f args h v h:=⟨v,hc⟩
 have e:sJ C F Pr f false args h=some (tw (Classical.choose H),h):=dif_pos H
 rw [e,((Classical.choose_spec H).wA hc).1]
def FH {C:jE} {F:kJ} {Pr:ko} (T:yn Pr) (f:Nat):∀ (args:List AV) (h:aT) (v:AV) (h':aT),sJ C F Pr f false args h=some (v,h')->h'=h/\∀ h2:aT,(∀ b o,h.get b=some o->h2.get b=some o)->sJ C F Pr f false args h2=some (v,h2):=by
 intro args h v h' hc
 by_cases H:∃ v,iZ C F Pr false f args h v h
 ·obtain ⟨v0,hv0⟩:=H
  rw [w3 hv0] at hc
  cases hc
  refine ⟨rfl,λh2 E=>?_⟩
  obtain ⟨m,hm⟩:=hv0
  have:iZ C F Pr false f args h2 v0 h2:=⟨m,λk hk=>(Ci T k f args h v0 h (hm k hk)).2 h2 E⟩
  exact w3 this
 grind [sJ]
def Ks (args0:List AV) (v0:AV):∀ (args:List AV) (h:aT) (v:AV) (h':aT),tN args0 v0 false args h=some (v,h')->h'=h/\∀ h2:aT,(∀ b o,h.get b=some o->h2.get b=some o)->tN args0 v0 false args h2=some (v,h2):=by
 grind [tN]
def T7 {P:Program} {C:jE} {F:kJ} {Pr:ko} (T:pf P C F Pr):yn Pr:=λf p hp=>(T.DO f p hp).wU
def Gk {P:Program} {C:jE} {F:kJ} {Pr:ko} (T:pf P C F Pr) (f:Nat):mq P f (sJ C F Pr f) where
 call:=by
  intro shd args h v h' hc
  cases shd with
  | true=>cases hc
  | false =>
    by_cases H:∃ v,iZ C F Pr false f args h v h
    ·obtain ⟨v0,hv0⟩:=H
     rw [w3 hv0] at hc
     cases hc
     obtain ⟨m,hm⟩:=hv0
     have hk:=nG T m false f args h v0 h (hm m (Nat.le_refl _))
     intro G args' e1 e2 e3 e4 e5 e6
     obtain ⟨k1,k2⟩:=hk G args' e1 e2 e3 e4 e5 e6
     exact ⟨k1,λR hR=>k2 R λu G' s1 s2 s3 s4=>hR u G' s1 s2 s3 λm L=>(s4 m L).wk⟩
    grind [sJ]
 wU:=FH (T7 T) f
def Ls {n:Nat} {h h':aT} {s v':AV} {ys:List (List AV)} (ha:append n h s ys=some (v',h')) (hs:s≠.sl [] .nil):v'≠.sl [] .nil:=by
 unfold append at ha
 split at ha
 ·grind
 ·split at ha
  ·cases ha
  ·split at ha<;>grind [rn,nf,BX]
section
variable {C:jE} {F:kJ} {Pr:ko} {fa:iC} {e:Env} {α:Type} {enc : α->List AV} {H:aT} {L:List jH} {i:Nat} {w tt:Bool} {v:AV} {n:Nat} {l:List α} {ls:kI}
def uV {cl:Call} {s x:Operand} {t u:Nat} {ti:TI} {d:Option Nat} (ys:List α) (hS:Sep H L) (hi:L[i]?=some (.sl w tt v n (l.map enc))) (hc:cl.callee=.builtin .append) (ha:cl.args.toList=[s,x]) (hts:cl.argTypes.toList=[t,u]) (hT:pX C [t,u]=some ti) (hSr:CG C [t,u]=true) (hn:ti.size=n)
  (hs:iP e s=v) (hx:o1 { H with iq:=ls } (iP e x)=some (ys.map enc)) (hok:∀ y,(enc y).all AV.j5=true) (ht:tt=true\/ys.length=1) (hm:l.length+ys.length<=qQ) (henc:∀ x,(enc x).length=n) :
  ∃ v' H',(∀ call,jq (.call cl) ⟨C,fa,call⟩ e { H with iq:=ls } d=some (v',{ H' with iq:=ls }))/\Sep H' (L.set i (.sl w tt v' n ((l++ys).map enc)))/\(v≠.sl [] .nil->v'≠.sl [] .nil):=by
 obtain ⟨v',H',h1,h2⟩:=E8 (ls:=ls) (ys:=ys.map enc) hS hi (by grind) (by grind) (by grind)
 refine ⟨v',H',λcall=>?_,by grind,Ls h1⟩
 have hall:zE (ys.map enc)=true:=by
  grind [zE]
 simp only [jq,ow,nO,hc,ha,hts,l3,AL,sx,List.map_cons,List.map_nil,hT,hSr,hn,hs,hx,hall,h1]
def uU (hS:Sep H L) (hi:L[i]?=some (.sl w tt v n (l.map enc))) (hl:l.length<=rT):∃ r:Row α,r.l=l/\(r.c=.nil↔v=.sl [] .nil)/\∀ ls m,(∀ x,js (freeze false { H with iq:=ls } m) (enc x)=some (enc x))->freeze false { H with iq:=ls } (m+1) v=some (r.av enc):=by
 obtain ⟨hxl,⟨h0,rfl⟩ | ⟨_,rfl⟩ | ⟨b,g,j,hb,rfl,hg,htj⟩⟩:=hS.at hi
 ·have:l=[]:=List.map_eq_nil_iff.mp h0
  subst this
  exact ⟨⟨[],.nil,Nat.zero_le _,rfl,λ_=>rfl⟩,rfl,⟨λ_=>rfl,λ_=>rfl⟩,λ_ _ _=>rfl⟩
 ·exact ⟨⟨l,.exact (l.map enc).length,hl,rfl,λh=>by cases h⟩,rfl,⟨λh=>(by cases h),λh=>(AV.sl.inj h).2⟩,λ_ _ _=>rfl⟩
 ·refine ⟨⟨l,.j6,hl,rfl,λh=>by cases h⟩,rfl,⟨λh=>(by cases h),λh=>(by cases h)⟩,λls m hm=>?_⟩
  have h2:Nat.ble (0+(l.map enc).length) (l.map enc++j).length=true:=Nat.ble_eq.mpr (by simp)
  have h3:((l.map enc++j).drop 0).take (l.map enc).length=l.map enc:=by simp
  have h5:∀ ys:List (List AV),(∀ x∈ys,js (freeze false { H with iq:=ls } m) x=some x)->ns (freeze false { H with iq:=ls } m) ys=some ys:=by
   intro ys
   induction ys<;>grind [ns]
  simp only [freeze,aT.kK,hg,Nat.beq_refl,h2,Bool.and_self,h3,h5 (l.map enc) (by grind),BT]
  rfl
end
def jn.zV {α:Type} {r:jn α}:r.isNil=true↔r.c=.nil:=by
 grind [jn.isNil]
theorem vO.trans {α:Type} {a b c:Row α} (h:vO a b) (g:vO b c):vO a c:=⟨h.1.trans g.1,h.2.trans g.2⟩
theorem sM.trans {a b c:ju} (h:sM a b) (g:sM b c):sM a c:=⟨h.1.trans g.1,h.2.trans g.2⟩
def KN {l m:List ju} (h:∀ (i:Nat) (h:i<l.length) (h2:i<m.length),sM l[i] m[i]) {k:Nat} {x x':ju} (hk:k<l.length) (hq:l[k]=x) (hx:sM x' x) :
  ∀ (i:Nat) (h:i<(l.set k x').length) (h2:i<m.length),sM (l.set k x')[i] m[i]:=by
 intro i hi h2
 rw [List.getElem_set]
 split
 ·rename_i e
  subst e
  exact hx.trans (by grind)
 grind
def Ja (r p:bY):Prop:=vO r.elems p.elems/\vO r.iQ p.iQ/\vO r.signals p.signals/\(r.lines.c=.nil↔p.lines.c=.nil)/\r.lines.l.length=p.lines.l.length/\(∀ (i:Nat) (h:i<r.lines.l.length) (h2:i<p.lines.l.length),sM r.lines.l[i] p.lines.l[i])/\r.top=p.top/\r.jT=p.jT/\r.jS=p.jS/\r.j4=p.j4/\r.j9=p.j9
theorem LO {α:Type} {r s:Row α} (h:r.c=.nil↔s.c=.nil):zh r.c=CF s.c:=by
 have h1:=r.sn
 cases hr:r.c<;>cases hs:s.c<;>simp_all [zh,CF,pU]
theorem EW {α:Type} {enc : α->List AV} (h:∀ x : α,tn (enc x)=enc x):∀ l:List α,tj (l.map enc)=l.map enc
 | []=>rfl
 | x::l=>by simp only [List.map_cons,tj,h,EW h l]
theorem Bt {α:Type} {enc : α->List AV} {r s:Row α} (h:vO r s) (he:∀ x : α,tn (enc x)=enc x):tw (r.av enc)=s.canon.av enc:=by
 simp only [Row.av,tw,Row.canon,EW he,h.1,LO h.2]
theorem B4:∀ {l m:List ju},l.length=m.length->(∀ (i:Nat) (h:i<l.length) (h2:i<m.length),sM l[i] m[i])->tj (l.map ju.af)=(m.map ju.canon).map ju.af
 | [],[],_,_=>rfl
 | [],_::_,h,_=>by simp at h
 | _::_,[],h,_=>by simp at h
 | x::l,y::m,hl,h=>by
   obtain ⟨h1,h2⟩:=h 0 (by simp) (by simp)
   simp only [List.getElem_cons_zero] at h1 h2
   have ih:=B4 (l:=l) (m:=m) (by simpa using hl) λi h3 h4=>by
    have:=h (i+1) (by simpa using h3) (by simpa using h4)
    simpa using this
   simp only [List.map_cons,tj,ih]
   congr 1
   simp only [ju.af,ju.canon,tn,Bt h2 (enc:=jL) (λx=>rfl),h1]
   rfl
theorem GN {r p:bY} (h:Ja r p):tw (.agg r.af)=.agg p.canon.af:=by
 obtain ⟨h1,h2,h3,h4,h5,h6,h7,h8,h9,h10,h11⟩:=h
 have hl:tw (r.lines.av ju.af)=(p.lines.xl ju.canon).canon.av ju.af:=by
  simp only [Row.av,tw,B4 h5 h6,Row.canon,Row.xl,LO h4]
 simp only [bY.af,tw,tn,bY.canon,Bt h1 (enc:=jZ.af) (λx=>rfl),Bt h2 (enc:=jX.af) (λx=>rfl),Bt h3 (enc:=jY.af) (λx=>rfl),hl,h7,h8,h9,h10,h11]
def Ij {C:jE} {F:kJ} {Pr Pr2:ko} {f:Nat} {args:List AV} {h:aT} {v:AV} (hp:Pr2 f=some (sJ C F Pr f)) (hc:iZ C F Pr false f args h v h):iZ C F Pr2 false f args h (tw v) h:=by
 refine ⟨1,λk hk=>?_⟩
 cases k<;>grind [mg,w3]
section
variable {amb:Bool} {A:Int->Option iz} {N:iz->Option iz} {K:Int->Int} {R:iz->Int} {d:iB} {run leg:Int}
def K4 (hz:0<=nk amb A N K R d run leg):0<=run/\run<(d.runs.l.length:Int)/\0<=leg/\∀ h:run.toNat<d.runs.l.length,leg<((d.runs.l[run.toNat]).iS.l.length:Int):=by
 by_cases h0:run<0\/run>=d.runs.l.length
 ·grind [o7,tQ]
 ·have hx:run.toNat<d.runs.l.length:=by omega
  by_cases h1:leg<0\/leg > (d.runs.l[run.toNat]).iS.l.length<;>grind [o7,tK,nk]
def Je {r:Int} (h:r=nk amb A N K R d run leg):(0<=r->0<=run/\run<(d.runs.l.length:Int)/\0<=leg/\∀ h:run.toNat<d.runs.l.length,leg<((d.runs.l[run.toNat]).iS.l.length:Int))/\r=nk amb A N K R d run leg:=⟨λhz=>K4 (h▸hz),h⟩
end
def JF (p:bY) (t:List iz):List Int:=(t.filter λh=>kn p h.elem≠4).map (·.elem)
def L6 {l:List j7} {k:Nat} {x:j7} {hk:k<l.length} (hq:l[k]=x) (h:∀ (i j:Nat) (h:j<l.length) (hij:i<j),j<k->(l[i]).name.l≠(l[j]).name.l) (hx:∀ y∈l.take k,¬ y.name.l=x.name.l) :
  ∀ (i j:Nat) (h:j<l.length) (hij:i<j),j<k+1->(l[i]).name.l≠(l[j]).name.l:=by
 intro i j hj hij h2
 rcases Nat.lt_succ_iff_lt_or_eq.mp h2 with h3 | h3
 ·grind
 ·subst h3
  rw [hq]
  exact hx _ (List.mem_take_iff_getElem.mpr ⟨i,by omega,rfl⟩)
def mY {α:Type} {P : α->Prop} {l:List α} {k:Nat} (h:∀ (i:Nat) (h:i<l.length),i<k->P (l[i])) (hk:l.length<=k):∀ x∈l,P x:=by
 intro x hx
 obtain ⟨i,hi,rfl⟩:=List.mem_iff_getElem.mp hx
 grind
def rF (p:bY) (d:iB) (i:Nat):kU:=match d.runs.l[i]? with
 | none=>⟨⟨[],by decide⟩,0,⟨0,0⟩,0⟩
 | some r =>
   let a:=(nr p.signals.l r.from_).getD ⟨0,0⟩
   ⟨r.name,r.jb,a,if kn p a.elem=4 then 0 else r.left⟩
def KZ {p:bY} {d:iB} {i:Int} {r:j7} {a:iz} {m:Int} (hi:i.toNat<d.runs.l.length) (hq:d.runs.l[i.toNat]=r) (ha:a=(nr p.signals.l r.from_).getD ⟨0,0⟩) (hm:m=if kn p a.elem=4 then 0 else r.left):(⟨r.name,r.jb,a,m⟩:kU)=rF p d i.toNat:=by
 grind [rF]
structure Tk (L:Nat->List Int) (k:Nat) (m:List (Int×Bool)) (e:Int):Prop where
 look:∀ i,i<k->∀ x∈L i,look x m=some true
 val:∀ y∈m,y.2=true
 HG:e=0->∀ i j,i<j->j<k->∀ x∈L i,x∉L j
structure Cf (L:Nat->List Int) (k:Nat) (r:List Int) (m:List (Int×Bool)) (e:Int):Prop where
 tk:Tk L k m e
 Jx:∀ x∈r,Go.Sx.look x m=some true
 UH:e=0->∀ i,i<k->∀ x∈L i,x∉r
def Tk.zero (L:Nat->List Int):Tk L 0 [] 0:=⟨λi h=>by omega,by simp,λ_ i j h1 h2=>by omega⟩
def Tk.start {L:Nat->List Int} {k:Nat} {m:List (Int×Bool)} {e:Int} (h:Tk L k m e) (r:List Int):Cf L k (r.take 0) m e:=⟨h,by simp,λ_ _ _ _ _=>by simp⟩
theorem nE {α:Type} {r:List α} {j:Nat} {x : α} (hj:j<r.length) (hq:r[j]=x):r.take (j+1)=r.take j++[x]:=by
 rw [List.take_add_one,List.getElem?_eq_getElem hj,hq]; rfl
def s7 {m:List (Int×Bool)} {x y:Int} (h:look y m=some true):look y (put x true m)=some true:=by
 grind [ma]
def Cf.Fg {L:Nat->List Int} {k:Nat} {r:List Int} {m:List (Int×Bool)} {e e':Int} {j:Nat} {x:Int} (h:Cf L k (r.take j) m e) (hj:j<r.length) (hq:r[j]=x) (he:e'≠0):Cf L k (r.take (j+1)) (put x true m) e':=by
 refine ⟨⟨λi hi y hy=>s7 (h.tk.look i hi y hy),rk (P:=λy:Bool=>y=true) h.tk.val rfl,λh0=>absurd h0 he⟩,?_,λh0=>absurd h0 he⟩
 rw [nE hj hq]
 intro y hy
 rcases List.mem_append.mp hy with hy | hy
 ·exact s7 (h.Jx y hy)
 grind [ma]
def Cf.Wh {L:Nat->List Int} {k:Nat} {r:List Int} {m:List (Int×Bool)} {e:Int} {j:Nat} {x:Int} (h:Cf L k (r.take j) m e) (hj:j<r.length) (hq:r[j]=x) (hn:look x m=none):Cf L k (r.take (j+1)) (put x true m) e:=by
 refine ⟨⟨λi hi y hy=>s7 (h.tk.look i hi y hy),rk (P:=λy:Bool=>y=true) h.tk.val rfl,h.tk.HG⟩,?_,?_⟩
 ·rw [nE hj hq]
  intro y hy
  rcases List.mem_append.mp hy with hy | hy
  ·exact s7 (h.Jx y hy)
  grind [ma]
 ·intro h0 i hi y hy hm
  rw [nE hj hq] at hm
  rcases List.mem_append.mp hm with hm | hm
  ·exact h.UH h0 i hi y hy hm
  ·simp at hm; subst hm
   rw [h.tk.look i hi y hy] at hn; cases hn
def Cf.done {L:Nat->List Int} {k:Nat} {r:List Int} {m:List (Int×Bool)} {e:Int} {j:Nat} (h:Cf L k (r.take j) m e) (hj:r.length<=j) (hr:r=L k):Tk L (k+1) m e:=by
 rw [List.take_of_length_le hj,hr] at h
 refine ⟨λi hi x hx=>?_,h.tk.val,λh0 i j2 hij hj2 x hx=>?_⟩
 ·rcases Nat.lt_succ_iff_lt_or_eq.mp hi with h1 | h1
  ·exact h.tk.look i h1 x hx
  ·subst h1; exact h.Jx x hx
 ·rcases Nat.lt_succ_iff_lt_or_eq.mp hj2 with h1 | h1
  ·exact h.tk.HG h0 i j2 hij h1 x hx
  ·subst h1; exact h.UH h0 i hij x hx
def EB (d:iB) (i:Nat):Int:=match d.runs.l[i]? with
 | none=>0
 | some r=>match d.jb.l[r.jb.toNat]? with
   | none=>0
   | some s=>s.len
def G4 {d:iB} {k:Nat} {x:j7} {y:jF} (hk:k<d.runs.l.length) (hq:d.runs.l[k]=x) (hs:x.jb.toNat<d.jb.l.length) (hqs:d.jb.l[x.jb.toNat]=y):y.len=EB d k:=by
 grind [EB]
def CC {Q:Nat->Prop} {k:Nat} (h:∀ i,i<k->Q i) (hk:Q k):∀ i,i<k+1->Q i:=by
 grind
structure DS where
 state:Int
 front:Int
 off:Bool
 seen:Row Bool
def DS.af (x:DS):List AV:=[.int .i64 x.state,.int .i64 x.front,.bool x.off,x.seen.av YO]
def Q7 (cs:List AV):Prop:=∀ c∈cs,∀ (hp:aT) (n:Nat),freeze false hp (n+2) c=some c
def fzB:AV->Bool
 | .int _ _ | .bool _ | .ip _ _ false=>true
 | _=>false
def Q7.of {cs:List AV} (h:cs.all fzB=true):Q7 cs:=by
 intro c hc hp n
 have:=List.all_eq_true.mp h c hc
 unfold fzB at this
 grind [freeze]
def LT (tr:List kU) (p:bY) (i:Nat):List Int:=match tr[i]? with
 | none=>[]
 | some t=>JF p [t.at_]
def Mt (L:Nat->List Int) (k:Nat) (r:List Int) (m:List Bool):Prop:=∀ (x:Nat) (h:x<m.length),m[x]=true->(∃ i,i<k/\(x:Int)∈L i)\/(x:Int)∈r
def Mt.zero (L:Nat->List Int) (n:Nat):Mt L 0 [] (List.replicate n false):=by
 intro x h hx
 simp at hx
theorem Mt.set {L:Nat->List Int} {k j:Nat} {r:List Int} {m:List Bool} {x:Int} (h:Mt L k (r.take j) m) (hj:j<r.length) (hq:r[j]=x) (h0:0<=x):Mt L k (r.take (j+1)) (m.set x.toNat true):=by
 intro y hy ht
 rw [List.getElem_set] at ht
 rw [nE hj hq]
 split at ht
 ·grind
 ·rcases h y (by simpa using hy) ht with h1 | h1<;>grind
def Mt.done {L:Nat->List Int} {k j:Nat} {r:List Int} {m:List Bool} (h:Mt L k (r.take j) m) (hj:r.length<=j) (hr:r=L k):Mt L (k+1) [] m:=by
 intro y hy ht
 rw [List.take_of_length_le hj] at h
 rcases h y hy ht with ⟨i,hi,h1⟩ | h1<;>grind
def Bb (tr:List kU) (ks sl:List jF) (k:Nat):Prop:=sl.length=k/\∀ (i:Nat) (x:kU) (y:jF),tr[i]?=some x->sl[i]?=some y->ks[x.jb.toNat]?=some y
def Bb.zero (tr:List kU) (ks:List jF):Bb tr ks [] 0:=⟨rfl,λi x y _ h=>by simp at h⟩
def Bb.snoc {tr:List kU} {ks sl:List jF} {k:Nat} {x:kU} {y:jF} (h:Bb tr ks sl k) {hk:k<tr.length} (hq:tr[k]=x) {hs:x.jb.toNat<ks.length} (hy:ks[x.jb.toNat]=y):Bb tr ks (sl++[y]) (k+1):=by
 refine ⟨by simp [h.1],λi a b ha hb=>?_⟩
 rcases Nat.lt_or_ge i sl.length with h3 | h3
 ·rw [List.getElem?_append_left h3] at hb; exact h.2 i a b ha hb
 ·have hi:i=k:=by
   have:=(List.getElem?_eq_some_iff.mp hb).1
   simp at this; have:=h.1; omega
  grind
end Go.Sx
set_option maxHeartbeats 0
namespace Go.Sx
open Go
def jn.take {α:Type} (r:jn α) (k:Nat):jn α:=⟨r.l.take k,r.c,by have:=r.ok; rw [List.length_take]; omega,λh=>by rw [r.nl h]; simp⟩
structure tS where
 free:Row Int
 end_:Int
def tS.af (x:tS):List AV:=[x.free.av jL,.int .i64 x.end_]
structure mn where
 at_:Row Int
 iS:Row tS
def mn.af (x:mn):List AV:=[x.at_.av jL,x.iS.av tS.af]
def wJ.erase {es:List (AV×AV×Nat)} {c:Nat} (h:wJ es c) (i:Nat):wJ (es.eraseIdx i) c :=
 ⟨λx hx=>h.1 x ((List.eraseIdx_sublist es i).mem hx),h.2.sublist (List.eraseIdx_sublist es i)⟩
section
variable {C:jE} {fa:iC} {e:Env} {H:aT} {L:List jH} {ls:kI} {i n:Nat} {v:AV} {w tt:Bool}
def vT (v:AV) (k m:Nat) (v2:AV):Prop:=∃ b g,v=.hs b g 0 m/\v2=.hs b g k (m - k)
def xd {t el k:Nat} {x y:Operand} {ti te:TI} {kd:IntKind} {d:Option Nat} {xs:List (List AV)} (hS:Sep H L) (hi:L[i]?=some (.sl true tt v n xs)) (hT:C.T t=some ti) (hk:ti.kind=.slice el) (hE:C.T el=some te) (hn:te.size=n) (hx:iP e x=v) (hy:iP e y=.int kd (k:Int)) (hkl:k<xs.length) :
  ∃ v',(∀ call,jq (.slice t x (some y) none none) ⟨C,fa,call⟩ e { H with iq:=ls } d=some (v',{ H with iq:=ls }))/\vT v k xs.length v':=by
 obtain ⟨hxl,⟨h0,rfl⟩ | ⟨h0 | h0,rfl⟩ | ⟨b,g,j,hb,rfl,hg,htj⟩⟩:=hS.at hi
 ·subst h0; simp at hkl
 ·cases h0
 ·subst h0; simp at hkl
 ·have hai:oX (.int kd (k:Int))=some k:=rfl
  have h0:Nat.ble k xs.length=true:=Nat.ble_eq.mpr (by omega)
  have h1:Nat.ble xs.length (xs++j).length=true:=Nat.ble_eq.mpr (by simp)
  have h2:Nat.ble 0 (xs++j).length=true:=Nat.ble_eq.mpr (by simp)
  refine ⟨.hs b g k (xs.length - k),λcall=>?_,b,g,rfl,rfl⟩
  simp only [jq,pd,oI,hT,hk,hE,hx,hy,slice,Cx,aT.kK,hg,hn,Nat.beq_refl,Bool.and_self,np,bound,hai,pB,Option.getD_none,h0,h1,h2,Bool.and_true,Bool.true_and,Bo,nf,kB,Nat.zero_add]
def Hv {α:Type} {enc : α->List AV} {cl:Call} {t k:Nat} {y:Operand} {ti:TI} {d:Option Nat} {l:List α} {z : α} {v':AV} (hS:Sep H L) (hi:L[i]?=some (.sl true tt v n (l.map enc))) (ht:vT v k (l.map enc).length v') (hc:cl.callee=.builtin .clear) (ha:cl.args.toList=[y]) (hts:cl.argTypes.toList=[t]) (hT:pX C [t]=some ti) (hn:ti.size=n) (hy:iP e y=v') (hz:enc z=ti.zero) (hzl:(enc z).length=n) (hkl:k<l.length) :
  ∃ w H',(∀ call,jq (.call cl) ⟨C,fa,call⟩ e { H with iq:=ls } d=some (w,{ H' with iq:=ls }))/\w=.je []/\Sep H' (L.set i (.sl true tt v n ((l.take k++List.replicate (l.length - k) z).map enc))):=by
 obtain ⟨b0,g0,rfl,rfl⟩:=ht
 obtain ⟨hxl,⟨h0,h9⟩ | ⟨h0,h9⟩ | ⟨b,g,j,hb,h9,hg,htj⟩⟩:=hS.at hi
 ·cases h9
 ·cases h9
 ·cases h9
  simp only [List.length_map] at hy ⊢
  have hlen:k+(l.length - k)=l.length:=by omega
  have h1:Nat.ble (k+(l.length - k)) (l.map enc++j).length=true:=Nat.ble_eq.mpr (by simp; omega)
  have ho:overwrite (l.map enc++j) k (List.replicate (l.length - k) (enc z))=(l.take k++List.replicate (l.length - k) z).map enc++j:=by
   unfold overwrite
   rw [List.length_replicate,hlen,List.take_append_of_le_length (by simp; omega),List.map_append,List.map_take,List.map_replicate]
   congr 1
   rw [List.drop_append_of_le_length (by simp),List.drop_of_length_le (by simp),List.nil_append]
  refine ⟨.je [],H.set b0 (.iH g0 n ((l.take k++List.replicate (l.length - k) z).map enc++j)),λcall=>?_,rfl,?_⟩
  ·simp only [jq,ow,nO,hc,ha,hts,l3,GO,vZ,List.map_cons,List.map_nil,hT,hn,hy,Et,aT.kK,hg,Nat.beq_refl,h1,Bool.and_self,<- hz,ho,aT.oj]
  ·refine hS.mG hi (by simpa using hS.lo) (by simp) ⟨?_,.inr (.inr ⟨b0,g0,j,by simp_all,by simp; omega,?_,htj⟩)⟩ ?_ ?_
   ·intro x hx
    obtain ⟨y',hy',rfl⟩:=List.mem_map.mp hx
    rcases List.mem_append.mp hy' with h | h
    ·exact hxl _ (List.mem_map_of_mem (List.mem_of_mem_take h))
    ·rw [(List.mem_replicate.mp h).2]; exact hzl
   ·grind [aT.lb,aT.mQ]
   ·intro b' hb' hne
    rw [aT.lb,if_neg (by rintro ⟨rfl,_⟩; exact hne rfl)]
   ·intro b' hb'; exact .inl hb'
end
section
variable {H:aT} {L:List jH} {i:Nat} {v:AV} {tt:Bool} {n:Nat} {α:Type} {enc : α->List AV} {l:List α}
end
end Go.Sx
namespace Go.Sx
open Go Go.Proofs
end Go.Sx
namespace Go.Sx
open Go
theorem vB {α:Type} {f : α->α->Bool}:∀ {l:List α},(∀ x∈l,f x x=true)->nq f l l=true
 | [],_=>rfl
 | x::l,h=>by rw [nq,h x List.mem_cons_self,vB λy hy=>h y (List.mem_cons_of_mem _ hy)]; rfl
section
variable {C:jE} {F:kJ} {Pr:ko} {fa:iC} {e:Env} {h:aT} {all rest:List Oper} {o:Oper} {q:Env->aT->Prop} {H:aT} {ls:kI}
end
def Cg (t:Nat):List (Nat×Nat)->Option Nat
 | []=>none
 | p::l=>match Nat.beq p.1 t with
   | true=>some p.2
   | false=>Cg t l
def Cs (L:List jH) (i:Nat):AV:=match L[i]? with
 | some r=>r.v
 | none=>.undef
def yJ (k:Bool) (L:List jH) (ix:List (Nat×Nat)):Env->Env
 | []=>[]
 | p::E=>(p.1,match Cg p.1 ix with
   | some i=>(match k with
     | true=>keep p.1 (Cs L i)
     | false=>Cs L i)
   | none=>p.2)::yJ k L ix E
theorem GI {H:aT} {L:List jH} (hS:Sep H L) (ix:List (Nat×Nat)):∀ E,yJ true L ix E=yJ false L ix E
 | []=>rfl
 | p::E=>by
   simp only [yJ]
   rw [GI hS ix E]
   cases Cg p.1 ix with
   | none=>rfl
   | some i =>
     simp only [Cs]
     cases hi:L[i]? with
     | none=>simp only [keep]; split<;>rfl
     | some r=>rw [hS.IH hi p.1]
def RQ {H:aT} {L:List jH} {e E:Env} (hS:Sep H L) (ix:List (Nat×Nat)) (h1:e=yJ true L ix E:=by rfl) (h2:yJ false L ix E=E:=by rfl):e=E :=
 h1.trans ((GI hS ix E).trans h2)
def xF:List Nat->List AV->Env
 | t::ts,v::vs=>(t,v)::xF ts vs
 | _,_=>[]
def At (live:List Nat) (vs:List AV) (H:aT) (L:kI) (e:Env) (h:aT):Prop:=proj live e=xF live vs/\{ h with iq:=kS live h.iq } = { H with iq:=L }
def atR {live:List Nat} {vs:List AV} {H:aT} {L:kI} {e:Env} {h:aT} (h1:proj live e=xF live vs:=by rfl) (h2:{ h with iq:=kS live h.iq } = { H with iq:=L }:=by rfl):At live vs H L e h:=⟨h1,h2⟩
def iO {live:List Nat} {vs:List AV} {H:aT} {L:kI} {e:Env} {h:aT} {H0:aT} {R:List jH} (hS:Sep H0 R) (ix:List (Nat×Nat)) (h1:proj live e=yJ true R ix (xF live vs):=by rfl) (h3:yJ false R ix (xF live vs)=xF live vs:=by rfl) (h2:{ h with iq:=kS live h.iq } = { H with iq:=L }:=by rfl):At live vs H L e h:=⟨RQ hS ix h1 h3,h2⟩
section
variable {C:jE} {F:kJ} {Pr:ko} {fa:iC} {c:Code} {an:lz} {Q:Ex->Env->aT->Prop} {live:List Nat} {e:Env} {h:aT}
def rz {vs:List AV} {H:aT} {L:kI} (hA:At live vs H L e h) (w:Wp C F Pr fa c an Q (xF live vs) { H with iq:=L }):Wp C F Pr fa c an Q (proj live e) { h with iq:=kS live h.iq }:=abh hA.1 hA.2 w
def wz (vs:List AV) (H:aT) (L:kI) (w:Wp C F Pr fa c an Q (xF live vs) { H with iq:=L }) (hA:At live vs H L e h:=by exact atR):Wp C F Pr fa c an Q (proj live e) { h with iq:=kS live h.iq }:=rz hA w
def wy (vs:List AV) (L:kI) (w:Wp C F Pr fa c an Q (xF live vs) { aT.empty with iq:=L }) (hA:At live vs aT.empty L e h:=by exact atR):Wp C F Pr fa c an Q (proj live e) { h with iq:=kS live h.iq }:=rz hA w
end
section
variable {Q:Prop} {H:aT} {L:List jH} {α:Type} {enc : α->List AV} {w tt:Bool} {v:AV} {n:Nat} {l:List α}
def nU (hS:Sep H L) (i:Nat) (K:∀ r:jn α,r.l=l->r.l.length=l.length->(∀ m,freeze true { H with iq:=[] } (m+2) v=some (r.av enc))->Q) (hi:L[i]?=some (.sl w tt v n (l.map enc)):=by rfl) (he:∀ m x,js (freeze true { H with iq:=[] } (m+1)) (enc x)=some (enc x):=by first | exact λ_ _=>rfl | (intro _ _; simp only [bY.af,jZ.af,iz.af,jX.af,jY.af,ju.af,jF.af,jJ.af,j7.af,iB.af,iR.af,iu.af,iG.af,nS.af,jC.af,kU.af,DS.af,tS.af,mn.af,lh,js,so,sB,tY,sg,tW])) (hl:l.length<=rT:=by simp only [rT]; first | omega | (simp<;>omega)):Q:=by
 obtain ⟨r,h1,h2⟩:=Tc hS hi hl
 exact K r h1 (congrArg _ h1) λm=>h2 [] _ (he m)
end
def PY (k:Bool) (R:List jH) (ix:List (Nat×Nat)) (live:List Nat) (e:Env):Env:=live.map λt=>(t,match Cg t ix with
 | some i=>(match k with
   | true=>keep t (Cs R i)
   | false=>Cs R i)
 | none=>keep t (lE e t))
theorem Vo {H:aT} {L:List jH} (hS:Sep H L) (ix:List (Nat×Nat)) (live:List Nat) (e:Env):PY true L ix live e=PY false L ix live e:=by
 refine List.map_congr_left λt _=>?_
 cases Cg t ix with
 | none=>rfl
 | some i =>
   simp only [Cs]
   cases hi:L[i]? with
   | none=>simp only [keep]; split<;>rfl
   | some r=>rw [hS.IH hi t]
def wk {C:jE} {F:kJ} {Pr:ko} {fa:iC} {c:Code} {an:lz} {Q:Ex->Env->aT->Prop} {live:List Nat} {e:Env} {h H0:aT} {R:List jH} (hS:Sep H0 R) (ix:List (Nat×Nat)) (w:Wp C F Pr fa c an Q (PY false R ix live e) { h with iq:=kS live h.iq }) (he:proj live e=PY true R ix live e:=by rfl):Wp C F Pr fa c an Q (proj live e) { h with iq:=kS live h.iq }:=by
 rw [he,Vo hS]; exact w
end Go.Sx
namespace Go.Sx
open Go Go.Lib
section
variable {C:jE} {F:kJ} {Pr:ko} {fa:iC} {e:Env} {H:aT} {ls:List (Nat×List AV)} {L:List jH} {i:Nat} {w tt:Bool} {v:AV} {n:Nat}
def F3 {X:Ctx} {d:Option Nat} {cl:Call} {t el k m:Nat} {y:Operand} {ti:TI} {h:aT} {v':AV} (ht:vT v k m v') (hc:cl.callee=.builtin .len) (ha:cl.args.toList=[y]) (hts:cl.argTypes.toList=[t]) (hT:X.C.T t=some ti) (hk:ti.kind=.slice el) (hy:iP e y=v') :
  jq (.call cl) X e h d=some (.int .i64 ((m - k:Nat):Int),h):=by
 obtain ⟨b,g,rfl,rfl⟩:=ht
 simp_all [jq,ow,nO,l3,u9,tl,uy,tI,oG]
def ui {t el:Nat} {x y:Operand} {ti te:TI} {k:IntKind} {q m r:Nat} {d:Option Nat} {cs:List AV} {xs:List (List AV)} {v':AV} (hS:Sep H L) (hi:L[i]?=some (.sl w tt v n xs)) (hT:C.T t=some ti) (hk:ti.kind=.slice el) (hE:C.T el=some te) (hn:te.size=n) (ht:vT v q r v') (hr:r=xs.length) (hx:iP e x=v') (hy:iP e y=.int k (m:Int)) (hm:xs[q+m]?=some cs) :
  ∃ a,(∀ call,jq (.indexAddr t x y) ⟨C,fa,call⟩ e { H with iq:=ls } d=some (a,{ H with iq:=ls }))/\a=nm a 0/\EA v (q+m) a cs:=by
 have hml:q+m<xs.length:=(List.getElem?_eq_some_iff.mp hm).1
 have hai:oX (.int k (m:Int))=some m:=rfl
 obtain ⟨b0,g0,rfl,rfl⟩:=ht
 subst hr
 obtain ⟨hxl,⟨h0,h9⟩ | ⟨h0,h9⟩ | ⟨b,g,j,hb,h9,hg,htj⟩⟩:=hS.at hi
 ·cases h9
 ·cases h9
 ·cases h9
  refine ⟨.ptr b0 g0 (q+m) 0,λcall=>?_,rfl,.inr ⟨b0,g0,_,rfl,rfl⟩⟩
  have h1:Nat.blt m (xs.length - q)=true:=by simp; omega
  simp only [jq,oT,nZ,hT,hy,hai,hk,hE,hx,pQ,aT.kK,hg,h1,hn,Nat.beq_refl,Bool.and_self,nf]
def ES {k m r:Nat} {v':AV} (ht:vT v k m v') (h:m=r):vT v k r v':=h▸ht
end
def wY {e:Env} {h:aT} {X:Ctx} {dd:Option Nat} {t u:Nat} {x y:Operand} {ti:TI} {a b c d:Int} (hx:iP e x=.agg [.int .i64 a,.int .i64 b]) (hy:iP e y=.agg [.int .i64 c,.int .i64 d])
  (hT:X.C.T t=some ti) (hf:∀ a b:Int,xh ti (.agg [.int .i64 a,.int .i64 b]) (.agg [.int .i64 c,.int .i64 d])=lU [.int .i64 a,.int .i64 b] [.int .i64 c,.int .i64 d]) :
  jq (.binOp .neq t x y u) X e h dd=some (.bool (decide (¬ (a=c/\b=d))),h):=by
 simp_all [jq,y8,binOp,AV.int?,AV.str?,yv,ED,kB]
 by_cases h1:a=c<;>by_cases h2:b=d<;>simp [h1,h2,sF]
def Se {x y:iu} (h:x.elem=y.elem/\x.pos=y.pos):x=y:=by
 obtain ⟨a,b⟩:=x
 obtain ⟨c,d⟩:=y
 simp only at h
 rw [h.1,h.2]
def U6 {x y:iu} (h:¬ ¬ (x.elem=y.elem/\x.pos=y.pos)):x=y:=Se (Classical.not_not.mp h)
def DJ {x y:iu} (h:¬ (x.elem=y.elem/\x.pos=y.pos)):¬ x=y:=λe=>h (by rw [e]; exact ⟨rfl,rfl⟩)
section
variable {α:Type} [Inhabited α] [DecidableEq α]
theorem wq {l:List α} {k:Nat} {x : α} {hk:k<l.length} (hq:l[k]=x):l.toArray[k]! = x:=by
 rw [getElem!_pos _ k (by simpa using hk)]; simpa using hq
def tz (l:List α) (k:Int):Prop:=1<=k/\k<=(l.length:Int)/\∀ j:Nat,(j:Int)<k->keeps l.toArray j=true
def tz.start {l:List α} (h:¬ (l.length:Int)<2):tz l 1:=⟨by omega,by omega,λj hj=>keeps_lt_one _ j (by omega)⟩
def tz.step {l:List α} {k:Int} {a b:Nat} {x y : α} (h:tz l k) {ha:a<l.length} (hx:l[a]=x) (ea:(a:Int)=k) {hb:b<l.length} (hy:l[b]=y) (eb:(b:Int)=k - 1) (hne:¬ x=y):tz l (k+1):=by
 refine ⟨by have:=h.1; omega,by omega,λj hj=>?_⟩
 by_cases e:(j:Int)<k
 ·exact h.2.2 j e
 ·obtain rfl:j=a:=by omega
  obtain rfl:b=j - 1:=by omega
  exact keeps_pos (by rw [wq hx,wq hy]; exact hne)
def tz.all {l:List α} {k:Int} (h:tz l k) (hk:¬ k<(l.length:Int)):l=compact l:=(compact_all l λj hj=>h.2.2 j (by omega)).symm
def DF {l:List α} (h:(l.length:Int)<2):l=compact l:=(compact_all l λj hj=>keeps_lt_one _ j (by omega)).symm
def pc (l:List α) (m k:Int) (l':List α):Prop:=0<=m/\0<=k/\m<=(l.length:Int)/\CompInv l.toArray m.toNat k.toNat l'.toArray
def pc.start {l:List α} {k:Int} {a b:Nat} {x y : α} (h:tz l k) {ha:a<l.length} (hx:l[a]=x) (ea:(a:Int)=k) {hb:b<l.length} (hy:l[b]=y) (eb:(b:Int)=k - 1) (he:x=y):pc l (k+1) k l:=by
 have h1:=h.1
 refine ⟨by omega,by omega,by omega,?_⟩
 rw [show (k+1).toNat=k.toNat+1 by omega]
 refine CompInv.start (λj hj=>h.2.2 j (by omega)) (keeps_neg (by omega) ?_)
 obtain rfl:a=k.toNat:=by omega
 obtain rfl:b=k.toNat - 1:=by omega
 rw [wq hx,wq hy,he]
theorem pc.len {l l':List α} {m k:Int} (h:pc l m k l'):l'.length=l.length/\k<m:=by
 have h1:=h.2.2.2.size
 have h2:=h.2.2.2.lt
 simp only [List.size_toArray] at h1
 exact ⟨h1,by have:=h.1; omega⟩
theorem pc.at {l l':List α} {m k:Int} (h:pc l m k l') {a:Nat} {x : α} {ha:a<l'.length} (hx:l'[a]=x) (hm:k<=(a:Int)):l.toArray[a]! = x:=by
 rw [<- h.2.2.2.high a (by have:=h.2.1; omega),wq hx]
theorem pc.keep {l l':List α} {m k:Int} {a b:Nat} {x y : α} (h:pc l m k l') {ha:a<l'.length} (hx:l'[a]=x) (ea:(a:Int)=m) {hb:b<l'.length} (hy:l'[b]=y) (eb:(b:Int)=m - 1) (hne:¬ x=y) {q:Nat} (eq:(q:Int)=k):pc l (m+1) (k+1) (l'.set q x):=by
 obtain ⟨h1,h2⟩:=h.len
 have h3:=h.1
 have h4:=h.2.1
 have hx2:=h.at hx (by omega)
 have hy2:=h.at hy (by omega)
 have hk:keeps l.toArray m.toNat=true:=by
  obtain rfl:a=m.toNat:=by omega
  obtain rfl:b=m.toNat - 1:=by omega
  exact keeps_pos (by rw [hx2,hy2]; exact hne)
 have hc:=h.2.2.2.keep (by simp; omega) hk
 refine ⟨by omega,by omega,by omega,?_⟩
 obtain rfl:a=m.toNat:=by omega
 obtain rfl:q=k.toNat:=by omega
 rw [hx2] at hc
 rw [show (m+1).toNat=m.toNat+1 by omega,show (k+1).toNat=k.toNat+1 by omega,<- List.setIfInBounds_toArray]
 exact hc
def pc.skip {l l':List α} {m k:Int} {a b:Nat} {x y : α} (h:pc l m k l') {ha:a<l'.length} (hx:l'[a]=x) (ea:(a:Int)=m) {hb:b<l'.length} (hy:l'[b]=y) (eb:(b:Int)=m - 1) (he:x=y):pc l (m+1) k l':=by
 obtain ⟨h1,h2⟩:=h.len
 have h3:=h.1
 have hx2:=h.at hx (by omega)
 have hy2:=h.at hy (by omega)
 refine ⟨by omega,h.2.1,by omega,?_⟩
 obtain rfl:a=m.toNat:=by omega
 obtain rfl:b=m.toNat - 1:=by omega
 rw [show (m+1).toNat=m.toNat+1 by omega]
 exact h.2.2.2.skip (keeps_neg (by omega) (by rw [hx2,hy2,he]))
def pc.done {l l':List α} {m k:Int} (h:pc l m k l') (hm:(l.length:Int)<=m) {q:Nat} (eq:(q:Int)=k) {z:List α}:(l'.take q++z).take q=compact l:=by
 obtain ⟨h1,h2⟩:=h.len
 have hm2:m.toNat=l.length:=by have:=h.2.2.1; omega
 have hi:=h.2.2.2
 obtain rfl:q=k.toNat:=by have:=h.2.1; omega
 rw [hm2] at hi
 have hlen:(compact l).length=k.toNat:=hi.len
 have hq:k.toNat<=l'.length:=by have:=hi.lt; omega
 rw [List.take_append_of_le_length (by simp; omega),List.take_take,Nat.min_self]
 apply List.ext_getElem?
 intro j
 by_cases hj:j<k.toNat
 ·rw [List.getElem?_take_of_lt hj]
  have:=hi.low j hj
  rw [show (compact l)[j]?=(compactUpTo l.toArray l.length)[j]? from rfl,this,getElem!_pos _ j (by simp; omega)]
  simp
 ·rw [List.getElem?_eq_none (by simp; omega),List.getElem?_eq_none (by omega)]
def TF {l:List α} {k m:Int} {a b:Nat} {x y : α} (h:tz l k) {ha:a<l.length} (hx:l[a]=x) (ea:(a:Int)=k) {hb:b<l.length} (hy:l[b]=y) (eb:(b:Int)=k - 1) (hne:¬ x=y) (em:m=k+1):tz l m:=em▸h.step hx ea hy eb hne
def Nt {l:List α} {k m:Int} {a b:Nat} {x y : α} (h:tz l k) {ha:a<l.length} (hx:l[a]=x) (ea:(a:Int)=k) {hb:b<l.length} (hy:l[b]=y) (eb:(b:Int)=k - 1) (he:x=y) (em:m=k+1):pc l m k l:=em▸pc.start h hx ea hy eb he
def TR {l l':List α} {m k m' k':Int} {a b:Nat} {x y : α} (h:pc l m k l') {ha:a<l'.length} (hx:l'[a]=x) (ea:(a:Int)=m) {hb:b<l'.length} (hy:l'[b]=y) (eb:(b:Int)=m - 1) (hne:¬ x=y) {q:Nat} (eq:(q:Int)=k) (em:m'=m+1) (ek:k'=k+1):pc l m' k' (l'.set q x):=em▸ek▸h.keep hx ea hy eb hne eq
def T5 {l l':List α} {m k m':Int} {a b:Nat} {x y : α} (h:pc l m k l') {ha:a<l'.length} (hx:l'[a]=x) (ea:(a:Int)=m) {hb:b<l'.length} (hy:l'[b]=y) (eb:(b:Int)=m - 1) (he:x=y) (em:m'=m+1):pc l m' k l':=em▸h.skip hx ea hy eb he
def ae1 {lt : α->α->Prop} (tr:∀ a b c,lt a b->lt b c->lt a c) {l:List α} (h:l.Pairwise λa b=>a=b\/lt a b):(compact l).Pairwise lt/\∀ x,x∈compact l↔x∈l:=by
 have hp:=List.pairwise_iff_getElem.mp h
 have key:∀ i j:Nat,i<=j->j<l.length->l.toArray[i]! = l.toArray[j]!\/lt (l.toArray[i]!) (l.toArray[j]!):=by
  intro i j hij hj
  rcases Nat.lt_or_ge i j with h1 | h1
  ·rw [getElem!_pos _ i (by simp; omega),getElem!_pos _ j (by simpa using hj)]
   simpa using hp i j (by omega) hj h1
  ·obtain rfl:i=j:=by omega
   exact .inl rfl
 have main:∀ m:Nat,m<=l.length->(compactUpTo l.toArray m).Pairwise lt/\∀ x,x∈compactUpTo l.toArray m↔∃ i,i<m/\l.toArray[i]! = x:=by
  intro m
  induction m with
  | zero=>intro _; exact ⟨.nil,λx=>by simp [compactUpTo]⟩
  | succ m ih =>
    intro hm
    obtain ⟨h1,h2⟩:=ih (by omega)
    rw [compactUpTo_succ]
    by_cases hk:keeps l.toArray m=true
    ·rw [if_pos hk]
     refine ⟨?_,λx=>?_⟩
     ·refine List.pairwise_append.mpr ⟨h1,by simp,λa ha b hb=>?_⟩
      simp only [List.mem_singleton] at hb
      subst hb
      obtain ⟨i,hi,rfl⟩:=(h2 a).mp ha
      have h5:l.toArray[m]!≠l.toArray[m - 1]!:=by
       have:=of_decide_eq_true hk
       rcases this with rfl | h
       ·omega
       ·exact h
      have h4:lt (l.toArray[m - 1]!) (l.toArray[m]!):=(key (m - 1) m (by omega) (by omega)).resolve_left λe=>h5 e.symm
      rcases key i (m - 1) (by omega) (by omega) with e | h3
      ·rw [e]; exact h4
      ·exact tr _ _ _ h3 h4
     ·simp only [List.mem_append,h2,List.mem_singleton]
      constructor
      ·rintro (⟨i,hi,rfl⟩ | rfl)
       ·exact ⟨i,by omega,rfl⟩
       ·exact ⟨m,by omega,rfl⟩
      ·rintro ⟨i,hi,rfl⟩
       rcases Nat.lt_or_ge i m with h | h
       ·exact .inl ⟨i,h,rfl⟩
       ·exact .inr (by rw [show i=m from by omega])
    ·rw [if_neg hk,List.append_nil]
     refine ⟨h1,λx=>(h2 x).trans ⟨λ⟨i,hi,e⟩=>⟨i,by omega,e⟩,?_⟩⟩
     rintro ⟨i,hi,rfl⟩
     rcases Nat.lt_or_ge i m with h | h
     ·exact ⟨i,h,rfl⟩
     ·obtain rfl:i=m:=by omega
      have h6:¬ (i=0\/l.toArray[i]!≠l.toArray[i - 1]!):=λhh=>hk (decide_eq_true hh)
      exact ⟨i - 1,by omega,by have:=λhne=>h6 (.inr hne); exact (Classical.byContradiction λhne=>this (λe=>hne e.symm))⟩
 obtain ⟨h1,h2⟩:=main l.length (Nat.le_refl _)
 refine ⟨h1,λx=>(h2 x).trans ?_⟩
 constructor
 ·rintro ⟨i,hi,rfl⟩
  rw [getElem!_pos _ i (by simpa using hi)]
  simp
 ·intro hx
  obtain ⟨i,hi,rfl⟩:=List.mem_iff_getElem.mp hx
  exact ⟨i,hi,by rw [getElem!_pos _ i (by simpa using hi)]; simp⟩
end
def GY {α:Type} {lt : α->α->Prop} (ir:∀ a,¬ lt a a) (tr:∀ a b c,lt a b->lt b c->lt a c):∀ {l m:List α},l.Pairwise lt->m.Pairwise lt->(∀ x,x∈l↔x∈m)->l=m
 | [],[],_,_,_=>rfl
 | [],b::m,_,_,h=>absurd ((h b).mpr (by simp)) (by simp)
 | a::l,[],_,_,h=>absurd ((h a).mp (by simp)) (by simp)
 | a::l,b::m,hl,hm,h=>by
   obtain ⟨l1,l2⟩:=List.pairwise_cons.mp hl
   obtain ⟨m1,m2⟩:=List.pairwise_cons.mp hm
   have hab:a=b:=by
    rcases List.mem_cons.mp ((h a).mp (by simp)) with e | ha
    ·exact e
    ·rcases List.mem_cons.mp ((h b).mpr (by simp)) with e | hb
     ·exact e.symm
     ·exact absurd (tr _ _ _ (l1 b hb) (m1 a ha)) (ir a)
   subst hab
   congr 1
   refine GY ir tr l2 m2 λx=>?_
   constructor
   ·intro hx
    rcases List.mem_cons.mp ((h x).mp (List.mem_cons_of_mem _ hx)) with e | hm2
    ·subst e; exact absurd (l1 x hx) (ir x)
    ·exact hm2
   ·intro hx
    rcases List.mem_cons.mp ((h x).mpr (List.mem_cons_of_mem _ hx)) with e | hl2
    ·subst e; exact absurd (m1 x hx) (ir x)
    ·exact hl2
end Go.Sx
namespace Go.Sx
open Go Go.Proofs Go.Sort
def pv (x:iu):Int×Int:=(x.elem,x.pos)
def Ad (p:Int×Int):iu:=⟨p.1,p.2⟩
theorem He {n:Int} (h:mI n):yw (.int .i64 n)=some n:=by
 simp only [yw]
 exact if_pos (by unfold mI at h; omega)
theorem FC:∀ {l:List iu},(∀ x∈l,mI x.elem/\mI x.pos)->sG (l.map iu.af)=some (l.map pv)
 | [],_=>rfl
 | x::l,h=>by
   have hx:=h x (by simp)
   have e:yZ (iu.af x)=some (pv x):=by
    simp only [yZ,iu.af,He hx.1,He hx.2]
    rfl
   simp only [List.map_cons,sG,e,FC λy hy=>h y (List.mem_cons_of_mem _ hy)]
def zb {α:Type} [Inhabited α] {tp : α->Int×Int} {dec:Int×Int->Option α} {g:Nat} {cf : α->α->Int} {C:jE} {F0:kJ} {Pr:ko} {f:Nat} {Q:Bool->List AV->aT->R2} (hp:Pr f=some Q) (hQ:∀ v h,Q true [v,.jz g [] []] h=kV tp dec g cf true [v,.jz g [] []] h) {H:aT} {t:Bool} {v:AV} {l:List iu} {F:List jH} (hS:Sep H (.sl true t v 2 (l.map iu.af)::F)) (q1:l.length<=1000000) (q2:∀ x∈l,mI x.elem/\mI x.pos) {ds:List α} (hd:vX dec (l.map pv)=some ds) (hl:(mS cf ds).length=l.length) :
  ∃ u H',iZ C F0 Pr true f [v,.jz g [] []] { H with iq:=[] } u H'/\u=.je []/\Sep H' (.sl true t v 2 (((mS cf ds).map λa=>Ad (tp a)).map iu.af)::F):=by
 have hcall:∀ (H':aT),kV tp dec g cf true [v,.jz g [] []] { H with iq:=[] }=some (.je [],H')->iZ C F0 Pr true f [v,.jz g [] []] { H with iq:=[] } (.je []) H':=by
  intro H' h
  refine ⟨1,λk hk=>?_⟩
  cases k with
  | zero=>omega
  | succ k=>simp only [mg,hp]; rw [hQ,h]
 have hen:(((mS cf ds).map λa=>Ad (tp a)).map iu.af)=((mS cf ds).map tp).map lf:=by
  simp only [List.map_map]; rfl
 have p7:(((mS cf ds).map λa=>Ad (tp a)).map iu.af).length=(l.map iu.af).length:=by simp [hl]
 obtain ⟨hxl,hc⟩:=hS.at (i:=0) rfl
 have nil:l=[]->kV tp dec g cf true [v,.jz g [] []] { H with iq:=[] }=some (.je [],{ H with iq:=[] })->∃ u H',iZ C F0 Pr true f [v,.jz g [] []] { H with iq:=[] } u H'/\u=.je []/\Sep H' (.sl true t v 2 (((mS cf ds).map λa=>Ad (tp a)).map iu.af)::F):=by
  rintro rfl h
  have:mS cf ds=[]:=List.eq_nil_of_length_eq_zero hl
  rw [this]
  exact ⟨_,_,hcall _ h,rfl,hS.iq _⟩
 rcases hc with ⟨h0,rfl⟩ | ⟨h0 | h0,rfl⟩ | ⟨b,gg,j,hb,rfl,hg,htj⟩
 ·have hln:=List.map_eq_nil_iff.mp h0
  subst hln
  exact nil rfl (by simp only [kV,Nat.beq_refl,List.map_nil])
 ·cases h0
 ·have:=List.map_eq_nil_iff.mp h0
  subst this
  exact nil rfl (by simp only [kV,Nat.beq_refl,List.map_nil])
 ·cases hl2:l with
  | nil=>subst hl2; exact nil rfl (by simp only [kV,Nat.beq_refl,List.map_nil,List.length_nil])
  | cons x t' =>
    have hlen:(l.map iu.af).length=t'.length+1:=by rw [hl2]; simp
    have hlob:H.lo<=b:=aT.mQ hg
    have hr:kV tp dec g cf true [.hs b gg 0 (l.map iu.af).length,.jz g [] []] { H with iq:=[] }=some (.je [],{ H.set b (.iH gg 2 (((mS cf ds).map tp).map lf++j)) with iq:=[] }):=by
     rw [hlen]
     have hk:sG (((l.map iu.af++j).drop 0).take (t'.length+1))=some (l.map pv):=by
      rw [List.drop_zero,<- hlen,List.take_left]
      exact FC q2
     have hb2:(Nat.ble (0+(t'.length+1)) (l.map iu.af++j).length&&Nat.ble (t'.length+1) 1000000)=true:=by
      rw [Bool.and_eq_true,Nat.ble_eq,Nat.ble_eq,List.length_append,<- hlen]
      rw [List.length_map] at hlen ⊢
      omega
     have hput:putAt (l.map iu.af++j) 0 (t'.length+1) (((mS cf ds).map tp).map lf)=((mS cf ds).map tp).map lf++j:=by
      unfold putAt
      rw [Nat.zero_add,<- hlen,List.drop_left]
      rfl
     simp only [kV,Nat.beq_refl,aT.kK,hg,Bool.true_and,hb2,hk,hd,hput,aT.oj]
    rw [<- hl2]
    rw [<- hen] at hr
    refine ⟨_,_,hcall _ hr,rfl,Sep.iq ?_ _⟩
    refine (hS.mG (i:=0) rfl (r':=.sl true t (.hs b gg 0 (l.map iu.af).length) 2 (((mS cf ds).map λa=>Ad (tp a)).map iu.af)) (by simpa using hS.lo) (by simp) ⟨?_,.inr (.inr ⟨b,gg,j,by simp_all,by rw [p7],?_,htj⟩)⟩ ?_ ?_)
    ·intro z hz
     simp only [List.mem_map] at hz
     obtain ⟨y,_,rfl⟩:=hz
     rfl
    ·grind [aT.lb]
    ·intro b' hb' hne; rw [aT.lb,if_neg (by rintro ⟨rfl,_⟩; exact hne rfl)]
    ·intro b' hb'; exact .inl hb'
end Go.Sx
namespace Go.Sx
open Go Go.Proofs Go.Sort Go.RowKit
def cI (x y:Int):Int:=if x<y then -1 else if y<x then 1 else 0
def ni (p q:Int×Int):Int:=if cI p.1 q.1=0 then cI p.2 q.2 else cI p.1 q.1
theorem lex_lt (p q:Int×Int):ltOf ni p q=decide (p.1<q.1\/(p.1=q.1/\p.2<q.2)):=by
 unfold ltOf ni cI
 congr 1
 apply propext
 repeat' split
 all_goals omega
def wx:SWO (ltOf ni):=by
 constructor
 ·intro x; rw [lex_lt]; simp
 ·intro x y z h1 h2
  rw [lex_lt] at *
  simp only [decide_eq_true_eq] at *
  omega
 ·intro x y z h1 h2
  rw [lex_lt] at *
  simp only [decide_eq_false_iff_not] at *
  omega
def yI (a b:iu):Prop:=a.elem<b.elem\/(a.elem=b.elem/\a.pos<b.pos)
def VZ (a:iu):¬ yI a a:=by unfold yI; omega
def Lh (a b c:iu) (h1:yI a b) (h2:yI b c):yI a c:=by unfold yI at *; omega
theorem CT:∀ ks:List (Int×Int),vX some ks=some ks
 | []=>rfl
 | p::l=>by simp only [vX,CT l]
def AW (l lo:List iu):Prop:=lo.length=l.length/\lo.Pairwise (λa b=>a=b\/yI a b)/\∀ x,x∈lo↔x∈l
def zu (l:List iu):AW l ((mS ni (l.map pv)).map Ad):=by
 obtain ⟨hp,hs⟩:=yG wx (l.map pv)
 have hlen:(mS ni (l.map pv)).length=l.length:=by rw [hp.length_eq,List.length_map]
 refine ⟨by simp [hlen],?_,λx=>?_⟩
 ·rw [List.pairwise_map,List.pairwise_iff_getElem]
  intro i j hi hj hij
  have h:=hs i j hij (by rw [List.length_map]; omega)
  rw [lex_lt,getElem!_pos _ i (by simpa using hi),getElem!_pos _ j (by simpa using hj)] at h
  simp only [decide_eq_false_iff_not,List.getElem_toArray] at h
  generalize (mS ni (l.map pv))[i]=a at *
  generalize (mS ni (l.map pv))[j]=b at *
  obtain ⟨a1,a2⟩:=a
  obtain ⟨b1,b2⟩:=b
  simp only at h
  by_cases e:a1=b1/\a2=b2
  ·left; unfold Ad; rw [e.1,e.2]
  ·right; unfold yI Ad; simp only; omega
 ·rw [List.mem_map]
  constructor
  ·rintro ⟨p,hp2,rfl⟩
   obtain ⟨y,hy,rfl⟩:=List.mem_map.mp (hp.mem_iff.mp hp2)
   exact hy
  ·intro hx
   exact ⟨pv x,hp.mem_iff.mpr (List.mem_map.mpr ⟨x,hx,rfl⟩),rfl⟩
abbrev C7:Type:={ p:Int×Int // 0<=p.1/\p.1<1000 }
instance:Inhabited C7:=⟨⟨(0,0),by decide⟩⟩
def sW (a:C7):Int×Int:=a.1
def z6 (p:Int×Int):Option C7:=if h:0<=p.1/\p.1<1000 then some ⟨p,h⟩ else none
def NU (p:Int×Int) (a:C7) (h:z6 p=some a):sW a=p:=by
 unfold z6 at h
 split at h
 ·cases h; rfl
 ·cases h
def qN (a b:C7):Int:=a.1.1 - b.1.1
def CB:SWO (ltOf qN):=by
 constructor
 ·intro x; unfold ltOf qN; simp
 ·intro x y z h1 h2
  unfold ltOf qN at *
  simp only [decide_eq_true_eq] at *
  omega
 ·intro x y z h1 h2
  unfold ltOf qN at *
  simp only [decide_eq_false_iff_not] at *
  omega
def G7:∀ (l:List iu),(∀ x∈l,0<=x.elem/\x.elem<1000)->∃ ds:List C7,vX z6 (l.map pv)=some ds/\ds.map sW=l.map pv
 | [],_=>⟨[],rfl,rfl⟩
 | x::l,h=>by
   obtain ⟨ds,h1,h2⟩:=G7 l λy hy=>h y (List.mem_cons_of_mem _ hy)
   have hx:z6 (pv x)=some ⟨pv x,h x (by simp)⟩:=by
    exact dif_pos (c:=0<=(pv x).1/\(pv x).1<1000) (h x (by simp))
   refine ⟨⟨pv x,h x (by simp)⟩::ds,?_,?_⟩
   ·simp only [List.map_cons,vX,hx,h1]
   ·simp only [List.map_cons,h2]; rfl
def GL {l:List iu} {ds:List C7} (h:ds.map sW=l.map pv):((mS qN ds).map λa=>Ad (sW a)).length=l.length/\∀ x,x∈((mS qN ds).map λa=>Ad (sW a))↔x∈l:=by
 obtain ⟨hp,_⟩:=yG CB ds
 have hl:ds.length=l.length:=by simpa using congrArg List.length h
 refine ⟨by rw [List.length_map,hp.length_eq,hl],λx=>?_⟩
 rw [List.mem_map]
 constructor
 ·rintro ⟨p,hp2,rfl⟩
  have:sW p∈l.map pv:=by rw [<- h]; exact List.mem_map.mpr ⟨p,hp.mem_iff.mp hp2,rfl⟩
  obtain ⟨y,hy,e⟩:=List.mem_map.mp this
  rw [<- e]; exact hy
 ·intro hx
  have:pv x∈ds.map sW:=by rw [h]; exact List.mem_map.mpr ⟨x,hx,rfl⟩
  obtain ⟨p,hp2,e⟩:=List.mem_map.mp this
  exact ⟨p,hp.mem_iff.mpr hp2,by rw [e]; rfl⟩
def On [Inhabited iu] [DecidableEq iu] {l lo:List iu} (h:AW l lo):(Lib.compact lo).Pairwise yI/\∀ x,x∈Lib.compact lo↔x∈l:=by
 obtain ⟨h1,h2⟩:=ae1 Lh h.2.1
 exact ⟨h1,λx=>(h2 x).trans (h.2.2 x)⟩
def nT (S:iu->Prop) (e q:Int) (o:List iu):Prop:=o.Pairwise yI/\∀ x,x∈o↔(S x/\0<=x.elem/\1<=x.pos/\x.pos<=2/\(x.elem<e\/(x.elem=e/\x.pos<q)))
def nT.zero {S:iu->Prop}:nT S 0 1 []:=⟨.nil,λx=>by simp; omega⟩
def nT.yes {S:iu->Prop} {e q:Int} {o:List iu} (h:nT S e q o) (h0:0<=e) (h1:1<=q) (h2:q<=2) (hs:S ⟨e,q⟩):nT S e (q+1) (o++[⟨e,q⟩]):=by
 refine ⟨List.pairwise_append.mpr ⟨h.1,by simp,λa ha b hb=>?_⟩,λx=>?_⟩
 ·simp only [List.mem_singleton] at hb
  subst hb
  have:=((h.2 a).mp ha).2
  unfold yI
  simp only
  omega
 ·rw [List.mem_append,h.2 x,List.mem_singleton]
  obtain ⟨x1,x2⟩:=x
  simp only [iu.mk.injEq]
  constructor
  ·rintro (⟨k1,k2⟩ | ⟨rfl,rfl⟩)
   ·exact ⟨k1,by omega⟩
   ·exact ⟨hs,by omega⟩
  ·rintro ⟨k1,k2⟩
   by_cases e2:x1=e/\x2=q
   ·exact .inr e2
   ·exact .inl ⟨k1,by omega⟩
def nT.no {S:iu->Prop} {e q:Int} {o:List iu} (h:nT S e q o) (hs:¬ S ⟨e,q⟩):nT S e (q+1) o:=by
 refine ⟨h.1,λx=>?_⟩
 rw [h.2 x]
 obtain ⟨x1,x2⟩:=x
 simp only
 constructor
 ·rintro ⟨k1,k2⟩; exact ⟨k1,by omega⟩
 ·rintro ⟨k1,k2⟩
  by_cases e2:x1=e/\x2=q
  ·exact absurd (e2.1▸e2.2▸k1) hs
  ·exact ⟨k1,by omega⟩
theorem nT.next {S:iu->Prop} {e q:Int} {o:List iu} (h:nT S e q o) (hq:q=3):nT S (e+1) 1 o:=by
 refine ⟨h.1,λx=>?_⟩
 rw [h.2 x]
 constructor
 ·rintro ⟨k1,k2⟩; exact ⟨k1,by omega⟩
 ·rintro ⟨k1,k2⟩; exact ⟨k1,by omega⟩
def nT.eq [Inhabited iu] [DecidableEq iu] {S:iu->Prop} {e:Int} {o l lo r:List iu} (h:nT S e 1 o) (hr:r=Lib.compact lo) (hl:AW l lo) (hS:∀ x,x∈l↔S x) (hb:∀ x,S x->0<=x.elem/\x.elem<e/\1<=x.pos/\x.pos<=2):r=o:=by
 obtain ⟨h1,h2⟩:=On hl
 subst hr
 refine GY VZ Lh h1 h.1 λx=>?_
 rw [h2 x,hS x,h.2 x]
 constructor
 ·intro k; have:=hb x k; exact ⟨k,by omega⟩
 ·intro k; exact k.1
end Go.Sx
namespace Go.Sx
open Go
def ml (P:Program) (N:Nat) (G0:Ga) (c:Code) (e:Env) (h:aT) (x:Ex) (e':Env) (h':aT):Prop :=
 ∀ (G:Ga) (a:Act) (Q:Exit->Act->World->Prop),G.h=h->St N G0 G e a->(∀ G' a',G'.h=h'->St N G0 G' e' a'->Q (As x) a' G'.w)->c.wp P Q a G.w
def A1:Tr jP->(Nat->Nat)->aT->Bool
 | .leaf,_,_=>true
 | .node l v r,f,h=>(match v with
   | some (.iH g z xs)=>match h.get (f 0) with
     | some (.iH g' z' xs')=>Nat.beq g g'&&Nat.beq z z'&&nq (nq (lM 12)) xs xs'
     | _=>false
   | some (.map es c)=>match h.get (f 0) with
     | some (.map es' c')=>Nat.beq c c'&&nq (λp q=>lM 12 p.1 q.1&&lM 12 p.2.1 q.2.1&&Nat.beq p.2.2 q.2.2) es es'
     | _=>false
   | none=>true)&&A1 l (λn=>f (2*n+1)) h&&A1 r (λn=>f (2*n+2)) h
def CE (h2 h1:aT):Bool:=Nat.beq h2.size h1.size&&Nat.beq h2.lo h1.lo&&Nat.beq h2.lo 0&&nq (λp q=>Nat.beq p.1 q.1&&nq (lM 12) p.2 q.2) h2.iq h1.iq&&A1 h2.tr id h1
structure Sub (h2 h1:aT):Prop where
 size:h2.size=h1.size
 lo:h2.lo=h1.lo
 iq:h2.iq=h1.iq
 get:∀ b o,h2.get b=some o->h1.get b=some o
theorem yQ:∀ (t:Tr jP) (f:Nat->Nat) (h:aT),A1 t f h=true->∀ (n:Nat) (o:jP),t.get n=some o->h.get (f n)=some o
 | .leaf,_,_,_,n,o,h=>by simp [Tr.get] at h
 | .node l v r,f,h,ha,n,o,hg=>by
   simp only [A1,Bool.and_eq_true] at ha
   obtain ⟨⟨h1,h2⟩,h3⟩:=ha
   cases n with
   | zero =>
     simp only [Tr.get] at hg
     subst hg
     cases o with
     | iH g z xs =>
       simp only at h1
       split at h1
       ·rename_i g' z' xs' hget
        simp only [Bool.and_eq_true] at h1
        rw [hget,Nat.eq_of_beq_eq_true h1.1.1,Nat.eq_of_beq_eq_true h1.1.2,mO (λ_ _=>mO (oK 12) _ _) _ _ h1.2]
       ·cases h1
     | map es c =>
       simp only at h1
       split at h1
       ·rename_i es' c' hget
        simp only [Bool.and_eq_true] at h1
        have:es=es':=mO (λp q hpq=>by
         simp only [Bool.and_eq_true] at hpq
         exact Prod.ext (oK 12 _ _ hpq.1.1) (Prod.ext (oK 12 _ _ hpq.1.2) (Nat.eq_of_beq_eq_true hpq.2))) _ _ h1.2
        rw [hget,Nat.eq_of_beq_eq_true h1.1,this]
       ·cases h1
   | succ m =>
     simp only [Tr.get] at hg
     split at hg
     ·rename_i hm
      have hm:=Nat.eq_of_beq_eq_true hm
      have:=yQ l _ h h2 (m / 2) o hg
      rw [show 2*(m / 2)+1=m+1 by omega] at this
      exact this
     ·rename_i hm
      have hm:m % 2≠0:=Nat.ne_of_beq_eq_false hm
      have:=yQ r _ h h3 (m / 2) o hg
      rw [show 2*(m / 2)+2=m+1 by omega] at this
      exact this
def IA {h2 h1:aT} (h:CE h2 h1=true):Sub h2 h1:=by
 simp only [CE,Bool.and_eq_true] at h
 obtain ⟨⟨⟨⟨a1,a2⟩,a3⟩,a4⟩,a5⟩:=h
 refine ⟨Nat.eq_of_beq_eq_true a1,Nat.eq_of_beq_eq_true a2,mO (λp q hpq=>by
  simp only [Bool.and_eq_true] at hpq
  exact Prod.ext (Nat.eq_of_beq_eq_true hpq.1) (mO (oK 12) _ _ hpq.2)) _ _ a4,?_⟩
 grind [aT.get,yQ]
section
variable {P:Program} {X:Ctx} {N:Nat} {G0:Ga}
theorem St.drop {G:Ga} {e:Env} {a:Act} {h2:aT} (hS:St N G0 G e a) (hs:Sub h2 G.h) (h0:G0.h.size=0):St N G0 ⟨G.w,G.T,h2,G.pi,G.L⟩ e a:=by
 have E:Ext G ⟨G.w,G.T,h2,G.pi,G.L⟩:=⟨λ_ _ h=>h,λ_ _ _=>rfl,by rw [hs.size]; omega,λb _ g z xs h=>⟨g,z,xs,hs.get b _ h,Nat.le_refl _,λ_=>⟨rfl,λ_ h=>h⟩⟩,λb _ es c h=>⟨es,c,hs.get b _ h,λ_ h=>h⟩,λ_ _ h=>h⟩
 refine ⟨⟨?_,hS.fr.L⟩,?_,hS.er.mono E,hS.df,hS.sz⟩
 ·have S:=hS.fr.S
  refine ⟨⟨S.ext.T,S.ext.keep,by omega,λb hb=>by omega,λb hb=>by omega,S.ext.iq⟩,S.os,S.output,S.tape,S.kT,S.frame,S.mT,S.nz,S.rq,?_,λb hb=>by omega,S.qf,S.rH,S.sp⟩
  exact hs.lo.trans S.lo
 ·have W:=hS.wr
  refine ⟨λb l g z xs hp hg=>(W.iH b l g z xs hp (hs.get b _ hg)).mono E rfl,λb l es c hp hg=>(W.map b l es c hp (hs.get b _ hg)).mono E rfl,?_,?_,W.mL,W.p6,W.oh,W.LT,W.oO,?_,W.nb,?_,?_⟩
  ·intro d B cs hd hcs
   have hcs:jM h2.iq d=some cs:=hcs
   rw [hs.iq] at hcs
   exact (W.loc d B cs hd hcs).mono E rfl
  ·intro b l h
   refine ⟨(W.kC b l h).1,?_⟩
   show b<h2.size
   rw [hs.size]; exact (W.kC b l h).2
  ·intro d B h
   refine ⟨(W.lT d B h).1,?_⟩
   show (jM h2.iq d).isSome=true
   rw [hs.iq]; exact (W.lT d B h).2
  ·show h2.lo<=h2.size
   rw [hs.lo,hs.size]; exact W.lo
  ·intro b o h
   show b<h2.size
   rw [hs.size]; exact W.lt b o (hs.get b o h)
def vM (hm:P.follows .mixedOrders=true) (hC:jR P X.C) (hK:nL P X.call) (hI:oz X.call) {n:Nat} {c:Code} {an:lz} {e:Env} {h:aT} {x:Ex} {e':Env} {h':aT} (hr:jN X (kA n) c an e h=some (x,e',h')) (hok:codeOk N X.fa.jl c an=true) :
  ml P N G0 c e h x e' h':=λG a Q hG hS hQ=>tC hm hC hK hI n c an e h x e' h' hr hok G a Q hG hS hQ
inductive tD (f:Env->aT->RC):Env->aT->Ex->Env->aT->Prop
 | last {e h x e' h'} (k:Nat):qy k f e h=some (x,e',h')->x≠.j1->tD f e h x e' h'
 | step {e h e1 h1 h2 x e' h'} (k:Nat):qy (k+1) f e h=some (.j1,e1,h1)->Sub h2 h1->tD f e1 h2 x e' h'->tD f e h x e' h'
def I5 (n:Nat) (a b:AV):Bool:=match a with
 | .je []=>(match b with
   | .je []=>true
   | _=>false)
 | a=>lM n a b
def Nf {n:Nat} {a b:AV} (h:I5 n a b=true):a=b:=by
 unfold I5 at h
 split at h
 ·split at h
  ·rfl
  ·cases h
 ·exact oK n _ _ h
def mW (k:Nat) (f:Env->aT->RC) (e:Env) (h:aT) (e1:Env) (h2:aT):Bool:=match qy (k+1) f e h with
 | some (.j1,e',h')=>nq (λp q=>Nat.beq p.1 q.1&&I5 12 p.2 q.2) e1 e'&&CE h2 h'
 | _=>false
def tD.piece {f:Env->aT->RC} {e:Env} {h:aT} {e1:Env} {h2:aT} {x:Ex} {e':Env} {h':aT} (k:Nat) (hp:mW k f e h e1 h2=true) (hc:tD f e1 h2 x e' h'):tD f e h x e' h':=by
 unfold mW at hp
 split at hp
 ·rename_i e0 h0 hi
  simp only [Bool.and_eq_true] at hp
  have:e1=e0:=mO (λp q hpq=>by
   simp only [Bool.and_eq_true] at hpq
   exact Prod.ext (Nat.eq_of_beq_eq_true hpq.1) (Nf hpq.2)) _ _ hp.1
  subst this
  exact .step k hi (IA hp.2) hc
 grind
def GC {c:Code} {n0:Nat} (ih:vG P X N G0 (kA n0) c) {live:List Nat} {y:lz} (hok:codeOk N X.fa.jl c y=true) {J:Nat->Act->World->Prop} {Q:Exit->Act->World->Prop} {n:Nat}
  {e:Env} {h:aT} {x:Ex} {e':Env} {h':aT} (hr:lH live (jN X (kA n0) c y) e h=some (x,e',h')) {G:Ga} {a:Act} (hG:G.h=h) (hS:St N G0 G e a)
  (hQ:∀ G' a',G'.h=h'->St N G0 G' e' a'->Exit.then (λa' w'=>∃ m,m<n/\J m a' w') Q (As x) a' G'.w):c.wp P (Exit.then (λa' w'=>∃ m,m<n/\J m a' w') Q) a G.w:=by
 rw [og] at hr
 subst hG
 exact ih y _ _ _ _ _ hr hok (G.jI (kS live G.h.iq) (o3 live G.L)) a _ rfl (hS.lH live) hQ
def Ah {c:Code} {n0:Nat} (ih:vG P X N G0 (kA n0) c) {live:List Nat} {y:lz} (hok:codeOk N X.fa.jl c y=true) (h0:G0.h.size=0) {e:Env} {h:aT} {x:Ex} {e':Env} {h':aT}
  (hc:tD (lH live (jN X (kA n0) c y)) e h x e' h'):ml P N G0 (.loop c) e h x e' h':=by
 have count:∃ t,∃ R:Nat->Env->aT->Prop,R t e h/\∀ n e h,R n e h->∃ x1 e1 h1,lH live (jN X (kA n0) c y) e h=some (x1,e1,h1) /\
   ((x1=.j1/\∃ m h2,m<n/\Sub h2 h1/\R m e1 h2)\/(x1≠.j1/\x1=x/\e1=e'/\h1=h')):=by
  have subrefl:∀ h:aT,Sub h h:=λh=>⟨rfl,rfl,rfl,λ_ _ h=>h⟩
  induction hc with
  | @last e h x e' h' k hi hx =>
    refine ⟨k,λn e h=>qy n (lH live (jN X (kA n0) c y)) e h=some (x,e',h'),hi,?_⟩
    intro n e h hn
    cases n with
    | zero =>
      grind [qy]
    | succ n =>
      simp only [qy] at hn
      split at hn
      ·rename_i e2 h2 hf
       exact ⟨.j1,e2,h2,hf,.inl ⟨rfl,n,h2,Nat.lt_succ_self _,subrefl _,hn⟩⟩
      grind
  | @step e h e1 h1 h2 x e' h' k hi hs hc ihc =>
    obtain ⟨t,R,hR,hstep⟩:=ihc
    refine ⟨t+(k+1),λn e h=>R n e h\/∃ j,n=t+j/\0<j/\qy j (lH live (jN X (kA n0) c y)) e h=some (.j1,e1,h1),?_,?_⟩
    ·grind
    ·intro n e h hn
     rcases hn with hn | ⟨j,rfl,hj,hn⟩
     ·obtain ⟨x1,e2,h3,a1,a2⟩:=hstep n e h hn
      refine ⟨x1,e2,h3,a1,?_⟩
      rcases a2 with ⟨b1,m,h4,b2,b3,b4⟩ | b
      ·exact .inl ⟨b1,m,h4,b2,b3,.inl b4⟩
      grind
     ·cases j with
      | zero=>omega
      | succ j =>
        simp only [qy] at hn
        split at hn
        ·rename_i e2 h3 hf
         refine ⟨.j1,e2,h3,hf,.inl ⟨rfl,?_⟩⟩
         cases j with
         | zero =>
           simp only [qy,Option.some.injEq,Prod.mk.injEq,true_and] at hn
           obtain ⟨rfl,rfl⟩:=hn
           exact ⟨t,h2,by omega,hs,.inl hR⟩
         | succ j=>exact ⟨t+(j+1),h3,by omega,subrefl _,.inr ⟨j+1,rfl,Nat.succ_pos _,hn⟩⟩
        grind
 obtain ⟨t,R,hR,hstep⟩:=count
 intro G a Q hG hS hQ
 refine AQ (λm a w=>∃ G e,G.w=w/\St N G0 G e a/\R m e G.h) ?_ t a G.w ⟨G,e,rfl,hS,by grind⟩
 rintro n a _ ⟨G,e,rfl,hS,hR⟩
 obtain ⟨x1,e1,h1,hf,hor⟩:=hstep n e G.h hR
 refine GC ih hok hf rfl hS ?_
 intro G' a' hG' hS'
 rcases hor with ⟨rfl,m,h2,hlt,hs,hR2⟩ | ⟨hne,rfl,rfl,rfl⟩
 ·subst hG'
  exact ⟨m,hlt,⟨G'.w,G'.T,h2,G'.pi,G'.L⟩,e1,rfl,hS'.drop hs h0,hR2⟩
 ·cases x1 with
  | j1=>grind
  | ext id=>exact hQ G' a' hG' hS'
  | ret=>exact hQ G' a' hG' hS'
end
end Go.Sx
namespace Go.Sx
open Go
section
variable {P:Program} {X:Ctx} {N:Nat} {G0:Ga}
def HF {a b:Code} {e e1 e':Env} {h h1 h':aT} {x:Ex} (ha:ml P N G0 a e h .j1 e1 h1) (hb:ml P N G0 b e1 h1 x e' h'):ml P N G0 (.seq a b) e h x e' h' :=
 λG act _ hG hS hQ=>wp_seq (ha G act _ hG hS λG1 a1 hG1 hS1=>hb G1 a1 _ hG1 hS1 hQ)
def Fo {a b:Code} {live:List Nat} {e e1 e':Env} {h h1 h':aT} {x:Ex} (ha:ml P N G0 a e h .j1 e1 h1) (hb:ml P N G0 b (proj live e1) { h1 with iq:=kS live h1.iq } x e' h'):ml P N G0 (.seq a b) e h x e' h':=by
 intro G act Q hG hS hQ
 refine wp_seq (ha G act _ hG hS λG1 a1 hG1 hS1=>?_)
 subst hG1
 exact hb (G1.jI (kS live G1.h.iq) (o3 live G1.L)) a1 Q rfl (hS1.lH live) hQ
def EE {a b:Code} {e e':Env} {h h':aT} {x:Ex} (ha:ml P N G0 a e h x e' h') (hx:x≠.j1):ml P N G0 (.seq a b) e h x e' h':=by
 intro G act Q hG hS hQ
 refine wp_seq (ha G act _ hG hS λG1 a1 hG1 hS1=>?_)
 cases x with
 | j1=>grind
 | ext id=>exact hQ G1 a1 hG1 hS1
 | ret=>exact hQ G1 a1 hG1 hS1
def IN {a:Code} {id:Nat} {e e1 e':Env} {h h1 h':aT} {x x1:Ex} (ha:ml P N G0 a e h x1 e1 h1) (he:atEnd id (some (x1,e1,h1))=some (x,e',h')):ml P N G0 (.block id a) e h x e' h':=by
 intro G act Q hG hS hQ
 refine wp_block (ha G act _ hG hS λG1 a1 hG1 hS1=>?_)
 cases x1 with
 | j1=>cases he; exact hQ G1 a1 hG1 hS1
 | ret=>cases he; exact hQ G1 a1 hG1 hS1
 | ext i =>
   simp only [atEnd] at he
   show Exit.inBlock id Q (.exit i) a1 G1.w
   simp only [Exit.inBlock]
   split at he
   ·rename_i hi
    have hi:=Nat.eq_of_beq_eq_true hi
    cases he
    rw [if_pos hi]
    exact hQ G1 a1 hG1 hS1
   ·rename_i hi
    have hi:=Nat.ne_of_beq_eq_false hi
    cases he
    rw [if_neg hi]
    exact hQ G1 a1 hG1 hS1
def Ig {a:Code} {e e1:Env} {h h1:aT} {x1:Ex} (ha:ml P N G0 a e h x1 e1 h1):ml P N G0 (.scope a) e h x1 e1 h1:=by
 intro G act Q hG hS hQ
 refine wp_scope_straight (ha G act _ hG hS λG1 a1 hG1 hS1=>?_)
 cases x1 with
 | j1=>exact hQ G1 a1 hG1 hS1
 | ext i=>exact hQ G1 a1 hG1 hS1
 | ret=>exact hQ G1 a1 hG1 hS1
def xU {k:Env->aT->RC} {r:RC} {x:Ex} {e':Env} {h':aT} (h:andThen k r=some (x,e',h')) :
  (∃ e1 h1,r=some (.j1,e1,h1)/\k e1 h1=some (x,e',h'))\/(r=some (x,e',h')/\x≠.j1):=by
 unfold andThen at h
 grind
def nJ (hm:P.follows .mixedOrders=true) (hC:jR P X.C) (hK:nL P X.call) (hI:oz X.call) {n:Nat}:∀ (p:List Bool) (c:Code) (an:lz) (e:Env) (h:aT) (e0:Env) (h0:aT) (x1:Ex) (e1:Env) (h1:aT) (x:Ex) (e':Env) (h':aT),
  codeOk N X.fa.jl c an=true->qi X (kA n) p c an e h=some (.j1,e0,h0)->ml P N G0 (qJ p c an).1 e0 h0 x1 e1 h1->behind X (kA n) p c an (some (x1,e1,h1))=some (x,e',h')->ml P N G0 c e h x e' h'
 | [],c,an,e,h,e0,h0,x1,e1,h1,x,e',h',_,hu,hr,hb=>by
   simp only [qi,Option.some.injEq,Prod.mk.injEq,true_and] at hu
   obtain ⟨rfl,rfl⟩:=hu
   simp only [behind,Option.some.injEq,Prod.mk.injEq] at hb
   obtain ⟨rfl,rfl,rfl⟩:=hb
   exact hr
 | true::p,c,an,e,h,e0,h0,x1,e1,h1,x,e',h',hok,hu,hr,hb=>by
   cases c<;>try (cases hu; done)
   rename_i a b
   cases an<;>try (cases hu; done)
   ·rename_i live y z
    simp only [qi] at hu
    obtain ⟨e2,h2,k1,k2⟩:=Ao hu
    rw [og] at k2
    simp only [codeOk,Bool.and_eq_true] at hok
    exact Fo (vM hm hC hK hI k1 hok.1) (nJ hm hC hK hI p b z _ _ e0 h0 x1 e1 h1 x e' h' hok.2 k2 hr hb)
   ·rename_i y z
    simp only [qi] at hu
    obtain ⟨e2,h2,k1,k2⟩:=Ao hu
    simp only [codeOk,Bool.and_eq_true] at hok
    exact HF (vM hm hC hK hI k1 hok.1) (nJ hm hC hK hI p b z _ _ e0 h0 x1 e1 h1 x e' h' hok.2 k2 hr hb)
 | false::p,c,an,e,h,e0,h0,x1,e1,h1,x,e',h',hok,hu,hr,hb=>by
   cases c<;>try (cases hu; done)
   ·rename_i a b
    cases an<;>try (cases hu; done)
    ·rename_i live y z
     simp only [qi] at hu
     simp only [codeOk,Bool.and_eq_true] at hok
     simp only [behind] at hb
     rcases xU hb with ⟨e2,h2,k1,k2⟩ | ⟨k1,k2⟩
     ·rw [og] at k2
      exact Fo (nJ hm hC hK hI p a y e h e0 h0 x1 e1 h1 _ _ _ hok.1 hu hr k1) (vM hm hC hK hI k2 hok.2)
     ·exact EE (nJ hm hC hK hI p a y e h e0 h0 x1 e1 h1 _ _ _ hok.1 hu hr k1) k2
    ·rename_i y z
     simp only [qi] at hu
     simp only [codeOk,Bool.and_eq_true] at hok
     simp only [behind] at hb
     rcases xU hb with ⟨e2,h2,k1,k2⟩ | ⟨k1,k2⟩
     ·exact HF (nJ hm hC hK hI p a y e h e0 h0 x1 e1 h1 _ _ _ hok.1 hu hr k1) (vM hm hC hK hI k2 hok.2)
     ·exact EE (nJ hm hC hK hI p a y e h e0 h0 x1 e1 h1 _ _ _ hok.1 hu hr k1) k2
   ·rename_i id a
    have hu:qi X (kA n) p a an e h=some (.j1,e0,h0):=by cases an<;>exact hu
    have hb:atEnd id (behind X (kA n) p a an (some (x1,e1,h1)))=some (x,e',h'):=by cases an<;>exact hb
    have hok:codeOk N X.fa.jl a an=true:=by cases an<;>exact hok
    have hr:ml P N G0 (qJ p a an).1 e0 h0 x1 e1 h1:=by cases an<;>exact hr
    cases hbb:behind X (kA n) p a an (some (x1,e1,h1)) with
    | none=>rw [hbb] at hb; cases hb
    | some z =>
      obtain ⟨x2,e2,h2⟩:=z
      rw [hbb] at hb
      exact IN (nJ hm hC hK hI p a an e h e0 h0 x1 e1 h1 _ _ _ hok hu hr hbb) hb
   ·rename_i a
    have hu:qi X (kA n) p a an e h=some (.j1,e0,h0):=by cases an<;>exact hu
    have hb:behind X (kA n) p a an (some (x1,e1,h1))=some (x,e',h'):=by cases an<;>exact hb
    have hok:codeOk N X.fa.jl a an=true:=by cases an<;>exact hok
    have hr:ml P N G0 (qJ p a an).1 e0 h0 x1 e1 h1:=by cases an<;>exact hr
    exact Ig (nJ hm hC hK hI p a an e h e0 h0 x1 e1 h1 _ _ _ hok hu hr hb)
end
end Go.Sx
namespace Go.Sx
open Go
section
variable {X:Ctx} {e:Env} {h:aT} {d:Option Nat} {ti te:TI} {t el n k dd:Nat} {x y:Operand} {l:List Bool} {b:Bool}
end
end Go.Sx
namespace Go.Sx
open Go
def rU (p:bY) (e:Int):Int:=if e<0 then 0 else match p.elems.l[e.toNat]? with
 | some x=>x.len
 | none=>0
def Ff {p:bY} {e:Int} (h:e<0\/e>=p.elems.l.length):rU p e=0:=by
 grind [rU]
def HC {p:bY} {e:Int} {x:jZ} (h0:0<=e) (hx:e.toNat<p.elems.l.length) (hq:p.elems.l[e.toNat]=x):rU p e=x.len:=by
 grind [rU]
def Kr {α:Type} {l:List α} {k:Nat} {x y : α} {hk:k<l.length} (h:l[k]=x) (e:x=y):y∈l:=by
 subst e h; exact List.getElem_mem _
def Qo {α:Type} {l:List α} {k:Nat} {y : α} (h:∀ (i:Nat) (hi:i<l.length),i<k->¬ l[i]=y) (hk:l.length<=k):y∉l:=by
 intro hy
 obtain ⟨i,hi,e⟩:=List.mem_iff_getElem.mp hy
 exact h i hi (by omega) e
def vv (p:bY) (s:jF) (e:Int):Bool:=if kn p e=1 then decide (IntKind.i64.wrap (s.len+p.jS)<=rU p e) else decide (kn p e=4)
def th (l:List jY) (i:Int):Int:=match nr l i with
 | some x=>x.elem
 | none=>-1
def Fv (B:Int->Int) (r:j7) (leg:Int):Int:=if leg=0 then B r.from_ else match r.iS.l[(leg - 1).toNat]? with
 | none=>-1
 | some l=>if l.end_=1 then B l.to else if l.end_=3 then l.to else -1
def yP (B:Int->Int) (d:iB) (run leg:Int):Int:=if run<0 then -1 else match d.runs.l[run.toNat]? with
 | none=>-1
 | some r=>if leg<0\/leg > r.iS.l.length then -1 else Fv B r leg
section
variable {B:Int->Int} {d:iB} {run leg:Int} {x:j7} {y:jJ}
def TT (h:Co d run leg):yP B d run leg = -1:=by
 unfold yP
 split
 ·rfl
 ·split
  ·rfl
  ·rename_i hr
   obtain ⟨hl,rfl⟩:=List.getElem?_eq_some_iff.mp hr
   rw [if_pos]
   rcases h with h | h | h | ⟨h1,h2⟩<;>omega
theorem U4 (h0:0<=run) (hx:run.toNat<d.runs.l.length) (hl0:0<=leg) (hl1:leg<=((d.runs.l[run.toNat]).iS.l.length:Int)):yP B d run leg=Fv B (d.runs.l[run.toNat]) leg:=by
 grind [yP]
theorem WX (h:leg=0):Fv B x leg=B x.from_:=by grind [Fv]
theorem acS (h0:¬ leg=0) {r:Row jJ} (hr:r=x.iS) (hy:(leg - 1).toNat<r.l.length) (hq:r.l[(leg - 1).toNat]=y):Fv B x leg=if y.end_=1 then B y.to else if y.end_=3 then y.to else -1:=by
 subst hr; rw [Fv,if_neg h0,List.getElem?_eq_getElem hy,hq]
end
theorem Fu {l:List jY} {N:iz->Option iz} {d:iB} {run leg:Int}:yP (th l) d run leg=match kN true (nr l) N d run leg with
 | some h=>h.elem
 | none=>-1:=by
 unfold yP kN
 by_cases h:run<0
 ·simp [h]
 ·simp only [h,if_false]
  cases d.runs.l[run.toNat]? with
  | none=>rfl
  | some r =>
    simp only
    by_cases h2:leg<0\/leg > r.iS.l.length
    ·simp [h2]
    ·simp only [h2,if_false]
     unfold Fv wQ th
     by_cases h3:leg=0
     ·simp [h3]
     ·simp only [h3,if_false]
      cases r.iS.l[(leg - 1).toNat]? with
      | none=>rfl
      | some y =>
        simp only
        unfold o8
        by_cases h4:y.end_=1
        ·simp [h4]
        ·simp only [h4,if_false]
         by_cases h5:y.end_=3
         ·simp only [h5,if_true]
          cases N ⟨y.to,0⟩<;>cases N ⟨y.to,1⟩<;>rfl
         ·simp [h5]
def Tu {l:List jY} {N:iz->Option iz} {d:iB} {run leg:Int} {h:iz} (e:kN true (nr l) N d run leg=some h):h.elem=yP (th l) d run leg:=by
 rw [Fu (N:=N),e]
def TG {l:List jY} {N:iz->Option iz} {d:iB} {run leg:Int} (e:kN true (nr l) N d run leg=none) : -1=yP (th l) d run leg:=by
 rw [Fu (N:=N),e]
def zw (r:iG):Int:=match r.steps.l[((r.steps.l.length:Int) - 1).toNat]? with
 | some s=>s.elem
 | none=>0
def uN {r:iG} {x:iR} {h:((r.steps.l.length:Int) - 1).toNat<r.steps.l.length} (hq:r.steps.l[((r.steps.l.length:Int) - 1).toNat]=x):zw r=x.elem:=by
 rw [zw,List.getElem?_eq_getElem h,hq]
def xD (r:iG) (l:jJ):Bool:=decide (r.end_=l.end_/\0<r.steps.l.length/\if l.end_=1 then r.to=l.to else zw r=l.to)
def Lf {r:iG} {l:jJ} (h:true=xD r l):0<r.steps.l.length:=by
 have:=of_decide_eq_true h.symm; exact this.2.1
def rj {α:Type} (P : α->Bool):Nat->List α->List Int
 | _,[]=>[]
 | i,a::l=>if P a=true then (i:Int)::rj P (i+1) l else rj P (i+1) l
theorem EV {α:Type} {P : α->Bool} {x : α}:∀ (l:List α) (i:Nat),rj P i (l++[x])=rj P i l++if P x=true then [((i+l.length:Nat):Int)] else []
 | [],i=>by simp [rj]
 | a::l,i=>by
   have h:=EV (P:=P) (x:=x) l (i+1)
   simp only [List.cons_append,rj,h,List.length_cons]
   rw [show i+1+l.length=i+(l.length+1) by omega]
   split<;>simp
section
variable {α:Type} {P : α->Bool} {l:List α} {k:Nat} {x : α} {o:List Int}
theorem Fc {hk:k<l.length} (hq:l[k]=x):rj P 0 (l.take (k+1))=rj P 0 (l.take k)++if P x=true then [(k:Int)] else []:=by
 rw [List.take_add_one,List.getElem?_eq_getElem hk,hq,Option.toList_some,EV,List.length_take,Nat.zero_add,Nat.min_eq_left (by omega)]
def Hq {hk:k<l.length} (hq:l[k]=x) (h:o=rj P 0 (l.take k)) (hp:P x=true):o++[(k:Int)]=rj P 0 (l.take (k+1)):=by
 rw [Fc hq,if_pos hp,h]
def qm {hk:k<l.length} (hq:l[k]=x) (h:o=rj P 0 (l.take k)) (hp:P x=false):o=rj P 0 (l.take (k+1)):=by
 rw [Fc hq,hp,h]; simp
def T6 (h:o=rj P 0 (l.take k)) (hk:l.length<=k):o=rj P 0 l:=by
 rwa [List.take_of_length_le hk] at h
theorem Ei (h:∀ x,P x=false):∀ (l:List α) (i:Nat),rj P i l=[]
 | [],_=>rfl
 | a::l,i=>by simp [rj,h,Ei h l]
end
def tL (p:bY) (d:iB) (run leg:Int):Int:=nk true (nr p.signals.l) (lj p.iQ.l) (kn p) (λx=>(nK p.signals.l x).getD (-1)) d run leg
def Bj (p:bY) (d:iB) (run leg:Int):Int:=yP (th p.signals.l) d run leg
def po (p:bY) (d:iB) (run leg:Int) (r:iG):Bool:=match d.runs.l[run.toNat]? with
 | none=>false
 | some x=>match x.iS.l[leg.toNat]?,d.jb.l[x.jb.toNat]? with
   | some l,some k=>decide (0<=x.jb/\r.from_=tL p d run leg/\xD r l=true/\r.bare=false/\¬ Bj p d run leg∈r.my.l/\vv p k (zw r)=true)
   | _,_=>false
def lY (p:bY) (L:List iG) (d:iB) (run leg:Int):List Int:=if tL p d run leg<0 then [] else rj (po p d run leg) 0 L
section
variable {p:bY} {d:iB} {run leg:Int} {r:iG} {x:j7} {l:jJ} {k:jF} {L:List iG} {f:Int}
def Ld (hf:f=tL p d run leg) (h:¬ r.from_=f):po p d run leg r=false:=by
 subst hf; grind [po]
def KG {hx:run.toNat<d.runs.l.length} (hq:d.runs.l[run.toNat]=x) {hy:leg.toNat<x.iS.l.length} (hl:x.iS.l[leg.toNat]=l) (h:false=xD r l):po p d run leg r=false:=by
 grind [po]
def LK (h:r.bare=true):po p d run leg r=false:=by
 grind [po]
def Lx {s:Int} (hs:s=Bj p d run leg) (h:s∈r.my.l):po p d run leg r=false:=by
 subst hs; grind [po]
def LI {hx:run.toNat<d.runs.l.length} (hq:d.runs.l[run.toNat]=x) {hz:x.jb.toNat<d.jb.l.length} (hk:d.jb.l[x.jb.toNat]=k) {e:Int} (he:zw r=e) (h:false=vv p k e):po p d run leg r=false:=by
 subst he; grind [po]
def L4 {hx:run.toNat<d.runs.l.length} (hq:d.runs.l[run.toNat]=x) {hy:leg.toNat<x.iS.l.length} (hl:x.iS.l[leg.toNat]=l) {hz:x.jb.toNat<d.jb.l.length} (hk:d.jb.l[x.jb.toNat]=k) {s e:Int} (h0:0<=x.jb) (hf:f=tL p d run leg) (h1:r.from_=f) (h2:true=xD r l) (h3:r.bare=false) (hs:s=Bj p d run leg) (h4:s∉r.my.l) (he:zw r=e) (h5:true=vv p k e):po p d run leg r=true:=by
 subst hs he hf; grind [po]
def B2 (hf:f=tL p d run leg) (h:f<0) {o:List Int} (ho:o=[]):o=lY p L d run leg:=by
 subst hf; rw [lY,if_pos h,ho]
def Bp (hf:f=tL p d run leg) (h:¬ f<0) {o:List Int} {n:Nat} (ho:o=rj (po p d run leg) 0 (L.take n)) (hn:L.length<=n):o=lY p L d run leg:=by
 subst hf; rw [lY,if_neg h]; exact T6 ho hn
def LJ {hx:run.toNat<d.runs.l.length} (hq:d.runs.l[run.toNat]=x) (h:x.jb<0\/x.jb>=(d.jb.l.length:Int)) : []=lY p L d run leg:=by
 have:∀ r,po p d run leg r=false:=by intro r; grind [po]
 rw [lY,Ei this]; simp
end
structure sP (n:iD):Prop where
 next:∀ x,look x n.next=lj n.p.iQ.l x
 reads:∀ x,look x n.reads=nK n.p.signals.l x
 en:∀ i x,nr n.p.signals.l i=some x->0<=x.en
 QQ:zQ n.line n.p
theorem sP.from_ {n:iD} (h:sP n) {d:iB} {run leg:Int}:nk false (nr n.p.signals.l) (λx=>look x n.next) (kn n.p) (λx=>(look x n.reads).getD (-1)) d run leg=tL n.p d run leg:=by
 have h1:(λx=>look x n.next)=lj n.p.iQ.l:=funext h.next
 have h2:(λx=>(look x n.reads).getD (-1))=(λx=>(nK n.p.signals.l x).getD (-1)):=by funext x; rw [h.reads]
 rw [h1,h2,Mv h.en]; rfl
theorem sL (p:bY):p.canon.lines.l=p.lines.l.map ju.canon:=rfl
def Gn {m:List (Int×Int×Int)} {p:bY} (h:zQ m p):zQ m p.canon:=by
 refine ⟨λe y hy=>?_,λi hi e he=>?_⟩
 ·obtain ⟨i,hi,h1,h2⟩:=h.1 e y hy
  refine ⟨i,by rw [sL,List.length_map]; exact hi,h1,?_⟩
  simp only [sL,List.getElem_map]
  exact h2
 ·have hi':i<p.lines.l.length:=by rw [sL,List.length_map] at hi; exact hi
  simp only [sL,List.getElem_map] at he
  exact h.2 i hi' e he
def o9.self {n:iD} {p:bY} (h:o9 n p):sP n:=by
 have hj:n.p.iQ.l=p.iQ.l:=by rw [h.qj]; rfl
 exact ⟨λx=>by rw [h.next,hj],λx=>by rw [h.reads,h.signals],by rw [h.signals]; exact TE h.ad9,by rw [h.qj]; exact Gn h.QQ⟩
def uK (p:bY) (len:Int) (t:kU):Int :=
 if len<1\/4000<len\/(¬ kn p t.at_.elem=4/\¬ kn p t.at_.elem=1)\/t.at_.en<0\/(if kn p t.at_.elem=1 then 2 else 1)<=t.at_.en then 1
 else if (nK p.signals.l t.at_).getD (-1)<0 then 7
 else if kn p t.at_.elem=4 then (if t.left=0 then 0 else 1)
 else if t.left<0\/rU p t.at_.elem<t.left then 1
 else if rU p t.at_.elem<IntKind.i64.wrap (t.left+len) then 9 else 0
def Gm {p:bY} {len:Int} {t:kU} (h:uK p len t=0):kn p t.at_.elem=1\/kn p t.at_.elem=4:=by
 grind [uK]
def xc (p:bY) (d:iB) (i:Nat):Int:=uK p (EB d i) (rF p d i)
def qK (p:bY) (d:iB) (i:Nat):List Int:=JF p [(rF p d i).at_]
def pD (L:Nat->List Int) (k:Nat):Prop:=∃ i j,i<j/\j<k/\∃ x∈L i,x∈L j
def pD.mono {L:Nat->List Int} {k m:Nat} (h:pD L k) (hk:k<=m):pD L m:=by
 obtain ⟨i,j,h1,h2,h3⟩:=h
 exact ⟨i,j,h1,by omega,h3⟩
def ph (p:bY) (d:iB) (r:Int):Prop :=
 (∃ i,i<d.runs.l.length/\r=xc p d i/\r≠0/\∀ j,j<i->xc p d j=0) \/
 ((∀ i,i<d.runs.l.length->xc p d i=0)/\((r=0/\¬ pD (qK p d) d.runs.l.length)\/(r=18/\pD (qK p d) d.runs.l.length)))
theorem ph.wA {p:bY} {d:iB} {r s:Int} (h1:ph p d r) (h2:ph p d s):r=s:=by
 rcases h1 with ⟨i,hi,h1,h3,h4⟩ | ⟨h1,h3⟩<;>rcases h2 with ⟨j,hj,h5,h6,h7⟩ | ⟨h5,h6⟩
 ·rcases Nat.lt_trichotomy i j with h | h | h
  ·exact absurd (h1.trans (h7 i h)) h3
  ·subst h; rw [h1,h5]
  ·exact absurd (h5.trans (h4 j h)) h6
 ·exact absurd (h1.trans (h5 i hi)) h3
 ·exact absurd (h5.trans (h1 j hj)) h6
 ·grind
structure vx (L:Nat->List Int) (k:Nat) (r:List Int) (m:List (Int×Bool)) (e:Int):Prop where
 src:∀ x,look x m=some true->(∃ i,i<k/\x∈L i)\/x∈r
 err:e=0\/e=18/\pD L (k+1)
def vx.zero (L:Nat->List Int):vx L 0 [] [] 0:=⟨λx h=>by simp [look] at h,.inl rfl⟩
def vx.start {L:Nat->List Int} {k:Nat} {m:List (Int×Bool)} {e:Int} (h:vx L k [] m e) (r:List Int):vx L k (r.take 0) m e:=by simpa using h
theorem vx.put {L:Nat->List Int} {k j:Nat} {r:List Int} {m:List (Int×Bool)} {e:Int} {x:Int} (h:vx L k (r.take j) m e) (hj:j<r.length) (hq:r[j]=x):vx L k (r.take (j+1)) (put x true m) e:=by
 refine ⟨λy hy=>?_,h.err⟩
 rw [nE hj hq]
 by_cases hxy:y=x
 ·subst hxy; exact .inr (by simp)
 ·have:look y m=some true:=by grind [ma]
  rcases h.src y this with h1 | h1
  ·exact .inl h1
  ·exact .inr (by simp [h1])
def vx.Fg {L:Nat->List Int} {k j:Nat} {r:List Int} {m:List (Int×Bool)} {e e':Int} {x:Int} (h:vx L k (r.take j) m e) (hj:j<r.length) (hq:r[j]=x) (hr:r=L k) (h1:r.length<=1) (hl:look x m=some true) (he:e'=18):vx L k (r.take (j+1)) (Go.Sx.put x true m) e':=by
 have h2:=h.put hj hq
 refine ⟨h2.src,.inr ⟨he,?_⟩⟩
 have hj0:j=0:=by omega
 subst hj0
 rcases h.src x hl with ⟨i,hi,hx⟩ | hx
 ·exact ⟨i,k,hi,by omega,x,hx,by rw [<- hr,<- hq]; exact List.getElem_mem _⟩
 ·simp at hx
def vx.done {L:Nat->List Int} {k j:Nat} {r:List Int} {m:List (Int×Bool)} {e:Int} (h:vx L k (r.take j) m e) (hj:r.length<=j) (hr:r=L k):vx L (k+1) [] m e:=by
 rw [List.take_of_length_le hj,hr] at h
 refine ⟨λx hx=>?_,?_⟩
 ·rcases h.src x hx with ⟨i,hi,h1⟩ | h1
  ·exact .inl ⟨i,by omega,h1⟩
  ·exact .inl ⟨k,by omega,h1⟩
 ·rcases h.err with h1 | ⟨h1,h2⟩
  ·exact .inl h1
  ·exact .inr ⟨h1,h2.mono (by omega)⟩
def Gw {p:bY} {d:iB} {k:Nat} {r len:Int} {t:kU} (hE:∀ i,i<k->xc p d i=0) (hk:k<d.runs.l.length) (hl:len=EB d k) (ht:t=rF p d k) (h:r=uK p len t) (hr:¬ r=0):ph p d r:=by
 subst hl ht
 exact .inl ⟨k,hk,h,hr,hE⟩
def Wt {p:bY} {d:iB} {k:Nat} {r len:Int} {t:kU} (hl:len=EB d k) (ht:t=rF p d k) (h:r=uK p len t) (hr:r=0):xc p d k=0:=by
 subst hl ht; exact h.symm.trans hr
def Ar (n:Int):Prop:=(97<=n/\n<=122)\/(65<=n/\n<=90)
def Cv (i:Nat) (n:Int):Prop:=Ar n\/(0<i/\48<=n/\n<=57)
def xi (s:List UInt8):Prop:=1<=s.length/\s.length<=8/\∀ (i:Nat) (h:i<s.length),Cv i ((s[i]).toNat:Int)
def TZ {s:List UInt8} {k:Nat} {c:UInt8} {hk:k<s.length} (hq:s[k]=c) (h:∀ (i:Nat) (h:i<s.length),i<k->Cv i ((s[i]).toNat:Int)) (hc:Cv k (c.toNat:Int)):∀ (i:Nat) (h:i<s.length),i<k+1->Cv i ((s[i]).toNat:Int):=by
 intro i hi h2
 rcases Nat.lt_succ_iff_lt_or_eq.mp h2 with h3 | h3
 ·exact h i hi h3
 ·subst h3; rw [hq]; exact hc
def Hc {s:List UInt8} {k:Nat} {c:UInt8} {hk:k<s.length} (hq:s[k]=c) (h:xi s) (hl:¬ Ar (c.toNat:Int)) (hd:k=0\/(c.toNat:Int)<48\/(c.toNat:Int) > 57):False:=by
 have:=h.2.2 k hk
 rw [hq] at this
 rcases this with h1 | h1
 ·exact hl h1
 ·omega
def Ew {s:List UInt8} {k:Nat} {c d:UInt8} {hk:k<s.length} (hq:s[k]=c) (h:xi s) (hl:¬ Ar (c.toNat:Int)) (hd:(d.toNat:Int)<48\/(d.toNat:Int) > 57) (hq2:s[k]=d):False:=by
 subst hq2; subst hq; exact Hc rfl h hl (.inr hd)
def zk (s:jF):Prop:=xi s.name.l/\1<=s.len/\s.len<=4000/\1<=s.top/\s.top<=60/\1<=s.acc/\s.acc<=10/\1<=s.jT/\s.jT<=10
def QJ (l:List jF):Prop:=l.length<=4/\(∀ s∈l,zk s)/\∀ (i j:Nat) (h:j<l.length) (hij:i<j),¬ (l[i]).name.l=(l[j]).name.l
def FB (p:bY) (l:List jF):Prop:=QJ l/\∀ s∈l,s.top<=p.top/\p.jT<=s.jT
def N0 {l:List jF} {k:Nat} {x:jF} {r:Int} {hk:k<l.length} (hq:l[k]=x) (h:∀ (i j:Nat) (h:j<l.length) (hij:i<j),j<k->¬ (l[i]).name.l=(l[j]).name.l) (hf:∀ (j:Nat) (h:j<l.length),(j:Int)<r->¬ (l[j]).name.l=x.name.l) (hr:¬ r≠(k:Int)) :
  ∀ (i j:Nat) (h:j<l.length) (hij:i<j),j<k+1->¬ (l[i]).name.l=(l[j]).name.l:=by
 intro i j hj hij h2
 rcases Nat.lt_succ_iff_lt_or_eq.mp h2 with h3 | h3
 ·exact h i j hj hij h3
 ·subst h3; rw [hq]; exact hf i (by omega) (by omega)
def S7 (p:bY) (x:jJ):Prop:=(x.end_=1/\0<=x.to/\x.to<(p.signals.l.length:Int))\/(x.end_=2/\kn p x.to=4)\/(x.end_=3/\kn p x.to=1)
def Eu (l:List jJ):Nat->Int
 | 0=>0
 | k+1=>match l[k]? with
   | some x=>x.at_
   | none=>0
def VW {l:List jJ} {k:Nat} {x:jJ} {hk:k<l.length} (hq:l[k]=x):x.at_=Eu l (k+1):=by
 rw [Eu,List.getElem?_eq_getElem hk,hq]
def zG (p:bY) (l:List jJ) (i:Nat) (x:jJ):Prop:=0<=x.at_/\Eu l i<=x.at_/\x.at_<=2000/\S7 p x
def Kn (p:bY) (l:List jJ):Prop:=∀ (i:Nat) (h:i<l.length),zG p l i l[i]
def Vm {p:bY} {l:List jJ} {k:Nat} (h:∀ (i:Nat) (h:i<l.length),i<k->zG p l i l[i]) (hk:k<=l.length):0<=Eu l k:=by
 cases k with
 | zero=>simp [Eu]
 | succ k =>
   have:=(h k (by omega) (by omega)).1
   rw [Eu,List.getElem?_eq_getElem (by omega:k<l.length)]
   exact this
def Nd {p:bY} {l:List jJ} {k:Nat} {x:jJ} {hk:k<l.length} (hq:l[k]=x) (h:∀ (i:Nat) (h:i<l.length),i<k->zG p l i l[i]) (hx:zG p l k x):∀ (i:Nat) (h:i<l.length),i<k+1->zG p l i l[i]:=by
 intro i hi h2
 rcases Nat.lt_succ_iff_lt_or_eq.mp h2 with h3 | h3
 ·exact h i hi h3
 ·subst h3; rw [hq]; exact hx
def HU (p:bY) (d:iB) (r:j7):Prop:=xi r.name.l/\(0<=r.jb/\r.jb<(d.jb.l.length:Int))/\(0<=r.from_/\r.from_<(p.signals.l.length:Int))/\(0<=r.left/\r.left<=4000)/\Kn p r.iS.l
structure yO (p:bY) (d:iB):Prop where
 runs:d.runs.l.length<=8
 iS:∀ r∈d.runs.l,r.iS.l.length<=12
 Vq:FB p d.jb.l
 beg:0<=d.yb/\d.yb<=86399
 ok:∀ r∈d.runs.l,HU p d r
 name:∀ (i j:Nat) (h:j<d.runs.l.length) (hij:i<j),¬ (d.runs.l[i]).name.l=(d.runs.l[j]).name.l
theorem yO.oW {p:bY} {d:iB} (h:yO p d):tA d:=⟨h.runs,λr hr=>⟨h.iS r hr,(h.ok r hr).2.1⟩⟩
def N9 {l:List j7} {k j:Nat} {x y:j7} {r:Row j7} {hk:k<l.length} (hq:l[k]=x) {hj:j<r.l.length} (hy:r.l[j]=y) (h:∀ y∈(l.take k).take j,∀ x,l[k]?=some x->¬ y.name.l=x.name.l) (hn:¬ x.name.l=y.name.l) (hr:r.l=l.take k:=by rfl):∀ y∈(l.take k).take (j+1),∀ x,l[k]?=some x->¬ y.name.l=x.name.l:=by
 intro z hz w hw
 rw [List.getElem?_eq_getElem hk,hq] at hw
 cases hw
 have hj2:j<(l.take k).length:=by rw [<- hr]; exact hj
 have hy2:(l.take k)[j]=y:=by rw [<- hy]; congr 1; exact hr.symm
 rw [nE hj2 hy2] at hz
 rcases List.mem_append.mp hz with hz | hz
 ·exact h z hz _ (by rw [List.getElem?_eq_getElem hk,hq])
 ·simp at hz; subst hz; exact λe=>hn e.symm
def Mc {l:List j7} {k j:Nat} {x:j7} {hk:k<l.length} (hq:l[k]=x) (h0:∀ (i j:Nat) (h:j<l.length) (hij:i<j),j<k->¬ (l[i]).name.l=(l[j]).name.l) (h:∀ y∈(l.take k).take j,∀ x,l[k]?=some x->¬ y.name.l=x.name.l) {r:Row j7} (hj:¬ (j:Int)<(r.l.length:Int)) (hr:r.l=l.take k:=by rfl):∀ (i j:Nat) (h:j<l.length) (hij:i<j),j<k+1->¬ (l[i]).name.l=(l[j]).name.l:=by
 replace hj:(l.take k).length<=j:=by rw [<- hr]; omega
 rw [List.take_of_length_le hj] at h
 exact L6 hq h0 λy hy=>h y hy x (by rw [List.getElem?_eq_getElem hk,hq])
def rl (p:bY) (L:List iG) (d:iB) (i:Nat):Prop:=∃ x,d.runs.l[i]?=some x/\(x.iS.l.length=0\/(∃ y,x.iS.l[((x.iS.l.length:Int) - 1).toNat]?=some y/\y.end_≠2)\/∃ j:Nat,j<x.iS.l.length/\lY p L d i j=[])
def s5 (p:bY) (L:List iG) (d:iB) (r:Int):Prop :=
 ((∃ s∈p.signals.l,s.auto=true)/\r=7)\/((∀ s∈p.signals.l,s.auto=false)/\∃ e,ph p d e/\((e≠0/\r=e)\/(e=0/\((r=10/\∃ i,i<d.runs.l.length/\rl p L d i)\/(r=0/\∀ i,i<d.runs.l.length->¬ rl p L d i)))))
theorem s5.wA {p:bY} {L:List iG} {d:iB} {r s:Int} (h1:s5 p L d r) (h2:s5 p L d s):r=s:=by
 rcases h1 with ⟨⟨x,hx,ha⟩,h3⟩ | ⟨h3,e,he,h4⟩<;>rcases h2 with ⟨⟨y,hy,hb⟩,h5⟩ | ⟨h5,f,hf,h6⟩
 ·rw [h3,h5]
 ·rw [h5 x hx] at ha; cases ha
 ·rw [h3 y hy] at hb; cases hb
 ·have:=he.wA hf
  subst this
  rcases h4 with ⟨h7,h8⟩ | ⟨h7,⟨h8,i,hi,h9⟩ | ⟨h8,h9⟩⟩<;>rcases h6 with ⟨h10,h11⟩ | ⟨h10,⟨h11,j,hj,h12⟩ | ⟨h11,h12⟩⟩<;>first | (rw [h8,h11]; done) | exact absurd h7 h10 | exact absurd h10 h7 | exact absurd h9 (h12 i hi) | exact absurd h12 (h9 j hj)
section
variable {p:bY} {L:List iG} {d:iB} {k j:Nat} {x:j7} {y:jJ} {e:Int}
def Ms {s:jY} {hk:k<p.signals.l.length} (hq:p.signals.l[k]=s) (h:s.auto=true):s5 p L d 7:=.inl ⟨⟨s,by rw [<- hq]; exact List.getElem_mem _,h⟩,rfl⟩
def EJ (hS:∀ s∈p.signals.l,s.auto=false) (h:ph p d e) (he:¬ e=0):s5 p L d e:=.inr ⟨hS,e,h,.inl ⟨he,rfl⟩⟩
def yN (hS:∀ s∈p.signals.l,s.auto=false) (h:ph p d 0) (hk:k<d.runs.l.length) (hb:rl p L d k):s5 p L d 10:=.inr ⟨hS,0,h,.inr ⟨rfl,.inl ⟨rfl,k,hk,hb⟩⟩⟩
def M6 (hS:∀ s∈p.signals.l,s.auto=false) (h:ph p d 0) (hb:∀ i,i<k->¬ rl p L d i) (hk:d.runs.l.length<=k):s5 p L d 0:=.inr ⟨hS,0,h,.inr ⟨rfl,.inr ⟨rfl,λi hi=>hb i (by omega)⟩⟩⟩
def ZW {hk:k<d.runs.l.length} (hq:d.runs.l[k]=x) (h:(x.iS.l.length:Int)=0):rl p L d k:=⟨x,by rw [List.getElem?_eq_getElem hk,hq],.inl (by omega)⟩
def Xg {hk:k<d.runs.l.length} (hq:d.runs.l[k]=x) {hl:((x.iS.l.length:Int) - 1).toNat<x.iS.l.length} (hy:x.iS.l[((x.iS.l.length:Int) - 1).toNat]=y) (h:y.end_≠2):rl p L d k:=⟨x,by rw [List.getElem?_eq_getElem hk,hq],.inr (.inl ⟨y,by rw [List.getElem?_eq_getElem hl,hy],h⟩)⟩
def aaV {hk:k<d.runs.l.length} (hq:d.runs.l[k]=x) {r:List Int} (hr:r=lY p L d k j) (h:(r.length:Int)=0) (hj:j<x.iS.l.length):rl p L d k:=⟨x,by rw [List.getElem?_eq_getElem hk,hq],.inr (.inr ⟨j,hj,by rw [<- hr]; exact List.length_eq_zero_iff.mp (by omega)⟩)⟩
def Vb {hk:k<d.runs.l.length} (hq:d.runs.l[k]=x) (h1:¬ (x.iS.l.length:Int)=0) {hl:((x.iS.l.length:Int) - 1).toNat<x.iS.l.length} (hy:x.iS.l[((x.iS.l.length:Int) - 1).toNat]=y) (h2:¬ y.end_≠2) (h3:∀ i:Nat,i<j->lY p L d k i≠[]) (hj:x.iS.l.length<=j):¬ rl p L d k:=by
 rintro ⟨z,hz,h⟩
 rw [List.getElem?_eq_getElem hk,hq] at hz
 cases hz
 rcases h with h | ⟨w,hw,h⟩ | ⟨i,hi,h⟩
 ·omega
 ·rw [List.getElem?_eq_getElem hl,hy] at hw; cases hw; exact h2 h
 ·exact h3 i (by omega) h
def ne_nil {r:List Int} (hr:r=lY p L d k j) (h:¬ (r.length:Int)=0):lY p L d k j≠[]:=by
 rw [<- hr]; rintro rfl; simp at h
def vj {m:Nat} (hE:∀ i,i<k->xc p d i=0) (h1:d.runs.l.length<=k) (hM:¬ pD (qK p d) m) (h2:d.runs.l.length<=m) (h3:m<=d.runs.l.length):ph p d 0:=by
 have:m=d.runs.l.length:=by omega
 subst this
 exact .inr ⟨λi hi=>hE i (by omega),.inl ⟨rfl,hM⟩⟩
def AtK (p:bY) (d:iB) (k:Nat) (l:List Int):Prop:=∀ x,x∈l↔∃ i,i<k/\x∈qK p d i
def AtK.zero:AtK p d 0 []:=λx=>by simp
def AF {t:kU} {n:Int} (ht:t=rF p d k) (hK:n=kn p t.at_.elem) (h:n=1):qK p d k=[t.at_.elem]:=by
 subst ht; simp [qK,JF,<- hK,h]
def FA {t:kU} {n:Int} {m:Nat} (hE:∀ i,i<m->xc p d i=0) (hk:k<m) (ht:t=rF p d k) (hK:n=kn p t.at_.elem) (h:¬ n=1):qK p d k=[]:=by
 subst ht
 have:=Gm (hE k hk)
 have:n=4:=by omega
 simp [qK,JF,<- hK,this]
def AtK.snoc {l:List Int} {z:Int} (h:AtK p d k l) (hz:qK p d k=[z]):AtK p d (k+1) (l++[z]):=by
 intro x
 rw [List.mem_append,h x]
 constructor
 ·rintro (⟨i,hi,hx⟩ | hx)
  ·exact ⟨i,by omega,hx⟩
  ·exact ⟨k,by omega,by rw [hz]; exact hx⟩
 ·rintro ⟨i,hi,hx⟩
  rcases Nat.lt_succ_iff_lt_or_eq.mp hi with h1 | h1
  ·exact .inl ⟨i,h1,hx⟩
  ·subst h1; rw [hz] at hx; exact .inr hx
def AtK.same {l:List Int} (h:AtK p d k l) (hz:qK p d k=[]):AtK p d (k+1) l:=by
 intro x
 rw [h x]
 constructor
 ·rintro ⟨i,hi,hx⟩; exact ⟨i,by omega,hx⟩
 ·rintro ⟨i,hi,hx⟩
  rcases Nat.lt_succ_iff_lt_or_eq.mp hi with h1 | h1
  ·exact ⟨i,h1,hx⟩
  ·subst h1; rw [hz] at hx; cases hx
def FP {L:Nat->List Int} (h:¬ pD L k) (hn:∀ x∈L k,∀ i,i<k->x∉L i):¬ pD L (k+1):=by
 rintro ⟨i,j,hij,hj,x,hx,hx2⟩
 rcases Nat.lt_succ_iff_lt_or_eq.mp hj with h1 | h1
 ·exact h ⟨i,j,hij,h1,x,hx,hx2⟩
 ·subst h1; exact hn x hx2 i hij hx
def K6 {L:Nat->List Int} (h:¬ pD L k) (hz:L k=[]):¬ pD L (k+1):=FP h (by rw [hz]; simp)
def AtK.Wh {l:List Int} {z:Int} {s:List Int} (h:AtK p d k l) (hs:s=l) (hz:qK p d k=[z]) (hM:¬ pD (qK p d) k) (hn:z∉s):¬ pD (qK p d) (k+1):=by
 subst hs
 refine FP hM λx hx i hi h2=>?_
 rw [hz] at hx; simp at hx; subst hx
 exact hn ((h x).mpr ⟨i,hi,h2⟩)
def AtK.Fg {l:List Int} {z:Int} {s:List Int} (h:AtK p d k l) (hs:s=l) (hz:qK p d k=[z]) (hi:z∈s) (hE:∀ i,i<j->xc p d i=0) (h1:d.runs.l.length<=j) (hk:k<d.runs.l.length):ph p d 18:=by
 subst hs
 obtain ⟨i,hik,h2⟩:=(h z).mp hi
 exact .inr ⟨λi hi=>hE i (by omega),.inr ⟨rfl,i,k,hik,hk,z,h2,by rw [hz]; simp⟩⟩
end
def ab9 {p:bY} (h:∀ e∈p.elems.l,(1<=e.kind/\e.kind<=4)/\(e.kind=4->e.len=0)):HW p:=h
def XQ {p:bY} {k:Nat} (h:∀ (i:Nat) (h:i<p.iQ.l.length),i<k->uq p (p.iQ.l[i]).a/\uq p (p.iQ.l[i]).b) (hk:p.iQ.l.length<=k):JV p:=mY (P:=λj:jX=>uq p j.a/\uq p j.b) h hk
def adn {p:bY} {e:Int} {el:jZ} (h0:0<=e) {hx:e.toNat<p.elems.l.length} (hq:p.elems.l[e.toNat]=el) (h1:el.kind=1):VL p e:=⟨⟨h0,by omega⟩,by rw [ur h0 hx hq,h1]⟩
def TL {m:List (Int×Int×Int)} {ld:List (Int×Int)} (h:xE m ld) {e v:Int} {c:Int×Int}:xE (put e c m) (put e v ld):=by
 intro d y hd
 by_cases hde:d=e
 ·subst hde; exact ⟨v,by grind [ma]⟩
 ·obtain ⟨w,hw⟩:=h d y (by grind [ma])
  exact ⟨w,by grind [ma]⟩
structure wI (p:bY) (k j:Nat) (m:List (Int×Bool)):Prop where
 val:∀ (i:Nat) (h:i<p.lines.l.length),i<k->∀ e∈(p.lines.l[i]).elems.l,VL p e/\look e m=some true
 HG:∀ (i j:Nat) (h:j<p.lines.l.length) (hij:i<j),j<k->∀ e∈(p.lines.l[i]).elems.l,e∉(p.lines.l[j]).elems.l
 cur:∀ x,p.lines.l[k]?=some x->∀ e∈x.elems.l.take j,VL p e/\look e m=some true/\∀ (i:Nat) (h:i<p.lines.l.length),i<k->e∉(p.lines.l[i]).elems.l
section
variable {p:bY} {k j:Nat} {m:List (Int×Bool)} {x:ju} {e:Int}
def wI.zero:wI p 0 0 []:=⟨λ_ _ h=>by omega,λ_ _ _ _ h=>by omega,λ_ _ e h=>by simp at h⟩
theorem wI.put (h:wI p k j m) {hk:k<p.lines.l.length} (hq:p.lines.l[k]=x) {hj:j<x.elems.l.length} (he:x.elems.l[j]=e) (hv:VL p e) (hl:¬ look e m=some true):wI p k (j+1) (put e true m):=by
 have lp:∀ y,look y m=some true->look y (Go.Sx.put e true m)=some true:=λy hy=>s7 hy
 refine ⟨λi hi hik y hy=>⟨(h.val i hi hik y hy).1,lp y (h.val i hi hik y hy).2⟩,h.HG,λz hz y hy=>?_⟩
 rw [List.getElem?_eq_getElem hk,hq] at hz
 cases hz
 rw [nE hj he] at hy
 rcases List.mem_append.mp hy with hy | hy
 ·have:=h.cur x (by rw [List.getElem?_eq_getElem hk,hq]) y hy
  exact ⟨this.1,lp y this.2.1,this.2.2⟩
 ·simp at hy; subst hy
  exact ⟨hv,by grind [ma],λi hi hik hm=>hl (h.val i hi hik _ hm).2⟩
theorem wI.next (h:wI p k j m) {hk:k<p.lines.l.length} (hq:p.lines.l[k]=x) (hj:x.elems.l.length<=j):wI p (k+1) 0 m:=by
 have hc:=h.cur x (by rw [List.getElem?_eq_getElem hk,hq])
 rw [List.take_of_length_le hj] at hc
 refine ⟨λi hi hik e he=>?_,λi j2 hj2 hij hjk e he=>?_,λ_ _ e h=>by simp at h⟩
 ·rcases Nat.lt_succ_iff_lt_or_eq.mp hik with h1 | h1
  ·exact h.val i hi h1 e he
  ·subst h1; rw [hq] at he; exact ⟨(hc e he).1,(hc e he).2.1⟩
 ·rcases Nat.lt_succ_iff_lt_or_eq.mp hjk with h1 | h1
  ·exact h.HG i j2 hj2 hij h1 e he
  ·subst h1; rw [hq]; exact λhm=>(hc e hm).2.2 i (by omega) hij he
def wI.ok (h:wI p k 0 m) (hk:p.lines.l.length<=k):JD p:=by
 refine ⟨λx hx e he=>?_,λi j hj hij=>h.HG i j hj hij (by omega)⟩
 obtain ⟨i,hi,rfl⟩:=List.mem_iff_getElem.mp hx
 exact (h.val i hi (by omega) e he).1
end
def Zx {p:bY} (h:JV p) (h40:p.elems.l.length<=40):∀ j∈p.iQ.l,pC p j.a/\pC p j.b:=λj hj=>⟨⟨⟨(h j hj).1.1.1,by have:=(h j hj).1.1.2; omega⟩,(h j hj).1⟩,⟨(h j hj).2.1.1,by have:=(h j hj).2.1.2; omega⟩,(h j hj).2⟩
structure qM (p:bY) (k j:Nat) (m:List (Int×Int×Int)):Prop where
 snd:∀ e y,look e m=some y->(∃ (i:Nat) (h:i<p.lines.l.length),i<k/\y.1=(i:Int)/\e∈(p.lines.l[i]).elems.l)\/(y.1=(k:Int)/\∃ x,p.lines.l[k]?=some x/\e∈x.elems.l.take j)
 cmp:∀ (i:Nat) (h:i<p.lines.l.length),i<k->∀ e∈(p.lines.l[i]).elems.l,∃ q,look e m=some ((i:Int),q)
 cur:∀ x,p.lines.l[k]?=some x->∀ e∈x.elems.l.take j,∃ q,look e m=some ((k:Int),q)
section
variable {p:bY} {k j:Nat} {m:List (Int×Int×Int)} {x:ju} {e c:Int}
def qM.zero:qM p 0 0 []:=⟨λe y h=>by simp [look] at h,λ_ _ h=>by omega,λ_ _ e h=>by simp at h⟩
theorem qM.put (hp:JD p) (h:qM p k j m) {hk:k<p.lines.l.length} (hq:p.lines.l[k]=x) {hj:j<x.elems.l.length} (he:x.elems.l[j]=e):qM p k (j+1) (put e ((k:Int),c) m):=by
 have hg:p.lines.l[k]?=some x:=by rw [List.getElem?_eq_getElem hk,hq]
 have hex:e∈x.elems.l:=by rw [<- he]; exact List.getElem_mem _
 refine ⟨λd y hd=>?_,λi hi hik d hd=>?_,λz hz d hd=>?_⟩
 ·by_cases hde:d=e
  ·subst hde
   have:y=((k:Int),c):=by grind [ma]
   subst this
   exact .inr ⟨rfl,x,hg,by rw [nE hj he]; simp⟩
  ·have hd2:look d m=some y:=by grind [ma]
   rcases h.snd d y hd2 with h1 | ⟨h1,z,hz,h2⟩
   ·exact .inl h1
   ·rw [hg] at hz; cases hz
    exact .inr ⟨h1,x,hg,by rw [nE hj he]; simp [h2]⟩
 ·have hne:d≠e:=by
   rintro rfl
   exact hp.2 i k hk hik d hd (by rw [hq]; exact hex)
  obtain ⟨q,hq2⟩:=h.cmp i hi hik d hd
  exact ⟨q,by grind [ma]⟩
 ·rw [hg] at hz; cases hz
  by_cases hde:d=e
  ·subst hde; exact ⟨c,by grind [ma]⟩
  ·rw [nE hj he] at hd
   rcases List.mem_append.mp hd with hd | hd
   ·obtain ⟨q,hq2⟩:=h.cur x hg d hd
    exact ⟨q,by grind [ma]⟩
   ·simp at hd; exact absurd hd hde
theorem qM.next (h:qM p k j m) {hk:k<p.lines.l.length} (hq:p.lines.l[k]=x) (hj:x.elems.l.length<=j):qM p (k+1) 0 m:=by
 have hg:p.lines.l[k]?=some x:=by rw [List.getElem?_eq_getElem hk,hq]
 refine ⟨λd y hd=>?_,λi hi hik d hd=>?_,λ_ _ e h=>by simp at h⟩
 ·rcases h.snd d y hd with ⟨i,hi,h1,h2⟩ | ⟨h1,z,hz,h2⟩
  ·exact .inl ⟨i,hi,by omega,h2⟩
  ·rw [hg] at hz; cases hz
   exact .inl ⟨k,hk,by omega,h1,by rw [hq]; exact List.mem_of_mem_take h2⟩
 ·rcases Nat.lt_succ_iff_lt_or_eq.mp hik with h1 | h1
  ·exact h.cmp i hi h1 d hd
  ·subst h1
   rw [hq] at hd
   exact h.cur x hg d (by rwa [List.take_of_length_le hj])
def qM.ok (h:qM p k 0 m) (hk:p.lines.l.length<=k):zQ m p:=by
 refine ⟨λd y hd=>?_,λi hi d hd=>h.cmp i hi (by omega) d hd⟩
 rcases h.snd d y hd with ⟨i,hi,h1,h2,h3⟩ | ⟨h1,z,hz,h2⟩
 ·exact ⟨i,hi,h2,h3⟩
 ·simp at h2
end
def vP (P:Int->Bool) (l l2:List Int) (i j:Int):Prop:=l2.take i.toNat=(l.take j.toNat).filter P/\l2.drop j.toNat=l.drop j.toNat
section
variable {P:Int->Bool} {l l2:List Int} {i j x y:Int}
def D9 {l l2:List Int} {n:Nat} (h:l2.drop n=l.drop n) {h1:n<l2.length} (hq:l2[n]=x):∃ h2:n<l.length,l[n]=x:=by
 have h3:(l2.drop n)[0]?=some x:=by rw [List.getElem?_drop,Nat.add_zero,List.getElem?_eq_getElem h1,hq]
 rw [h,List.getElem?_drop,Nat.add_zero] at h3
 exact List.getElem?_eq_some_iff.mp h3
def OT {l l2:List Int} {n:Nat} (h:l2.drop n=l.drop n):l2.drop (n+1)=l.drop (n+1):=by
 have:∀ m:List Int,m.drop (n+1)=(m.drop n).drop 1:=λm=>by rw [List.drop_drop]
 rw [this,this,h]
def vP.start (h0:0<=i) (hb:∀ (k:Nat) (h:k<l.length),(k:Int)<i->P l[k]=true) (hi:i<l.length) (hP:∀ (h:i.toNat<l.length),P l[i.toNat]=false):vP P l l i (i+1):=by
 have e:(i+1).toNat=i.toNat+1:=by omega
 have hl:i.toNat<l.length:=by omega
 refine ⟨?_,rfl⟩
 rw [e,List.take_add_one,List.getElem?_eq_getElem hl,Option.toList_some,List.filter_append,List.filter_cons,hP hl]
 simp only [Bool.false_eq_true,if_false,List.filter_nil,List.append_nil]
 symm
 rw [List.filter_eq_self]
 intro a ha
 obtain ⟨k,hk,rfl⟩:=List.mem_take_iff_getElem.mp ha
 exact hb k (by omega) (by omega)
theorem vP.keep (h:vP P l l2 i j) (h0:0<=i) (hij:i<j) {hj:j.toNat<l2.length} (hq:l2[j.toNat]=x) (hP:P x=true):vP P l (l2.set i.toNat x) (i+1) (j+1):=by
 have e1:(i+1).toNat=i.toNat+1:=by omega
 have e2:(j+1).toNat=j.toNat+1:=by omega
 obtain ⟨hl,hlq⟩:=D9 h.2 hq
 refine ⟨?_,?_⟩
 ·rw [e1,e2,List.take_add_one,List.getElem?_set_self (by omega),List.take_add_one,List.getElem?_eq_getElem hl,hlq,Option.toList_some,List.filter_append,<- h.1,List.take_set_of_le (Nat.le_refl _)]
  simp [hP]
 ·rw [e2,List.drop_set_of_lt (by omega)]
  exact OT h.2
def vP.skip (h:vP P l l2 i j) (h0:0<=i) (hij:i<j) {hj:j.toNat<l2.length} (hq:l2[j.toNat]=x) (hP:P x=false):vP P l l2 i (j+1):=by
 have e2:(j+1).toNat=j.toNat+1:=by omega
 obtain ⟨hl,hlq⟩:=D9 h.2 hq
 refine ⟨?_,by rw [e2]; exact OT h.2⟩
 rw [e2,List.take_add_one,List.getElem?_eq_getElem hl,hlq,Option.toList_some,List.filter_append,<- h.1]
 simp [hP]
def vP.done (h:vP P l l2 i j) (hj:(l.length:Int)<=j) (hi:i.toNat<=l2.length) {n:Nat}:(l2.take i.toNat++List.replicate n y).take i.toNat=l.filter P:=by
 rw [List.take_append_of_le_length (by rw [List.length_take]; omega),List.take_take,Nat.min_self,h.1,List.take_of_length_le (by omega)]
end
def U1 (ln:List (Int×Int×Int)) (ll:List ju) (x y:Int):Prop:=y=x\/∃ (l:Nat) (h:l<ll.length) (q:Int),look x ln=some ((l:Int),q)/\y∈(ll[l]).elems.l
section
variable {ln:List (Int×Int×Int)} {ll:List ju} {m mo:List (Int×Bool)} {x y r e:Int} {k:Nat} {L:ju} {E:Row Int}
end
def J4 (l:List Int):Prop:=l.Pairwise (· < ·)
def J4.ext {l m:List Int} (h1:J4 l) (h2:J4 m) (h:∀ x,x∈l↔x∈m):l=m:=by
 induction l generalizing m with
 | nil=>cases m with
   | nil=>rfl
   | cons b m=>have:=(h b).mpr (by simp); simp at this
 | cons a l ih =>
   cases m with
   | nil=>have:=(h a).mp (by simp); simp at this
   | cons b m =>
     obtain ⟨ha,hl⟩:=List.pairwise_cons.mp h1
     obtain ⟨hb,hm⟩:=List.pairwise_cons.mp h2
     have hab:a=b:=by
      have h3:=(h a).mp (by simp)
      have h4:=(h b).mpr (by simp)
      rcases List.mem_cons.mp h3 with h3 | h3
      ·exact h3
      ·rcases List.mem_cons.mp h4 with h4 | h4
       ·exact h4.symm
       ·have:=ha b h4; have:=hb a h3; omega
     subst hab
     congr 1
     refine ih hl hm λx=>?_
     have:=h x
     simp only [List.mem_cons] at this
     constructor
     ·intro hx
      rcases this.mp (.inr hx) with h5 | h5
      ·have:=ha x hx; omega
      ·exact h5
     ·intro hx
      rcases this.mpr (.inr hx) with h5 | h5
      ·have:=hb x hx; omega
      ·exact h5
def RdS (ln:List (Int×Int×Int)) (ll:List ju) (rd:iG) (y:Int):Prop:=(∃ s∈rd.steps.l,U1 ln ll s.elem y)\/∃ z∈rd.my.l,U1 ln ll z y
def agD (ln:List (Int×Int×Int)) (ll:List ju) (L:List iG) (R:List Int) (k:Nat) (y:Int):Prop:=∃ i∈R.take k,∃ rd,L[i.toNat]?=some rd/\RdS ln ll rd y
section
variable {ln:List (Int×Int×Int)} {ll:List ju} {L:List iG} {R:List Int} {k j:Nat} {m mo:List (Int×Bool)} {i:Int} {rd:iG} {s:iR} {z:Int}
end
section
variable {l:List Bool} {x y:Int} {b:Bool}
end
def ClK (p:bY) (B:Int->Prop) (k:Nat) (y:Int):Prop:=B y\/∃ (i:Nat) (h:i<p.lines.l.length),i<k/\y∈(p.lines.l[i]).elems.l/\∃ x∈(p.lines.l[i]).elems.l,B x
section
variable {p:bY} {B:Int->Prop} {k j:Nat} {l l2:List Bool} {x:ju} {e:Int} {b c:Bool}
end
section
variable {l:List Bool} {Q:Int->Prop} {k:Nat} {o:List Int} {b:Bool}
end
def ad4 (p:bY) (d:iB) (run leg:Int):Int:=if kn p (Bj p d run (leg+1))=4 then -1 else Bj p d run (leg+1)
def ab1 (p:bY) (L:List iG) (d:iB) (run leg:Int) (y:Int):Prop:=agD [] [] L (lY p L d run leg) (lY p L d run leg).length y
def Bu (p:bY) (L:List iG) (d:iB) (run leg:Int) (w:List Int×Int):Prop:=J4 w.1/\(∀ y,y∈w.1↔ClK p (ab1 p L d run leg) p.lines.l.length y/\y≠Bj p d run leg/\kn p y≠4)/\w.2=ad4 p d run leg
theorem Bu.wA {p:bY} {L:List iG} {d:iB} {run leg:Int} {w v:List Int×Int} (h1:Bu p L d run leg w) (h2:Bu p L d run leg v):w=v:=Prod.ext (h1.1.ext h2.1 λx=>by rw [h1.2.1 x,h2.2.1 x]) (h1.2.2.trans h2.2.2.symm)
def atP (p:bY) (d:iB) (run:Int):List Int:=if kn p (Bj p d run 0)=0\/kn p (Bj p d run 0)=4 then [] else [Bj p d run 0]
def WL (p:bY) (L:List iG) (d:iB) (run:Int) (l:List tS) (k:Nat):Prop:=l.length=k/\∀ (i:Nat) (h:i<l.length),Bu p L d run (i:Int) ((l[i]).free.l,(l[i]).end_)
def K9 (p:bY) (L:List iG) (d:iB) (run:Int) (c:mn):Prop:=c.at_.l=atP p d run/\∃ x,d.runs.l[run.toNat]?=some x/\WL p L d run c.iS.l x.iS.l.length
section
variable {p:bY} {L:List iG} {d:iB} {run:Int} {l:List tS} {k:Nat} {w:tS} {n:Int} {c c2:mn} {x:j7}
def WL.zero:WL p L d run [] 0:=⟨rfl,λi h=>by simp at h⟩
def WL.snoc (h:WL p L d run l k) (hw:Bu p L d run (k:Int) (w.free.l,w.end_)):WL p L d run (l++[w]) (k+1):=by
 refine ⟨by simp [h.1],λi hi=>?_⟩
 by_cases hik:i<l.length
 ·rw [List.getElem_append_left hik]; exact h.2 i hik
 ·have:i=l.length:=by simp at hi; omega
  subst this
  rw [List.getElem_append_right (Nat.le_refl _)]
  simp only [Nat.sub_self,List.getElem_cons_zero]
  rw [h.1]; exact hw
end
def oF (d:iB) (run:Int):Nat:=match d.runs.l[run.toNat]? with
 | some x=>x.iS.l.length
 | none=>0
theorem zl {d:iB} {run:Int} {x:j7} {h:run.toNat<d.runs.l.length} (hq:d.runs.l[run.toNat]=x):oF d run=x.iS.l.length:=by
 rw [oF,List.getElem?_eq_getElem h,hq]
def re (p:bY) (L:List iG) (d:iB) (l:List mn) (k:Nat):Prop:=l.length=k/\∀ (i:Nat) (h:i<l.length),K9 p L d (i:Int) l[i]
def re.zero {p:bY} {L:List iG} {d:iB}:re p L d [] 0:=⟨rfl,λi h=>by simp at h⟩
def re.snoc {p:bY} {L:List iG} {d:iB} {l:List mn} {k:Nat} {c:mn} (h:re p L d l k) (hc:K9 p L d (k:Int) c):re p L d (l++[c]) (k+1):=by
 refine ⟨by simp [h.1],λi hi=>?_⟩
 by_cases hik:i<l.length
 ·rw [List.getElem_append_left hik]; exact h.2 i hik
 ·have:i=l.length:=by simp at hi; omega
  subst this
  rw [List.getElem_append_right (Nat.le_refl _)]
  simp only [Nat.sub_self,List.getElem_cons_zero]
  rw [h.1]; exact hc
def re.end_ {p:bY} {L:List iG} {d:iB} {l r:List mn} {k n:Nat} (h:re p L d l k) (hr:r=l) (h1:n<=k) (h2:k<=n):re p L d r n:=by
 subst hr
 have:k=n:=by omega
 subst this; exact h
end Go.Sx
namespace Go.Sx
open Go
def Nc (s:Int) (S:Int->Prop):Prop:=∃ b:BitVec 64,s=(b.toNat:Int)/\∀ i:Nat,i<64->(b.getLsbD i=true↔S (i:Int))
def Nc.congr {s:Int} {S T:Int->Prop} (h:Nc s S) (e:∀ i:Int,0<=i->(S i↔T i)):Nc s T:=by
 obtain ⟨b,h1,h2⟩:=h
 exact ⟨b,h1,λi hi=>(h2 i hi).trans (e i (by omega))⟩
abbrev CX:=List Int×List (List Int)
def sA (c:mn):CX:=(c.at_.l,c.iS.l.map λw=>w.free.l)
def CM (c:List CX) (k:Nat):Prop:=∀ (i:Nat) (h:i<c.length),i≠k->∀ e∈(c[i]).1,∀ x,c[k]?=some x->∀ w∈x.2,e∉w
def yi (c:List CX) (home:List Bool) (k:Nat):Prop:=home[k]?=some false/\CM c k/\∀ j,j<k->¬ (home[j]?=some false/\CM c j)
theorem yi.wA {c:List CX} {home:List Bool} {k j:Nat} (h1:yi c home k) (h2:yi c home j):k=j:=by
 rcases Nat.lt_trichotomy k j with h | h | h
 ·exact absurd ⟨h1.1,h1.2.1⟩ (h2.2.2 k h)
 ·exact h
 ·exact absurd ⟨h2.1,h2.2.1⟩ (h1.2.2 j h)
inductive rK (c0:List CX):Nat->List CX->List Bool->Prop
 | zero:rK c0 0 c0 (List.replicate c0.length false)
 | succ {m k:Nat} {c:List CX} {home:List Bool} (h:rK c0 m c home) (n:yi c home k):rK c0 (m+1) (c.set k ([],[])) (home.set k true)
theorem rK.wA {c0:List CX} {m:Nat} {c:List CX} {home:List Bool} (h:rK c0 m c home):∀ {c':List CX} {home':List Bool},rK c0 m c' home'->c=c'/\home=home':=by
 induction h with
 | zero=>intro c' home' h; cases h; exact ⟨rfl,rfl⟩
 | succ h n ih =>
   intro c' home' h'
   cases h' with
   | succ h2 n2 =>
     obtain ⟨rfl,rfl⟩:=ih h2
     obtain rfl:=n.wA n2
     exact ⟨rfl,rfl⟩
def rK.back {c0:List CX} {m:Nat} {c:List CX} {home:List Bool} (h:rK c0 m c home):∀ j,j<m->∃ c' home' k,rK c0 j c' home'/\yi c' home' k:=by
 induction h with
 | zero=>intro j hj; omega
 | succ h n ih =>
   intro j hj
   rcases Nat.lt_succ_iff_lt_or_eq.mp hj with h1 | h1
   ·exact ih j h1
   ·subst h1; exact ⟨_,_,_,h,n⟩
def Be (c0:List CX) (b:Bool):Prop:=∃ m c home,rK c0 m c home/\((b=true/\∀ x∈home,x=true)\/(b=false/\false∈home/\∀ k,¬ yi c home k))
theorem Be.wA {c0:List CX} {a b:Bool} (h1:Be c0 a) (h2:Be c0 b):a=b:=by
 obtain ⟨m,c,home,hr,h1⟩:=h1
 obtain ⟨m',c',home',hr',h2⟩:=h2
 have no:∀ {c:List CX} {home:List Bool} {k:Nat},(∀ x∈home,x=true)->¬ yi c home k:=by
  intro c home k h n
  have:=h false (List.mem_of_getElem? n.1)
  cases this
 rcases Nat.lt_trichotomy m m' with h | h | h
 ·obtain ⟨c2,home2,k,h3,h4⟩:=hr'.back m h
  obtain ⟨rfl,rfl⟩:=hr.wA h3
  rcases h1 with ⟨_,h5⟩ | ⟨_,_,h5⟩
  ·exact (no h5 h4).elim
  ·exact (h5 k h4).elim
 ·subst h
  obtain ⟨rfl,rfl⟩:=hr.wA hr'
  rcases h1 with ⟨rfl,h3⟩ | ⟨rfl,h3,_⟩<;>rcases h2 with ⟨rfl,h4⟩ | ⟨rfl,h4,_⟩
  ·rfl
  ·have:=h3 _ h4; cases this
  ·have:=h4 _ h3; cases this
  ·rfl
 ·obtain ⟨c2,home2,k,h3,h4⟩:=hr.back m' h
  obtain ⟨rfl,rfl⟩:=hr'.wA h3
  rcases h2 with ⟨_,h5⟩ | ⟨_,_,h5⟩
  ·exact (no h5 h4).elim
  ·exact (h5 k h4).elim
theorem rK.len {c0:List CX} {m:Nat} {c:List CX} {home:List Bool} (h:rK c0 m c home):c.length=c0.length/\home.length=c0.length:=by
 induction h with
 | zero=>simp
 | succ h n ih=>simpa using ih
def N3 (l:List mn):Prop:=∀ c∈l,∀ x∈c.at_.l,0<=x/\x<40
def UZ (c:List CX) (home:List Bool) (n:Int):Prop:=∀ j:Nat,(j:Int)<n->¬ (home[j]?=some false/\CM c j)
section
variable {c:List CX} {home:List Bool} {n z a b:Int} {x:Bool} {l:List mn} {y:mn} {c0:List CX} {k m:Nat}
theorem rK.go (h:rK c0 k (l.map sA) home) (hno:UZ (l.map sA) home n) (h0:0<=n) {hk:n.toNat<home.length} (hq:home[n.toNat]=x) (hx:x=false) (hc:CM (l.map sA) n.toNat) (hy:sA y=([],[]):=by rfl):rK c0 (k+1) ((l.set n.toNat y).map sA) (home.set n.toNat true):=by
 rw [List.map_set,hy]
 refine h.succ ⟨by rw [List.getElem?_eq_getElem hk,hq,hx],hc,λj hj=>hno j (by omega)⟩
theorem N3.set (h:N3 l) (hy:y.at_.l=[]:=by rfl):N3 (l.set k y):=by
 intro d hd x hx
 rcases List.mem_or_eq_of_mem_set hd with h1 | h1
 ·exact h d h1 x hx
 ·subst h1; rw [hy] at hx; cases hx
def C5:∀ {home:List Bool},home.count true<home.length->false∈home
 | [],h=>by simp at h
 | true::l,h=>by simp at h; exact List.mem_cons_of_mem _ (C5 h)
 | false::l,_=>by simp
def UW (h:rK c0 k c home) (hc:home.count true=k) (hk:k<home.length) (hno:UZ c home n) (hn:(home.length:Int)<=n):Be c0 false:=by
 refine ⟨k,c,home,h,.inr ⟨rfl,C5 (by omega),λj hj=>?_⟩⟩
 obtain ⟨h2,_⟩:=List.getElem?_eq_some_iff.mp hj.1
 exact hno j (by omega) ⟨hj.1,hj.2.1⟩
end
def FV (n:Nat) (o:List Int):List Bool:=(List.range n).map λj:Nat=>decide ((j:Int)∈o)
theorem GK {n j:Nat} {o:List Int} (h:j<n):(FV n o)[j]?=some (decide ((j:Int)∈o)):=by
 simp [FV,h]
def rK.count {c0:List CX} {m:Nat} {c:List CX} {home:List Bool} (h:rK c0 m c home):home.count true=m:=by
 induction h with
 | zero=>simp [List.count_replicate]
 | succ h n ih =>
   obtain ⟨h1,h2⟩:=List.getElem?_eq_some_iff.mp n.1
   rw [List.count_set h1,ih,h2]; simp
def qP (l0:List mn) (o0:List Int) (n:Nat) (b:Bool) (l:List mn) (o:List Int) (k:Nat):Prop :=
 (b=false->l=l0/\o=o0/\UZ (l0.map sA) (FV n o0) k)/\(b=true->∃ j:Nat,yi (l0.map sA) (FV n o0) j/\l.map sA=(l0.map sA).set j ([],[])/\o=o0++[(j:Int)])
section
variable {l0 l:List mn} {o0 o:List Int} {n k m:Nat} {b:Bool} {c0:List CX}
def qP.zero:qP l0 o0 n false l0 o0 0:=⟨λ_=>⟨rfl,rfl,λj hj=>absurd hj (by omega)⟩,λh=>by cases h⟩
def qP.lN {s:List Int} (h:qP l0 o0 n b l o k) (hb:b=false) (hs:s=o) (hi:(k:Int)∈s) (hk:k<n):qP l0 o0 n b l o (k+1):=by
 subst hb; replace hb:false=false:=rfl
 obtain ⟨h1,h2,h3⟩:=h.1 hb
 refine ⟨λ_=>⟨h1,h2,λj hj=>?_⟩,λh=>by cases h⟩
 by_cases hjk:j<k
 ·exact h3 j (by omega)
 ·have:j=k:=by omega
  subst this
  rintro ⟨h4,_⟩
  rw [GK hk,<- h2,<- hs] at h4
  simp [hi] at h4
def qP.no {s:jn mn} (h:qP l0 o0 n b l o k) (hb:b=false) (hs:s.l=l) (hc:¬ CM (s.l.map sA) k):qP l0 o0 n b l o (k+1):=by
 subst hb; replace hb:false=false:=rfl
 obtain ⟨h1,h2,h3⟩:=h.1 hb
 refine ⟨λ_=>⟨h1,h2,λj hj=>?_⟩,λh=>by cases h⟩
 by_cases hjk:j<k
 ·exact h3 j (by omega)
 ·have:j=k:=by omega
  subst this
  rintro ⟨_,h4⟩
  rw [hs,h1] at hc; exact hc h4
def qP.yes {t:List Int} {s:jn mn} {y:mn} (h:qP l0 o0 n b l o k) (hb:b=false) (ht:t=o) (hi:(k:Int)∉t) (hs:s.l=l) (hc:CM (s.l.map sA) k) (hk:k<n) (hy:sA y=([],[]):=by rfl):qP l0 o0 n true (l.set k y) (o++[(k:Int)]) (k+1):=by
 obtain ⟨h1,h2,h3⟩:=h.1 hb
 subst h1 h2
 refine ⟨λh=>(by cases h),λ_=>⟨k,⟨by rw [GK hk,<- ht]; simp [hi],by rw [<- hs]; exact hc,λj hj=>h3 j (by omega)⟩,by rw [List.map_set,hy],rfl⟩⟩
theorem qP.len (h:qP l0 o0 n b l o k) (hb:b=true):o.length=o0.length+1:=by
 obtain ⟨j,_,_,h3⟩:=h.2 hb
 rw [h3]; simp
def qP.stuck (h:qP l0 o0 n b l o k) (hb:b=false) (hr:rK c0 o0.length (l0.map sA) (FV n o0)) (hn:n<=k) (hm:o0.length<n):Be c0 false:=by
 obtain ⟨h1,h2,h3⟩:=h.1 hb
 have hl:(FV n o0).length=n:=by simp [FV]
 exact UW hr hr.count (by omega) h3 (by omega)
end
end Go.Sx
namespace Go.Sx
open Go
section
variable {d e:iB} {L M:List iG} {p:bY} {run leg:Int}
end
section
variable {p:bY} {L M:List iG} {d f:iB} {e w:Int} {l m:List mn} {k:Nat} {b:Bool}
end
def Lq {p:bY} (h:HW p) (e:Int) (hk:kn p e=4):rU p e=0:=by
 unfold kn at hk
 unfold rU
 by_cases h0:e<0
 ·simp [h0]
 ·rw [if_neg h0] at hk ⊢
  cases hs:p.elems.l[e.toNat]? with
  | none=>rfl
  | some x =>
    rw [hs] at hk
    obtain ⟨hl,hq⟩:=List.getElem?_eq_some_iff.mp hs
    exact (h x (hq▸List.getElem_mem hl)).2 hk
end Go.Sx
