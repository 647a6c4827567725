/- Proves rules for the walks and their soundness. -/
import Derived.Test.YtpelnddplemngaaGreatHaf
set_option linter.all false
namespace Go.Sx
open Go
section
variable {C:jZ} {F:lA} {Pr:kU}
theorem ji.u6 {shd:Bool} {f:Nat} {args:List AV} {h h1 h2:aT} {v1 v2:AV} (a:ji C F Pr shd f args h v1 h1) (b:ji C F Pr shd f args h v2 h2):v1=v2/\h1=h2:=by
 obtain ⟨m,ha⟩:=a
 obtain ⟨n,hb⟩:=b
 have:=(ha (m+n) (by omega)).symm.trans (hb (m+n) (by omega))
 grind
def yt (Pr:kU):Prop:=∀ f p,Pr f=some p->∀ (args:List AV) (h:aT) (v:AV) (h':aT),p false args h=some (v,h')->h'=h/\∀ h2:aT,(∀ b o,h.get b=some o->h2.get b=some o)->p false args h2=some (v,h2)
def BG (T:yt Pr) (n:Nat):oP (l3 C F Pr n):=by
 intro f args h v h' hc
 cases n with
 | zero=>cases hc
 | succ n =>
   simp only [l3] at hc
   cases hp:Pr f with
   | some p =>
     rw [hp] at hc
     obtain ⟨k1,k2⟩:=T f p hp _ _ _ _ hc
     grind [l3]
   | none =>
     grind [CL,l3]
open Classical in
noncomputable def res (C:jZ) (F:lA) (Pr:kU) (f:Nat) (args:List AV):AV :=
 if H:∃ v,ji C F Pr false f args aT.empty v aT.empty then Classical.choose H else .undef
theorem ji.at (T:yt Pr) {f:Nat} {args:List AV} {v:AV} (h:aT) (hc:ji C F Pr false f args aT.empty v aT.empty):ji C F Pr false f args h v h:=by
 obtain ⟨m,hm⟩:=hc
 refine ⟨m,λk hk=>(BG T k f args aT.empty v _ (hm k hk)).2 h ?_⟩
 intro b o hb
 have:aT.empty.get b=none:=by
  rfl
 grind
def Ws (T:yt Pr) {f:Nat} {args:List AV} {R:AV->Prop} (w:∀ h:aT,∃ v,ji C F Pr false f args h v h/\R v) {h:aT} {v:AV} (hc:ji C F Pr false f args h v h):res C F Pr f args=v:=by
 obtain ⟨v0,h0,_⟩:=w aT.empty
 have H:∃ v,ji C F Pr false f args aT.empty v aT.empty:=⟨v0,h0⟩
 have e:res C F Pr f args=Classical.choose H:=dif_pos H
 rw [e]
 exact ((Classical.choose_spec H).at T h).u6 hc |>.1
def nX (T:yt Pr) {f:Nat} {args:List AV} {R:AV->Prop} (w:∀ h:aT,∃ v,ji C F Pr false f args h v h/\R v) (h:aT):∃ v,ji C F Pr false f args h v h/\R v/\res C F Pr f args=v:=by
 obtain ⟨v,hc,hR⟩:=w h
 exact ⟨v,hc,hR,Ws T w hc⟩
end
def ye:m6->m6
 | .exact _=>.jc
 | c=>c
mutual
def tu:AV->AV
 | .sl xs c=>.sl (s6 xs) (ye c)
 | .agg l=>.agg (tp l)
 | v=>v
def tp:List AV->List AV
 | []=>[]
 | v::l=>tu v::tp l
def s6:List (List AV)->List (List AV)
 | []=>[]
 | x::l=>tp x::s6 l
end
theorem wV:∀ (l:List AV) (i:Nat),(tp l)[i]?=(l[i]?).map tu
 | [],i=>by rfl
 | v::l,0=>by rfl
 | v::l,i+1=>by simp [tp,wV l i]
theorem zn:∀ (l:List AV),(tp l).length=l.length
 | []=>rfl
 | v::l=>by simp [tp,zn l]
theorem Fb:∀ (l:List (List AV)) (i:Nat),(s6 l)[i]?=(l[i]?).map tp
 | [],i=>by rfl
 | v::l,0=>by rfl
 | v::l,i+1=>by simp [s6,Fb l i]
theorem xz:∀ (l:List (List AV)),(s6 l).length=l.length
 | []=>rfl
 | v::l=>by simp [s6,xz l]
theorem GL {c:m6} {n m:Nat} (h:oz c n m) (hle:n<=m):oz (ye c) n m:=by
 cases c<;>first | exact h | exact hle
def PR.wk {w:World} {T:Bool->Nat->Prop} {m:Bool} {v:AV} {u:Value} (h:PR w T m v u):PR w T m (tu v) u:=by
 induction h with
 | undef m v h=>exact .undef m v h
 | bool m b=>exact .bool m b
 | int m k n=>exact .int m k n
 | str m s b h=>exact .str m s b h
 | ky m=>exact .ky m
 | ip m cells off sn B base c e fr f hm hB hI hc h1 hr=>exact .ip m cells off sn B base c e fr f hm hB hI hc h1 hr
 | slnil m=>exact .slnil m
 | ng m cap a c hm h=>exact .ng m (ye cap) a c (by rw [show pH (ye cap)=pH cap from by cases cap<;>rfl]; exact hm) (GL h (Nat.zero_le _))
 | sl m xs cap B base c e fr cap' esz f hm hB hI hcap hle hz hc h1 hr ih =>
   have hs:pH (ye cap)=pH cap:=by cases cap<;>rfl
   have ex:∀ (i:Nat) (cs:List AV),(s6 xs)[i]?=some cs->∃ cs0,xs[i]?=some cs0/\cs=tp cs0:=by
    grind [Fb]
   have ex2:∀ (cs0:List AV) (j:Nat) (x:AV),(tp cs0)[j]?=some x->∃ x0,cs0[j]?=some x0/\x=tu x0:=by
    grind [wV]
   have key:=PR.sl (w:=w) (T:=T) m (s6 xs) (ye cap) B base c e fr cap' esz f (by grind) hB (by grind) (by grind [xz,GL]) (by grind [xz])
    (by grind [zn])
    (by grind)
    (by grind)
    (by grind)
   rw [xz] at key
   exact key
 | kJ m=>exact .kJ m
 | fm m es sn r ents clk hm hB hI hl hy hko hk hv=>exact .fm m es sn r ents clk hm hB hI hl hy hko hk hv
 | ly m=>exact .ly m
 | jQ m g a c a' c' ha hc hra hrc=>exact .jQ m g a c a' c' ha hc hra hrc
 | agg m l vs hl h1 hr ih =>
   refine .agg m (tp l) vs (by grind [zn]) h1 ?_
   grind [wV]
def Uw {v:AV} (h:v.kL=true):(tu v).kL=true:=by
 cases v<;>first | exact h | (simp [AV.kL] at h)
def VR.wk {G:Ga} {v:AV} {u:Value} (h:VR G v u):VR G (tu v) u:=by
 induction h with
 | undef v=>exact .undef v
 | jE hp h=>exact .jE (Uw hp) h.wk
 | ptr b g i o a hb hg h=>exact .ptr b g i o a hb hg h
 | hs b g off len a cap' hb hg hle h=>exact .hs b g off len a cap' hb hg hle h
 | hm b r hb h=>exact .hm b r hb h
 | la d o B hd=>exact .la d o B hd
 | jQ g a c a' c' ha hc hna hnc hra hrc=>exact .jQ g a c a' c' ha hc hna hnc hra hrc
 | agg l vs hl hn h1 hr ih =>
   refine .agg (tp l) vs (by grind [zn]) ?_ h1 ?_
   ·intro x hx
    obtain ⟨i,hi⟩:=List.getElem?_of_mem hx
    rw [wV] at hi
    obtain ⟨x0,g1,rfl⟩:=Option.map_eq_some_iff.mp hi
    have:=hn x0 (List.mem_of_getElem? g1)
    cases x0<;>first | exact this | rfl
   grind [wV]
 | jl l vs hl hr=>exact .jl l vs hl hr
open Classical in
noncomputable def sE (C:jZ) (F:lA) (Pr:kU) (f:Nat) (shd:Bool) (args:List AV) (h:aT):Option (AV×aT):=match shd with
 | true=>none
 | false=>if H:∃ v,ji C F Pr false f args h v h then some (tu (Classical.choose H),h) else none
theorem w4 {C:jZ} {F:lA} {Pr:kU} {f:Nat} {args:List AV} {h:aT} {v:AV} (hc:ji C F Pr false f args h v h):sE C F Pr f false args h=some (tu v,h):=by
 have H:∃ v,ji C F Pr false f args h v h:=⟨v,hc⟩
 have e:sE C F Pr f false args h=some (tu (Classical.choose H),h):=dif_pos H
 rw [e,((Classical.choose_spec H).u6 hc).1]
def DO {C:jZ} {F:lA} {Pr:kU} (T:yt Pr) (f:Nat):∀ (args:List AV) (h:aT) (v:AV) (h':aT),sE C F Pr f false args h=some (v,h')->h'=h/\∀ h2:aT,(∀ b o,h.get b=some o->h2.get b=some o)->sE C F Pr f false args h2=some (v,h2):=by
 intro args h v h' hc
 by_cases H:∃ v,ji C F Pr false f args h v h
 ·obtain ⟨v0,hv0⟩:=H
  rw [w4 hv0] at hc
  cases hc
  refine ⟨rfl,λh2 E=>?_⟩
  obtain ⟨m,hm⟩:=hv0
  have:ji C F Pr false f args h2 v0 h2:=⟨m,λk hk=>(BG T k f args h v0 h (hm k hk)).2 h2 E⟩
  exact w4 this
 grind [sE]
def Ls (args0:List AV) (v0:AV):∀ (args:List AV) (h:aT) (v:AV) (h':aT),tW args0 v0 false args h=some (v,h')->h'=h/\∀ h2:aT,(∀ b o,h.get b=some o->h2.get b=some o)->tW args0 v0 false args h2=some (v,h2):=by
 grind [tW]
def Ui {P:Program} {C:jZ} {F:lA} {Pr:kU} (T:qK P C F Pr):yt Pr:=λf p hp=>(T.DE f p hp).BR
def Gm {P:Program} {C:jZ} {F:lA} {Pr:kU} (T:qK P C F Pr) (f:Nat):nT P f (sE C F Pr f) where
 call:=by
  intro shd args h v h' hc
  cases shd with
  | true=>cases hc
  | false =>
    by_cases H:∃ v,ji C F Pr false f args h v h
    ·obtain ⟨v0,hv0⟩:=H
     rw [w4 hv0] at hc
     cases hc
     obtain ⟨m,hm⟩:=hv0
     have hk:=oF T m false f args h v0 h (hm m (Nat.le_refl _))
     intro G args' e1 e2 e3 e4 e5 e6
     obtain ⟨k1,k2⟩:=hk G args' e1 e2 e3 e4 e5 e6
     exact ⟨k1,λR hR=>k2 R λu G' s1 s2 s3 s4=>hR u G' s1 s2 s3 λm L=>(s4 m L).wk⟩
    grind [sE]
 BR:=DO (Ui T) f
def LU {n:Nat} {h h':aT} {s v':AV} {ys:List (List AV)} (ha:append n h s ys=some (v',h')) (hs:s≠.sl [] .nil):v'≠.sl [] .nil:=by
 unfold append at ha
 split at ha
 ·grind
 ·split at ha
  ·cases ha
  ·split at ha<;>grind [rH,nH,AY]
section
variable {C:jZ} {F:lA} {Pr:kU} {fa:iN} {e:Env} {α:Type} {enc : α->List AV} {H:aT} {L:List jW} {i:Nat} {w tt:Bool} {v:AV} {n:Nat} {l:List α} {ls:lh}
def ux {cl:Call} {s x:Operand} {t u:Nat} {ti:TI} {d:Option Nat} (ys:List α) (hS:Sep H L) (hi:L[i]?=some (.sl w tt v n (l.map enc))) (hc:cl.callee=.builtin .append) (ha:cl.args.toList=[s,x]) (hts:cl.argTypes.toList=[t,u]) (hT:rZ C [t,u]=some ti) (hSr:Fo C [t,u]=true) (hn:ti.size=n)
  (hs:iZ e s=v) (hx:pV { H with iI:=ls } (iZ e x)=some (ys.map enc)) (hok:∀ y,(enc y).all AV.kK=true) (ht:tt=true\/ys.length=1) (hm:l.length+ys.length<=sv) (henc:∀ x,(enc x).length=n) :
  ∃ v' H',(∀ call,jL (.call cl) ⟨C,fa,call⟩ e { H with iI:=ls } d=some (v',{ H' with iI:=ls }))/\Sep H' (L.set i (.sl w tt v' n ((l++ys).map enc)))/\(v≠.sl [] .nil->v'≠.sl [] .nil):=by
 obtain ⟨v',H',h1,h2⟩:=FU (ls:=ls) (ys:=ys.map enc) hS hi (by grind) (by grind) (by grind)
 refine ⟨v',H',λcall=>?_,by grind,LU h1⟩
 have hall:zD (ys.map enc)=true:=by
  grind [zD]
 simp only [jL,pJ,oO,hc,ha,hts,mH,Aj,sm,List.map_cons,List.map_nil,hT,hSr,hn,hs,hx,hall,h1]
def uR (hS:Sep H L) (hi:L[i]?=some (.sl w tt v n (l.map enc))) (hl:l.length<=rX):∃ r:Row α,r.l=l/\(r.c=.nil↔v=.sl [] .nil)/\∀ ls m,(∀ x,jJ (freeze false { H with iI:=ls } m) (enc x)=some (enc x))->freeze false { H with iI:=ls } (m+1) v=some (r.av enc):=by
 obtain ⟨hxl,⟨h0,rfl⟩ | ⟨_,rfl⟩ | ⟨b,g,j,hb,rfl,hg,htj⟩⟩:=hS.at hi
 ·have:l=[]:=List.map_eq_nil_iff.mp h0
  subst this
  exact ⟨⟨[],.nil,Nat.zero_le _,rfl,λ_=>rfl⟩,rfl,⟨λ_=>rfl,λ_=>rfl⟩,λ_ _ _=>rfl⟩
 ·exact ⟨⟨l,.exact (l.map enc).length,hl,rfl,λh=>by cases h⟩,rfl,⟨λh=>(by cases h),λh=>(AV.sl.inj h).2⟩,λ_ _ _=>rfl⟩
 ·refine ⟨⟨l,.jc,hl,rfl,λh=>by cases h⟩,rfl,⟨λh=>(by cases h),λh=>(by cases h)⟩,λls m hm=>?_⟩
  have h2:Nat.ble (0+(l.map enc).length) (l.map enc++j).length=true:=Nat.ble_eq.mpr (by simp)
  have h3:((l.map enc++j).drop 0).take (l.map enc).length=l.map enc:=by simp
  have h5:∀ ys:List (List AV),(∀ x∈ys,jJ (freeze false { H with iI:=ls } m) x=some x)->np (freeze false { H with iI:=ls } m) ys=some ys:=by
   intro ys
   induction ys<;>grind [np]
  simp only [freeze,aT.lO,hg,Nat.beq_refl,h2,Bool.and_self,h3,h5 (l.map enc) (by grind),A1]
  rfl
end
def jm.y9 {α:Type} {r:jm α}:r.isNil=true↔r.c=.nil:=by
 grind [jm.isNil]
theorem vU.trans {α:Type} {a b c:Row α} (h:vU a b) (g:vU b c):vU a c:=⟨h.1.trans g.1,h.2.trans g.2⟩
theorem sF.trans {a b c:jN} (h:sF a b) (g:sF b c):sF a c:=⟨h.1.trans g.1,h.2.trans g.2⟩
def Lw {l m:List jN} (h:∀ (i:Nat) (h:i<l.length) (h2:i<m.length),sF l[i] m[i]) {k:Nat} {x x':jN} (hk:k<l.length) (hq:l[k]=x) (hx:sF x' x) :
  ∀ (i:Nat) (h:i<(l.set k x').length) (h2:i<m.length),sF (l.set k x')[i] m[i]:=by
 intro i hi h2
 rw [List.getElem_set]
 split
 ·rename_i e
  subst e
  exact hx.trans (by grind)
 grind
def Iy (r p:bG):Prop:=vU r.elems p.elems/\vU r.jd p.jd/\vU r.signals p.signals/\(r.lines.c=.nil↔p.lines.c=.nil)/\r.lines.l.length=p.lines.l.length/\(∀ (i:Nat) (h:i<r.lines.l.length) (h2:i<p.lines.l.length),sF r.lines.l[i] p.lines.l[i])/\r.top=p.top/\r.jT=p.jT/\r.kq=p.kq/\r.jX=p.jX/\r.kI=p.kI
theorem K0 {α:Type} {r s:Row α} (h:r.c=.nil↔s.c=.nil):ye r.c=Cj s.c:=by
 have h1:=r.sn
 cases hr:r.c<;>cases hs:s.c<;>simp_all [ye,Cj,p6]
theorem Et {α:Type} {enc : α->List AV} (h:∀ x : α,tp (enc x)=enc x):∀ l:List α,s6 (l.map enc)=l.map enc
 | []=>rfl
 | x::l=>by simp only [List.map_cons,s6,h,Et h l]
theorem BY {α:Type} {enc : α->List AV} {r s:Row α} (h:vU r s) (he:∀ x : α,tp (enc x)=enc x):tu (r.av enc)=s.canon.av enc:=by
 simp only [Row.av,tu,Row.canon,Et he,h.1,K0 h.2]
theorem BE:∀ {l m:List jN},l.length=m.length->(∀ (i:Nat) (h:i<l.length) (h2:i<m.length),sF l[i] m[i])->s6 (l.map jN.ag)=(m.map jN.canon).map jN.ag
 | [],[],_,_=>rfl
 | [],_::_,h,_=>by simp at h
 | _::_,[],h,_=>by simp at h
 | x::l,y::m,hl,h=>by
   obtain ⟨h1,h2⟩:=h 0 (by simp) (by simp)
   simp only [List.getElem_cons_zero] at h1 h2
   have ih:=BE (l:=l) (m:=m) (by simpa using hl) λi h3 h4=>by
    have:=h (i+1) (by simpa using h3) (by simpa using h4)
    simpa using this
   simp only [List.map_cons,s6,ih]
   congr 1
   simp only [jN.ag,jN.canon,tp,BY h2 (enc:=j4) (λx=>rfl),h1]
   rfl
theorem G4 {r p:bG} (h:Iy r p):tu (.agg r.ag)=.agg p.canon.ag:=by
 obtain ⟨h1,h2,h3,h4,h5,h6,h7,h8,h9,h10,h11⟩:=h
 have hl:tu (r.lines.av jN.ag)=(p.lines.yP jN.canon).canon.av jN.ag:=by
  simp only [Row.av,tu,BE h5 h6,Row.canon,Row.yP,K0 h4]
 simp only [bG.ag,tu,tp,bG.canon,BY h1 (enc:=ko.ag) (λx=>rfl),BY h2 (enc:=kD.ag) (λx=>rfl),BY h3 (enc:=kb.ag) (λx=>rfl),hl,h7,h8,h9,h10,h11]
def Iu {C:jZ} {F:lA} {Pr Pr2:kU} {f:Nat} {args:List AV} {h:aT} {v:AV} (hp:Pr2 f=some (sE C F Pr f)) (hc:ji C F Pr false f args h v h):ji C F Pr2 false f args h (tu v) h:=by
 refine ⟨1,λk hk=>?_⟩
 cases k<;>grind [l3,w4]
section
variable {amb:Bool} {A:Int->Option iM} {N:iM->Option iM} {K:Int->Int} {R:iM->Int} {d:iO} {run leg:Int}
def LK (hz:0<=nz amb A N K R d run leg):0<=run/\run<(d.runs.l.length:Int)/\0<=leg/\∀ h:run.toNat<d.runs.l.length,leg<((d.runs.l[run.toNat]).iY.l.length:Int):=by
 by_cases h0:run<0\/run>=d.runs.l.length
 ·grind [pf,tX]
 ·have hx:run.toNat<d.runs.l.length:=by omega
  by_cases h1:leg<0\/leg > (d.runs.l[run.toNat]).iY.l.length<;>grind [pf,tJ,nz]
def IF {r:Int} (h:r=nz amb A N K R d run leg):(0<=r->0<=run/\run<(d.runs.l.length:Int)/\0<=leg/\∀ h:run.toNat<d.runs.l.length,leg<((d.runs.l[run.toNat]).iY.l.length:Int))/\r=nz amb A N K R d run leg:=⟨λhz=>LK (h▸hz),h⟩
end
def oa (p:bG) (t:List iM):List Int:=(t.filter λh=>kN p h.elem≠4).map (·.elem)
theorem GW {α β:Type} {l:List α} {k:Nat} {x : α} (hk:k<l.length) (hq:l[k]=x) (p : α->Bool) (f : α->β):((l.take (k+1)).filter p).map f=((l.take k).filter p).map f++if p x then [f x] else []:=by
 rw [List.take_add_one,List.getElem?_eq_getElem hk,hq]
 grind
def Om {p:bG} {t:List iM} {l:List Int} {k:Nat} {x:iM} {n:Int} (hk:k<t.length) (hq:t[k]=x) (h:l=oa p (t.take k)) (hK:n=kN p x.elem) (hn:n≠4):l++[x.elem]=oa p (t.take (k+1)):=by
 subst hK
 unfold oa at h ⊢
 rw [GW hk hq,<- h,if_pos (by grind)]
def TN {p:bG} {t:List iM} {l:List Int} {k:Nat} {x:iM} {n:Int} (hk:k<t.length) (hq:t[k]=x) (h:l=oa p (t.take k)) (hK:n=kN p x.elem) (hn:¬ n≠4):l=oa p (t.take (k+1)):=by
 subst hK
 unfold oa at h ⊢
 rw [GW hk hq,<- h,if_neg (by grind),List.append_nil]
def N4 (p:bG) (t:List iM):(oa p t).length<=t.length:=by
 grind [oa]
def U0 {X:Ctx} {e:Env} {h:aT} {d:Option Nat} {s t:Nat} {x:Operand} {ti ti2:TI} {n:Int} (hx:iZ e x=.int .i64 n) (hS:X.C.T s=some ti) (hT:X.C.T t=some ti2) (hk:ti2.kind=.int .u64) (h0:0<=n) (h1:n<=9223372036854775807):jL (.convert s t x) X e h d=some (.int .u64 n,h):=by
 have hw:ry .u64 n=n:=by
  rw [qS]
  show (if (false&&decide (n % (2 ^ 64:Int)>=(2 ^ 63:Int)))=true then n % (2 ^ 64:Int) - (2 ^ 64:Int) else n % (2 ^ 64:Int))=n
  grind
 simp_all [jL,xu,uU,AV.int?,tG,oi,kV]
def FH {l:List jC} {k:Nat} {x:jC} {hk:k<l.length} (hq:l[k]=x) (h:∀ (i j:Nat) (h:j<l.length) (hij:i<j),j<k->(l[i]).name.l≠(l[j]).name.l) (hx:∀ y∈l.take k,¬ y.name.l=x.name.l) :
  ∀ (i j:Nat) (h:j<l.length) (hij:i<j),j<k+1->(l[i]).name.l≠(l[j]).name.l:=by
 intro i j hj hij h2
 rcases Nat.lt_succ_iff_lt_or_eq.mp h2 with h3 | h3
 ·grind
 ·subst h3
  rw [hq]
  exact hx _ (List.mem_take_iff_getElem.mpr ⟨i,by omega,rfl⟩)
def m8 {α:Type} {P : α->Prop} {l:List α} {k:Nat} (h:∀ (i:Nat) (h:i<l.length),i<k->P (l[i])) (hk:l.length<=k):∀ x∈l,P x:=by
 intro x hx
 obtain ⟨i,hi,rfl⟩:=List.mem_iff_getElem.mp hx
 grind
def lT (p:bG) (d:iO) (i:Nat):kF:=match d.runs.l[i]? with
 | none=>⟨⟨[],by decide⟩,0,⟨0,0⟩,0⟩
 | some r =>
   let a:=(nk p.signals.l r.from_).getD ⟨0,0⟩
   ⟨r.name,r.iU,a,if kN p a.elem=4 then 0 else r.left⟩
def Lh {p:bG} {d:iO} {i:Int} {r:jC} {a:iM} {m:Int} (hi:i.toNat<d.runs.l.length) (hq:d.runs.l[i.toNat]=r) (ha:a=(nk p.signals.l r.from_).getD ⟨0,0⟩) (hm:m=if kN p a.elem=4 then 0 else r.left):(⟨r.name,r.iU,a,m⟩:kF)=lT p d i.toNat:=by
 grind [lT]
structure Tk (L:Nat->List Int) (k:Nat) (m:List (Int×Bool)) (e:Int):Prop where
 look:∀ i,i<k->∀ x∈L i,look x m=some true
 val:∀ y∈m,y.2=true
 CW:e=0->∀ i j,i<j->j<k->∀ x∈L i,x∉L j
structure uz (L:Nat->List Int) (k:Nat) (r:List Int) (m:List (Int×Bool)) (e:Int):Prop where
 tk:Tk L k m e
 IN:∀ x∈r,Go.Sx.look x m=some true
 Wu:e=0->∀ i,i<k->∀ x∈L i,x∉r
def Tk.zero (L:Nat->List Int):Tk L 0 [] 0:=⟨λi h=>by omega,by simp,λ_ i j h1 h2=>by omega⟩
def Tk.start {L:Nat->List Int} {k:Nat} {m:List (Int×Bool)} {e:Int} (h:Tk L k m e) (r:List Int):uz L k (r.take 0) m e:=⟨h,by simp,λ_ _ _ _ _=>by simp⟩
theorem nN {α:Type} {r:List α} {j:Nat} {x : α} (hj:j<r.length) (hq:r[j]=x):r.take (j+1)=r.take j++[x]:=by
 rw [List.take_add_one,List.getElem?_eq_getElem hj,hq]; rfl
def sJ {m:List (Int×Bool)} {x y:Int} (h:look y m=some true):look y (put x true m)=some true:=by
 grind [nb]
def uz.Be {L:Nat->List Int} {k:Nat} {r:List Int} {m:List (Int×Bool)} {e e':Int} {j:Nat} {x:Int} (h:uz L k (r.take j) m e) (hj:j<r.length) (hq:r[j]=x) (he:e'≠0):uz L k (r.take (j+1)) (put x true m) e':=by
 refine ⟨⟨λi hi y hy=>sJ (h.tk.look i hi y hy),ri (P:=λy:Bool=>y=true) h.tk.val rfl,λh0=>absurd h0 he⟩,?_,λh0=>absurd h0 he⟩
 rw [nN hj hq]
 intro y hy
 rcases List.mem_append.mp hy with hy | hy
 ·exact sJ (h.IN y hy)
 grind [nb]
def uz.MD {L:Nat->List Int} {k:Nat} {r:List Int} {m:List (Int×Bool)} {e:Int} {j:Nat} {x:Int} (h:uz L k (r.take j) m e) (hj:j<r.length) (hq:r[j]=x) (hn:look x m=none):uz L k (r.take (j+1)) (put x true m) e:=by
 refine ⟨⟨λi hi y hy=>sJ (h.tk.look i hi y hy),ri (P:=λy:Bool=>y=true) h.tk.val rfl,h.tk.CW⟩,?_,?_⟩
 ·rw [nN hj hq]
  intro y hy
  rcases List.mem_append.mp hy with hy | hy
  ·exact sJ (h.IN y hy)
  grind [nb]
 ·intro h0 i hi y hy hm
  rw [nN hj hq] at hm
  rcases List.mem_append.mp hm with hm | hm
  ·exact h.Wu h0 i hi y hy hm
  ·simp at hm; subst hm
   rw [h.tk.look i hi y hy] at hn; cases hn
def uz.done {L:Nat->List Int} {k:Nat} {r:List Int} {m:List (Int×Bool)} {e:Int} {j:Nat} (h:uz L k (r.take j) m e) (hj:r.length<=j) (hr:r=L k):Tk L (k+1) m e:=by
 rw [List.take_of_length_le hj,hr] at h
 refine ⟨λi hi x hx=>?_,h.tk.val,λh0 i j2 hij hj2 x hx=>?_⟩
 ·rcases Nat.lt_succ_iff_lt_or_eq.mp hi with h1 | h1
  ·exact h.tk.look i h1 x hx
  ·subst h1; exact h.IN x hx
 ·rcases Nat.lt_succ_iff_lt_or_eq.mp hj2 with h1 | h1
  ·exact h.tk.CW h0 i j2 hij h1 x hx
  ·subst h1; exact h.Wu h0 i hij x hx
def uo (d:iO) (i:Nat):Int:=match d.runs.l[i]? with
 | none=>0
 | some r=>match d.iU.l[r.iU.toNat]? with
   | none=>0
   | some s=>s.len
def y7 {d:iO} {k:Nat} {x:jC} {y:jr} (hk:k<d.runs.l.length) (hq:d.runs.l[k]=x) (hs:x.iU.toNat<d.iU.l.length) (hqs:d.iU.l[x.iU.toNat]=y):y.len=uo d k:=by
 grind [uo]
def zq {Q:Nat->Prop} {k:Nat} (h:∀ i,i<k->Q i) (hk:Q k):∀ i,i<k+1->Q i:=by
 grind
def stQ {f:List AV->AV} {n:AV} {p:bG} {d:iO} {k:Nat} {len e:Int} {t:kF} {b:lE} (hs:f [n,.int .i64 len,.agg t.ag]=.jl [.agg b.ag,.int .i64 e]) (hl:len=uo d k) (ht:t=lT p d k) (he:¬ e≠0):∃ b:lE,f [n,.int .i64 (uo d k),.agg (lT p d k).ag]=.jl [.agg b.ag,.int .i64 0]:=by
 grind
structure DH where
 state:Int
 front:Int
 off:Bool
 seen:Row Bool
def DH.ag (x:DH):List AV:=[.int .i64 x.state,.int .i64 x.front,.bool x.off,x.seen.av Yb]
def Qe (cs:List AV):Prop:=∀ c∈cs,∀ (hp:aT) (n:Nat),freeze false hp (n+2) c=some c
def fzB:AV->Bool
 | .int _ _ | .bool _ | .ip _ _ false=>true
 | _=>false
def Qe.of {cs:List AV} (h:cs.all fzB=true):Qe cs:=by
 intro c hc hp n
 have:=List.all_eq_true.mp h c hc
 unfold fzB at this
 grind [freeze]
def LT (tr:List kF) (p:bG) (i:Nat):List Int:=match tr[i]? with
 | none=>[]
 | some t=>oa p [t.at_]
def Mt (L:Nat->List Int) (k:Nat) (r:List Int) (m:List Bool):Prop:=∀ (x:Nat) (h:x<m.length),m[x]=true->(∃ i,i<k/\(x:Int)∈L i)\/(x:Int)∈r
def Mt.zero (L:Nat->List Int) (n:Nat):Mt L 0 [] (List.replicate n false):=by
 intro x h hx
 simp at hx
theorem Mt.set {L:Nat->List Int} {k j:Nat} {r:List Int} {m:List Bool} {x:Int} (h:Mt L k (r.take j) m) (hj:j<r.length) (hq:r[j]=x) (h0:0<=x):Mt L k (r.take (j+1)) (m.set x.toNat true):=by
 intro y hy ht
 rw [List.getElem_set] at ht
 rw [nN hj hq]
 split at ht
 ·grind
 ·rcases h y (by simpa using hy) ht with h1 | h1<;>grind
def Mt.done {L:Nat->List Int} {k j:Nat} {r:List Int} {m:List Bool} (h:Mt L k (r.take j) m) (hj:r.length<=j) (hr:r=L k):Mt L (k+1) [] m:=by
 intro y hy ht
 rw [List.take_of_length_le hj] at h
 rcases h y hy ht with ⟨i,hi,h1⟩ | h1<;>grind
def Ce (tr:List kF) (ks sl:List jr) (k:Nat):Prop:=sl.length=k/\∀ (i:Nat) (x:kF) (y:jr),tr[i]?=some x->sl[i]?=some y->ks[x.iU.toNat]?=some y
def Ce.zero (tr:List kF) (ks:List jr):Ce tr ks [] 0:=⟨rfl,λi x y _ h=>by simp at h⟩
def Ce.snoc {tr:List kF} {ks sl:List jr} {k:Nat} {x:kF} {y:jr} (h:Ce tr ks sl k) {hk:k<tr.length} (hq:tr[k]=x) {hs:x.iU.toNat<ks.length} (hy:ks[x.iU.toNat]=y):Ce tr ks (sl++[y]) (k+1):=by
 refine ⟨by simp [h.1],λi a b ha hb=>?_⟩
 rcases Nat.lt_or_ge i sl.length with h3 | h3
 ·rw [List.getElem?_append_left h3] at hb; exact h.2 i a b ha hb
 ·have hi:i=k:=by
   have:=(List.getElem?_eq_some_iff.mp hb).1
   simp at this; have:=h.1; omega
  grind
end Go.Sx
set_option maxHeartbeats 0
namespace Go.Sx
open Go
def jm.take {α:Type} (r:jm α) (k:Nat):jm α:=⟨r.l.take k,r.c,by have:=r.ok; rw [List.length_take]; omega,λh=>by rw [r.nl h]; simp⟩
structure tI where
 free:Row Int
 end_:Int
def tI.ag (x:tI):List AV:=[x.free.av j4,.int .i64 x.end_]
structure mI where
 at_:Row Int
 iY:Row tI
def mI.ag (x:mI):List AV:=[x.at_.av j4,x.iY.av tI.ag]
def wE.erase {es:List (AV×AV×Nat)} {c:Nat} (h:wE es c) (i:Nat):wE (es.eraseIdx i) c :=
 ⟨λx hx=>h.1 x ((List.eraseIdx_sublist es i).mem hx),h.2.sublist (List.eraseIdx_sublist es i)⟩
section
variable {C:jZ} {fa:iN} {e:Env} {H:aT} {L:List jW} {ls:lh} {i n:Nat} {v:AV} {w tt:Bool}
end
section
variable {H:aT} {L:List jW} {i:Nat} {v:AV} {tt:Bool} {n:Nat} {α:Type} {enc : α->List AV} {l:List α}
end
end Go.Sx
namespace Go.Sx
open Go
def K7 {p:bG} {k e:Int} (h:k=kN p e) (hk:k=4\/k=1):0<=e/\e<(p.elems.l.length:Int):=by
 by_cases h1:e<0\/e>=p.elems.l.length
 ·rw [sU h1] at h; omega
 ·omega
section
variable {C:jZ} {F:lA} {Pr:kU} {fa:iN} {e:Env} {h:aT} {all rest:List Oper} {o:Oper} {q:Env->aT->Prop} {H:aT} {ls:lh}
end
def BA (t:Nat):List (Nat×Nat)->Option Nat
 | []=>none
 | p::l=>match Nat.beq p.1 t with
   | true=>some p.2
   | false=>BA t l
def Cm (L:List jW) (i:Nat):AV:=match L[i]? with
 | some r=>r.v
 | none=>.undef
def yw (k:Bool) (L:List jW) (ix:List (Nat×Nat)):Env->Env
 | []=>[]
 | p::E=>(p.1,match BA p.1 ix with
   | some i=>(match k with
     | true=>keep p.1 (Cm L i)
     | false=>Cm L i)
   | none=>p.2)::yw k L ix E
theorem Hk {H:aT} {L:List jW} (hS:Sep H L) (ix:List (Nat×Nat)):∀ E,yw true L ix E=yw false L ix E
 | []=>rfl
 | p::E=>by
   simp only [yw]
   rw [Hk hS ix E]
   cases BA p.1 ix with
   | none=>rfl
   | some i =>
     simp only [Cm]
     cases hi:L[i]? with
     | none=>simp only [keep]; split<;>rfl
     | some r=>rw [hS.I5 hi p.1]
def Rf {H:aT} {L:List jW} {e E:Env} (hS:Sep H L) (ix:List (Nat×Nat)) (h1:e=yw true L ix E:=by rfl) (h2:yw false L ix E=E:=by rfl):e=E :=
 h1.trans ((Hk hS ix E).trans h2)
def xh:List Nat->List AV->Env
 | t::ts,v::vs=>(t,v)::xh ts vs
 | _,_=>[]
def At (live:List Nat) (vs:List AV) (H:aT) (L:lh) (e:Env) (h:aT):Prop:=proj live e=xh live vs/\{ h with iI:=lz live h.iI } = { H with iI:=L }
def atR {live:List Nat} {vs:List AV} {H:aT} {L:lh} {e:Env} {h:aT} (h1:proj live e=xh live vs:=by rfl) (h2:{ h with iI:=lz live h.iI } = { H with iI:=L }:=by rfl):At live vs H L e h:=⟨h1,h2⟩
def jD {live:List Nat} {vs:List AV} {H:aT} {L:lh} {e:Env} {h:aT} {H0:aT} {R:List jW} (hS:Sep H0 R) (ix:List (Nat×Nat)) (h1:proj live e=yw true R ix (xh live vs):=by rfl) (h3:yw false R ix (xh live vs)=xh live vs:=by rfl) (h2:{ h with iI:=lz live h.iI } = { H with iI:=L }:=by rfl):At live vs H L e h:=⟨Rf hS ix h1 h3,h2⟩
section
variable {C:jZ} {F:lA} {Pr:kU} {fa:iN} {c:Code} {an:lK} {Q:Ex->Env->aT->Prop} {live:List Nat} {e:Env} {h:aT}
def rA {vs:List AV} {H:aT} {L:lh} (hA:At live vs H L e h) (w:Wp C F Pr fa c an Q (xh live vs) { H with iI:=L }):Wp C F Pr fa c an Q (proj live e) { h with iI:=lz live h.iI }:=abz hA.1 hA.2 w
def wz (vs:List AV) (H:aT) (L:lh) (w:Wp C F Pr fa c an Q (xh live vs) { H with iI:=L }) (hA:At live vs H L e h:=by exact atR):Wp C F Pr fa c an Q (proj live e) { h with iI:=lz live h.iI }:=rA hA w
def wy (vs:List AV) (L:lh) (w:Wp C F Pr fa c an Q (xh live vs) { aT.empty with iI:=L }) (hA:At live vs aT.empty L e h:=by exact atR):Wp C F Pr fa c an Q (proj live e) { h with iI:=lz live h.iI }:=rA hA w
end
section
variable {Q:Prop} {H:aT} {L:List jW} {α:Type} {enc : α->List AV} {w tt:Bool} {v:AV} {n:Nat} {l:List α}
def oh (hS:Sep H L) (i:Nat) (K:∀ r:jm α,r.l=l->r.l.length=l.length->(∀ m,freeze true { H with iI:=[] } (m+2) v=some (r.av enc))->Q) (hi:L[i]?=some (.sl w tt v n (l.map enc)):=by rfl) (he:∀ m x,jJ (freeze true { H with iI:=[] } (m+1)) (enc x)=some (enc x):=by first | exact λ_ _=>rfl | (intro _ _; simp only [bG.ag,ko.ag,iM.ag,kD.ag,kb.ag,jN.ag,jr.ag,jR.ag,jC.ag,iO.ag,jg.ag,jO.ag,ja.ag,lE.ag,j8.ag,kF.ag,DH.ag,tI.ag,mI.ag,mj,jJ,uO,ug,wR,uG,wQ])) (hl:l.length<=rX:=by simp only [rX]; first | omega | (simp<;>omega)):Q:=by
 obtain ⟨r,h1,h2⟩:=UG hS hi hl
 exact K r h1 (congrArg _ h1) λm=>h2 [] _ (he m)
end
def PN (k:Bool) (R:List jW) (ix:List (Nat×Nat)) (live:List Nat) (e:Env):Env:=live.map λt=>(t,match BA t ix with
 | some i=>(match k with
   | true=>keep t (Cm R i)
   | false=>Cm R i)
 | none=>keep t (lM e t))
theorem VV {H:aT} {L:List jW} (hS:Sep H L) (ix:List (Nat×Nat)) (live:List Nat) (e:Env):PN true L ix live e=PN false L ix live e:=by
 refine List.map_congr_left λt _=>?_
 cases BA t ix with
 | none=>rfl
 | some i =>
   simp only [Cm]
   cases hi:L[i]? with
   | none=>simp only [keep]; split<;>rfl
   | some r=>rw [hS.I5 hi t]
def wk {C:jZ} {F:lA} {Pr:kU} {fa:iN} {c:Code} {an:lK} {Q:Ex->Env->aT->Prop} {live:List Nat} {e:Env} {h H0:aT} {R:List jW} (hS:Sep H0 R) (ix:List (Nat×Nat)) (w:Wp C F Pr fa c an Q (PN false R ix live e) { h with iI:=lz live h.iI }) (he:proj live e=PN true R ix live e:=by rfl):Wp C F Pr fa c an Q (proj live e) { h with iI:=lz live h.iI }:=by
 rw [he,VV hS]; exact w
end Go.Sx
namespace Go.Sx
open Go
section
variable {X:Ctx} {e:Env} {h:aT} {d:Option Nat} {ti te:TI} {t el n k dd:Nat} {x y:Operand} {l:List Bool} {b:Bool}
end
end Go.Sx
namespace Go.Sx
open Go
def nV (p:bG) (e:Int):Int:=if e<0 then 0 else match p.elems.l[e.toNat]? with
 | some x=>x.len
 | none=>0
def E8 {p:bG} {e:Int} (h:e<0\/e>=p.elems.l.length):nV p e=0:=by
 grind [nV]
theorem CB {p:bG} {e:Int} {x:ko} (h0:0<=e) (hx:e.toNat<p.elems.l.length) (hq:p.elems.l[e.toNat]=x):nV p e=x.len:=by
 grind [nV]
def DN {α:Type} {l:List α} {k:Nat} {x y : α} {hk:k<l.length} (h:l[k]=x) (e:x=y):y∈l:=by
 subst e h; exact List.getElem_mem _
def OE {α:Type} {l:List α} {k:Nat} {y : α} (h:∀ (i:Nat) (hi:i<l.length),i<k->¬ l[i]=y) (hk:l.length<=k):y∉l:=by
 intro hy
 obtain ⟨i,hi,e⟩:=List.mem_iff_getElem.mp hy
 exact h i hi (by omega) e
def tL (p:bG) (s:jr) (e:Int):Bool:=if kN p e=1 then decide (IntKind.i64.wrap (s.len+p.kq)<=nV p e) else decide (kN p e=4)
def tj (l:List kb) (i:Int):Int:=match nk l i with
 | some x=>x.elem
 | none=>-1
def Ff (B:Int->Int) (r:jC) (leg:Int):Int:=if leg=0 then B r.from_ else match r.iY.l[(leg - 1).toNat]? with
 | none=>-1
 | some l=>if l.end_=1 then B l.to else if l.end_=3 then l.to else -1
def yg (B:Int->Int) (d:iO) (run leg:Int):Int:=if run<0 then -1 else match d.runs.l[run.toNat]? with
 | none=>-1
 | some r=>if leg<0\/leg > r.iY.l.length then -1 else Ff B r leg
section
variable {B:Int->Int} {d:iO} {run leg:Int} {x:jC} {y:jR}
def UE (h:Cy d run leg):yg B d run leg = -1:=by
 unfold yg
 split
 ·rfl
 ·split
  ·rfl
  ·rename_i hr
   obtain ⟨hl,rfl⟩:=List.getElem?_eq_some_iff.mp hr
   rw [if_pos]
   rcases h with h | h | h | ⟨h1,h2⟩<;>omega
theorem UQ (h0:0<=run) (hx:run.toNat<d.runs.l.length) (hl0:0<=leg) (hl1:leg<=((d.runs.l[run.toNat]).iY.l.length:Int)):yg B d run leg=Ff B (d.runs.l[run.toNat]) leg:=by
 grind [yg]
theorem Xv (h:leg=0):Ff B x leg=B x.from_:=by grind [Ff]
theorem XA (h0:¬ leg=0) {r:Row jR} (hr:r=x.iY) (hy:(leg - 1).toNat<r.l.length) (hq:r.l[(leg - 1).toNat]=y):Ff B x leg=if y.end_=1 then B y.to else if y.end_=3 then y.to else -1:=by
 subst hr; rw [Ff,if_neg h0,List.getElem?_eq_getElem hy,hq]
end
theorem D6 {l:List kb} {N:iM->Option iM} {d:iO} {run leg:Int}:yg (tj l) d run leg=match lx true (nk l) N d run leg with
 | some h=>h.elem
 | none=>-1:=by
 unfold yg lx
 by_cases h:run<0
 ·simp [h]
 ·simp only [h,if_false]
  cases d.runs.l[run.toNat]? with
  | none=>rfl
  | some r =>
    simp only
    by_cases h2:leg<0\/leg > r.iY.l.length
    ·simp [h2]
    ·simp only [h2,if_false]
     unfold Ff wb tj
     by_cases h3:leg=0
     ·simp [h3]
     ·simp only [h3,if_false]
      cases r.iY.l[(leg - 1).toNat]? with
      | none=>rfl
      | some y =>
        simp only
        unfold pk
        by_cases h4:y.end_=1
        ·simp [h4]
        ·simp only [h4,if_false]
         by_cases h5:y.end_=3
         ·simp only [h5,if_true]
          cases N ⟨y.to,0⟩<;>cases N ⟨y.to,1⟩<;>rfl
         ·simp [h5]
def UF {l:List kb} {N:iM->Option iM} {d:iO} {run leg:Int} {h:iM} (e:lx true (nk l) N d run leg=some h):h.elem=yg (tj l) d run leg:=by
 rw [D6 (N:=N),e]
def Ur {l:List kb} {N:iM->Option iM} {d:iO} {run leg:Int} (e:lx true (nk l) N d run leg=none) : -1=yg (tj l) d run leg:=by
 rw [D6 (N:=N),e]
def zy (r:ja):Int:=match r.steps.l[((r.steps.l.length:Int) - 1).toNat]? with
 | some s=>s.elem
 | none=>0
def uv {r:ja} {x:jg} {h:((r.steps.l.length:Int) - 1).toNat<r.steps.l.length} (hq:r.steps.l[((r.steps.l.length:Int) - 1).toNat]=x):zy r=x.elem:=by
 rw [zy,List.getElem?_eq_getElem h,hq]
def xw (r:ja) (l:jR):Bool:=decide (r.end_=l.end_/\0<r.steps.l.length/\if l.end_=1 then r.to=l.to else zy r=l.to)
def Kn {r:ja} {l:jR} (h:true=xw r l):0<r.steps.l.length:=by
 have:=of_decide_eq_true h.symm; exact this.2.1
def pR {α:Type} (P : α->Bool):Nat->List α->List Int
 | _,[]=>[]
 | i,a::l=>if P a=true then (i:Int)::pR P (i+1) l else pR P (i+1) l
theorem FL {α:Type} {P : α->Bool} {x : α}:∀ (l:List α) (i:Nat),pR P i (l++[x])=pR P i l++if P x=true then [((i+l.length:Nat):Int)] else []
 | [],i=>by simp [pR]
 | a::l,i=>by
   have h:=FL (P:=P) (x:=x) l (i+1)
   simp only [List.cons_append,pR,h,List.length_cons]
   rw [show i+1+l.length=i+(l.length+1) by omega]
   split<;>simp
section
variable {α:Type} {P : α->Bool} {l:List α} {k:Nat} {x : α} {o:List Int}
theorem EG {hk:k<l.length} (hq:l[k]=x):pR P 0 (l.take (k+1))=pR P 0 (l.take k)++if P x=true then [(k:Int)] else []:=by
 rw [List.take_add_one,List.getElem?_eq_getElem hk,hq,Option.toList_some,FL,List.length_take,Nat.zero_add,Nat.min_eq_left (by omega)]
def Gy {hk:k<l.length} (hq:l[k]=x) (h:o=pR P 0 (l.take k)) (hp:P x=true):o++[(k:Int)]=pR P 0 (l.take (k+1)):=by
 rw [EG hq,if_pos hp,h]
def qH {hk:k<l.length} (hq:l[k]=x) (h:o=pR P 0 (l.take k)) (hp:P x=false):o=pR P 0 (l.take (k+1)):=by
 rw [EG hq,hp,h]; simp
def Uo (h:o=pR P 0 (l.take k)) (hk:l.length<=k):o=pR P 0 l:=by
 rwa [List.take_of_length_le hk] at h
theorem Ar (h:∀ x,P x=false):∀ (l:List α) (i:Nat),pR P i l=[]
 | [],_=>rfl
 | a::l,i=>by simp [pR,h,Ar h l]
end
def xx (p:bG) (d:iO) (run leg:Int):Int:=nz true (nk p.signals.l) (lI p.jd.l) (kN p) (λx=>(nP p.signals.l x).getD (-1)) d run leg
def xW (p:bG) (d:iO) (run leg:Int):Int:=yg (tj p.signals.l) d run leg
def o1 (p:bG) (d:iO) (run leg:Int) (r:ja):Bool:=match d.runs.l[run.toNat]? with
 | none=>false
 | some x=>match x.iY.l[leg.toNat]?,d.iU.l[x.iU.toNat]? with
   | some l,some k=>decide (0<=x.iU/\r.from_=xx p d run leg/\xw r l=true/\r.bare=false/\¬ xW p d run leg∈r.mB.l/\tL p k (zy r)=true)
   | _,_=>false
def lC (p:bG) (L:List ja) (d:iO) (run leg:Int):List Int:=if xx p d run leg<0 then [] else pR (o1 p d run leg) 0 L
section
variable {p:bG} {d:iO} {run leg:Int} {r:ja} {x:jC} {l:jR} {k:jr} {L:List ja} {f:Int}
def KZ (hf:f=xx p d run leg) (h:¬ r.from_=f):o1 p d run leg r=false:=by
 subst hf; grind [o1]
def Kz {hx:run.toNat<d.runs.l.length} (hq:d.runs.l[run.toNat]=x) {hy:leg.toNat<x.iY.l.length} (hl:x.iY.l[leg.toNat]=l) (h:false=xw r l):o1 p d run leg r=false:=by
 grind [o1]
def LR (h:r.bare=true):o1 p d run leg r=false:=by
 grind [o1]
def KM {s:Int} (hs:s=xW p d run leg) (h:s∈r.mB.l):o1 p d run leg r=false:=by
 subst hs; grind [o1]
def KA {hx:run.toNat<d.runs.l.length} (hq:d.runs.l[run.toNat]=x) {hz:x.iU.toNat<d.iU.l.length} (hk:d.iU.l[x.iU.toNat]=k) {e:Int} (he:zy r=e) (h:false=tL p k e):o1 p d run leg r=false:=by
 subst he; grind [o1]
def KR {hx:run.toNat<d.runs.l.length} (hq:d.runs.l[run.toNat]=x) {hy:leg.toNat<x.iY.l.length} (hl:x.iY.l[leg.toNat]=l) {hz:x.iU.toNat<d.iU.l.length} (hk:d.iU.l[x.iU.toNat]=k) {s e:Int} (h0:0<=x.iU) (hf:f=xx p d run leg) (h1:r.from_=f) (h2:true=xw r l) (h3:r.bare=false) (hs:s=xW p d run leg) (h4:s∉r.mB.l) (he:zy r=e) (h5:true=tL p k e):o1 p d run leg r=true:=by
 subst hs he hf; grind [o1]
def Bp (hf:f=xx p d run leg) (h:f<0) {o:List Int} (ho:o=[]):o=lC p L d run leg:=by
 subst hf; rw [lC,if_pos h,ho]
def B4 (hf:f=xx p d run leg) (h:¬ f<0) {o:List Int} {n:Nat} (ho:o=pR (o1 p d run leg) 0 (L.take n)) (hn:L.length<=n):o=lC p L d run leg:=by
 subst hf; rw [lC,if_neg h]; exact Uo ho hn
def Ko {hx:run.toNat<d.runs.l.length} (hq:d.runs.l[run.toNat]=x) (h:x.iU<0\/x.iU>=(d.iU.l.length:Int)) : []=lC p L d run leg:=by
 have:∀ r,o1 p d run leg r=false:=by intro r; grind [o1]
 rw [lC,Ar this]; simp
end
structure vL (n:iX):Prop where
 next:∀ x,look x n.next=lI n.p.jd.l x
 reads:∀ x,look x n.reads=nP n.p.signals.l x
 en:∀ i x,nk n.p.signals.l i=some x->0<=x.en
 lin:zx n.line n.p
theorem vL.from_ {n:iX} (h:vL n) {d:iO} {run leg:Int}:nz false (nk n.p.signals.l) (λx=>look x n.next) (kN n.p) (λx=>(look x n.reads).getD (-1)) d run leg=xx n.p d run leg:=by
 have h1:(λx=>look x n.next)=lI n.p.jd.l:=funext h.next
 have h2:(λx=>(look x n.reads).getD (-1))=(λx=>(nP n.p.signals.l x).getD (-1)):=by funext x; rw [h.reads]
 rw [h1,h2,ME h.en]; rfl
theorem sC (p:bG):p.canon.lines.l=p.lines.l.map jN.canon:=rfl
def FY {m:List (Int×Int×Int)} {p:bG} (h:zx m p):zx m p.canon:=by
 refine ⟨λe y hy=>?_,λi hi e he=>?_⟩
 ·obtain ⟨i,hi,h1,h2⟩:=h.1 e y hy
  refine ⟨i,by rw [sC,List.length_map]; exact hi,h1,?_⟩
  simp only [sC,List.getElem_map]
  exact h2
 ·have hi':i<p.lines.l.length:=by rw [sC,List.length_map] at hi; exact hi
  simp only [sC,List.getElem_map] at he
  exact h.2 i hi' e he
def ou.self {n:iX} {p:bG} (h:ou n p):vL n:=by
 have hj:n.p.jd.l=p.jd.l:=by rw [h.ki]; rfl
 exact ⟨λx=>by rw [h.next,hj],λx=>by rw [h.reads,h.signals],by rw [h.signals]; exact Uh h.afo,by rw [h.ki]; exact FY h.lin⟩
def zg (p:bG) (x:iM):Prop:=0<=x.en/\((kN p x.elem=1->x.en<2)/\(kN p x.elem=4->x.en<1))
def qz (p:bG) (len:Int) (t:kF):Int :=
 if len<1\/4000<len\/(¬ kN p t.at_.elem=4/\¬ kN p t.at_.elem=1)\/t.at_.en<0\/(if kN p t.at_.elem=1 then 2 else 1)<=t.at_.en then 1
 else if (nP p.signals.l t.at_).getD (-1)<0 then 7
 else if kN p t.at_.elem=4 then (if t.left=0 then 0 else 1)
 else if t.left<0\/nV p t.at_.elem<t.left then 1
 else if nV p t.at_.elem<IntKind.i64.wrap (t.left+len) then 9 else 0
def F6 {p:bG} {len:Int} {t:kF} (h:qz p len t=0):kN p t.at_.elem=1\/kN p t.at_.elem=4:=by
 grind [qz]
def uL (p:bG) (d:iO) (i:Nat):Int:=qz p (uo d i) (lT p d i)
def oI (p:bG) (d:iO) (i:Nat):List Int:=oa p [(lT p d i).at_]
def oM (L:Nat->List Int) (k:Nat):Prop:=∃ i j,i<j/\j<k/\∃ x∈L i,x∈L j
def oM.mono {L:Nat->List Int} {k m:Nat} (h:oM L k) (hk:k<=m):oM L m:=by
 obtain ⟨i,j,h1,h2,h3⟩:=h
 exact ⟨i,j,h1,by omega,h3⟩
def mO (p:bG) (d:iO) (r:Int):Prop :=
 (∃ i,i<d.runs.l.length/\r=uL p d i/\r≠0/\∀ j,j<i->uL p d j=0) \/
 ((∀ i,i<d.runs.l.length->uL p d i=0)/\((r=0/\¬ oM (oI p d) d.runs.l.length)\/(r=18/\oM (oI p d) d.runs.l.length)))
theorem mO.u6 {p:bG} {d:iO} {r s:Int} (h1:mO p d r) (h2:mO p d s):r=s:=by
 rcases h1 with ⟨i,hi,h1,h3,h4⟩ | ⟨h1,h3⟩<;>rcases h2 with ⟨j,hj,h5,h6,h7⟩ | ⟨h5,h6⟩
 ·rcases Nat.lt_trichotomy i j with h | h | h
  ·exact absurd (h1.trans (h7 i h)) h3
  ·subst h; rw [h1,h5]
  ·exact absurd (h5.trans (h4 j h)) h6
 ·exact absurd (h1.trans (h5 i hi)) h3
 ·exact absurd (h5.trans (h1 j hj)) h6
 ·grind
structure qm (L:Nat->List Int) (k:Nat) (r:List Int) (m:List (Int×Bool)) (e:Int):Prop where
 src:∀ x,look x m=some true->(∃ i,i<k/\x∈L i)\/x∈r
 err:e=0\/e=18/\oM L (k+1)
def qm.zero (L:Nat->List Int):qm L 0 [] [] 0:=⟨λx h=>by simp [look] at h,.inl rfl⟩
def qm.start {L:Nat->List Int} {k:Nat} {m:List (Int×Bool)} {e:Int} (h:qm L k [] m e) (r:List Int):qm L k (r.take 0) m e:=by simpa using h
theorem qm.put {L:Nat->List Int} {k j:Nat} {r:List Int} {m:List (Int×Bool)} {e:Int} {x:Int} (h:qm L k (r.take j) m e) (hj:j<r.length) (hq:r[j]=x):qm L k (r.take (j+1)) (put x true m) e:=by
 refine ⟨λy hy=>?_,h.err⟩
 rw [nN hj hq]
 by_cases hxy:y=x
 ·subst hxy; exact .inr (by simp)
 ·have:look y m=some true:=by grind [nb]
  rcases h.src y this with h1 | h1
  ·exact .inl h1
  ·exact .inr (by simp [h1])
def qm.Be {L:Nat->List Int} {k j:Nat} {r:List Int} {m:List (Int×Bool)} {e e':Int} {x:Int} (h:qm L k (r.take j) m e) (hj:j<r.length) (hq:r[j]=x) (hr:r=L k) (h1:r.length<=1) (hl:look x m=some true) (he:e'=18):qm L k (r.take (j+1)) (Go.Sx.put x true m) e':=by
 have h2:=h.put hj hq
 refine ⟨h2.src,.inr ⟨he,?_⟩⟩
 have hj0:j=0:=by omega
 subst hj0
 rcases h.src x hl with ⟨i,hi,hx⟩ | hx
 ·exact ⟨i,k,hi,by omega,x,hx,by rw [<- hr,<- hq]; exact List.getElem_mem _⟩
 ·simp at hx
def qm.done {L:Nat->List Int} {k j:Nat} {r:List Int} {m:List (Int×Bool)} {e:Int} (h:qm L k (r.take j) m e) (hj:r.length<=j) (hr:r=L k):qm L (k+1) [] m e:=by
 rw [List.take_of_length_le hj,hr] at h
 refine ⟨λx hx=>?_,?_⟩
 ·rcases h.src x hx with ⟨i,hi,h1⟩ | h1
  ·exact .inl ⟨i,by omega,h1⟩
  ·exact .inl ⟨k,by omega,h1⟩
 ·rcases h.err with h1 | ⟨h1,h2⟩
  ·exact .inl h1
  ·exact .inr ⟨h1,h2.mono (by omega)⟩
def zN {p:bG} {d:iO} {k:Nat} {r len:Int} {t:kF} (hE:∀ i,i<k->uL p d i=0) (hk:k<d.runs.l.length) (hl:len=uo d k) (ht:t=lT p d k) (h:r=qz p len t) (hr:¬ r=0):mO p d r:=by
 subst hl ht
 exact .inl ⟨k,hk,h,hr,hE⟩
def We {p:bG} {d:iO} {k:Nat} {r len:Int} {t:kF} (hl:len=uo d k) (ht:t=lT p d k) (h:r=qz p len t) (hr:r=0):uL p d k=0:=by
 subst hl ht; exact h.symm.trans hr
def Gi {p:bG} {d:iO} {k:Nat} {e:Int} {m:List (Int×Bool)} (hE:∀ i,i<k->uL p d i=0) (hk:d.runs.l.length<=k) (hk2:k<=d.runs.l.length) (h1:Tk (oI p d) k m e) (h2:e=0\/e=18/\oM (oI p d) k):mO p d e:=by
 have:k=d.runs.l.length:=by omega
 subst this
 refine .inr ⟨hE,?_⟩
 rcases h2 with h | ⟨h,h3⟩
 ·refine .inl ⟨h,λ⟨i,j,hij,hj,x,hx,hx2⟩=>?_⟩
  exact h1.CW h i j hij hj x hx hx2
 ·exact .inr ⟨h,h3⟩
def AH (n:Int):Prop:=(97<=n/\n<=122)\/(65<=n/\n<=90)
def Cw (i:Nat) (n:Int):Prop:=AH n\/(0<i/\48<=n/\n<=57)
def xk (s:List UInt8):Prop:=1<=s.length/\s.length<=8/\∀ (i:Nat) (h:i<s.length),Cw i ((s[i]).toNat:Int)
def T9 {s:List UInt8} {k:Nat} {c:UInt8} {hk:k<s.length} (hq:s[k]=c) (h:∀ (i:Nat) (h:i<s.length),i<k->Cw i ((s[i]).toNat:Int)) (hc:Cw k (c.toNat:Int)):∀ (i:Nat) (h:i<s.length),i<k+1->Cw i ((s[i]).toNat:Int):=by
 intro i hi h2
 rcases Nat.lt_succ_iff_lt_or_eq.mp h2 with h3 | h3
 ·exact h i hi h3
 ·subst h3; rw [hq]; exact hc
def GN {s:List UInt8} {k:Nat} {c:UInt8} {hk:k<s.length} (hq:s[k]=c) (h:xk s) (hl:¬ AH (c.toNat:Int)) (hd:k=0\/(c.toNat:Int)<48\/(c.toNat:Int) > 57):False:=by
 have:=h.2.2 k hk
 rw [hq] at this
 rcases this with h1 | h1
 ·exact hl h1
 ·omega
def E2 {s:List UInt8} {k:Nat} {c d:UInt8} {hk:k<s.length} (hq:s[k]=c) (h:xk s) (hl:¬ AH (c.toNat:Int)) (hd:(d.toNat:Int)<48\/(d.toNat:Int) > 57) (hq2:s[k]=d):False:=by
 subst hq2; subst hq; exact GN rfl h hl (.inr hd)
def wM (s:jr):Prop:=xk s.name.l/\1<=s.len/\s.len<=4000/\1<=s.top/\s.top<=60/\1<=s.acc/\s.acc<=10/\1<=s.jT/\s.jT<=10
def BD (l:List jr):Prop:=l.length<=4/\(∀ s∈l,wM s)/\∀ (i j:Nat) (h:j<l.length) (hij:i<j),¬ (l[i]).name.l=(l[j]).name.l
def xv (p:bG) (l:List jr):Prop:=BD l/\∀ s∈l,s.top<=p.top/\p.jT<=s.jT
def L5 {l:List jr} {k:Nat} {x:jr} {r:Int} {hk:k<l.length} (hq:l[k]=x) (h:∀ (i j:Nat) (h:j<l.length) (hij:i<j),j<k->¬ (l[i]).name.l=(l[j]).name.l) (hf:∀ (j:Nat) (h:j<l.length),(j:Int)<r->¬ (l[j]).name.l=x.name.l) (hr:¬ r≠(k:Int)) :
  ∀ (i j:Nat) (h:j<l.length) (hij:i<j),j<k+1->¬ (l[i]).name.l=(l[j]).name.l:=by
 intro i j hj hij h2
 rcases Nat.lt_succ_iff_lt_or_eq.mp h2 with h3 | h3
 ·exact h i j hj hij h3
 ·subst h3; rw [hq]; exact hf i (by omega) (by omega)
def Nw {l:List jr} {k j:Nat} {x y:jr} (h:BD l) {r:Row jr} {hk:k<l.length} (hq:l[k]=x) {hj:j<r.l.length} (hy:r.l[j]=y) (he:y.name.l=x.name.l) (hr:r.l=l.take k:=by rfl):False:=by
 subst hq hy
 have hjk:j<k:=by rw [hr,List.length_take] at hj; omega
 refine h.2.2 j k hk hjk ?_
 rw [<- he]
 congr 2
 simp [hr]
def zG (p:bG) (x:jR):Prop:=(x.end_=1/\0<=x.to/\x.to<(p.signals.l.length:Int))\/(x.end_=2/\kN p x.to=4)\/(x.end_=3/\kN p x.to=1)
def AU (l:List jR):Nat->Int
 | 0=>0
 | k+1=>match l[k]? with
   | some x=>x.at_
   | none=>0
def Xa {l:List jR} {k:Nat} {x:jR} {hk:k<l.length} (hq:l[k]=x):x.at_=AU l (k+1):=by
 rw [AU,List.getElem?_eq_getElem hk,hq]
def zL (p:bG) (l:List jR) (i:Nat) (x:jR):Prop:=0<=x.at_/\AU l i<=x.at_/\x.at_<=2000/\zG p x
def DU (p:bG) (l:List jR):Prop:=∀ (i:Nat) (h:i<l.length),zL p l i l[i]
def UU {p:bG} {l:List jR} {k:Nat} (h:∀ (i:Nat) (h:i<l.length),i<k->zL p l i l[i]) (hk:k<=l.length):0<=AU l k:=by
 cases k with
 | zero=>simp [AU]
 | succ k =>
   have:=(h k (by omega) (by omega)).1
   rw [AU,List.getElem?_eq_getElem (by omega:k<l.length)]
   exact this
def Oa {p:bG} {l:List jR} {k:Nat} {x:jR} {hk:k<l.length} (hq:l[k]=x) (h:∀ (i:Nat) (h:i<l.length),i<k->zL p l i l[i]) (hx:zL p l k x):∀ (i:Nat) (h:i<l.length),i<k+1->zL p l i l[i]:=by
 intro i hi h2
 rcases Nat.lt_succ_iff_lt_or_eq.mp h2 with h3 | h3
 ·exact h i hi h3
 ·subst h3; rw [hq]; exact hx
def MZ {p:bG} {l:List jR} {k:Nat} {x:jR} {n:Int} (h:DU p l) {hk:k<l.length} (hq:l[k]=x) (hn:n=AU l k) (hd:¬ (0<=x.at_/\x.at_<=2000)\/x.at_<n\/¬ zG p x):False:=by
 have h2:=h k hk
 rw [hq] at h2
 obtain ⟨h3,h4,h5,h6⟩:=h2
 rcases hd with h7 | h7 | h7
 ·exact h7 ⟨h3,h5⟩
 ·omega
 ·exact h7 h6
def xj (p:bG) (d:iO) (r:jC):Prop:=xk r.name.l/\(0<=r.iU/\r.iU<(d.iU.l.length:Int))/\(0<=r.from_/\r.from_<(p.signals.l.length:Int))/\(0<=r.left/\r.left<=4000)/\DU p r.iY.l
structure s8 (p:bG) (d:iO):Prop where
 runs:d.runs.l.length<=8
 iY:∀ r∈d.runs.l,r.iY.l.length<=12
 LQ:xv p d.iU.l
 beg:0<=d.uu/\d.uu<=86399
 ok:∀ r∈d.runs.l,xj p d r
 name:∀ (i j:Nat) (h:j<d.runs.l.length) (hij:i<j),¬ (d.runs.l[i]).name.l=(d.runs.l[j]).name.l
theorem s8.oX {p:bG} {d:iO} (h:s8 p d):vy d:=⟨h.runs,λr hr=>⟨h.iY r hr,(h.ok r hr).2.1⟩⟩
def OC {l:List jC} {k j:Nat} {x y:jC} {r:Row jC} {hk:k<l.length} (hq:l[k]=x) {hj:j<r.l.length} (hy:r.l[j]=y) (h:∀ y∈(l.take k).take j,∀ x,l[k]?=some x->¬ y.name.l=x.name.l) (hn:¬ x.name.l=y.name.l) (hr:r.l=l.take k:=by rfl):∀ y∈(l.take k).take (j+1),∀ x,l[k]?=some x->¬ y.name.l=x.name.l:=by
 intro z hz w hw
 rw [List.getElem?_eq_getElem hk,hq] at hw
 cases hw
 have hj2:j<(l.take k).length:=by rw [<- hr]; exact hj
 have hy2:(l.take k)[j]=y:=by rw [<- hy]; congr 1; exact hr.symm
 rw [nN hj2 hy2] at hz
 rcases List.mem_append.mp hz with hz | hz
 ·exact h z hz _ (by rw [List.getElem?_eq_getElem hk,hq])
 ·simp at hz; subst hz; exact λe=>hn e.symm
def Ni {l:List jC} {k j:Nat} {x:jC} {hk:k<l.length} (hq:l[k]=x) (h0:∀ (i j:Nat) (h:j<l.length) (hij:i<j),j<k->¬ (l[i]).name.l=(l[j]).name.l) (h:∀ y∈(l.take k).take j,∀ x,l[k]?=some x->¬ y.name.l=x.name.l) {r:Row jC} (hj:¬ (j:Int)<(r.l.length:Int)) (hr:r.l=l.take k:=by rfl):∀ (i j:Nat) (h:j<l.length) (hij:i<j),j<k+1->¬ (l[i]).name.l=(l[j]).name.l:=by
 replace hj:(l.take k).length<=j:=by rw [<- hr]; omega
 rw [List.take_of_length_le hj] at h
 exact FH hq h0 λy hy=>h y hy x (by rw [List.getElem?_eq_getElem hk,hq])
def T0 {l:List jC} {k:Nat} {x:jC} {r:jm jC} {hk:k<l.length} (hq:l[k]=x) (h:∀ (i j:Nat) (h:j<l.length) (hij:i<j),¬ (l[i]).name.l=(l[j]).name.l) (he:∃ y∈r.l,y.name.l=x.name.l) (hr:r.l=l.take k:=by rfl):False:=by
 subst hq
 obtain ⟨y,hy,he⟩:=he
 rw [hr] at hy
 obtain ⟨i,hi,rfl⟩:=List.mem_take_iff_getElem.mp hy
 exact h i k hk (by omega) he
def qL (p:bG) (L:List ja) (d:iO) (i:Nat):Prop:=∃ x,d.runs.l[i]?=some x/\(x.iY.l.length=0\/(∃ y,x.iY.l[((x.iY.l.length:Int) - 1).toNat]?=some y/\y.end_≠2)\/∃ j:Nat,j<x.iY.l.length/\lC p L d i j=[])
def o4 (p:bG) (L:List ja) (d:iO) (r:Int):Prop :=
 ((∃ s∈p.signals.l,s.auto=true)/\r=7)\/((∀ s∈p.signals.l,s.auto=false)/\∃ e,mO p d e/\((e≠0/\r=e)\/(e=0/\((r=10/\∃ i,i<d.runs.l.length/\qL p L d i)\/(r=0/\∀ i,i<d.runs.l.length->¬ qL p L d i)))))
theorem o4.u6 {p:bG} {L:List ja} {d:iO} {r s:Int} (h1:o4 p L d r) (h2:o4 p L d s):r=s:=by
 rcases h1 with ⟨⟨x,hx,ha⟩,h3⟩ | ⟨h3,e,he,h4⟩<;>rcases h2 with ⟨⟨y,hy,hb⟩,h5⟩ | ⟨h5,f,hf,h6⟩
 ·rw [h3,h5]
 ·rw [h5 x hx] at ha; cases ha
 ·rw [h3 y hy] at hb; cases hb
 ·have:=he.u6 hf
  subst this
  rcases h4 with ⟨h7,h8⟩ | ⟨h7,⟨h8,i,hi,h9⟩ | ⟨h8,h9⟩⟩<;>rcases h6 with ⟨h10,h11⟩ | ⟨h10,⟨h11,j,hj,h12⟩ | ⟨h11,h12⟩⟩<;>first | (rw [h8,h11]; done) | exact absurd h7 h10 | exact absurd h10 h7 | exact absurd h9 (h12 i hi) | exact absurd h12 (h9 j hj)
section
variable {p:bG} {L:List ja} {d:iO} {k j:Nat} {x:jC} {y:jR} {e:Int}
def N7 {s:kb} {hk:k<p.signals.l.length} (hq:p.signals.l[k]=s) (h:s.auto=true):o4 p L d 7:=.inl ⟨⟨s,by rw [<- hq]; exact List.getElem_mem _,h⟩,rfl⟩
def Au (hS:∀ s∈p.signals.l,s.auto=false) (h:mO p d e) (he:¬ e=0):o4 p L d e:=.inr ⟨hS,e,h,.inl ⟨he,rfl⟩⟩
def rp (hS:∀ s∈p.signals.l,s.auto=false) (h:mO p d 0) (hk:k<d.runs.l.length) (hb:qL p L d k):o4 p L d 10:=.inr ⟨hS,0,h,.inr ⟨rfl,.inl ⟨rfl,k,hk,hb⟩⟩⟩
def EW (hS:∀ s∈p.signals.l,s.auto=false) (h:mO p d 0) (hb:∀ i,i<k->¬ qL p L d i) (hk:d.runs.l.length<=k):o4 p L d 0:=.inr ⟨hS,0,h,.inr ⟨rfl,.inr ⟨rfl,λi hi=>hb i (by omega)⟩⟩⟩
def PX {hk:k<d.runs.l.length} (hq:d.runs.l[k]=x) (h:(x.iY.l.length:Int)=0):qL p L d k:=⟨x,by rw [List.getElem?_eq_getElem hk,hq],.inl (by omega)⟩
def TA {hk:k<d.runs.l.length} (hq:d.runs.l[k]=x) {hl:((x.iY.l.length:Int) - 1).toNat<x.iY.l.length} (hy:x.iY.l[((x.iY.l.length:Int) - 1).toNat]=y) (h:y.end_≠2):qL p L d k:=⟨x,by rw [List.getElem?_eq_getElem hk,hq],.inr (.inl ⟨y,by rw [List.getElem?_eq_getElem hl,hy],h⟩)⟩
def PT {hk:k<d.runs.l.length} (hq:d.runs.l[k]=x) {r:List Int} (hr:r=lC p L d k j) (h:(r.length:Int)=0) (hj:j<x.iY.l.length):qL p L d k:=⟨x,by rw [List.getElem?_eq_getElem hk,hq],.inr (.inr ⟨j,hj,by rw [<- hr]; exact List.length_eq_zero_iff.mp (by omega)⟩)⟩
def Wn {hk:k<d.runs.l.length} (hq:d.runs.l[k]=x) (h1:¬ (x.iY.l.length:Int)=0) {hl:((x.iY.l.length:Int) - 1).toNat<x.iY.l.length} (hy:x.iY.l[((x.iY.l.length:Int) - 1).toNat]=y) (h2:¬ y.end_≠2) (h3:∀ i:Nat,i<j->lC p L d k i≠[]) (hj:x.iY.l.length<=j):¬ qL p L d k:=by
 rintro ⟨z,hz,h⟩
 rw [List.getElem?_eq_getElem hk,hq] at hz
 cases hz
 rcases h with h | ⟨w,hw,h⟩ | ⟨i,hi,h⟩
 ·omega
 ·rw [List.getElem?_eq_getElem hl,hy] at hw; cases hw; exact h2 h
 ·exact h3 i (by omega) h
def ne_nil {r:List Int} (hr:r=lC p L d k j) (h:¬ (r.length:Int)=0):lC p L d k j≠[]:=by
 rw [<- hr]; rintro rfl; simp at h
def vv {m:Nat} (hE:∀ i,i<k->uL p d i=0) (h1:d.runs.l.length<=k) (hM:¬ oM (oI p d) m) (h2:d.runs.l.length<=m) (h3:m<=d.runs.l.length):mO p d 0:=by
 have:m=d.runs.l.length:=by omega
 subst this
 exact .inr ⟨λi hi=>hE i (by omega),.inl ⟨rfl,hM⟩⟩
def vq (p:bG) (d:iO) (k:Nat) (l:List Int):Prop:=∀ x,x∈l↔∃ i,i<k/\x∈oI p d i
def vq.zero:vq p d 0 []:=λx=>by simp
def AA {t:kF} {n:Int} (ht:t=lT p d k) (hK:n=kN p t.at_.elem) (h:n=1):oI p d k=[t.at_.elem]:=by
 subst ht; simp [oI,oa,<- hK,h]
def FR {t:kF} {n:Int} {m:Nat} (hE:∀ i,i<m->uL p d i=0) (hk:k<m) (ht:t=lT p d k) (hK:n=kN p t.at_.elem) (h:¬ n=1):oI p d k=[]:=by
 subst ht
 have:=F6 (hE k hk)
 have:n=4:=by omega
 simp [oI,oa,<- hK,this]
def vq.snoc {l:List Int} {z:Int} (h:vq p d k l) (hz:oI p d k=[z]):vq p d (k+1) (l++[z]):=by
 intro x
 rw [List.mem_append,h x]
 constructor
 ·rintro (⟨i,hi,hx⟩ | hx)
  ·exact ⟨i,by omega,hx⟩
  ·exact ⟨k,by omega,by rw [hz]; exact hx⟩
 ·rintro ⟨i,hi,hx⟩
  rcases Nat.lt_succ_iff_lt_or_eq.mp hi with h1 | h1
  ·exact .inl ⟨i,h1,hx⟩
  ·subst h1; rw [hz] at hx; exact .inr hx
def vq.same {l:List Int} (h:vq p d k l) (hz:oI p d k=[]):vq p d (k+1) l:=by
 intro x
 rw [h x]
 constructor
 ·rintro ⟨i,hi,hx⟩; exact ⟨i,by omega,hx⟩
 ·rintro ⟨i,hi,hx⟩
  rcases Nat.lt_succ_iff_lt_or_eq.mp hi with h1 | h1
  ·exact ⟨i,h1,hx⟩
  ·subst h1; rw [hz] at hx; cases hx
def EU {L:Nat->List Int} (h:¬ oM L k) (hn:∀ x∈L k,∀ i,i<k->x∉L i):¬ oM L (k+1):=by
 rintro ⟨i,j,hij,hj,x,hx,hx2⟩
 rcases Nat.lt_succ_iff_lt_or_eq.mp hj with h1 | h1
 ·exact h ⟨i,j,hij,h1,x,hx,hx2⟩
 ·subst h1; exact hn x hx2 i hij hx
def LI {L:Nat->List Int} (h:¬ oM L k) (hz:L k=[]):¬ oM L (k+1):=EU h (by rw [hz]; simp)
def vq.MD {l:List Int} {z:Int} {s:List Int} (h:vq p d k l) (hs:s=l) (hz:oI p d k=[z]) (hM:¬ oM (oI p d) k) (hn:z∉s):¬ oM (oI p d) (k+1):=by
 subst hs
 refine EU hM λx hx i hi h2=>?_
 rw [hz] at hx; simp at hx; subst hx
 exact hn ((h x).mpr ⟨i,hi,h2⟩)
def vq.Be {l:List Int} {z:Int} {s:List Int} (h:vq p d k l) (hs:s=l) (hz:oI p d k=[z]) (hi:z∈s) (hE:∀ i,i<j->uL p d i=0) (h1:d.runs.l.length<=j) (hk:k<d.runs.l.length):mO p d 18:=by
 subst hs
 obtain ⟨i,hik,h2⟩:=(h z).mp hi
 exact .inr ⟨λi hi=>hE i (by omega),.inr ⟨rfl,i,k,hik,hk,z,h2,by rw [hz]; simp⟩⟩
end
theorem FE (p:bG):lC p.canon=lC p:=rfl
theorem Ep (p:bG):mO p.canon=mO p:=rfl
def zl {p:bG} {d:iO} {e:Int} (h:mO p d e) (he:¬ e≠0):mO p d 0:=by
 have:e=0:=by omega
 subst this; exact h
def Yz {p:bG} (h:∀ e∈p.elems.l,(1<=e.kind/\e.kind<=4)/\(e.kind=4->e.len=0)):IQ p:=h
def abj {p:bG} {k:Nat} (h:∀ (i:Nat) (h:i<p.jd.l.length),i<k->VE p (p.jd.l[i]).a.elem/\VE p (p.jd.l[i]).b.elem) (hk:p.jd.l.length<=k):JV p:=m8 (P:=λj:kD=>VE p j.a.elem/\VE p j.b.elem) h hk
structure wK (p:bG) (k j:Nat) (m:List (Int×Bool)):Prop where
 val:∀ (i:Nat) (h:i<p.lines.l.length),i<k->∀ e∈(p.lines.l[i]).elems.l,VE p e/\look e m=some true
 CW:∀ (i j:Nat) (h:j<p.lines.l.length) (hij:i<j),j<k->∀ e∈(p.lines.l[i]).elems.l,e∉(p.lines.l[j]).elems.l
 cur:∀ x,p.lines.l[k]?=some x->∀ e∈x.elems.l.take j,VE p e/\look e m=some true/\∀ (i:Nat) (h:i<p.lines.l.length),i<k->e∉(p.lines.l[i]).elems.l
section
variable {p:bG} {k j:Nat} {m:List (Int×Bool)} {x:jN} {e:Int}
def wK.zero:wK p 0 0 []:=⟨λ_ _ h=>by omega,λ_ _ _ _ h=>by omega,λ_ _ e h=>by simp at h⟩
theorem wK.put (h:wK p k j m) {hk:k<p.lines.l.length} (hq:p.lines.l[k]=x) {hj:j<x.elems.l.length} (he:x.elems.l[j]=e) (hv:VE p e) (hl:¬ look e m=some true):wK p k (j+1) (put e true m):=by
 have lp:∀ y,look y m=some true->look y (Go.Sx.put e true m)=some true:=λy hy=>sJ hy
 refine ⟨λi hi hik y hy=>⟨(h.val i hi hik y hy).1,lp y (h.val i hi hik y hy).2⟩,h.CW,λz hz y hy=>?_⟩
 rw [List.getElem?_eq_getElem hk,hq] at hz
 cases hz
 rw [nN hj he] at hy
 rcases List.mem_append.mp hy with hy | hy
 ·have:=h.cur x (by rw [List.getElem?_eq_getElem hk,hq]) y hy
  exact ⟨this.1,lp y this.2.1,this.2.2⟩
 ·simp at hy; subst hy
  exact ⟨hv,by grind [nb],λi hi hik hm=>hl (h.val i hi hik _ hm).2⟩
theorem wK.next (h:wK p k j m) {hk:k<p.lines.l.length} (hq:p.lines.l[k]=x) (hj:x.elems.l.length<=j):wK p (k+1) 0 m:=by
 have hc:=h.cur x (by rw [List.getElem?_eq_getElem hk,hq])
 rw [List.take_of_length_le hj] at hc
 refine ⟨λi hi hik e he=>?_,λi j2 hj2 hij hjk e he=>?_,λ_ _ e h=>by simp at h⟩
 ·rcases Nat.lt_succ_iff_lt_or_eq.mp hik with h1 | h1
  ·exact h.val i hi h1 e he
  ·subst h1; rw [hq] at he; exact ⟨(hc e he).1,(hc e he).2.1⟩
 ·rcases Nat.lt_succ_iff_lt_or_eq.mp hjk with h1 | h1
  ·exact h.CW i j2 hj2 hij h1 e he
  ·subst h1; rw [hq]; exact λhm=>(hc e hm).2.2 i (by omega) hij he
def wK.ok (h:wK p k 0 m) (hk:p.lines.l.length<=k):Jk p:=by
 refine ⟨λx hx e he=>?_,λi j hj hij=>h.CW i j hj hij (by omega)⟩
 obtain ⟨i,hi,rfl⟩:=List.mem_iff_getElem.mp hx
 exact (h.val i hi (by omega) e he).1
end
def acX {p:bG} (h:JV p) (h40:p.elems.l.length<=40):∀ j∈p.jd.l,o7 p.elems.l j.a.elem/\o7 p.elems.l j.b.elem:=λj hj=>⟨⟨⟨(h j hj).1.1,by have:=(h j hj).1.2; omega⟩,.inr (h j hj).1.2⟩,⟨(h j hj).2.1,by have:=(h j hj).2.2; omega⟩,.inr (h j hj).2.2⟩
structure qV (p:bG) (k j:Nat) (m:List (Int×Int×Int)):Prop where
 snd:∀ e y,look e m=some y->(∃ (i:Nat) (h:i<p.lines.l.length),i<k/\y.1=(i:Int)/\e∈(p.lines.l[i]).elems.l)\/(y.1=(k:Int)/\∃ x,p.lines.l[k]?=some x/\e∈x.elems.l.take j)
 cmp:∀ (i:Nat) (h:i<p.lines.l.length),i<k->∀ e∈(p.lines.l[i]).elems.l,∃ q,look e m=some ((i:Int),q)
 cur:∀ x,p.lines.l[k]?=some x->∀ e∈x.elems.l.take j,∃ q,look e m=some ((k:Int),q)
section
variable {p:bG} {k j:Nat} {m:List (Int×Int×Int)} {x:jN} {e c:Int}
def qV.zero:qV p 0 0 []:=⟨λe y h=>by simp [look] at h,λ_ _ h=>by omega,λ_ _ e h=>by simp at h⟩
theorem qV.put (hp:Jk p) (h:qV p k j m) {hk:k<p.lines.l.length} (hq:p.lines.l[k]=x) {hj:j<x.elems.l.length} (he:x.elems.l[j]=e):qV p k (j+1) (put e ((k:Int),c) m):=by
 have hg:p.lines.l[k]?=some x:=by rw [List.getElem?_eq_getElem hk,hq]
 have hex:e∈x.elems.l:=by rw [<- he]; exact List.getElem_mem _
 refine ⟨λd y hd=>?_,λi hi hik d hd=>?_,λz hz d hd=>?_⟩
 ·by_cases hde:d=e
  ·subst hde
   have:y=((k:Int),c):=by grind [nb]
   subst this
   exact .inr ⟨rfl,x,hg,by rw [nN hj he]; simp⟩
  ·have hd2:look d m=some y:=by grind [nb]
   rcases h.snd d y hd2 with h1 | ⟨h1,z,hz,h2⟩
   ·exact .inl h1
   ·rw [hg] at hz; cases hz
    exact .inr ⟨h1,x,hg,by rw [nN hj he]; simp [h2]⟩
 ·have hne:d≠e:=by
   rintro rfl
   exact hp.2 i k hk hik d hd (by rw [hq]; exact hex)
  obtain ⟨q,hq2⟩:=h.cmp i hi hik d hd
  exact ⟨q,by grind [nb]⟩
 ·rw [hg] at hz; cases hz
  by_cases hde:d=e
  ·subst hde; exact ⟨c,by grind [nb]⟩
  ·rw [nN hj he] at hd
   rcases List.mem_append.mp hd with hd | hd
   ·obtain ⟨q,hq2⟩:=h.cur x hg d hd
    exact ⟨q,by grind [nb]⟩
   ·simp at hd; exact absurd hd hde
theorem qV.next (h:qV p k j m) {hk:k<p.lines.l.length} (hq:p.lines.l[k]=x) (hj:x.elems.l.length<=j):qV p (k+1) 0 m:=by
 have hg:p.lines.l[k]?=some x:=by rw [List.getElem?_eq_getElem hk,hq]
 refine ⟨λd y hd=>?_,λi hi hik d hd=>?_,λ_ _ e h=>by simp at h⟩
 ·rcases h.snd d y hd with ⟨i,hi,h1,h2⟩ | ⟨h1,z,hz,h2⟩
  ·exact .inl ⟨i,hi,by omega,h2⟩
  ·rw [hg] at hz; cases hz
   exact .inl ⟨k,hk,by omega,h1,by rw [hq]; exact List.mem_of_mem_take h2⟩
 ·rcases Nat.lt_succ_iff_lt_or_eq.mp hik with h1 | h1
  ·exact h.cmp i hi h1 d hd
  ·subst h1
   rw [hq] at hd
   exact h.cur x hg d (by rwa [List.take_of_length_le hj])
def qV.ok (h:qV p k 0 m) (hk:p.lines.l.length<=k):zx m p:=by
 refine ⟨λd y hd=>?_,λi hi d hd=>h.cmp i hi (by omega) d hd⟩
 rcases h.snd d y hd with ⟨i,hi,h1,h2,h3⟩ | ⟨h1,z,hz,h2⟩
 ·exact ⟨i,hi,h2,h3⟩
 ·simp at h2
end
def vS (P:Int->Bool) (l l2:List Int) (i j:Int):Prop:=l2.take i.toNat=(l.take j.toNat).filter P/\l2.drop j.toNat=l.drop j.toNat
section
variable {P:Int->Bool} {l l2:List Int} {i j x y:Int}
def DV {l l2:List Int} {n:Nat} (h:l2.drop n=l.drop n) {h1:n<l2.length} (hq:l2[n]=x):∃ h2:n<l.length,l[n]=x:=by
 have h3:(l2.drop n)[0]?=some x:=by rw [List.getElem?_drop,Nat.add_zero,List.getElem?_eq_getElem h1,hq]
 rw [h,List.getElem?_drop,Nat.add_zero] at h3
 exact List.getElem?_eq_some_iff.mp h3
def Q4 {l l2:List Int} {n:Nat} (h:l2.drop n=l.drop n):l2.drop (n+1)=l.drop (n+1):=by
 have:∀ m:List Int,m.drop (n+1)=(m.drop n).drop 1:=λm=>by rw [List.drop_drop]
 rw [this,this,h]
def vS.start (h0:0<=i) (hb:∀ (k:Nat) (h:k<l.length),(k:Int)<i->P l[k]=true) (hi:i<l.length) (hP:∀ (h:i.toNat<l.length),P l[i.toNat]=false):vS P l l i (i+1):=by
 have e:(i+1).toNat=i.toNat+1:=by omega
 have hl:i.toNat<l.length:=by omega
 refine ⟨?_,rfl⟩
 rw [e,List.take_add_one,List.getElem?_eq_getElem hl,Option.toList_some,List.filter_append,List.filter_cons,hP hl]
 simp only [Bool.false_eq_true,if_false,List.filter_nil,List.append_nil]
 symm
 rw [List.filter_eq_self]
 intro a ha
 obtain ⟨k,hk,rfl⟩:=List.mem_take_iff_getElem.mp ha
 exact hb k (by omega) (by omega)
theorem vS.keep (h:vS P l l2 i j) (h0:0<=i) (hij:i<j) {hj:j.toNat<l2.length} (hq:l2[j.toNat]=x) (hP:P x=true):vS P l (l2.set i.toNat x) (i+1) (j+1):=by
 have e1:(i+1).toNat=i.toNat+1:=by omega
 have e2:(j+1).toNat=j.toNat+1:=by omega
 obtain ⟨hl,hlq⟩:=DV h.2 hq
 refine ⟨?_,?_⟩
 ·rw [e1,e2,List.take_add_one,List.getElem?_set_self (by omega),List.take_add_one,List.getElem?_eq_getElem hl,hlq,Option.toList_some,List.filter_append,<- h.1,List.take_set_of_le (Nat.le_refl _)]
  simp [hP]
 ·rw [e2,List.drop_set_of_lt (by omega)]
  exact Q4 h.2
def vS.skip (h:vS P l l2 i j) (h0:0<=i) (hij:i<j) {hj:j.toNat<l2.length} (hq:l2[j.toNat]=x) (hP:P x=false):vS P l l2 i (j+1):=by
 have e2:(j+1).toNat=j.toNat+1:=by omega
 obtain ⟨hl,hlq⟩:=DV h.2 hq
 refine ⟨?_,by rw [e2]; exact Q4 h.2⟩
 rw [e2,List.take_add_one,List.getElem?_eq_getElem hl,hlq,Option.toList_some,List.filter_append,<- h.1]
 simp [hP]
def vS.done (h:vS P l l2 i j) (hj:(l.length:Int)<=j) (hi:i.toNat<=l2.length) {n:Nat}:(l2.take i.toNat++List.replicate n y).take i.toNat=l.filter P:=by
 rw [List.take_append_of_le_length (by rw [List.length_take]; omega),List.take_take,Nat.min_self,h.1,List.take_of_length_le (by omega)]
end
def UP (ln:List (Int×Int×Int)) (ll:List jN) (x y:Int):Prop:=y=x\/∃ (l:Nat) (h:l<ll.length) (q:Int),look x ln=some ((l:Int),q)/\y∈(ll[l]).elems.l
section
variable {ln:List (Int×Int×Int)} {ll:List jN} {m mo:List (Int×Bool)} {x y r e:Int} {k:Nat} {L:jN} {E:Row Int}
end
def HO (l:List Int):Prop:=l.Pairwise (· < ·)
def HO.ext {l m:List Int} (h1:HO l) (h2:HO m) (h:∀ x,x∈l↔x∈m):l=m:=by
 induction l generalizing m with
 | nil=>cases m with
   | nil=>rfl
   | cons b m=>have:=(h b).mpr (by simp); simp at this
 | cons a l ih =>
   cases m with
   | nil=>have:=(h a).mp (by simp); simp at this
   | cons b m =>
     obtain ⟨ha,hl⟩:=List.pairwise_cons.mp h1
     obtain ⟨hb,hm⟩:=List.pairwise_cons.mp h2
     have hab:a=b:=by
      have h3:=(h a).mp (by simp)
      have h4:=(h b).mpr (by simp)
      rcases List.mem_cons.mp h3 with h3 | h3
      ·exact h3
      ·rcases List.mem_cons.mp h4 with h4 | h4
       ·exact h4.symm
       ·have:=ha b h4; have:=hb a h3; omega
     subst hab
     congr 1
     refine ih hl hm λx=>?_
     have:=h x
     simp only [List.mem_cons] at this
     constructor
     ·intro hx
      rcases this.mp (.inr hx) with h5 | h5
      ·have:=ha x hx; omega
      ·exact h5
     ·intro hx
      rcases this.mpr (.inr hx) with h5 | h5
      ·have:=hb x hx; omega
      ·exact h5
def RdS (ln:List (Int×Int×Int)) (ll:List jN) (rd:ja) (y:Int):Prop:=(∃ s∈rd.steps.l,UP ln ll s.elem y)\/∃ z∈rd.mB.l,UP ln ll z y
def ahy (ln:List (Int×Int×Int)) (ll:List jN) (L:List ja) (R:List Int) (k:Nat) (y:Int):Prop:=∃ i∈R.take k,∃ rd,L[i.toNat]?=some rd/\RdS ln ll rd y
section
variable {ln:List (Int×Int×Int)} {ll:List jN} {L:List ja} {R:List Int} {k j:Nat} {m mo:List (Int×Bool)} {i:Int} {rd:ja} {s:jg} {z:Int}
end
section
variable {l:List Bool} {x y:Int} {b:Bool}
end
def ClK (p:bG) (B:Int->Prop) (k:Nat) (y:Int):Prop:=B y\/∃ (i:Nat) (h:i<p.lines.l.length),i<k/\y∈(p.lines.l[i]).elems.l/\∃ x∈(p.lines.l[i]).elems.l,B x
section
variable {p:bG} {B:Int->Prop} {k j:Nat} {l l2:List Bool} {x:jN} {e:Int} {b c:Bool}
end
section
variable {l:List Bool} {Q:Int->Prop} {k:Nat} {o:List Int} {b:Bool}
end
def agF (p:bG) (d:iO) (run leg:Int):Int:=if kN p (xW p d run (leg+1))=4 then -1 else xW p d run (leg+1)
def aaR (p:bG) (L:List ja) (d:iO) (run leg:Int) (y:Int):Prop:=ahy [] [] L (lC p L d run leg) (lC p L d run leg).length y
def Gu {α:Type} {P : α->Bool}:∀ (l:List α) (i:Nat),∀ x∈pR P i l,(i:Int)<=x/\x<((i+l.length:Nat):Int)
 | [],_,x,h=>by simp [pR] at h
 | a::l,i,x,h=>by
   have h2:=Gu (P:=P) l (i+1) x
   simp only [pR] at h
   simp only [List.length_cons]
   split at h
   ·rcases List.mem_cons.mp h with rfl | h
    ·omega
    ·have:=h2 h; omega
   ·have:=h2 h; omega
def HG {p:bG} {L:List ja} {d:iO} {run leg:Int}:∀ x∈lC p L d run leg,0<=x/\x<(L.length:Int):=by
 intro x hx
 unfold lC at hx
 split at hx
 ·cases hx
 ·have:=Gu _ _ x hx; omega
def Bh (p:bG) (L:List ja) (d:iO) (run leg:Int) (w:List Int×Int):Prop:=HO w.1/\(∀ y,y∈w.1↔ClK p (aaR p L d run leg) p.lines.l.length y/\y≠xW p d run leg/\kN p y≠4)/\w.2=agF p d run leg
theorem Bh.u6 {p:bG} {L:List ja} {d:iO} {run leg:Int} {w v:List Int×Int} (h1:Bh p L d run leg w) (h2:Bh p L d run leg v):w=v:=Prod.ext (h1.1.ext h2.1 λx=>by rw [h1.2.1 x,h2.2.1 x]) (h1.2.2.trans h2.2.2.symm)
def atP (p:bG) (d:iO) (run:Int):List Int:=if kN p (xW p d run 0)=0\/kN p (xW p d run 0)=4 then [] else [xW p d run 0]
def WL (p:bG) (L:List ja) (d:iO) (run:Int) (l:List tI) (k:Nat):Prop:=l.length=k/\∀ (i:Nat) (h:i<l.length),Bh p L d run (i:Int) ((l[i]).free.l,(l[i]).end_)
def Ld (p:bG) (L:List ja) (d:iO) (run:Int) (c:mI):Prop:=c.at_.l=atP p d run/\∃ x,d.runs.l[run.toNat]?=some x/\WL p L d run c.iY.l x.iY.l.length
section
variable {p:bG} {L:List ja} {d:iO} {run:Int} {l:List tI} {k:Nat} {w:tI} {n:Int} {c c2:mI} {x:jC}
def WL.zero:WL p L d run [] 0:=⟨rfl,λi h=>by simp at h⟩
def WL.snoc (h:WL p L d run l k) (hw:Bh p L d run (k:Int) (w.free.l,w.end_)):WL p L d run (l++[w]) (k+1):=by
 refine ⟨by simp [h.1],λi hi=>?_⟩
 by_cases hik:i<l.length
 ·rw [List.getElem_append_left hik]; exact h.2 i hik
 ·have:i=l.length:=by simp at hi; omega
  subst this
  rw [List.getElem_append_right (Nat.le_refl _)]
  simp only [Nat.sub_self,List.getElem_cons_zero]
  rw [h.1]; exact hw
end
def Mo (d:iO) (run:Int):Nat:=match d.runs.l[run.toNat]? with
 | some x=>x.iY.l.length
 | none=>0
theorem Uy {d:iO} {run:Int} {x:jC} {h:run.toNat<d.runs.l.length} (hq:d.runs.l[run.toNat]=x):Mo d run=x.iY.l.length:=by
 rw [Mo,List.getElem?_eq_getElem h,hq]
def ru (p:bG) (L:List ja) (d:iO) (l:List mI) (k:Nat):Prop:=l.length=k/\∀ (i:Nat) (h:i<l.length),Ld p L d (i:Int) l[i]
def ru.zero {p:bG} {L:List ja} {d:iO}:ru p L d [] 0:=⟨rfl,λi h=>by simp at h⟩
def ru.snoc {p:bG} {L:List ja} {d:iO} {l:List mI} {k:Nat} {c:mI} (h:ru p L d l k) (hc:Ld p L d (k:Int) c):ru p L d (l++[c]) (k+1):=by
 refine ⟨by simp [h.1],λi hi=>?_⟩
 by_cases hik:i<l.length
 ·rw [List.getElem_append_left hik]; exact h.2 i hik
 ·have:i=l.length:=by simp at hi; omega
  subst this
  rw [List.getElem_append_right (Nat.le_refl _)]
  simp only [Nat.sub_self,List.getElem_cons_zero]
  rw [h.1]; exact hc
def ru.end_ {p:bG} {L:List ja} {d:iO} {l r:List mI} {k n:Nat} (h:ru p L d l k) (hr:r=l) (h1:n<=k) (h2:k<=n):ru p L d r n:=by
 subst hr
 have:k=n:=by omega
 subst this; exact h
end Go.Sx
namespace Go.Sx
open Go
def Nv (s:Int) (S:Int->Prop):Prop:=∃ b:BitVec 64,s=(b.toNat:Int)/\∀ i:Nat,i<64->(b.getLsbD i=true↔S (i:Int))
def Nv.congr {s:Int} {S T:Int->Prop} (h:Nv s S) (e:∀ i:Int,0<=i->(S i↔T i)):Nv s T:=by
 obtain ⟨b,h1,h2⟩:=h
 exact ⟨b,h1,λi hi=>(h2 i hi).trans (e i (by omega))⟩
abbrev CX:=List Int×List (List Int)
def u2 (c:mI):CX:=(c.at_.l,c.iY.l.map λw=>w.free.l)
def EK (c:List CX) (k:Nat):Prop:=∀ (i:Nat) (h:i<c.length),i≠k->∀ e∈(c[i]).1,∀ x,c[k]?=some x->∀ w∈x.2,e∉w
def yJ (c:List CX) (home:List Bool) (k:Nat):Prop:=home[k]?=some false/\EK c k/\∀ j,j<k->¬ (home[j]?=some false/\EK c j)
theorem yJ.u6 {c:List CX} {home:List Bool} {k j:Nat} (h1:yJ c home k) (h2:yJ c home j):k=j:=by
 rcases Nat.lt_trichotomy k j with h | h | h
 ·exact absurd ⟨h1.1,h1.2.1⟩ (h2.2.2 k h)
 ·exact h
 ·exact absurd ⟨h2.1,h2.2.1⟩ (h1.2.2 j h)
inductive rK (c0:List CX):Nat->List CX->List Bool->Prop
 | zero:rK c0 0 c0 (List.replicate c0.length false)
 | succ {m k:Nat} {c:List CX} {home:List Bool} (h:rK c0 m c home) (n:yJ c home k):rK c0 (m+1) (c.set k ([],[])) (home.set k true)
theorem rK.u6 {c0:List CX} {m:Nat} {c:List CX} {home:List Bool} (h:rK c0 m c home):∀ {c':List CX} {home':List Bool},rK c0 m c' home'->c=c'/\home=home':=by
 induction h with
 | zero=>intro c' home' h; cases h; exact ⟨rfl,rfl⟩
 | succ h n ih =>
   intro c' home' h'
   cases h' with
   | succ h2 n2 =>
     obtain ⟨rfl,rfl⟩:=ih h2
     obtain rfl:=n.u6 n2
     exact ⟨rfl,rfl⟩
def rK.back {c0:List CX} {m:Nat} {c:List CX} {home:List Bool} (h:rK c0 m c home):∀ j,j<m->∃ c' home' k,rK c0 j c' home'/\yJ c' home' k:=by
 induction h with
 | zero=>intro j hj; omega
 | succ h n ih =>
   intro j hj
   rcases Nat.lt_succ_iff_lt_or_eq.mp hj with h1 | h1
   ·exact ih j h1
   ·subst h1; exact ⟨_,_,_,h,n⟩
def Bf (c0:List CX) (b:Bool):Prop:=∃ m c home,rK c0 m c home/\((b=true/\∀ x∈home,x=true)\/(b=false/\false∈home/\∀ k,¬ yJ c home k))
theorem Bf.u6 {c0:List CX} {a b:Bool} (h1:Bf c0 a) (h2:Bf c0 b):a=b:=by
 obtain ⟨m,c,home,hr,h1⟩:=h1
 obtain ⟨m',c',home',hr',h2⟩:=h2
 have no:∀ {c:List CX} {home:List Bool} {k:Nat},(∀ x∈home,x=true)->¬ yJ c home k:=by
  intro c home k h n
  have:=h false (List.mem_of_getElem? n.1)
  cases this
 rcases Nat.lt_trichotomy m m' with h | h | h
 ·obtain ⟨c2,home2,k,h3,h4⟩:=hr'.back m h
  obtain ⟨rfl,rfl⟩:=hr.u6 h3
  rcases h1 with ⟨_,h5⟩ | ⟨_,_,h5⟩
  ·exact (no h5 h4).elim
  ·exact (h5 k h4).elim
 ·subst h
  obtain ⟨rfl,rfl⟩:=hr.u6 hr'
  rcases h1 with ⟨rfl,h3⟩ | ⟨rfl,h3,_⟩<;>rcases h2 with ⟨rfl,h4⟩ | ⟨rfl,h4,_⟩
  ·rfl
  ·have:=h3 _ h4; cases this
  ·have:=h4 _ h3; cases this
  ·rfl
 ·obtain ⟨c2,home2,k,h3,h4⟩:=hr.back m' h
  obtain ⟨rfl,rfl⟩:=hr'.u6 h3
  rcases h2 with ⟨_,h5⟩ | ⟨_,_,h5⟩
  ·exact (no h5 h4).elim
  ·exact (h5 k h4).elim
theorem rK.len {c0:List CX} {m:Nat} {c:List CX} {home:List Bool} (h:rK c0 m c home):c.length=c0.length/\home.length=c0.length:=by
 induction h with
 | zero=>simp
 | succ h n ih=>simpa using ih
def Ny (l:List mI):Prop:=∀ c∈l,∀ x∈c.at_.l,0<=x/\x<40
def Xf (c:List CX) (home:List Bool) (n:Int):Prop:=∀ j:Nat,(j:Int)<n->¬ (home[j]?=some false/\EK c j)
section
variable {c:List CX} {home:List Bool} {n z a b:Int} {x:Bool} {l:List mI} {y:mI} {c0:List CX} {k m:Nat}
theorem rK.go (h:rK c0 k (l.map u2) home) (hno:Xf (l.map u2) home n) (h0:0<=n) {hk:n.toNat<home.length} (hq:home[n.toNat]=x) (hx:x=false) (hc:EK (l.map u2) n.toNat) (hy:u2 y=([],[]):=by rfl):rK c0 (k+1) ((l.set n.toNat y).map u2) (home.set n.toNat true):=by
 rw [List.map_set,hy]
 refine h.succ ⟨by rw [List.getElem?_eq_getElem hk,hq,hx],hc,λj hj=>hno j (by omega)⟩
theorem Ny.set (h:Ny l) (hy:y.at_.l=[]:=by rfl):Ny (l.set k y):=by
 intro d hd x hx
 rcases List.mem_or_eq_of_mem_set hd with h1 | h1
 ·exact h d h1 x hx
 ·subst h1; rw [hy] at hx; cases hx
def CQ:∀ {home:List Bool},home.count true<home.length->false∈home
 | [],h=>by simp at h
 | true::l,h=>by simp at h; exact List.mem_cons_of_mem _ (CQ h)
 | false::l,_=>by simp
def VA (h:rK c0 k c home) (hc:home.count true=k) (hk:k<home.length) (hno:Xf c home n) (hn:(home.length:Int)<=n):Bf c0 false:=by
 refine ⟨k,c,home,h,.inr ⟨rfl,CQ (by omega),λj hj=>?_⟩⟩
 obtain ⟨h2,_⟩:=List.getElem?_eq_some_iff.mp hj.1
 exact hno j (by omega) ⟨hj.1,hj.2.1⟩
end
def Fi (n:Nat) (o:List Int):List Bool:=(List.range n).map λj:Nat=>decide ((j:Int)∈o)
theorem Uc {n j:Nat} {o:List Int} (h:j<n):(Fi n o)[j]?=some (decide ((j:Int)∈o)):=by
 simp [Fi,h]
def rK.count {c0:List CX} {m:Nat} {c:List CX} {home:List Bool} (h:rK c0 m c home):home.count true=m:=by
 induction h with
 | zero=>simp [List.count_replicate]
 | succ h n ih =>
   obtain ⟨h1,h2⟩:=List.getElem?_eq_some_iff.mp n.1
   rw [List.count_set h1,ih,h2]; simp
def s7 (l0:List mI) (o0:List Int) (n:Nat) (b:Bool) (l:List mI) (o:List Int) (k:Nat):Prop :=
 (b=false->l=l0/\o=o0/\Xf (l0.map u2) (Fi n o0) k)/\(b=true->∃ j:Nat,yJ (l0.map u2) (Fi n o0) j/\l.map u2=(l0.map u2).set j ([],[])/\o=o0++[(j:Int)])
section
variable {l0 l:List mI} {o0 o:List Int} {n k m:Nat} {b:Bool} {c0:List CX}
def s7.zero:s7 l0 o0 n false l0 o0 0:=⟨λ_=>⟨rfl,rfl,λj hj=>absurd hj (by omega)⟩,λh=>by cases h⟩
def s7.oB {s:List Int} (h:s7 l0 o0 n b l o k) (hb:b=false) (hs:s=o) (hi:(k:Int)∈s) (hk:k<n):s7 l0 o0 n b l o (k+1):=by
 subst hb; replace hb:false=false:=rfl
 obtain ⟨h1,h2,h3⟩:=h.1 hb
 refine ⟨λ_=>⟨h1,h2,λj hj=>?_⟩,λh=>by cases h⟩
 by_cases hjk:j<k
 ·exact h3 j (by omega)
 ·have:j=k:=by omega
  subst this
  rintro ⟨h4,_⟩
  rw [Uc hk,<- h2,<- hs] at h4
  simp [hi] at h4
def s7.no {s:jm mI} (h:s7 l0 o0 n b l o k) (hb:b=false) (hs:s.l=l) (hc:¬ EK (s.l.map u2) k):s7 l0 o0 n b l o (k+1):=by
 subst hb; replace hb:false=false:=rfl
 obtain ⟨h1,h2,h3⟩:=h.1 hb
 refine ⟨λ_=>⟨h1,h2,λj hj=>?_⟩,λh=>by cases h⟩
 by_cases hjk:j<k
 ·exact h3 j (by omega)
 ·have:j=k:=by omega
  subst this
  rintro ⟨_,h4⟩
  rw [hs,h1] at hc; exact hc h4
theorem s7.len (h:s7 l0 o0 n b l o k) (hb:b=true):o.length=o0.length+1:=by
 obtain ⟨j,_,_,h3⟩:=h.2 hb
 rw [h3]; simp
def s7.stuck (h:s7 l0 o0 n b l o k) (hb:b=false) (hr:rK c0 o0.length (l0.map u2) (Fi n o0)) (hn:n<=k) (hm:o0.length<n):Bf c0 false:=by
 obtain ⟨h1,h2,h3⟩:=h.1 hb
 have hl:(Fi n o0).length=n:=by simp [Fi]
 exact VA hr hr.count (by omega) h3 (by omega)
end
end Go.Sx
namespace Go.Sx
open Go
section
variable {d e:iO} {L M:List ja} {p:bG} {run leg:Int}
end
section
variable {p:bG} {L M:List ja} {d f:iO} {e w:Int} {l m:List mI} {k:Nat} {b:Bool}
end
def Lv {p:bG} (h:IQ p) (e:Int) (hk:kN p e=4):nV p e=0:=by
 unfold kN at hk
 unfold nV
 by_cases h0:e<0
 ·simp [h0]
 ·rw [if_neg h0] at hk ⊢
  cases hs:p.elems.l[e.toNat]? with
  | none=>rfl
  | some x =>
    rw [hs] at hk
    obtain ⟨hl,hq⟩:=List.getElem?_eq_some_iff.mp hs
    exact (h x (hq▸List.getElem_mem hl)).2 hk
end Go.Sx
namespace Go.Sx
open Go
def DT (a:Int):IntKind.i64.wrap a % 18446744073709551616=a % 18446744073709551616:=by
 have e:IntKind.i64.wrap a=if (IntKind.i64.signed&&decide (a % (2 ^ IntKind.i64.bits:Int)>=(2 ^ (IntKind.i64.bits - 1):Int)))=true then a % (2 ^ IntKind.i64.bits:Int) - (2 ^ IntKind.i64.bits:Int) else a % (2 ^ IntKind.i64.bits:Int):=rfl
 have e2:(2 ^ IntKind.i64.bits:Int)=18446744073709551616:=by decide
 rw [e,e2]
 split<;>omega
def Hf {a b:Int} (h:a % 18446744073709551616=b % 18446744073709551616):IntKind.i64.wrap a=IntKind.i64.wrap b:=by
 have e:∀ a:Int,IntKind.i64.wrap a=if (IntKind.i64.signed&&decide (a % (2 ^ IntKind.i64.bits:Int)>=(2 ^ (IntKind.i64.bits - 1):Int)))=true then a % (2 ^ IntKind.i64.bits:Int) - (2 ^ IntKind.i64.bits:Int) else a % (2 ^ IntKind.i64.bits:Int):=λ_=>rfl
 have e2:(2 ^ IntKind.i64.bits:Int)=18446744073709551616:=by decide
 rw [e a,e b,e2,h]
theorem Lu (a b:Int):IntKind.i64.wrap (IntKind.i64.wrap a+b)=IntKind.i64.wrap (a+b):=Hf (by have:=DT a; omega)
theorem K9 (a b:Int):IntKind.i64.wrap (a+IntKind.i64.wrap b)=IntKind.i64.wrap (a+b):=Hf (by have:=DT b; omega)
section
variable {α β:Type} {f : β->α->β} {l:List α} {k:Nat} {x : α} {s t u : β}
def rb {hk:k<l.length} (hq:l[k]=x) (h:t=(l.take k).foldl f s) (e:u=f t x):u=(l.take (k+1)).foldl f s:=by
 rw [List.take_add_one,List.getElem?_eq_getElem hk,hq,List.foldl_append,<- h,e]; rfl
theorem sk (h:t=(l.take k).foldl f s) (hk:l.length<=k):t=l.foldl f s:=by
 rwa [List.take_of_length_le hk] at h
end
def M3 {p:bG} {l:List jg} {k:Nat} {s:jg} {y:ko} {m:Int} {hk:k<l.length} (hq:l[k]=s) (h:m=(l.take k).foldl (λ(m:Int) (s:jg)=>IntKind.i64.wrap (m+nV p s.elem)) 0) (h0:0<=s.elem) {hx:s.elem.toNat<p.elems.l.length} (hy:p.elems.l[s.elem.toNat]=y):IntKind.i64.wrap (m+y.len)=(l.take (k+1)).foldl (λ(m:Int) (s:jg)=>IntKind.i64.wrap (m+nV p s.elem)) 0 :=
 rb hq h (by rw [CB h0 hx hy])
def BP (t:Int) (r:jC):Int:=r.iY.l.foldl (λt x=>max t x.at_) t
def IU (d:iO):Int:=d.runs.l.foldl BP 0
def U8 (p:bG) (l:List jg):Int:=l.foldl (λm s=>IntKind.i64.wrap (m+nV p s.elem)) 0
def zM (p:bG) (L:List ja) (m x:Int):Int:=max m (match L[x.toNat]? with
 | some r=>U8 p r.steps.l
 | none=>0)
def JC (p:bG) (L:List ja) (R:List Int):Int:=R.foldl (zM p L) 0
def FQ {p:bG} {L:List ja} {m n x y:Int} {r:ja} {k:Nat} {hx:x.toNat<L.length} (hq:L[x.toNat]=r) (h:n=(r.steps.l.take k).foldl (λm s=>IntKind.i64.wrap (m+nV p s.elem)) 0) (hk:r.steps.l.length<=k) (e:y=max m n):y=zM p L m x:=by
 rw [zM,List.getElem?_eq_getElem hx,hq,e,sk h hk]; rfl
def MR (d:iO) (run:Int):Int:=match d.runs.l[run.toNat]? with
 | some r=>(match d.iU.l[r.iU.toNat]? with
   | some s=>s.len
   | none=>0)
 | none=>0
def M2 (p:bG) (L:List ja) (d:iO) (run leg t:Int):Int:=IntKind.i64.wrap (t+p.jX+20+nV p (xW p d run leg)+MR d run+JC p L (lC p L d run leg))
def uA (p:bG) (L:List ja) (d:iO) (run t:Int):Nat->Int
 | 0=>t
 | n+1=>M2 p L d run (n:Int) (uA p L d run t n)
def uF (p:bG) (L:List ja) (d:iO):Nat->Int
 | 0=>IU d
 | n+1=>uA p L d (n:Int) (uF p L d n) (Mo d (n:Int))
def L4 (p:bG) (L:List ja) (d:iO):Int:=uF p L d d.runs.l.length
section
variable {p:bG} {L:List ja} {d:iO} {i j:Nat} {t u w l s f st th:Int} {r:jC} {x:jr} {R:List Int}
theorem GR {hi:i<d.runs.l.length} (hq:d.runs.l[i]=r) {hs:r.iU.toNat<d.iU.l.length} (hx:d.iU.l[r.iU.toNat]=x):MR d (i:Int)=x.len:=by
 rw [MR,Int.toNat_natCast,List.getElem?_eq_getElem hi,hq]
 show (match d.iU.l[r.iU.toNat]? with | some s=>s.len | none=>0) = _
 rw [List.getElem?_eq_getElem hs,hx]
def Mj {hi:i<d.runs.l.length} (hq:d.runs.l[i]=r) {hs:r.iU.toNat<d.iU.l.length} (hx:d.iU.l[r.iU.toNat]=x) (h:t=uA p L d (i:Int) w j) (hst:st=xW p d (i:Int) (j:Int)) (hl:l=nV p st) (hR:R=lC p L d (i:Int) (j:Int)) (hf:f=JC p L R)
  (e:u=IntKind.i64.wrap (t+IntKind.i64.wrap (IntKind.i64.wrap (IntKind.i64.wrap (IntKind.i64.wrap (p.jX+20)+l)+x.len)+f))):u=uA p L d (i:Int) w (j+1):=by
 subst hf hR hl hst
 rw [e,uA,<- h,M2,GR hq hx]
 simp only [Lu,K9]
 exact congrArg _ (by omega)
def Ub {hi:i<d.runs.l.length} (hq:d.runs.l[i]=r) {hs:r.iU.toNat<d.iU.l.length} (hx:d.iU.l[r.iU.toNat]=x) (h:t=uA p L d (i:Int) w j) (hst:st=xW p d (i:Int) (j:Int)) (hl:l=nV p st) (hR:R=lC p L d (i:Int) (j:Int)) {k:Nat} (hf:f=(R.take k).foldl (zM p L) 0) (hk:R.length<=k)
  (e:u=IntKind.i64.wrap (IntKind.i64.wrap (IntKind.i64.wrap (IntKind.i64.wrap (IntKind.i64.wrap (t+p.jX)+20)+l)+x.len)+f)):u=uA p L d (i:Int) w (j+1):=by
 have hf2:f=JC p L R:=sk hf hk
 subst hf2 hR hl hst
 rw [e,uA,<- h,M2,GR hq hx]
 simp only [Lu,K9]
def D3 {hi:i<d.runs.l.length} (hq:d.runs.l[i]=r) (h:t=uA p L d (i:Int) (uF p L d i) j) (hj:r.iY.l.length<=j) (hj2:j<=r.iY.l.length):t=uF p L d (i+1):=by
 rw [uF,h,Uy (run:=(i:Int)) (h:=hi) hq,show j=r.iY.l.length by omega]
def T7 (h:t=uF p L d i) (h1:d.runs.l.length<=i) (h2:i<=d.runs.l.length):t=L4 p L d:=by
 rw [h,L4,show i=d.runs.l.length by omega]
def KU {run leg:Int} (h:0<(lC p L d run leg).length):0<p.elems.l.length:=by
 by_cases h0:p.elems.l.length=0
 ·exfalso
  have hk:∀ e,kN p e=0:=λe=>sU (by omega)
  have:∀ r,o1 p d run leg r=false:=by
   intro r
   unfold o1
   split
   ·rfl
   ·split
    ·unfold tL; simp [hk]
    ·rfl
  rw [lC,Ar this] at h
  simp at h
 ·omega
end
def UL {p:bG} {L:List ja} {d:iO} {run leg:Int} {R:List Int} (h:R=lC p L d run leg):∀ x∈R,0<=x/\x<(L.length:Int):=h▸HG
def Cp (p:bG) (L:List ja) (d:iO) (r:Int):Prop:=∃ w,o4 p L d w/\(w≠0->r=0)/\(w=0->r=L4 p L d)
def Cp.eq {p:bG} {L:List ja} {d:iO} {r s:Int} (h1:Cp p L d r) (h2:Cp p L d s):r=s:=by
 obtain ⟨w,c1,a1,b1⟩:=h1
 obtain ⟨v,c2,a2,b2⟩:=h2
 have e:=c1.u6 c2
 subst e
 by_cases h:w=0
 ·rw [b1 h,b2 h]
 ·rw [a1 h,a2 h]
def Lo {p:bG} {L:List ja} {d:iO} {r w:Int} (h:o4 p L d w) (hw:w≠0) (hr:r=0):Cp p L d r:=⟨w,h,λ_=>hr,λh0=>absurd h0 hw⟩
def Ka {p:bG} {L:List ja} {d:iO} {r w:Int} (h:o4 p L d w) (hw:w=0) {i:Nat} (ht:r=uF p L d i) (h1:d.runs.l.length<=i) (h2:i<=d.runs.l.length):Cp p L d r:=⟨w,h,λh0=>absurd hw h0,λ_=>T7 ht h1 h2⟩
end Go.Sx
namespace Go.Sx
open Go
section
variable {P:Program} {X:Ctx} {N:Nat} {G0:Ga}
theorem x4 {C : jZ} {f : Nat} {fa : iN} (hC : kx P C) {fn : Func} (hfn : P.funcs[f]? = some fn) (hbody : fn.body = some fa.body) (hres : fn.results.toList = fa.res) (hname : (fn.name == "runtime.NumGoroutine") = false) {args args0 : List AV} {x : Ex} {e' : Env} {h' : aT} {v : AV} {h : aT}
  (hr:∀ G0:Ga,G0.h=aT.empty->mv P fn.ntmps G0 fa.body (params 0 args0) aT.empty x e' h') (hv:frozen h (leave C fa.res (some (x,e',h')))=some (v,h)) (hargs:lB h args=some args0):zF P f args h v h:=by
 intro G args' hG hlo hL hW hl hrel
 refine ⟨⟨fn,hfn,by grind,hname⟩,?_⟩
 intro R hR
 subst hG
 obtain ⟨k1,k2⟩:=xV hW hargs hl hrel
 have hW1:=GJ hW
 have main:∀ v0 h1,leave.leave1 C fa.res e' h'=some (v0,h1)->freeze false h1 8 v0=some v->(x=.kE\/x=.ret)->Calls P f args' G.w R:=by
  intro v0 h1 hlv hfz hx
  refine calls_of_wp (w:=(pG G).w) hfn hbody ?_
  have hfr:Fr (pG G) (pG G):=by
   refine ⟨⟨⟨λ_ _ h=>h,λ_ _ _=>rfl,Nat.le_refl _,λ_ _ g z xs h=>⟨g,z,xs,h,Nat.le_refl _,λ_=>⟨rfl,λ_ h=>h⟩⟩,λ_ _ es c h=>⟨es,c,h,λ_ h=>h⟩,λd B h=>(by cases h)⟩,rfl,rfl,rfl,Nat.le_refl _,λ_ _ _ _=>rfl,
    λ_ l h=>.inl ⟨l,h,rfl⟩,λ_ _ h=>(by cases h),λ_ _ h=>.inl h,rfl,λ_ _ _=>rfl,λ_ _ h=>(by cases h),λ_ _ h=>(by cases h),λd c _ hd=>(by cases hd)⟩,λd B h=>(by cases h)⟩
  have hSt:St fn.ntmps (pG G) (pG G) (params 0 args0) { tmps:=args'++Array.replicate (fn.ntmps - args'.size) undef,defers:=[] } :=
   ⟨hfr,hW1,Dc k1 k2 _,rfl,by grind⟩
  refine hr (pG G) rfl (pG G) _ _ rfl hSt ?_
  intro G1 a1 hG1 hS1
  have hpost:∃ u,(results fn a1.tmps).run P G1.w=.ok u G1.w/\R (.returned u) G1.w:=by
   rw [<- hG1,<- hres] at hlv
   obtain ⟨e1,u,e2,e3⟩:=yx hS1.wr hC hS1.er hlv
   refine ⟨u,e2,?_⟩
   have S2:=hS1.fr.S
   have W2:WR (G1.j5 [] λ_=>none):=hS1.wr.DB (λd B h=>by cases h) (λd B h=>by cases h)
   obtain ⟨S3,W3⟩:=CS hW hL S2 W2
   have hfz2:freeze false (G1.j5 [] λ_=>none).h 8 v0=some v:=by
    refine tU (h:=h1) ?_ _ _ _ hfz
    intro b o hb
    rw [e1] at hb
    exact hb
   exact hR u (s9 G (G1.j5 [] λ_=>none)) S3 W3 (λm=>rfl) (λm L=>(By S2 W2 hfz2 e3.j5).j5.vr)
  rcases hx with rfl | rfl
  ·exact ⟨hS1.df,hpost⟩
  ·exact ⟨hS1.df,hpost⟩
 have fin:∀ v0 h1,leave C fa.res (some (x,e',h'))=some (v0,h1)->freeze false h1 8 v0=some v:=by
  grind [frozen]
 cases x with
 | kE =>
   cases hq:leave C fa.res (some (.kE,e',h')) with
   | none=>rw [hq] at hv; cases hv
   | some y =>
     obtain ⟨v0,h1⟩:=y
     exact main v0 h1 hq (fin v0 h1 hq) (.inl rfl)
 | ret =>
   cases hq:leave C fa.res (some (.ret,e',h')) with
   | none=>rw [hq] at hv; cases hv
   | some y =>
     obtain ⟨v0,h1⟩:=y
     exact main v0 h1 hq (fin v0 h1 hq) (.inr rfl)
 | ext id=>cases hv
theorem zS {h h2:aT} {args oc:List AV} (ha:lB h args=some oc) (E:∀ b o,h.get b=some o->h2.get b=some o):lB h2 args=some oc:=by
 unfold lB at ha ⊢
 split at ha
 ·have:∀ (l l':List AV),jJ (freeze true h 8) l=some l'->jJ (freeze true h2 8) l=some l':=by
   intro l
   induction l<;>grind [jJ,tU]
  grind
 ·grind
def Fe (a0:List AV) (v0:AV) (a1:List AV) (v1:AV) (shd:Bool) (args:List AV) (h:aT):R2:=match shd with
 | true=>none
 | false=>match lB h args with
   | some a=>match oK (og 12) a0 a with
     | true=>some (v0,h)
     | false=>match oK (og 12) a1 a with
       | true=>some (v1,h)
       | false=>none
   | none=>none
def GG {f:Nat} {a0 a1:List AV} {v0 v1:AV} (h0:∀ args h1,lB h1 args=some a0->zF P f args h1 v0 h1) (h1:∀ args h2,lB h2 args=some a1->zF P f args h2 v1 h2):nT P f (Fe a0 v0 a1 v1) where
 call:=by
  intro shd args h v h' hc
  unfold Fe at hc
  split at hc
  ·cases hc
  ·split at hc
   ·rename_i a ha
    split at hc
    ·rename_i hq
     cases hc
     have:=mP (oQ 12) _ _ hq
     subst this
     exact h0 args h ha
    ·split at hc
     ·rename_i hq
      cases hc
      have:=mP (oQ 12) _ _ hq
      subst this
      exact h1 args h ha
     ·cases hc
   ·cases hc
 BR:=by
  intro args h v h' hc
  unfold Fe at hc
  split at hc
  ·rename_i hh; cases hh
  ·split at hc
   ·rename_i a ha
    split at hc
    ·rename_i hq
     cases hc
     refine ⟨rfl,λh2 E=>?_⟩
     unfold Fe
     simp only [zS ha E,hq]
    ·split at hc
     ·cases hc
      refine ⟨rfl,λh2 E=>?_⟩
      unfold Fe
      rw [zS ha E]
      simp_all
     ·cases hc
   ·cases hc
end
end Go.Sx
