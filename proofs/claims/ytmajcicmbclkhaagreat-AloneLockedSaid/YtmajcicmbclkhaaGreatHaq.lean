/- Proves what functions of the program answer. -/
import Derived.Test.YtmajcicmbclkhaaGreatHap
set_option linter.all false
set_option maxRecDepth 100000
set_option maxHeartbeats 0
namespace Go.Sx
open Go Go.Proofs
def Ik:iq 39=some nZ:=by rfl
def Qx {C:gv} {F:gX} {Pr:gQ} {n f:Nat} {args:List AV} {v:AV} (hp:Pr f=none) (ha:args.any AV.p5=false) (h1:gP C F Pr n false f args au.empty=some (v,au.empty)) (h:au):gP C F Pr n false f args h=some (v,h):=by
 cases n with
 | zero=>cases h1
 | succ n =>
   simp only [gP,hp] at h1 ⊢
   split at h1
   ·cases h1
   ·rename_i fa hfa
    simp only [rG,gT,ha] at h1 ⊢
    unfold frozen at h1 ⊢
    split at h1
    ·rename_i heq
     split at h1
     ·cases h1
     ·rename_i v1 hv1
      cases h1
      simp only [heq,hv1]
    ·cases h1
def M0 {C:gv} {F:gX} {Pr:gQ} {p:Bool->List AV->au->Option (AV×au)} {f:Nat} {sh:Bool} {args:List AV} {h h':au} {v:AV} (hp:Pr f=some p) (hc:fh C F Pr sh f args h v h') (n:Nat):gP C F Pr (n+1) sh f args h=some (v,h'):=by
 obtain ⟨m,hm⟩:=hc
 have:=hm (m+1) (Nat.le_succ _)
 simp only [gP,hp] at this ⊢
 exact this
def jX {X:Ctx} {all l rest:List Oper} {o:Oper} {k:PJ} {it:Option Jt} {e:Env} {h:au} {P:AV->au->Prop} (hop:∃ v H',gd o.op X e h o.dst=some (v,H')/\P v H') (w:∀ v H',P v H'->mD X all k rest it (fp e o v) H') (hl:l=o::rest:=by exact rfl) (hk:sO o.op=.plain:=by exact rfl) (ha:qw it o=true:=by exact rfl) (hw:fE all e o=some true:=by exact rfl):mD X all k l it e h:=by
 obtain ⟨v,H',h1,h2⟩:=hop
 exact jV (w v H' h2) hl hk ha hw h1
def NI {X:Ctx} {f:Nat} {g:Operand} {c:Call} {args:List AV} {v:AV} {d:Option Nat} {e:Env} {H H':au} {ls:iN} (hb:X.call true f args { H with aT:=[] }=some (v,H')) (hf:c.callee=.value g:=by exact rfl) (hg:fg e g=.gx f [] []:=by exact rfl) (ha:c.args.toList.map (fg e)=args:=by exact rfl) (hok:args.all AV.kK=true:=by exact rfl) (hs:X.fa.fY.elem f=true:=by exact rfl):gd (.call c) X e { H with aT:=ls } d=some (v,{ H' with aT:=ls }):=by
 simp only [gd,nG,mM,hf,hg,ha,rB,yt,List.nil_append,List.append_nil,hok,hs,hb,sR]
def jAp {X:Ctx} {all lo rest:List Oper} {o:Oper} {k:PJ} {it:Option Jt} {e:Env} {H:au} {ls:iN} {L:List gh} {α:Type} {enc : α->List AV} {l:List α} {n t u:Nat} {v:AV} {wr tt:Bool} {cl:Call} {x y:Operand} {ti:TI} (i:Nat) (ys:List α) (hS:Sep H L) (w:∀ v' H',Sep H' (L.set i (.sl wr tt v' n ((l++ys).map enc)))->mD X all k rest it (fp e o v') { H' with aT:=ls }) (hm:l.length+ys.length<=o5)
  (hl:lo=o::rest:=by exact rfl) (hk:sO o.op=.plain:=by exact rfl) (hj:qw it o=true:=by exact rfl) (hw:fE all e o=some true:=by exact rfl) (ho:o.op=.call cl:=by exact rfl) (hi:L[i]?=some (.sl wr tt v n (l.map enc)):=by exact rfl) (hc:cl.callee=.builtin .append:=by exact rfl) (ha:cl.args.toList=[x,y]:=by exact rfl) (hts:cl.argTypes.toList=[t,u]:=by exact rfl) (hT:pX X.C [t,u]=some ti:=by exact rfl) (hSr:Bn X.C [t,u]=true:=by exact rfl) (hn:ti.size=n:=by exact rfl) (hs:fg e x=v:=by exact rfl) (hx:mF { H with aT:=ls } (fg e y)=some (ys.map enc):=by exact rfl)
  (hok:∀ y,(enc y).all AV.gY=true:=by exact λ_=>rfl) (ht:tt=true\/ys.length=1:=by exact .inl rfl) (henc:∀ x,(enc x).length=n:=by exact λ_=>rfl):mD X all k lo it e { H with aT:=ls }:=by
 subst hl
 refine jX (o:=o) (P:=λv' h'=>∃ H',h' = { H' with aT:=ls }/\Sep H' (L.set i (.sl wr tt v' n ((l++ys).map enc)))) ?_ ?_ rfl hk hj hw
 ·obtain ⟨v',H',h1,h2⟩:=mY (C:=X.C) (fa:=X.fa) (e:=e) (ls:=ls) (d:=o.dst) ys hS hi hc ha hts hT hSr hn hs hx hok ht hm henc
  exact ⟨v',_,by rw [ho]; exact h1 X.call,H',rfl,h2⟩
 ·rintro v' _ ⟨H',rfl,h2⟩
  exact w v' H' h2
theorem SU {H:au} {v:AV} {l:List Int} (hS:Sep H [.sl true true v 1 (l.map cI)]) (hl:l≠[]) (m:Nat):freeze false { H with aT:=[] } (m+2) v=some (.sl (l.map cI) .iB):=by
 obtain ⟨hxl,⟨h0,_⟩ | ⟨h1 | h1,_⟩ | ⟨b,g,j,hb,rfl,hg,htj⟩⟩:=hS.at (i:=0) rfl
 ·simp at h0; exact absurd h0 hl
 ·cases h1
 ·simp at h1; exact absurd h1 hl
 ·have h2:Nat.ble (0+(l.map cI).length) (l.map cI++j).length=true:=Nat.ble_eq.mpr ci
  have h3:((l.map cI++j).drop 0).take (l.map cI).length=l.map cI:=by simp
  have h5:∀ ys:List Int,lT (freeze false { H with aT:=[] } (m+1)) (ys.map cI)=some (ys.map cI):=by
   intro ys
   induction ys with
   | nil=>rfl
   | cons a ys ih =>
     have h1:fU (freeze false { H with aT:=[] } (m+1)) (cI a)=some (cI a):=by simp [cI,fU,iv,qM]
     simp only [List.map_cons,lT,h1,ih]
  generalize hk:m+1=k at h5
  rw [show m+2=k+1 by omega]
  simp only [freeze,au.iG,hg,Nat.beq_refl,h2,Bool.and_self,h3,h5,Av]
open Classical in
noncomputable def ss (es:List (AV×AV)) (x:Int) (j:Nat):Option Int:=match es[j]? with
 | some (.int .i64 o,v)=>if rb x (.int .i64 o,v) then some o else none
 | _=>none
noncomputable def zV (es:List (AV×AV)) (x:Int):List Int:=(List.range es.length).filterMap (ss es x)
noncomputable def Dz (es:List (AV×AV)) (x:Int):AV:=match zV es x with
 | []=>.sl [] .nil
 | _=>.sl ((iY (zV es x)).map cI) .iB
def Jo (es:List (AV×AV)):Prop:=(∀ p∈es,∃ (o:Int) (r:ff Int),p=(iv o,r.av cI)/\ky o)/\es.length<=1000000
theorem E6 {l l':List Int} (h:l.Perm l'):iY l=iY l':=(zv (List.Perm.refl l)).symm.trans (zv h)
def BF {es:List (AV×AV)} {x:Int}:(zV es x).length<=es.length:=by
 have:=List.length_filterMap_le (ss es x) (List.range es.length)
 simpa [zV] using this
def Mh {es:List (AV×AV)} {x:Int} (hO:Jo es):∀ y∈zV es x,ky y:=by
 intro y hy
 obtain ⟨j,hj,he⟩:=List.mem_filterMap.1 hy
 unfold ss at he
 split at he
 ·rename_i o v hq
  obtain ⟨o',r,hp,hr⟩:=hO.1 _ (List.mem_of_getElem? hq)
  split at he
  ·cases he; cases hp; exact hr
  ·cases he
 ·cases he
open Classical in
def VH {es:List (AV×AV)} {x:Int} {k y:AV} {z:List AV} {s s':Bool} (hO:Jo es) :
  Good cfg vn (gP cfg FT iq) [.ip (k::y::.fm es s::z) 0 s',iv x] (Dz es x):=by
 obtain ⟨n,hn⟩:=Ee (x:=x) (es:=es) λp hp=>by
  obtain ⟨o,r,h,_⟩:=hO.1 p hp
  exact ⟨o,r,h⟩
 refine ⟨n+1,?_⟩
 unfold wi
 refine aJ ?_
 refine jV ?_
 refine jO ?_
 refine aJ ?_
 refine jV ?_
 refine ao ?_
 refine jL (λm it e h=>∃ v l last js H,it=some ⟨12,es,last,js⟩/\m=js.length/\js.Nodup/\(l++js.filterMap (ss es x)).Perm (zV es x)/\Sep H [.sl true true v 1 (l.map cI)]/\(l=[]->v=.sl [] .nil)/\proj [1,5,12] e=[(1,iv x),(5,v),(12,.undef)]/\{ h with aT:=iu [1,5,12] h.aT } = { H with aT:=[] }) (m:=es.length)
  ⟨ee,[],none,List.range es.length,au.empty,rfl,by simp,List.nodup_range,List.Perm.refl _,gJ.jZ 1,λ_=>rfl,rfl,rfl⟩ ?_
 rintro m it e h ⟨v,l,last,js,H,rfl,rfl,hnd,hpm,hS,hv,he,hh⟩
 rw [he,hh]
 refine aJ ?_
 refine jN (λhnil=>?_) (λj hj p hp=>?_)
 ·simp only at hnil
  subst hnil
  simp only [List.filterMap_nil,List.append_nil] at hpm
  refine jV ?_
  refine jO ?_
  refine jz ?_
  refine jF ?_
  refine je ?_
  have hlen:l.length<=1000000:=by
   have:=hpm.length_eq
   have:=BF (es:=es) (x:=x)
   have:=hO.2
   omega
  obtain ⟨u,H',hc,rfl,hS'⟩:=Gr (C:=cfg) (F0:=FT) Ik hS hlen (λy hy=>Mh hO y (hpm.mem_iff.1 hy))
  refine jJ [(5,v)] { H with aT:=[] } ?_ (hE:=?_)
  rotate_left
  ·exact congrArg (λz=>[(5,z)]) (hS.yC (i:=0) rfl 5)
  refine jq ?_
  refine jg ?_
  refine jV ?_
  refine jV (v:=.fG []) (h1:={ H' with aT:=[] }) ?_ (hop:=?_)
  rotate_left
  ·exact NI (X:=⟨cfg,vn,gP cfg FT iq (n+1)⟩) (M0 Ik hc n) (hok:=by show (AV.kK v&&true)=true; rw [show AV.kK v=true from hS.arg (i:=0) rfl]; rfl)
  refine jO ?_
  refine jq ?_
  refine jg ?_
  refine jV ?_
  refine jV ?_
  refine jO ?_
  refine jr ?_
  refine ⟨.inr rfl,v,{ H' with aT:=[] },ia (vs:=[v]) rfl (ei (hS.arg (i:=0) rfl) fT),?_⟩
  have hfz:freeze false { H' with aT:=[] } 8 v=some (Dz es x):=by
   have hK:zV es x=[]↔l=[]:=by
    constructor
    ·intro h; rw [h] at hpm; exact hpm.eq_nil
    ·intro h; rw [h] at hpm; exact hpm.symm.eq_nil
   by_cases h0:l=[]
   ·rw [hv h0]
    unfold Dz
    rw [hK.2 h0]
    rfl
   ·have h1:iY l≠[]:=λh=>h0 ((kF l).symm.trans (h▸List.Perm.refl _)).eq_nil
    rw [SU hS' h1 6]
    unfold Dz
    split
    ·rename_i h; exact absurd (hK.1 h) h0
    ·rw [E6 hpm]
  exact hfz
 ·obtain ⟨o,r,rfl,hro⟩:=hO.1 p (List.mem_of_getElem? hp)
  simp only at hp hj
  have hb:=Qx c7 c7 (hn (n+1) (Nat.le_succ _) _ (List.mem_of_getElem? hp)) { H with aT:=[] }
  have hg:ss es x j=if rb x (iv o,r.av cI) then some o else none:=by simp only [ss,hp]
  have hper:(l++js.filterMap (ss es x)).Perm ((l++(ss es x j).toList)++(js.filter λy=>!(Nat.beq y j)).filterMap (ss es x)):=by
   have e1:(js.filter λy=>!(Nat.beq y j))=js.erase j:=by
    rw [hnd.erase_eq_filter]
    refine List.filter_congr λy _=>?_
    cases hq:Nat.beq y j with
    | true=>have:=Nat.eq_of_beq_eq_true hq; simp [this]
    | false=>have:=Nat.ne_of_beq_eq_false hq; simp [this]
   rw [e1,List.append_assoc]
   refine List.Perm.append_left _ ?_
   have:=(List.perm_cons_erase hj).filterMap (ss es x)
   refine this.trans ?_
   cases hz:ss es x j<;>simp [List.filterMap_cons,hz]
  have hnd':(js.filter λy=>!(Nat.beq y j)).Nodup:=hnd.filter _
  have hlt':(js.filter λy=>!(Nat.beq y j)).length<js.length:=List.length_filter_lt_length_iff_exists.2 ⟨j,hj,by simp⟩
  have hlen:l.length<1000000\/ss es x j=none:=by
   cases hz:ss es x j with
   | none=>exact .inr rfl
   | some q =>
     left
     have h1:=(hper.symm.trans hpm).length_eq
     rw [hz] at h1
     simp only [Option.toList,List.length_append,List.length_cons,List.length_nil] at h1
     have:=BF (es:=es) (x:=x)
     have:=hO.2
     omega
  refine jV ?_
  refine jO ?_
  refine jz ?_
  refine jT ?_
  refine jk ?_
  refine jJ [(1,iv x),(5,v),(12,.undef)] { H with aT:=[] } ?_ (hE:=?_)
  rotate_left
  ·exact congrArg (λz=>[(1,iv x),(5,z),(12,.undef)]) (hS.yC (i:=0) rfl 5)
  refine jb ?_
  refine jq ?_
  refine jg ?_
  refine jE ?_ hp
  refine jV ?_
  refine jV ?_
  refine jV ?_
  refine jV ?_
  refine jO ?_
  refine jq ?_
  refine jg ?_
  refine jV ?_
  refine jV ?_
  refine jV (v:=.bool (decide (rb x (iv o,r.av cI)))) (h1:={ H with aT:=[] }) ?_ (hop:=?_)
  rotate_left
  ·exact DV (X:=⟨cfg,vn,gP cfg FT iq (n+1)⟩) hb
  refine jO ?_
  by_cases hx:rb x (iv o,r.av cI)
  ·rw [decide_eq_true hx]
   rw [if_pos hx] at hg
   rw [hg] at hper hlen
   refine jT ?_
   refine jg ?_
   refine jV ?_
   refine jV ?_
   refine jV ?_
   have hm:l.length+([o]:List Int).length<=o5:=by
    rcases hlen with h | h<;>first | (cases h; done) | (simp only [o5,List.length_singleton]; omega)
   refine jAp 0 [o] hS (λv' H' hS'=>?_) hm
   refine jV ?_
   refine jO ?_
   exact ⟨_,hlt',v',l++[o],some j,_,H',rfl,rfl,hnd',(hper.symm.trans hpm),hS',λh=>by simp at h,congrArg (λz=>[(1,iv x),(5,z),(12,.undef)]) (hS'.yC (i:=0) rfl 5),rfl⟩
  ·rw [decide_eq_false hx]
   rw [if_neg hx] at hg
   rw [hg] at hper
   refine jF ?_
   refine jk ?_
   exact ⟨_,hlt',v,l,some j,_,H,rfl,rfl,hnd',by simpa using (hper.symm.trans hpm),hS,hv,congrArg (λz=>[(1,iv x),(5,z),(12,.undef)]) (hS.yC (i:=0) rfl 5),rfl⟩
def Q7:fK 137=some (mR (nN cfg vn (gP cfg FT iq) RZ)):=by rfl
def t137 (a0:fq) (a1:Int) (q1:mn a0.pl):Ct 137 [.ip (fq.ai a0) 0 true,iv a1] (λv=>∃ r0:Row Int,(True)/\v=gk r0):=by
 have hlen:a0.gB.length<=1000:=by have:=q1.z.len; simp only [fq.pl,List.length_map] at this; omega
 have hO:Jo (cA iK (Row.av cI) a0.gB):=by
  refine ⟨λp hp=>?_,by simp only [cA,List.length_map]; omega⟩
  obtain ⟨q,hq,rfl⟩:=yz hp
  exact ⟨_,q.2.ji,rfl,by have:=q1.z.2 (q.1,q.2.l) (List.mem_map_of_mem (f:=λp:Int×Row Int=>(p.1,p.2.l)) hq); exact ⟨by omega,by omega⟩⟩
 have hz:∃ r:Row Int,Dz (cA iK (Row.av cI) a0.gB) a1=r.av cI:=by
  have hl:=BF (es:=cA iK (Row.av cI) a0.gB) (x:=a1)
  simp only [cA,List.length_map] at hl
  unfold Dz
  split
  ·exact ⟨⟨[],.nil,Nat.zero_le _,rfl,λ_=>rfl⟩,rfl⟩
  ·exact ⟨⟨iY (zV (cA iK (Row.av cI) a0.gB) a1),.iB,by rw [(kF _).length_eq]; simp only [cA,rI]; omega,rfl,λh=>by cases h⟩,rfl⟩
 obtain ⟨r,hr⟩:=hz
 have hg:=VH (k:=iv a0.elems) (y:=.fm (cA iK (ff.av cI) a0.steps) true) (z:=[.fm (cA iK (Row.av bm.ai) a0.fX) true,.fm (cA iK (Row.av bm.ai) a0.guards) true]) (x:=a1) (s:=true) (s':=true) hO
 intro h
 obtain ⟨v,hc,r',rfl⟩:=Dp (C:=cfg) (F:=FT) (args:=[.ip (fq.ai a0) 0 true,iv a1]) Q7 (λ_=>rfl) ⟨_,hg,r,hr⟩ h
 exact ⟨_,hc,r',zt⟩
def Ys (_a0:fq) (_a1:Int) (_a2:fe) (v:AV):Prop:=∃ r0:Int,((r0=0->By _a0.pl _a0.elems _a2))/\v=iv r0
def t72 (a0:fq) (a1:Int) (a2:fe) (q0:mn a0.pl):Ct 72 [.ip (fq.ai a0) 0 true,iv a1,.agg (fe.ai a2)] (Ys a0 a1 a2):=by
 refine fR SK ?_
 have qB:=q0
 refine gl ?_
 refine fQ (λh1=>?_) (λh1=>?_)
 refine yj ?_
 exact xB ⟨1,bM,rfl⟩
 refine fo ?_
 refine oC (t68 a0 a1 aZ) ?_
 rintro _ ⟨r3,hc2,rfl⟩
 cases r3
 refine fk ?_
 refine oC (t136 a0 a2) ?_
 rintro _ ⟨r5,hc4,rfl⟩
 have hRr:=hc4
 cases r5
 refine gl ?_
 exact xB ⟨1,bM,rfl⟩
 refine hZ ?_
 have hL6:=a2.steps.lk
 refine gL a2.steps ?_
 refine fo ?_
 have hNk7:=a2.steps.lk
 refine e8 a2.steps.l.length (λk7 e h=>(∀ s∈a2.steps.l.take k7,∀ p∈a0.pl.s,s.elem∉p.2)/\At [0,5,31,32,33] [.ip (fq.ai a0) 0 true,.la 5 0,fx a2.steps,cr a2.steps.l.length,cr k7] au.empty [(5,(fe.ai a2))] e h) ?_ (k0:=0) bh ⟨ci,atR⟩
 rintro k7 e h hkk7 ⟨hJ0,hA⟩
 refine aa ?_
 refine fQ (λh8=>?_) (λh8=>?_)
 refine fS ?_
 have hx9:k7<a2.steps.l.length:=by omega
 refine jn k7 a2.steps hx9 ?_
 generalize hqx10:a2.steps.l[k7]=x10
 refine gl ?_
 refine oC (t11 a0 x10.elem aZ) ?_
 rintro _ ⟨r12,hc11,rfl⟩
 have hOw:=hc11
 refine jw (λh13=>?_) (λh13=>?_)
 refine nR ?_
 exact xB ⟨14,bM,rfl⟩
 refine fk ?_
 refine oC (t137 a0 x10.elem aZ) ?_
 rintro _ ⟨r15,hc14,rfl⟩
 have hL16:=r15.lk
 refine gL r15 ?_
 refine jI (λh17=>?_) (λh17=>?_)
 refine fS ?_
 exact xB ⟨14,bM,rfl⟩
 refine gq ?_
 refine be rfl (λ_=>ca rfl rfl rfl (ej ((k7:Int)) 1 aY aY)) ?_
 refine e9 ?_
 exact ⟨by omega,(by exact xF hJ0 bh a6 (hOw.none qB bh)),atR⟩
 refine gl ?_
 have hL18:=a2.gB.lk
 refine gL a2.gB ?_
 refine fo ?_
 have hNk19:=a2.gB.lk
 refine e8 a2.gB.l.length (λiz e h=>At [0,5,52,53,54] [.ip (fq.ai a0) 0 true,.la 5 0,gk a2.gB,cr a2.gB.l.length,cr iz] au.empty [(5,(fe.ai a2))] e h) ?_ (k0:=0) bh atR
 rintro iz e h hkk19 hA
 refine aa ?_
 refine fQ (λh20=>?_) (λh20=>?_)
 refine fS ?_
 have hx21:iz<a2.gB.l.length:=by omega
 refine jn iz a2.gB hx21 ?_
 generalize hqx22:a2.gB.l[iz]=x22
 refine gz ?_
 refine oC (t11 a0 x22 aZ) ?_
 rintro _ ⟨r24,hc23,rfl⟩
 have hOw:=hc23
 refine jw (λh25=>?_) (λh25=>?_)
 refine gz ?_
 exact xB ⟨14,bM,rfl⟩
 refine fk ?_
 refine be rfl (λ_=>ca rfl rfl rfl (ej ((iz:Int)) 1 aY aY)) ?_
 refine e9 ?_
 exact dJ
 refine kP ?_
 refine be rfl (λ_=>AN (xs:=[[fu a2.fX],[fu a2.guards]]) rfl rfl rfl rfl (DX (ei (jS _) fT) (DX (ei (jS _) fT) rfl))) ?_
 refine fk ?_
 refine e8 2 (λmb e h=>(yw a0.pl (λy=>∃ r∈([a2.fX,a2.guards]:List (Row bm)).take mb,y∈r.l))/\At [0,67,68,69] [.ip (fq.ai a0) 0 true,.sl [[fu a2.fX],[fu a2.guards]] (.exact 2),iv 2,cr mb] au.empty [] e h) ?_ (k0:=0) bh ⟨dH,atR⟩
 rintro mb e h hkk26 ⟨hJ2,hA⟩
 refine aa ?_
 refine fQ (λh27=>?_) (λh27=>?_)
 refine fS ?_
 have hx28:mb<(⟨[a2.fX,a2.guards],.exact 2,pd,rfl,capXn⟩:Row (Row bm)).l.length:=by show mb<2; omega
 refine be rfl (λ_=>sJ (n:=mb) (r:=(⟨[a2.fX,a2.guards],.exact 2,pd,rfl,capXn⟩:Row (Row bm))) (enc:=(kq bm.ai)) rfl rfl rfl rfl rfl hx28 rfl) ?_
 generalize hqx29:(⟨[a2.fX,a2.guards],.exact 2,pd,rfl,capXn⟩:Row (Row bm)).l[mb]=x29
 refine gS ?_
 have hL30:=x29.lk
 refine gL x29 ?_
 refine fo ?_
 have hNk31:=x29.lk
 refine e8 x29.l.length (λj3 e h=>(yw a0.pl (λy=>(∃ r∈([a2.fX,a2.guards]:List (Row bm)).take mb,y∈r.l)\/y∈x29.l.take j3))/\At [0,67,68,69,73,74,75] [.ip (fq.ai a0) 0 true,.sl [[fu a2.fX],[fu a2.guards]] (.exact 2),iv 2,cr mb,fu x29,cr x29.l.length,cr j3] au.empty [] e h) ?_ (k0:=0) bh ⟨(by exact Uu hJ2),atR⟩
 rintro j3 e h hkk31 ⟨hJ3,hA⟩
 refine aa ?_
 refine fQ (λh32=>?_) (λh32=>?_)
 refine fS ?_
 have hx33:j3<x29.l.length:=by omega
 refine jn j3 x29 hx33 ?_
 generalize hqx34:x29.l[j3]=x34
 refine gl ?_
 refine oC (t35 a0 x34.elem aZ) ?_
 rintro _ ⟨r36,r37,hc35,rfl⟩
 have hHe:=hc35
 refine gl ?_
 refine iV (λh38=>?_) (λh38=>?_)
 refine fk ?_
 refine iV (λh39=>?_) (λh39=>?_)
 refine fS ?_
 exact xB ⟨15,bM,rfl⟩
 refine gq ?_
 refine be rfl (λ_=>ca rfl rfl rfl (ej ((j3:Int)) 1 aY aY)) ?_
 refine e9 ?_
 exact ⟨by omega,dy,atR⟩
 refine hZ ?_
 refine be rfl (λ_=>ca rfl rfl rfl (ej ((j3:Int)) 1 aY aY)) ?_
 refine e9 ?_
 exact ⟨by omega,dy,atR⟩
 refine gq ?_
 refine be rfl (λ_=>ca rfl rfl rfl (ej ((mb:Int)) 1 aY aY)) ?_
 refine e9 ?_
 exact ⟨by omega,(by exact Nl hJ3 (by simpa using bh) a6 bh),atR⟩
 refine gl ?_
 exact xB ⟨0,bM,rfl⟩
 refine mw ?_
 exact xB ⟨1,bM,rfl⟩
def t73 (a0:rK) (a1:bm) :Ct 73 [.agg (rK.ai a0),.agg (bm.ai a1)] (λv=>∃ r0:Bool,(True)/\v=.bool r0):=by
 refine fR SA ?_
 refine fS ?_
 refine lj ?_
 refine Gs (λh1=>?_) (λh1=>?_)
 refine lY ?_
 have hL2:=a0.pos.lk
 refine fD rfl rfl (λ_=>mj (r:=a0.pos) (enc:=cI) rfl rfl rfl rfl rfl rfl) ?_
 refine wC (λh3=>?_) (λh3=>?_)
 refine vD ?_
 have hx4:(a1.elem).toNat<a0.pos.l.length:=by omega
 refine fD rfl rfl (λ_=>yB (n:=a1.elem) (r:=a0.pos) (enc:=cI) rfl rfl rfl rfl rfl bh hx4 rfl) ?_
 generalize hqx5:a0.pos.l[(a1.elem).toNat]=x5
 refine jG ?_
 refine FK (λh6=>?_) (λh6=>?_)
 refine lu ?_
 refine yy (λh7=>?_) (λh7=>?_)
 refine lu ?_
 exact dK
 refine lu ?_
 exact dI
 refine D3 ?_
 exact dI
 refine MM ?_
 exact dI
 refine aaj ?_
 exact dI
def t141 (a0:fw) (a1:Int) :Ct 141 [.ip (fw.ai a0) 0 false,iv a1] (λv=>∃ r0:Int,∃ r1:Int,(((∃ q,look a1 a0.line=some (r0,q))\/(look a1 a0.line=none/\r0 = -1)))/\v=.fG [iv r0,iv r1]):=by
 refine fR Pm ?_
 refine kS ?_
 refine sg (key:=(a1)) (l:=a0.line) (ek:=iK) (ev:=sb) rfl rfl rfl rfl rfl rfl rfl rfl rfl iF (λy1 h2=>?_) (λh3=>?_)
 refine mw ?_
 refine ze ?_
 exact xG ⟨y1.1,y1.2,dq,rfl⟩
 refine tc ?_
 exact xG ⟨(-1),(-1),dq,rfl⟩
def aba {H:au} (b:Nat) (x:bm) (en:Int) (F:List gh) (hS:Sep H (gi b [iv en]::F)) :∃ v H',fh cfg FT fK true 143 [.agg (bm.ai x),(eX b)] { H with aT:=[] } v H'/\(∃ r0:Bool,(((r0=true->x.elem=en)/\(r0=false->¬ x.elem=en)))/\Sep H' (gi b [iv en]::F)/\v=.bool r0):=by
 refine gO OK ?_
 refine gl ?_
 refine kW 0 hS (iv en) ?_
 refine gN (λh1=>?_) (λh1=>?_)
 refine fo ?_
 have hS2:=Sep.pick hS [0] 1 bf bf
 exact ⟨.bool true,rfl,true,db,Sep.aT hS2 _,rfl⟩
 refine fo ?_
 have hS3:=Sep.pick hS [0] 1 bf bf
 exact ⟨.bool false,rfl,false,db,Sep.aT hS3 _,rfl⟩
def Zg {H:au} (vs:AV) (l:List bm) (b:Nat) (en:Int) (F:List gh) (hS:Sep H (kh bm.ai 2 vs l::gi b [iv en]::F)) (q1:l.length<=1000000):∃ v H',fh cfg FT fK true 215 [vs,.gx 143 [] [(eX b)]] { H with aT:=[] } v H'/\(∃ r0:Int,(((0<=r0->∃ x∈l,x.elem=en)/\(r0<0->∀ x∈l,¬ x.elem=en)))/\Sep H' (kh bm.ai 2 vs l::gi b [iv en]::F)/\v=iv r0):=by
 refine gO Pu ?_
 refine fS ?_
 refine be rfl (λ_=>jC (i:=0) hS rfl rfl rfl rfl rfl rfl rfl) ?_
 refine fo ?_
 refine e8 l.length (λk1 e h=>∃ H2:au,(∀ (i:Nat) (h:i<l.length),i<k1->¬ (l[i]).elem=en)/\Sep H2 (kh bm.ai 2 vs l::gi b [iv en]::F)/\At [0,1,7,8] [vs,.gx 143 [] [(eX b)],cr l.length,cr k1] H2 [] e h) ?_ (k0:=0) bh ⟨H,ct,hS,(fV hS [(0,0)])⟩
 rintro k1 e h hkk1 ⟨H2,hP,hS3,hA⟩
 refine aa ?_
 refine fQ (λh4=>?_) (λh4=>?_)
 refine fk ?_
 refine wz [vs,.gx 143 [] [(eX b)],cr l.length,cr k1] H2 [] ?_ (fV hS3 [(0,0)])
 refine j9 ?_
 have hx5:k1<l.length:=by first | omega | (simp<;>omega) | (simp_all; done) | (simp_all; omega)
 obtain ⟨x6,hqx6⟩:∃ x,l[k1]=x:=⟨_,rfl⟩
 have hinx6:x6∈l:=by rw [<- hqx6]; exact List.getElem_mem _
 have hmx6:=hinx6
 refine lG rfl (iT (i:=0) (m:=k1) (cs:=bm.ai x6) hS3 rfl rfl rfl rfl rfl rfl rfl (gW hx5 hqx6)) ?_
 rintro a7 ⟨ha8,hea9⟩
 refine be rfl (λ_=>lQ (i:=0) (m:=k1) (o:=0) (r:=.agg (bm.ai x6)) (cs:=bm.ai x6) hS3 rfl (gW hx5 hqx6) hea9 rfl rfl ha8) ?_
 have hS10:=Sep.pick hS3 [1,0] 2 bf bf
 refine gA (H:=H2) (args:=[.agg (bm.ai x6)]) (p:=[]) (r:=[(eX b)]) rfl rfl rfl rfl rfl rfl rfl (aba b x6 en (kh bm.ai 2 vs l::F) hS10) ?_
 rintro _ H11 ⟨r14,hc13,hS12,rfl⟩
 have hB:=hc13
 cases r14
 refine fo ?_
 refine wz [vs,.gx 143 [] [(eX b)],cr l.length,cr k1] H11 [] ?_ (fV hS12 [(0,1)])
 refine qg ?_
 refine be rfl (λ_=>ca rfl rfl rfl (ej ((k1:Int)) 1 aY aY)) ?_
 refine e9 ?_
 have hS15:=Sep.pick hS12 [1,0] 2 bf bf
 exact ⟨by omega,H11,(by exact vy (P:=λx:bm=>¬ x.elem=en) a6 hP (hB.2 rfl)),hS15,(fV hS15 [(0,0)])⟩
 refine fS ?_
 have hS16:=Sep.pick hS12 [1,0] 2 bf bf
 exact ⟨cr k1,rfl,((k1:Int)),cV,Sep.aT hS16 _,rfl⟩
 refine gl ?_
 have hS17:=Sep.pick hS3 [0,1] 2 bf bf
 exact ⟨iv (-1),rfl,(-1),cV,Sep.aT hS17 _,rfl⟩
def aat {H:au} (vs:AV) (l:List bm) (b:Nat) (en:Int) (F:List gh) (hS:Sep H (kh bm.ai 2 vs l::gi b [iv en]::F)) (q1:l.length<=1000000):∃ v H',fh cfg FT fK true 142 [vs,.gx 143 [] [(eX b)]] { H with aT:=[] } v H'/\(∃ r0:Bool,(((r0=true->∃ x∈l,x.elem=en)/\(r0=false->∀ x∈l,¬ x.elem=en)))/\Sep H' (kh bm.ai 2 vs l::gi b [iv en]::F)/\v=.bool r0):=by
 refine gO O4 ?_
 refine fS ?_
 have hS1:=Sep.pick hS [0,1] 2 bf bf
 refine gA (H:=H) (args:=[vs,.gx 143 [] [(eX b)]]) (p:=[]) (r:=[]) rfl rfl rfl rfl rfl (ei (Sep.arg (i:=0) hS rfl) (ei rfl fT)) rfl (Zg vs l b en F hS1 aZ) ?_
 rintro _ H2 ⟨r5,hc4,hS3,rfl⟩
 have hIx:=hc4
 refine jw (λh6=>?_) (λh6=>?_)
 refine fo ?_
 have hS7:=Sep.pick hS3 [0,1] 2 bf bf
 exact ⟨.bool true,rfl,true,da,Sep.aT hS7 _,rfl⟩
 refine fo ?_
 have hS8:=Sep.pick hS3 [0,1] 2 bf bf
 exact ⟨.bool false,rfl,false,da,Sep.aT hS8 _,rfl⟩
def t144 (a0:fw) (a1:Int) (a2:Int) :Ct 144 [.ip (fw.ai a0) 0 false,iv a1,iv a2] (λv=>∃ r0:Int,(r0=vT a0 a1 a2)/\v=iv r0):=by
 refine fR O6 ?_
 refine kP ?_
 refine sg (key:=(a1)) (l:=a0.lead) (ek:=iK) (ev:=iK) rfl rfl rfl rfl rfl rfl rfl rfl rfl iF (λy1 h2=>?_) (λh3=>?_)
 refine mw ?_
 refine fQ (λh4=>?_) (λh4=>?_)
 refine kS ?_
 exact xB ⟨0,c9,rfl⟩
 refine fo ?_
 refine jI (λh5=>?_) (λh5=>?_)
 refine gl ?_
 exact xB ⟨0,c9,rfl⟩
 refine fS ?_
 refine gN (λh6=>?_) (λh6=>?_)
 refine fS ?_
 exact xB ⟨1,c9,rfl⟩
 refine gl ?_
 exact xB ⟨2,c9,rfl⟩
 refine TB ?_
 exact xB ⟨0,c9,rfl⟩
def Rc:fK 145=some (mg tD Cp 146 tl):=by rfl
def MC {H:au} (vs:AV) (l:List bm) (F:List gh) (hS:Sep H (kh bm.ai 2 vs l::F)) (q1:l.length<=1000000) (q2:∀ x∈l,ky x.elem/\ky x.pos) (q3:∀ x∈l,0<=x.elem/\x.elem<1000):∃ v H',fh cfg FT fK true 145 [vs,.gx 146 [] []] { H with aT:=[] } v H'/\(∃ lo:List bm,(lo.length=l.length/\∀ x,x∈lo↔x∈l)/\Sep H' (kh bm.ai 2 vs lo::F)/\v=.fG []):=by
 obtain ⟨ds,h1,h2⟩:=HI l q3
 have hl:(nh tl ds).length=l.length:=by simpa using (Is h2).1
 obtain ⟨u,H',hc,hv,hS'⟩:=KN (tp:=tD) (dec:=Cp) (g:=146) (cf:=tl) (Q:=(mg tD Cp 146 tl)) Rc (λ_ _=>rfl) hS q1 q2 h1 hl
 exact ⟨u,H',hc,_,Is h2,hS',hv⟩
def t75 (a0:fw) (a1:fe) (q1:a1.steps.l.length<=12) (q2:CF a0):Ct 75 [.ip (fw.ai a0) 0 false,.agg (fe.ai a1)] (λv=>∃ r0:Row bm,(((∀ y,y∈r0.l↔y∈uR a0 a1.steps.l)/\r0.l.length<=12))/\v=fu r0):=by
 refine fR S0 ?_
 refine mw ?_
 have hL1:=a1.steps.lk
 refine gL a1.steps ?_
 refine fo ?_
 have hS2:=Sep.jZ gJ 2
 have hNk3:=a1.steps.lk
 refine e8 a1.steps.l.length (λk3 e h=>∃ v4:AV,∃ l5:List bm,∃ H6:au,(l5.length<=0+k3)/\(l5=uR a0 (a1.steps.l.take k3))/\(l5.length<=k3)/\Sep H6 (kh bm.ai 2 v4 l5::[])/\At [0,5,11,12,13] [.ip (fw.ai a0) 0 false,v4,fx a1.steps,cr a1.steps.l.length,cr k3] H6 [] e h) ?_ (k0:=0) bh ⟨ee,(([]:List bm)),au.empty,bD,c7,ci,hS2,atR⟩
 rintro k3 e h hkk3 ⟨v4,l5,H6,hl8,hTk,hTl,hS7,hA⟩
 refine aa ?_
 refine fQ (λh9=>?_) (λh9=>?_)
 refine fk ?_
 refine wz [.ip (fw.ai a0) 0 false,v4,fx a1.steps,cr a1.steps.l.length,cr k3] H6 [] ?_ (fV hS7 [(5,0)])
 refine fk ?_
 have hx10:k3<a1.steps.l.length:=by omega
 refine jn k3 a1.steps hx10 ?_
 generalize hqx11:a1.steps.l[k3]=x11
 refine gl ?_
 refine oC (t141 a0 x11.elem) ?_
 rintro _ ⟨r13,r14,hc12,rfl⟩
 have hLine:=hc12; have hLf:=FG hLine
 refine fo ?_
 refine gj (H:=H6) rfl (DN hS7 rfl rfl) ?_
 rintro _ H16 ⟨b15,rfl,hS17⟩
 refine HJ 0 hS17 (iv r13) λH18 hS19=>?_
 refine gq ?_
 refine kW 0 hS19 (iv r13) ?_
 refine fQ (λh20=>?_) (λh20=>?_)
 refine fS ?_
 refine wz [.ip (fw.ai a0) 0 false,v4,fx a1.steps,cr a1.steps.l.length,cr k3] H18 [] ?_ (fV hS19 [(5,1)])
 refine qg ?_
 refine be rfl (λ_=>ca rfl rfl rfl (ej ((k3:Int)) 1 aY aY)) ?_
 refine e9 ?_
 have hS21:=Sep.pick hS19 [1] 2 bf bf
 exact ⟨by omega,v4,l5,H18,aY,cw,bj,hS21,(fV hS21 [(5,0)])⟩
 refine e9 ?_
 refine be rfl (λ_=>yg rfl rfl (xK rfl rfl)) ?_
 have hS22:=Sep.pick hS19 [1,0] 2 bf bf
 refine gA (H:=H18) (args:=[v4,.gx 143 [] [(eX b15)]]) (p:=[]) (r:=[]) rfl rfl rfl rfl rfl (ei (Sep.arg (i:=1) hS19 rfl) (ei rfl fT)) rfl (aat v4 l5 b15 r13 ([]) hS22 aZ) ?_
 rintro _ H23 ⟨r26,hc25,hS24,rfl⟩
 have hCt:=hc25
 cases r26
 refine fk ?_
 refine wz [.ip (fw.ai a0) 0 false,v4,.la 7 0,(eX b15),fx a1.steps,cr a1.steps.l.length,cr k3] H23 [(7,(fi.ai x11))] ?_ (fV hS24 [(5,0)])
 refine lj ?_
 refine l3 1 hS24 (iv r13) ?_
 refine lY ?_
 refine rC (t144 a0 x11.elem x11.kH) ?_
 rintro _ ⟨r28,hc27,rfl⟩
 have hLd:=hc27
 refine lj ?_
 refine A1 0 [(⟨r13,r28⟩:bm)] hS24 λv29 H30 hS31=>?_
 refine lj ?_
 refine wz [.ip (fw.ai a0) 0 false,v29,fx a1.steps,cr a1.steps.l.length,cr k3] H30 [] ?_ (fV hS31 [(5,0)])
 refine qg ?_
 refine be rfl (λ_=>ca rfl rfl rfl (ej ((k3:Int)) 1 aY aY)) ?_
 refine e9 ?_
 have hS32:=Sep.pick hS31 [0] 2 bf bf
 exact ⟨by omega,v29,((l5++[(⟨r13,r28⟩:bm)])),H30,aY,cw,bj,hS32,(fV hS32 [(5,0)])⟩
 refine fk ?_
 refine wz [.ip (fw.ai a0) 0 false,v4,fx a1.steps,cr a1.steps.l.length,cr k3] H23 [] ?_ (fV hS24 [(5,0)])
 refine qg ?_
 refine be rfl (λ_=>ca rfl rfl rfl (ej ((k3:Int)) 1 aY aY)) ?_
 refine e9 ?_
 have hS33:=Sep.pick hS24 [0] 2 bf bf
 exact ⟨by omega,v4,l5,H23,aY,cw,bj,hS33,(fV hS33 [(5,0)])⟩
 refine fk ?_
 refine wz [v4] H6 [] ?_ (fV hS7 [(5,0)])
 refine fo ?_
 have hrA:=QR q2 hTk
 have hrB:=λx hx=>And.intro (XH (hrA x hx)) (Xa (hrA x hx))
 have hrC:=λx hx=>V5 (hrA x hx)
 have hS34:=Sep.pick hS7 [0] 1 bf bf
 refine gA (H:=H6) (args:=[v4,.gx 146 [] []]) (p:=[]) (r:=[]) rfl rfl rfl rfl rfl (ei (Sep.arg (i:=0) hS7 rfl) (ei rfl fT)) rfl (MC v4 l5 ([]) hS34 aZ aZ aZ) ?_
 rintro _ H35 ⟨lo38,hc37,hS36,rfl⟩
 have hSo:=hc37
 have hsl2:=hc37.1
 refine gz ?_
 obtain ⟨r39,hl40,hf41⟩:=iZ (H:=H35) (i:=0) (l:=lo38) (enc:=bm.ai) hS36 rfl a8
 have hlq:=hl40; have hln43:=congrArg List.length hl40
 have hz42:∀ m,freeze false { H35 with aT:=[] } (m+2) v4=some (fu r39):=λm=>hf41 _ _ (λ_=>rfl)
 exact ⟨v4,(ia (vs:=[v4]) rfl (ei (Sep.arg (i:=0) hS36 rfl) fT)),fu r39,(show freeze false { H35 with aT:=[] } 8 v4=some (fu r39) by simp only [FZ,hz42]),r39,(by exact ⟨λy=>by rw [hlq]; exact (hSo.2 y).trans (by rw [<- SJ hTk bh]),by omega⟩),rfl⟩
def t139 (a0:iy) (a1:Int) :Ct 139 [.ip (iy.ai a0) 0 true,iv a1] (λv=>∃ r0:Int,(True)/\v=iv r0):=by
 refine fR PQ ?_
 refine hZ ?_
 refine e8 3 (λk1 e h=>(1<=k1)/\At [0,1,5] [.ip (iy.ai a0) 0 true,iv a1,cr k1] au.empty [] e h) ?_ (k0:=1) bh ⟨bh,atR⟩
 rintro k1 e h hkk1 ⟨hw2,hA⟩
 refine aC ?_
 refine xz (λh3=>?_) (λh3=>?_)
 refine mw ?_
 refine LX (key:=(⟨a1,((k1:Int))⟩:bm)) (l:=a0.runs) (ek:=nK) (ev:=bK) rfl rfl rfl rfl rfl rfl rfl rfl rfl Dj (λy4 h5=>?_) (λh6=>?_)
 cases y4
 refine gq ?_
 refine be rfl (λ_=>ca rfl rfl rfl (ej ((k1:Int)) 1 aY aY)) ?_
 refine e9 ?_
 exact dX
 refine fS ?_
 exact xB ⟨((k1:Int)),zt⟩
 refine gq ?_
 refine be rfl (λ_=>ca rfl rfl rfl (ej ((k1:Int)) 1 aY aY)) ?_
 refine e9 ?_
 exact dX
 refine fS ?_
 exact dY
def t140 (a0:iy) (a1:Int) (a2:ff Bool) (a3:fq) (a4:Int) (q0:mn a3.pl) (q1:j1 a0.n.p):Ct 140 [.ip (iy.ai a0) 0 true,iv a1,ff.av fM a2,.ip (fq.ai a3) 0 true,iv a4] (λv=>∃ r0:Bool,(True)/\v=.bool r0):=by
 refine fR N6 ?_
 have hFe:=q1.elems
 refine kP ?_
 refine oC (t21 a0.n) ?_
 rintro _ ⟨r2,hc1,rfl⟩
 refine fo ?_
 refine e8 ((r2).toNat) (λk3 e h=>At [0,1,2,3,4,18,19] [.ip (iy.ai a0) 0 true,iv a1,ff.av fM a2,.ip (fq.ai a3) 0 true,iv a4,iv r2,cr k3] au.empty [] e h) ?_ (k0:=0) bh atR
 rintro k3 e h hkk3 hA
 refine aa ?_
 refine fQ (λh4=>?_) (λh4=>?_)
 refine yj ?_
 refine oC (t141 a0.n ((k3:Int))) ?_
 rintro _ ⟨r6,r7,hc5,rfl⟩
 have hLine:=hc5; have hLf:=FG hLine
 refine hZ ?_
 refine gN (λh8=>?_) (λh8=>?_)
 refine fo ?_
 have hL9:=a2.lk
 refine be rfl (λ_=>mj (r:=a2) (enc:=fM) rfl rfl rfl rfl rfl rfl) ?_
 refine fQ (λh10=>?_) (λh10=>?_)
 refine fo ?_
 have hx11:k3<a2.l.length:=by omega
 refine be rfl (λ_=>nA (n:=k3) (r:=a2) (enc:=fM) rfl rfl rfl rfl rfl hx11 rfl) ?_
 generalize hqx12:a2.l[k3]=x12
 refine jf (b:=x12) rfl (λ_=>rfl) (λh13=>?_) (λh13=>?_)
 refine fk ?_
 refine iV (λh14=>?_) (λh14=>?_)
 refine nR ?_
 exact dI
 refine fk ?_
 refine oC (t11 a3 ((k3:Int)) aZ) ?_
 rintro _ ⟨r16,hc15,rfl⟩
 have hOw:=hc15
 refine jw (λh17=>?_) (λh17=>?_)
 refine gl ?_
 exact dI
 refine gS ?_
 refine be rfl (λ_=>ca rfl rfl rfl (ej ((k3:Int)) 1 aY aY)) ?_
 refine e9 ?_
 exact dJ
 refine gl ?_
 refine oC (t11 a3 ((k3:Int)) aZ) ?_
 rintro _ ⟨r19,hc18,rfl⟩
 have hOw:=hc18
 refine jw (λh20=>?_) (λh20=>?_)
 refine gl ?_
 exact dI
 refine gS ?_
 refine be rfl (λ_=>ca rfl rfl rfl (ej ((k3:Int)) 1 aY aY)) ?_
 refine e9 ?_
 exact dJ
 refine mw ?_
 refine oC (t11 a3 ((k3:Int)) aZ) ?_
 rintro _ ⟨r22,hc21,rfl⟩
 have hOw:=hc21
 refine jw (λh23=>?_) (λh23=>?_)
 refine gl ?_
 exact dI
 refine gS ?_
 refine be rfl (λ_=>ca rfl rfl rfl (ej ((k3:Int)) 1 aY aY)) ?_
 refine e9 ?_
 exact dJ
 refine FV ?_
 refine be rfl (λ_=>ca rfl rfl rfl (ej ((k3:Int)) 1 aY aY)) ?_
 refine e9 ?_
 exact dJ
 refine gl ?_
 exact dK
def YG (_a0:iy) (_a1:fe) (_a2:ff Bool) (_a3:fq) (v:AV):Prop:=∃ r0:Int,(True)/\v=iv r0
def t74 (a0:iy) (a1:fe) (a2:ff Bool) (a3:fq) (q0:mn a3.pl) (q1:j1 a0.n.p) (q2:a1.steps.l.length<=12) (q3:CF a0.n):Ct 74 [.ip (iy.ai a0) 0 true,.agg (fe.ai a1),ff.av fM a2,.ip (fq.ai a3) 0 true] (YG a0 a1 a2 a3):=by
 refine fR SR ?_
 refine j9 ?_
 refine vD ?_
 refine rC (t138 a0.n a1.from_) ?_
 rintro _ ⟨r2,r3,hc1,rfl⟩
 have hA:=hc1.1; have hA0:=hc1.2
 cases r3
 refine D3 ?_
 refine gz ?_
 refine lY ?_
 refine rC (t75 a0.n a1 aZ aZ) ?_
 rintro _ ⟨r5,hc4,rfl⟩
 have hTw:=hc4.1; have hTwl:=hc4.2
 have hL6:=r5.lk
 refine rl r5 ?_
 refine jG ?_
 have hNk7:=r5.lk
 refine e8 r5.l.length (λk7 e h=>At [0,2,3,9,33,34,35] [.ip (iy.ai a0) 0 true,ff.av fM a2,.ip (fq.ai a3) 0 true,iv (-1),fu r5,cr r5.l.length,cr k7] au.empty [] e h) ?_ (k0:=0) bh atR
 rintro k7 e h hkk7 hA
 refine yQ hA ?_
 clear hA
 refine e9 ?_
 refine fQ (λh8=>?_) (λh8=>?_)
 refine fS ?_
 have hx9:k7<r5.l.length:=by omega
 refine jn k7 r5 hx9 ?_
 generalize hqx10:r5.l[k7]=x10
 refine gl ?_
 refine oC (t139 a0 x10.elem) ?_
 rintro _ ⟨r12,hc11,rfl⟩
 refine gq ?_
 refine iV (λh13=>?_) (λh13=>?_)
 refine fk ?_
 refine iV (λh14=>?_) (λh14=>?_)
 refine fS ?_
 refine oC (t140 a0 x10.elem a2 a3 (-1) aZ aZ) ?_
 rintro _ ⟨r16,hc15,rfl⟩
 cases r16
 refine gl ?_
 exact xB ⟨8,zt⟩
 refine gS ?_
 refine be rfl (λ_=>ca rfl rfl rfl (ej ((k7:Int)) 1 aY aY)) ?_
 refine e9 ?_
 exact dJ
 refine nR ?_
 refine be rfl (λ_=>ca rfl rfl rfl (ej ((k7:Int)) 1 aY aY)) ?_
 refine e9 ?_
 exact dJ
 refine Bl ?_
 refine be rfl (λ_=>ca rfl rfl rfl (ej ((k7:Int)) 1 aY aY)) ?_
 refine e9 ?_
 exact dJ
 refine gl ?_
 exact dY
 try have hAtR:=hAtR rfl
 refine D3 ?_
 refine kP ?_
 refine lY ?_
 refine rC (t75 a0.n a1 aZ aZ) ?_
 rintro _ ⟨r18,hc17,rfl⟩
 have hTw:=hc17.1; have hTwl:=hc17.2
 have hL19:=r18.lk
 refine rl r18 ?_
 refine jG ?_
 have hNk20:=r18.lk
 refine e8 r18.l.length (λiI e h=>At [0,2,3,9,33,34,35] [.ip (iy.ai a0) 0 true,ff.av fM a2,.ip (fq.ai a3) 0 true,iv r2.elem,fu r18,cr r18.l.length,cr iI] au.empty [] e h) ?_ (k0:=0) bh atR
 rintro iI e h hkk20 hA
 refine yQ hA ?_
 clear hA
 refine e9 ?_
 refine fQ (λh21=>?_) (λh21=>?_)
 refine fS ?_
 have hx22:iI<r18.l.length:=by omega
 refine jn iI r18 hx22 ?_
 generalize hqx23:r18.l[iI]=x23
 refine gl ?_
 refine oC (t139 a0 x23.elem) ?_
 rintro _ ⟨r25,hc24,rfl⟩
 refine gq ?_
 refine iV (λh26=>?_) (λh26=>?_)
 refine fk ?_
 refine iV (λh27=>?_) (λh27=>?_)
 refine fS ?_
 refine oC (t140 a0 x23.elem a2 a3 r2.elem aZ aZ) ?_
 rintro _ ⟨r29,hc28,rfl⟩
 cases r29
 refine gl ?_
 exact xB ⟨8,zt⟩
 refine gS ?_
 refine be rfl (λ_=>ca rfl rfl rfl (ej ((iI:Int)) 1 aY aY)) ?_
 refine e9 ?_
 exact dJ
 refine nR ?_
 refine be rfl (λ_=>ca rfl rfl rfl (ej ((iI:Int)) 1 aY aY)) ?_
 refine e9 ?_
 exact dJ
 refine Bl ?_
 refine be rfl (λ_=>ca rfl rfl rfl (ej ((iI:Int)) 1 aY aY)) ?_
 refine e9 ?_
 exact dJ
 refine gl ?_
 exact dY
def YN (_a0:fz) (_a1:ff fC) (_a2:fq) (_a3:iy) (_a4:rK) (_a5:Int) (v:AV):Prop:=∃ r0:Int,((r0=0->TT _a0 _a1.l _a2.pl _a2.elems _a5))/\v=iv r0
def t29 (a0:fz) (a1:ff fC) (a2:fq) (a3:iy) (a4:rK) (a5:Int) (q0:mn a2.pl) (q1:j1 a3.n.p) (q2:∀ r∈a0.roads.l,r.steps.l.length<=12/\r.fX.l.length<=12/\r.guards.l.length<=1000/\r.gB.l.length<=12) (q3:CF a3.n):Ct 29 [.agg (fz.ai a0),ff.av fC.ai a1,.ip (fq.ai a2) 0 true,.ip (iy.ai a3) 0 true,.agg (rK.ai a4),iv a5] (YN a0 a1 a2 a3 a4 a5):=by
 refine fR Ml ?_
 refine gS ?_
 refine qH ?_
 refine fk ?_
 refine fQ (λh1=>?_) (λh1=>?_)
 refine mw ?_
 exact xB ⟨10,bF,rfl⟩
 refine fk ?_
 have hL2:=a0.roads.lk
 refine gL a0.roads ?_
 refine jw (λh3=>?_) (λh3=>?_)
 refine fS ?_
 exact xB ⟨10,bF,rfl⟩
 refine gl ?_
 have hx4:(a5).toNat<a0.roads.l.length:=by omega
 refine pa a5 a0.roads hx4 ?_
 generalize hqx5:a0.roads.l[(a5).toNat]=x5
 have hinx5:x5∈a0.roads.l:=by rw [<- hqx5]; exact List.getElem_mem _
 have hsx5:=q2 x5 hinx5; have hrx5:=hsx5.1; have hnx5:=hsx5.2.1; have hgx5:=hsx5.2.2.1; have hzx5:=hsx5.2.2.2
 refine fS ?_
 refine jf (b:=x5.bare) rfl (λ_=>rfl) (λh6=>?_) (λh6=>?_)
 refine gz ?_
 exact xB ⟨11,bF,rfl⟩
 refine fS ?_
 have hL7:=a0.roads.lk
 refine gL a0.roads ?_
 refine fo ?_
 have hNk8:=a0.roads.lk
 refine e8 a0.roads.l.length (λk8 e h=>((a5<k8->sN a1.l a5))/\At [1,2,3,5,6,10,13,40,41,42] [ff.av fC.ai a1,.ip (fq.ai a2) 0 true,.ip (iy.ai a3) 0 true,iv a5,.la 6 0,.la 10 0,.la 13 0,gm a0.roads,cr a0.roads.l.length,cr k8] au.empty [(6,(fz.ai a0)),(10,(rK.ai a4)),(13,(fe.ai x5))] e h) ?_ (k0:=0) bh ⟨(by (intro h; exfalso; omega)),atR⟩
 rintro k8 e h hkk8 ⟨hSm,hA⟩
 refine aa ?_
 refine fQ (λh9=>?_) (λh9=>?_)
 refine gl ?_
 have hx10:k8<a0.roads.l.length:=by omega
 refine jn k8 a0.roads hx10 ?_
 generalize hqx11:a0.roads.l[k8]=x11
 have hinx11:x11∈a0.roads.l:=by rw [<- hqx11]; exact List.getElem_mem _
 have hsx11:=q2 x11 hinx11; have hrx11:=hsx11.1; have hnx11:=hsx11.2.1; have hgx11:=hsx11.2.2.1; have hzx11:=hsx11.2.2.2
 refine gl ?_
 refine gN (λh12=>?_) (λh12=>?_)
 refine hZ ?_
 refine oC (t70 a1 ((k8:Int)) aZ) ?_
 rintro _ ⟨r14,hc13,rfl⟩
 have hId:=hc13
 cases r14
 refine gl ?_
 exact xB ⟨12,bF,rfl⟩
 refine gS ?_
 refine be rfl (λ_=>ca rfl rfl rfl (ej ((k8:Int)) 1 aY aY)) ?_
 refine e9 ?_
 exact eD
 refine gq ?_
 refine gN (λh15=>?_) (λh15=>?_)
 refine fk ?_
 refine oC (t70 a1 ((k8:Int)) aZ) ?_
 rintro _ ⟨r17,hc16,rfl⟩
 have hId:=hc16
 cases r17
 refine gl ?_
 exact xB ⟨12,bF,rfl⟩
 refine gS ?_
 refine be rfl (λ_=>ca rfl rfl rfl (ej ((k8:Int)) 1 aY aY)) ?_
 refine e9 ?_
 exact eD
 refine kP ?_
 refine be rfl (λ_=>ca rfl rfl rfl (ej ((k8:Int)) 1 aY aY)) ?_
 refine e9 ?_
 exact eD
 refine gl ?_
 have hL18:=x5.steps.lk
 refine gL x5.steps ?_
 refine fo ?_
 have hNk19:=x5.steps.lk
 refine e8 x5.steps.l.length (λiz e h=>At [2,3,5,6,10,13,65,66,67] [.ip (fq.ai a2) 0 true,.ip (iy.ai a3) 0 true,iv a5,.la 6 0,.la 10 0,.la 13 0,fx x5.steps,cr x5.steps.l.length,cr iz] au.empty [(6,(fz.ai a0)),(10,(rK.ai a4)),(13,(fe.ai x5))] e h) ?_ (k0:=0) bh atR
 rintro iz e h hkk19 hA
 refine aa ?_
 refine fQ (λh20=>?_) (λh20=>?_)
 refine fS ?_
 have hx21:iz<x5.steps.l.length:=by omega
 refine jn iz x5.steps hx21 ?_
 generalize hqx22:x5.steps.l[iz]=x22
 refine hZ ?_
 refine oC (t71 a0 a4 x22.elem) ?_
 rintro _ ⟨r24,hc23,rfl⟩
 cases r24
 refine fk ?_
 refine be rfl (λ_=>ca rfl rfl rfl (ej ((iz:Int)) 1 aY aY)) ?_
 refine e9 ?_
 exact dJ
 refine gz ?_
 exact xB ⟨13,bF,rfl⟩
 refine gl ?_
 have hL25:=x5.gB.lk
 refine gL x5.gB ?_
 refine fo ?_
 have hNk26:=x5.gB.lk
 refine e8 x5.gB.l.length (λmb e h=>At [2,3,5,6,10,13,78,79,80] [.ip (fq.ai a2) 0 true,.ip (iy.ai a3) 0 true,iv a5,.la 6 0,.la 10 0,.la 13 0,gk x5.gB,cr x5.gB.l.length,cr mb] au.empty [(6,(fz.ai a0)),(10,(rK.ai a4)),(13,(fe.ai x5))] e h) ?_ (k0:=0) bh atR
 rintro mb e h hkk26 hA
 refine aa ?_
 refine fQ (λh27=>?_) (λh27=>?_)
 refine fS ?_
 have hx28:mb<x5.gB.l.length:=by omega
 refine jn mb x5.gB hx28 ?_
 generalize hqx29:x5.gB.l[mb]=x29
 refine fS ?_
 refine oC (t71 a0 a4 x29) ?_
 rintro _ ⟨r31,hc30,rfl⟩
 cases r31
 refine fk ?_
 refine be rfl (λ_=>ca rfl rfl rfl (ej ((mb:Int)) 1 aY aY)) ?_
 refine e9 ?_
 exact dJ
 refine gz ?_
 exact xB ⟨13,bF,rfl⟩
 refine hZ ?_
 refine oC (t72 a2 a5 x5 aZ) ?_
 rintro _ ⟨r33,hc32,rfl⟩
 have hMy:=hc32
 refine gq ?_
 refine iV (λh34=>?_) (λh34=>?_)
 refine fS ?_
 exact xB ⟨r33,bF,rfl⟩
 refine fS ?_
 refine lY ?_
 refine lB (H:=au.empty) (args:=[fu x5.fX]) (p:=[]) (r:=[]) rfl rfl rfl rfl rfl rfl rfl rfl (u65 (Row.ji x5.fX) ([]) gJ aZ) ?_
 rintro ov39 H36 ⟨_,ol40,hc38,hS37,rfl⟩
 refine ⟨λcall=>(nz (gC (v:=fu x5.guards) rfl rfl rfl rfl rfl (lf w7))),?_⟩
 have hqF:ol40.length=(Row.ji x5.fX).l.length:=by rw [hc38]
 try simp only [Row.ji] at hqF
 have hOl:=hc38
 try simp only [List.length_nil] at hqF
 have hL41:=x5.guards.lk
 have hz45:(ol40++x5.guards.l).length=ol40.length+x5.guards.l.length:=List.length_append
 refine A1 0 x5.guards.l hS37 λv42 H43 hS44=>?_
 refine fD rfl rfl (λ_=>jC (i:=0) hS44 rfl rfl rfl rfl rfl rfl rfl) ?_
 refine lj ?_
 refine e8 ((ol40++x5.guards.l).length) (λmJ e h=>At [2,3,6,10,13,101,102,103] [.ip (fq.ai a2) 0 true,.ip (iy.ai a3) 0 true,.la 6 0,.la 10 0,.la 13 0,v42,iv ((ol40++x5.guards.l).length:Int),cr mJ] H43 [(6,(fz.ai a0)),(10,(rK.ai a4)),(13,(fe.ai x5))] e h) ?_ (k0:=0) bh (fV hS44 [(101,0)])
 rintro mJ e h hkk46 hA
 refine aa ?_
 refine fQ (λh47=>?_) (λh47=>?_)
 refine fk ?_
 refine wz [.ip (fq.ai a2) 0 true,.ip (iy.ai a3) 0 true,.la 6 0,.la 10 0,.la 13 0,v42,iv ((ol40++x5.guards.l).length:Int),cr mJ] H43 [(6,(fz.ai a0)),(10,(rK.ai a4)),(13,(fe.ai x5))] ?_ (fV hS44 [(101,0)])
 refine fk ?_
 have hx48:mJ<(ol40++x5.guards.l).length:=by first | omega | (simp<;>omega) | (simp_all; done) | (simp_all; omega)
 obtain ⟨x49,hqx49⟩:∃ x,(ol40++x5.guards.l)[mJ]=x:=⟨_,rfl⟩
 refine lG rfl (iT (i:=0) (m:=mJ) (cs:=bm.ai x49) hS44 rfl rfl rfl rfl rfl rfl rfl (gW hx48 hqx49)) ?_
 rintro a50 ⟨ha51,hea52⟩
 refine be rfl (λ_=>lQ (i:=0) (m:=mJ) (o:=0) (r:=.agg (bm.ai x49)) (cs:=bm.ai x49) hS44 rfl (gW hx48 hqx49) hea52 rfl rfl ha51) ?_
 refine fS ?_
 refine oC (t73 a4 x49) ?_
 rintro _ ⟨r54,hc53,rfl⟩
 cases r54
 refine gl ?_
 refine oC (t71 a0 a4 x49.elem) ?_
 rintro _ ⟨r56,hc55,rfl⟩
 cases r56
 refine fk ?_
 refine wz [.ip (fq.ai a2) 0 true,.ip (iy.ai a3) 0 true,.la 6 0,.la 10 0,.la 13 0,v42,iv ((ol40++x5.guards.l).length:Int),cr mJ] H43 [(6,(fz.ai a0)),(10,(rK.ai a4)),(13,(fe.ai x5))] ?_ (fV hS44 [(101,0)])
 refine qg ?_
 refine be rfl (λ_=>ca rfl rfl rfl (ej ((mJ:Int)) 1 aY aY)) ?_
 refine e9 ?_
 exact eE
 refine fS ?_
 exact xB ⟨15,bF,rfl⟩
 refine fk ?_
 refine wz [.ip (fq.ai a2) 0 true,.ip (iy.ai a3) 0 true,.la 6 0,.la 10 0,.la 13 0,v42,iv ((ol40++x5.guards.l).length:Int),cr mJ] H43 [(6,(fz.ai a0)),(10,(rK.ai a4)),(13,(fe.ai x5))] ?_ (fV hS44 [(101,0)])
 refine qg ?_
 refine be rfl (λ_=>ca rfl rfl rfl (ej ((mJ:Int)) 1 aY aY)) ?_
 refine e9 ?_
 exact eE
 refine kP ?_
 refine oC (t74 a3 x5 a4.Gy a2 aZ aZ aZ aZ) ?_
 rintro _ ⟨r58,hc57,rfl⟩
 refine fo ?_
 exact xB ⟨r58,bF,rfl⟩
def u30 {H:au} (bt:Nat) (nt:fw) (vmr:AV) (ru:List (bm×Bool)) (bb:Nat) (ke:Int) (vms:AV) (y:List (Int×(AV×List Int))) (vmz:AV) (z:List (Int×Row Int)) (vmd:AV) (dn:List (Int×Row bm)) (vmg:AV) (gn:List (Int×Row bm)) (r:fe) (voc:AV) (ol:List Bool) (F:List gh) (hS:Sep H (gi bt [.ip (fw.ai nt) 0 false,vmr]::.map vmr (cA nK bK ru)::gi bb [iv ke,vms,vmz,vmd,vmg]::.map vms (cA iK kx y)::.map vmz (cA iK (Row.av cI) z)::.map vmd (cA iK (Row.av bm.ai) dn)::.map vmg (cA iK (Row.av bm.ai) gn)::gy fM 1 voc ol::F)) (hBk:mn (rL y z dn gn)) (hFam:lP y F) (q1:j1 nt.p) (q2:r.steps.l.length<=12) (q3:CF nt) (q4:ol.length<=1000):∃ v H',fh cfg FT fK true 30 [(eX bt),.agg (fe.ai r),voc,(eX bb)] { H with aT:=[] } v H'/\(∃ r0:Int,∃ ru1:List (bm×Bool),(True)/\Sep H' (gi bt [.ip (fw.ai nt) 0 false,vmr]::.map vmr (cA nK bK ru1)::gi bb [iv ke,vms,vmz,vmd,vmg]::.map vms (cA iK kx y)::.map vmz (cA iK (Row.av cI) z)::.map vmd (cA iK (Row.av bm.ai) dn)::.map vmg (cA iK (Row.av bm.ai) gn)::gy fM 1 voc ol::F)/\v=iv r0):=by
 refine gO RJ ?_
 refine j9 ?_
 have hz1:∀ m,freeze true { H with aT:=[] } (m+3) vmr=some (.fm (cA nK bK ru) true):=λm=>gU (i:=1) hS rfl [] _ (ij λ_=>rfl)
 have hz2:∀ m,freeze true { H with aT:=[] } (m+4) (eX bt)=some (.ip [.ip (fw.ai nt) 0 false,.fm (cA nK bK ru) true] 0 true):=λm=>jh (i:=0) hS rfl [] _ (by simp only [FZ,hz1]; try rfl)
 refine lJ hS 7 λr3 hl4 hln7 hz6=>?_
 obtain ⟨S8,hm9,hz10⟩:=qU hS (i:=3) rfl hFam.cons.cons.cons.cons.cons.cons.cons.cons
 have hz11:∀ m,freeze true { H with aT:=[] } (m+3) vmz=some (.fm (cA iK (Row.av cI) z) true):=λm=>gU (i:=4) hS rfl [] _ (ij λ_=>iE _)
 have hz12:∀ m,freeze true { H with aT:=[] } (m+3) vmd=some (.fm (cA iK (Row.av bm.ai) dn) true):=λm=>gU (i:=5) hS rfl [] _ (ij λ_=>iE _)
 have hz13:∀ m,freeze true { H with aT:=[] } (m+3) vmg=some (.fm (cA iK (Row.av bm.ai) gn) true):=λm=>gU (i:=6) hS rfl [] _ (ij λ_=>iE _)
 have hz14:∀ m,freeze true { H with aT:=[] } (m+4) (eX bb)=some (.ip [iv ke,.fm (cA iK (ff.av cI) S8) true,.fm (cA iK (Row.av cI) z) true,.fm (cA iK (Row.av bm.ai) dn) true,.fm (cA iK (Row.av bm.ai) gn) true] 0 true):=λm=>jh (i:=2) hS rfl [] _ (by simp only [FZ,hz1,hz2,hz6,hz10,hz11,hz12,hz13]; try rfl)
 have hBq:mn (⟨ke,S8,z,dn,gn⟩:fq).pl:=by rw [sx hm9]; exact hBk
 refine kD (args:=[(eX bt),.agg (fe.ai r),voc,(eX bb)]) (p:=[]) (r:=[]) (args':=[.ip [.ip (fw.ai nt) 0 false,.fm (cA nK bK ru) true] 0 true,.agg (fe.ai r),ff.av fM r3,.ip [iv ke,.fm (cA iK (ff.av cI) S8) true,.fm (cA iK (Row.av cI) z) true,.fm (cA iK (Row.av bm.ai) dn) true,.fm (cA iK (Row.av bm.ai) gn) true] 0 true]) (R:=YG (⟨nt,ru⟩:iy) r r3 (⟨ke,S8,z,dn,gn⟩:fq)) rfl rfl rfl rfl rfl (ei rfl (ei rfl (ei (Sep.arg (i:=7) hS rfl) (ei rfl fT)))) rfl cC (gG (by show fU (freeze true { H with aT:=[] } 8) [(eX bt),.agg (fe.ai r),voc,(eX bb)] = _; simp only [FZ,hz1,hz2,hz6,hz10,hz11,hz12,hz13,hz14]) (ei rfl (ei rfl (ei (Sep.qE (i:=7) hS rfl) (ei rfl fT))))) (gG bV (ei rfl (ei rfl (ei rfl (ei rfl fT))))) (λh=>t74 (⟨nt,ru⟩:iy) r r3 (⟨ke,S8,z,dn,gn⟩:fq) aZ aZ aZ aZ h) ?_
 rintro _ ⟨r16,hc15,rfl⟩
 refine gq ?_
 refine iV (λh17=>?_) (λh17=>?_)
 refine fS ?_
 have hS18:=Sep.pick hS [0,1,2,3,4,5,6,7] 8 bf bf
 exact ⟨iv r16,rfl,r16,ru,zT,Sep.aT hS18 _,rfl⟩
 refine aG ?_
 refine nW 0 hS ?_
 refine mS 0 hS ?_
 refine l3 0 hS (.ip (fw.ai nt) 0 false) ?_
 refine rV ?_
 refine rC (t75 nt r aZ aZ) ?_
 rintro _ ⟨r20,hc19,rfl⟩
 have hTw:=hc19.1; have hTwl:=hc19.2
 have hL21:=r20.lk
 refine rl r20 ?_
 refine jG ?_
 have hNk22:=r20.lk
 refine e8 r20.l.length (λme e h=>∃ l23:List (bm×Bool),∃ H24:au,Sep H24 (gi bt [.ip (fw.ai nt) 0 false,vmr]::.map vmr (cA nK bK l23)::gi bb [iv ke,vms,vmz,vmd,vmg]::.map vms (cA iK kx y)::.map vmz (cA iK (Row.av cI) z)::.map vmd (cA iK (Row.av bm.ai) dn)::.map vmg (cA iK (Row.av bm.ai) gn)::gy fM 1 voc ol::F)/\At [0,25,26,27] [(eX bt),fu r20,cr r20.l.length,cr me] H24 [] e h) ?_ (k0:=0) bh ⟨ru,H,hS,atR⟩
 rintro me e h hkk22 ⟨l23,H24,hS25,hA⟩
 refine aa ?_
 refine fQ (λh26=>?_) (λh26=>?_)
 refine fS ?_
 have hx27:me<r20.l.length:=by omega
 refine jn me r20 hx27 ?_
 generalize hqx28:r20.l[me]=x28
 refine aG ?_
 refine nW 0 hS25 ?_
 refine mS 0 hS25 ?_
 refine l3 0 hS25 vmr ?_
 refine lu ?_
 refine fD rfl rfl (λ_=>ca rfl rfl rfl (pJ .i64 3 x28.pos)) ?_
 refine rV ?_
 refine iH rfl rfl (QF (H:=H24) (i:=1) (ek:=nK) (ev:=bK) (l:=l23) ((⟨x28.elem,(IntKind.i64.wrap (3 - x28.pos))⟩:bm)) hS25 rfl rfl rfl rfl rfl rfl rfl Dj) ?_
 rintro _ H29 ⟨rfl,l31,hd32,hS30⟩
 refine jG ?_
 refine nW 0 hS30 ?_
 refine mS 0 hS30 ?_
 refine l3 0 hS30 vmr ?_
 refine rV ?_
 refine iH rfl rfl (kI (H:=H29) (i:=1) (ek:=nK) (ev:=bK) (l:=l31) x28 true hS30 rfl rfl rfl rfl rfl rfl Dj) ?_
 rintro _ H33 ⟨rfl,hS34⟩
 refine lj ?_
 refine be rfl (λ_=>ca rfl rfl rfl (ej ((me:Int)) 1 aY aY)) ?_
 refine e9 ?_
 exact ⟨by omega,((put x28 true l31)),H33,hS34,atR⟩
 refine gl ?_
 have hS35:=Sep.pick hS25 [0,1,2,3,4,5,6,7] 8 bf bf
 exact ⟨iv 0,rfl,0,l23,zT,Sep.aT hS35 _,rfl⟩
def t38 (a0:ff Int) (q1:a0.l.length<=1000000):Ct 38 [nj a0] (λv=>∃ r0:Row Int,(r0.l=a0.l)/\v=gk r0):=by
 refine fR IU ?_
 refine fS ?_
 refine jf (b:=a0.isNil) rfl (λ_=>mi rfl rfl rfl rfl) (λh1=>?_) (λh1=>?_)
 refine gz ?_
 exact xG ⟨(kZ:Row Int),bO,rfl⟩
 refine fo ?_
 refine wy [nj a0] [] ?_
 refine fk ?_
 have hS2:=Sep.nk gJ 1
 refine gj rfl (mY (i:=0) (l:=([]:List Int)) (enc:=cI) a0.l hS2 rfl rfl rfl rfl rfl rfl rfl rfl rfl (λ_=>rfl) (.inl rfl) bE (λ_=>rfl)) ?_
 rintro v3 H4 hS5
 refine fo ?_
 obtain ⟨r6,hl7,hf8⟩:=iZ (H:=H4) (i:=0) (l:=(([]:List Int)++a0.l)) (enc:=cI) hS5 rfl a8
 have hlq:=hl7; have hln10:=congrArg List.length hl7
 have hz9:∀ m,freeze false { H4 with aT:=[] } (m+2) v3=some (gk r6):=λm=>hf8 _ _ (λ_=>rfl)
 exact ⟨v3,(ia (vs:=[v3]) rfl (ei (Sep.arg (i:=0) hS5 rfl) fT)),gk r6,(show freeze false { H4 with aT:=[] } 8 v3=some (gk r6) by simp only [FZ,hz9]),r6,bO,rfl⟩
def aa2 {H:au} (a0:ff Int) (F:List gh) (hS:Sep H F) (q1:a0.l.length<=1000):∃ v H',fh cfg FT fK true 38 [nj a0] { H with aT:=[] } v H'/\(∃ ov:AV,∃ ol:List Int,(ol=a0.l)/\Sep H' (kL ov ol::F)/\v=ov):=by
 refine gO IU ?_
 refine fS ?_
 refine jf (b:=a0.isNil) rfl (λ_=>mi rfl rfl rfl rfl) (λh1=>?_) (λh1=>?_)
 refine gz ?_
 have hS2:=Sep.jZ hS 1
 have hS3:=Sep.pick hS2 [0] 1 bf bf
 exact ⟨ee,rfl,ee,([]:List Int),bR,Sep.aT hS3 _,rfl⟩
 refine fo ?_
 refine wz [nj a0] H [] ?_
 refine fk ?_
 have hS4:=Sep.nk hS 1
 refine gj rfl (mY (i:=0) (l:=([]:List Int)) (enc:=cI) a0.l hS4 rfl rfl rfl rfl rfl rfl rfl rfl rfl (λ_=>rfl) (.inl rfl) bE (λ_=>rfl)) ?_
 rintro v5 H6 hS7
 refine fo ?_
 have hS8:=Sep.pick hS7 [0] 1 bf bf
 exact ⟨v5,(ia (vs:=[v5]) rfl (ei (Sep.arg (i:=0) hS7 rfl) fT)),v5,(([]:List Int)++a0.l),bR,Sep.aT hS8 _,rfl⟩
def u31 {H:au} (bb:Nat) (ke:Int) (vms:AV) (y:List (Int×(AV×List Int))) (vmz:AV) (z:List (Int×Row Int)) (vmd:AV) (dn:List (Int×Row bm)) (vmg:AV) (gn:List (Int×Row bm)) (o:Int) (r:fe) (F:List gh) (hS:Sep H (gi bb [iv ke,vms,vmz,vmd,vmg]::.map vms (cA iK kx y)::.map vmz (cA iK (Row.av cI) z)::.map vmd (cA iK (Row.av bm.ai) dn)::.map vmg (cA iK (Row.av bm.ai) gn)::F)) (hBk:mn (rL y z dn gn)) (hFam:lP y F) (q1:0<=o/\o<64) (q2:r.steps.l.length<=12/\r.fX.l.length<=12/\r.guards.l.length<=1000/\r.gB.l.length<=12):∃ v H',fh cfg FT fK true 31 [(eX bb),iv o,.agg (fe.ai r)] { H with aT:=[] } v H'/\(∃ r0:Int,∃ y1:List (Int×(AV×List Int)),∃ z1:List (Int×Row Int),∃ d1:List (Int×Row bm),∃ g1:List (Int×Row bm),∃ N:List gh,(AB y o r y1 z1 d1 g1 N)/\Sep H' (gi bb [iv ke,vms,vmz,vmd,vmg]::.map vms (cA iK kx y1)::.map vmz (cA iK (Row.av cI) z1)::.map vmd (cA iK (Row.av bm.ai) d1)::.map vmg (cA iK (Row.av bm.ai) g1)::(N++F))/\v=iv r0):=by
 refine gO Tj ?_
 obtain ⟨hrS,hrN,hrG,hrZ⟩:=q2
 have q2:=And.intro hrS (And.intro hrN (And.intro hrG hrZ))
 refine kP ?_
 obtain ⟨S1,hm2,hz3⟩:=qU hS (i:=1) rfl hFam.cons.cons.cons.cons.cons
 have hz4:∀ m,freeze true { H with aT:=[] } (m+3) vmz=some (.fm (cA iK (Row.av cI) z) true):=λm=>gU (i:=2) hS rfl [] _ (ij λ_=>iE _)
 have hz5:∀ m,freeze true { H with aT:=[] } (m+3) vmd=some (.fm (cA iK (Row.av bm.ai) dn) true):=λm=>gU (i:=3) hS rfl [] _ (ij λ_=>iE _)
 have hz6:∀ m,freeze true { H with aT:=[] } (m+3) vmg=some (.fm (cA iK (Row.av bm.ai) gn) true):=λm=>gU (i:=4) hS rfl [] _ (ij λ_=>iE _)
 have hz7:∀ m,freeze true { H with aT:=[] } (m+4) (eX bb)=some (.ip [iv ke,.fm (cA iK (ff.av cI) S1) true,.fm (cA iK (Row.av cI) z) true,.fm (cA iK (Row.av bm.ai) dn) true,.fm (cA iK (Row.av bm.ai) gn) true] 0 true):=λm=>jh (i:=0) hS rfl [] _ (by simp only [FZ,hz3,hz4,hz5,hz6]; try rfl)
 have hBq:mn (⟨ke,S1,z,dn,gn⟩:fq).pl:=by rw [sx hm2]; exact hBk
 refine kD (args:=[(eX bb),iv o,.agg (fe.ai r)]) (p:=[]) (r:=[]) (args':=[.ip [iv ke,.fm (cA iK (ff.av cI) S1) true,.fm (cA iK (Row.av cI) z) true,.fm (cA iK (Row.av bm.ai) dn) true,.fm (cA iK (Row.av bm.ai) gn) true] 0 true,iv o,.agg (fe.ai r)]) (R:=Ys (⟨ke,S1,z,dn,gn⟩:fq) o r) rfl rfl rfl rfl rfl rfl rfl cC (gG (by show fU (freeze true { H with aT:=[] } 8) [(eX bb),iv o,.agg (fe.ai r)] = _; simp only [FZ,hz3,hz4,hz5,hz6,hz7]) (ei rfl (ei rfl (ei rfl fT)))) (gG bV (ei rfl (ei rfl (ei rfl fT)))) (λh=>t72 (⟨ke,S1,z,dn,gn⟩:fq) o r aZ h) ?_
 rintro _ ⟨r9,hc8,rfl⟩
 have hMy:=hc8
 rw [sx hm2] at hMy
 refine gq ?_
 refine iV (λh10=>?_) (λh10=>?_)
 refine fS ?_
 have hS11:=Sep.pick hS [0,1,2,3,4] 5 bf bf
 exact ⟨iv r9,rfl,r9,y,z,dn,gn,[],dj,Sep.aT hS11 _,rfl⟩
 refine j9 ?_
 have hL12:=r.steps.lk
 refine gL r.steps ?_
 refine fo ?_
 have hS13:=Sep.jZ hS 1
 have hNk14:=r.steps.lk
 refine e8 r.steps.l.length (λmc e h=>∃ v15:AV,∃ l16:List Int,∃ H17:au,(l16.length<=0+mc)/\(l16=(r.steps.l.take mc).map fi.elem)/\Sep H17 (kL v15 l16::gi bb [iv ke,vms,vmz,vmd,vmg]::.map vms (cA iK kx y)::.map vmz (cA iK (Row.av cI) z)::.map vmd (cA iK (Row.av bm.ai) dn)::.map vmg (cA iK (Row.av bm.ai) gn)::F)/\At [0,1,5,8,19,20,21] [(eX bb),iv o,.la 5 0,v15,fx r.steps,cr r.steps.l.length,cr mc] H17 [(5,(fe.ai r))] e h) ?_ (k0:=0) bh ⟨ee,(([]:List Int)),H,bD,c7,hS13,atR⟩
 rintro mc e h hkk14 ⟨v15,l16,H17,hl19,hSt,hS18,hA⟩
 refine aa ?_
 refine fQ (λh20=>?_) (λh20=>?_)
 refine fk ?_
 refine wz [(eX bb),iv o,.la 5 0,v15,fx r.steps,cr r.steps.l.length,cr mc] H17 [(5,(fe.ai r))] ?_ (fV hS18 [(8,0)])
 refine fk ?_
 have hx21:mc<r.steps.l.length:=by omega
 refine jn mc r.steps hx21 ?_
 generalize hqx22:r.steps.l[mc]=x22
 refine gl ?_
 refine oF 0 [x22.elem] hS18 λv23 H24 hS25=>?_
 refine e9 ?_
 refine wz [(eX bb),iv o,.la 5 0,v23,fx r.steps,cr r.steps.l.length,cr mc] H24 [(5,(fe.ai r))] ?_ (fV hS25 [(8,0)])
 refine qg ?_
 refine be rfl (λ_=>ca rfl rfl rfl (ej ((mc:Int)) 1 aY aY)) ?_
 refine e9 ?_
 exact ⟨by omega,v23,((l16++[x22.elem])),H24,aY,(by exact I2 hSt bh a6),hS25,(fV hS25 [(8,0)])⟩
 refine fk ?_
 refine wz [(eX bb),iv o,.la 5 0,v15] H17 [(5,(fe.ai r))] ?_ (fV hS18 [(8,0)])
 refine fo ?_
 refine Ao 1 hS18 ?_
 refine nO 1 hS18 ?_
 refine kW 1 hS18 vms ?_
 refine e9 ?_
 refine gj rfl (kI (H:=H17) (i:=2) (ek:=iK) (ev:=kx) (l:=y) o (v15,l16) hS18 rfl rfl rfl rfl rfl (Sep.val (i:=0) hS18 rfl) iF) ?_
 rintro _ H26 ⟨rfl,hS27⟩
 refine fo ?_
 refine rV ?_
 refine nW 1 hS27 ?_
 refine mS 1 hS27 ?_
 refine l3 1 hS27 vmz ?_
 refine jG ?_
 refine rC (t38 (Row.ji r.gB) aZ) ?_
 rintro _ ⟨r29,hc28,rfl⟩
 have hC115:=congrArg List.length hc28; try simp only [Row.ji] at hC115; have hIc:=hc28; try simp only [Row.ji] at hIc
 have hZq:=hc28; try simp only [Row.ji] at hZq
 refine iH rfl rfl (kI (H:=H26) (i:=3) (ek:=iK) (ev:=(Row.av cI)) (l:=z) o r29 hS27 rfl rfl rfl rfl rfl rfl iF) ?_
 rintro _ H30 ⟨rfl,hS31⟩
 refine lu ?_
 refine nW 1 hS31 ?_
 refine mS 1 hS31 ?_
 refine l3 1 hS31 vmd ?_
 refine jG ?_
 refine rC (t65 (Row.ji r.fX) aZ) ?_
 rintro _ ⟨r33,hc32,rfl⟩
 have hC94:=congrArg List.length hc32; try simp only [Row.ji] at hC94
 have hNq:=hc32; try simp only [Row.ji] at hNq
 refine iH rfl rfl (kI (H:=H30) (i:=4) (ek:=iK) (ev:=(Row.av bm.ai)) (l:=dn) o r33 hS31 rfl rfl rfl rfl rfl rfl iF) ?_
 rintro _ H34 ⟨rfl,hS35⟩
 refine lu ?_
 refine nW 1 hS35 ?_
 refine mS 1 hS35 ?_
 refine l3 1 hS35 vmg ?_
 refine jG ?_
 refine rC (t65 (Row.ji r.guards) aZ) ?_
 rintro _ ⟨r37,hc36,rfl⟩
 have hC94:=congrArg List.length hc36; try simp only [Row.ji] at hC94
 have hGq:=hc36; try simp only [Row.ji] at hGq
 refine iH rfl rfl (kI (H:=H34) (i:=5) (ek:=iK) (ev:=(Row.av bm.ai)) (l:=gn) o r37 hS35 rfl rfl rfl rfl rfl rfl iF) ?_
 rintro _ H38 ⟨rfl,hS39⟩
 refine jG ?_
 refine fo ?_
 have hS40:=Sep.pick hS39 [1,2,3,4,5,0] 6 bf bf
 exact ⟨iv 0,rfl,0,((put o (v15,l16) y)),(put o r29 z),(put o r33 dn),(put o r37 gn),[kL v15 l16],dj,Sep.aT hS40 _,rfl⟩
def t32 (a0:Int) :Ct 32 [iv a0] (λv=>∃ r0:fC,((1<=a0->a0<=12->r0.state=1)/\r0.seen.l.length<=12)/\v=.agg (fC.ai r0)):=by
 refine fR T2 ?_
 refine fS ?_
 refine fQ (λh1=>?_) (λh1=>?_)
 refine j9 ?_
 exact eH
 refine e9 ?_
 refine jI (λh2=>?_) (λh2=>?_)
 refine gl ?_
 exact eH
 refine fk ?_
 refine wy [iv a0,.la 2 0,.la 2 0] [(2,[iv 0,iv 0,eV,ee]),(2,[iv 0,iv 0,eV,ee])] ?_
 refine fo ?_
 have hk3:(((a0).toNat:Nat):Int)=a0:=Int.toNat_of_nonneg aY
 have hk4:(((a0).toNat:Nat):Int)=a0:=Int.toNat_of_nonneg aY
 refine gj rfl (oM (m:=(a0).toNat) gJ rfl (congrArg (AV.int .i64) hk3.symm) (congrArg (AV.int .i64) hk4.symm) rfl rfl aY bf) ?_
 rintro v5 H6 hS7
 have hS9:=Sep.yG (enc:=fM) (z:=false) hS7 rfl
 rcases Sep.Jc (i:=0) hS9 rfl with ⟨rfl,hx12⟩ | ⟨rfl,hx12⟩ | ⟨b10,g11,rfl⟩
 refine fk ?_
 exact xG ⟨(⟨1,0,false,(kZ:Row Bool)⟩:fC),bQ,rfl⟩
 refine fk ?_
 obtain ⟨r13,hl14,hf15⟩:=iZ (H:=H6) (i:=0) (l:=(List.replicate ((a0).toNat) false)) (enc:=fM) hS9 rfl a8
 have hlq:=hl14; have hln17:=congrArg List.length hl14
 have hz16:∀ m,freeze false { H6 with aT:=[(2,[iv 1,iv 0,eV,(.sl [] (.exact 0))])] } (m+2) (.sl [] (.exact 0))=some (Row.av fM r13):=λm=>hf15 _ _ (λ_=>rfl)
 exact ⟨.agg [iv 1,iv 0,eV,(.sl [] (.exact 0))],rfl,.agg [iv 1,iv 0,eV,Row.av fM r13],(show freeze false { H6 with aT:=[(2,[iv 1,iv 0,eV,(.sl [] (.exact 0))])] } 8 (.agg [iv 1,iv 0,eV,(.sl [] (.exact 0))])=some (.agg [iv 1,iv 0,eV,Row.av fM r13]) by simp only [FZ,hz16]),(⟨1,0,false,r13⟩:fC),bQ,rfl⟩
 refine fk ?_
 obtain ⟨r18,hl19,hf20⟩:=iZ (H:=H6) (i:=0) (l:=(List.replicate ((a0).toNat) false)) (enc:=fM) hS9 rfl a8
 have hlq:=hl19; have hln22:=congrArg List.length hl19
 have hz21:∀ m,freeze false { H6 with aT:=[(2,[iv 1,iv 0,eV,(.hs b10 g11 0 (List.map fM (List.replicate ((a0).toNat) false)).length)])] } (m+2) (.hs b10 g11 0 (List.map fM (List.replicate ((a0).toNat) false)).length)=some (Row.av fM r18):=λm=>hf20 _ _ (λ_=>rfl)
 exact ⟨.agg [iv 1,iv 0,eV,(.hs b10 g11 0 (List.map fM (List.replicate ((a0).toNat) false)).length)],rfl,.agg [iv 1,iv 0,eV,Row.av fM r18],(show freeze false { H6 with aT:=[(2,[iv 1,iv 0,eV,(.hs b10 g11 0 (List.map fM (List.replicate ((a0).toNat) false)).length)])] } 8 (.agg [iv 1,iv 0,eV,(.hs b10 g11 0 (List.map fM (List.replicate ((a0).toNat) false)).length)])=some (.agg [iv 1,iv 0,eV,Row.av fM r18]) by simp only [FZ,hz21]),(⟨1,0,false,r18⟩:fC),bQ,rfl⟩
def Y1 (_a0:fz) (_a1:ff fC) (v:AV):Prop:=∃ r0:Row Int,(r0.l.length<=60)/\v=gk r0
def t33 (a0:fz) (a1:ff fC) (q1:a0.cB.signals.l.length<=60):Ct 33 [.agg (fz.ai a0),ff.av fC.ai a1] (Y1 a0 a1):=by
 refine fR TF ?_
 refine nR ?_
 refine e8 24 (λk1 e h=>∃ l2:List Int,(l2.length=24)/\(∀ x∈l2.take k1,x<0)/\At [1,2,5,12] [ff.av fC.ai a1,.la 2 0,.la 5 0,cr k1] au.empty [(2,(fz.ai a0)),(5,(List.map iK l2))] e h) ?_ (k0:=0) bh ⟨((List.replicate 24 (0:Int))),ci,ci,atR⟩
 rintro k1 e h hkk1 ⟨l2,hA1,hA0,hA⟩
 refine aa ?_
 refine fQ (λh3=>?_) (λh3=>?_)
 refine fk ?_
 refine wy [ff.av fC.ai a1,.la 2 0,.la 5 0,cr k1] [(2,(fz.ai a0)),(5,(List.map iK l2))] ?_
 refine gl ?_
 have hx4:k1<l2.length:=by first | omega | (simp<;>omega) | (simp_all; done) | (simp_all; omega)
 refine be rfl (λ_=>C6 (k:=k1) rfl rfl rfl rfl rfl rfl (by have:=hx4; first | omega | (simp at this; omega))) ?_
 refine be rfl (λ_=>LG (l:=l2) (b:=(-1)) rfl rfl rfl rfl rfl rfl hx4) ?_
 refine oN ?_
 refine wy [ff.av fC.ai a1,.la 2 0,.la 5 0,cr k1] [(2,(fz.ai a0)),(5,(List.map iK (l2.set k1 (-1))))] ?_
 refine qg ?_
 refine be rfl (λ_=>ca rfl rfl rfl (ej ((k1:Int)) 1 aY aY)) ?_
 refine e9 ?_
 exact ⟨by omega,((l2.set k1 (-1))),(by (simp only [List.length_set]; omega)),(by exact take_set hA0 bh bf),atR⟩
 refine fk ?_
 refine wy [ff.av fC.ai a1,.la 2 0,.la 5 0] [(2,(fz.ai a0)),(5,(List.map iK l2))] ?_
 refine gq ?_
 have hL5:=a0.roads.lk
 refine gL a0.roads ?_
 have hL6:=a0.roads.lk
 refine be rfl (λ_=>ca rfl rfl rfl (ju ((a0.roads.l.length:Int)) 1 aY aY)) ?_
 refine fo ?_
 refine nT (λm9 e h=>∃ n7:Int,∃ l8:List Int,m9=(n7+1).toNat/\(l8.length=24)/\(-1<=n7/\n7<(a0.roads.l.length:Int))/\(∀ x∈l8,x<(a0.roads.l.length:Int))/\At [1,2,5,7] [ff.av fC.ai a1,.la 2 0,.la 5 0,iv n7] au.empty [(2,(fz.ai a0)),(5,(List.map iK l8))] e h) ?_ _ _ _ ⟨((a0.roads.l.length:Int) - 1),l2,rfl,a6,bh,(by exact vY (λx hx=>by have:=hA0 x hx; omega) bh),atR⟩
 rintro m9 e h ⟨n7,l8,hmm9,hA1,hA3,hA2,hA⟩
 refine aC ?_
 refine jw (λh10=>?_) (λh10=>?_)
 refine fo ?_
 refine wy [ff.av fC.ai a1,.la 2 0,.la 5 0,iv n7] [(2,(fz.ai a0)),(5,(List.map iK l8))] ?_
 refine gz ?_
 have hx11:(n7).toNat<a0.roads.l.length:=by omega
 refine pa n7 a0.roads hx11 ?_
 generalize hqx12:a0.roads.l[(n7).toNat]=x12
 refine fS ?_
 have hL13:=a1.lk
 refine be rfl (λ_=>mj (r:=a1) (enc:=fC.ai) rfl rfl rfl rfl rfl rfl) ?_
 refine fQ (λh14=>?_) (λh14=>?_)
 refine fo ?_
 have hx15:(n7).toNat<a1.l.length:=by omega
 refine be rfl (λ_=>yB (n:=n7) (r:=a1) (enc:=fC.ai) rfl rfl rfl rfl rfl bh hx15 rfl) ?_
 generalize hqx16:a1.l[(n7).toNat]=x16
 refine e9 ?_
 refine gN (λh17=>?_) (λh17=>?_)
 refine fo ?_
 refine jw (λh18=>?_) (λh18=>?_)
 refine fo ?_
 refine fQ (λh19=>?_) (λh19=>?_)
 refine gS ?_
 have hk20:(((x12.from_).toNat:Nat):Int)=x12.from_:=Int.toNat_of_nonneg aY
 have hx21:(x12.from_).toNat<l8.length:=by first | omega | (simp<;>omega) | (simp_all; done) | (simp_all; omega)
 refine be rfl (λ_=>C6 (k:=(x12.from_).toNat) rfl rfl rfl rfl rfl (congrArg (AV.int .i64) hk20.symm) (by have:=hx21; first | omega | (simp at this; omega))) ?_
 refine be rfl (λ_=>LG (l:=l8) (b:=n7) rfl rfl rfl rfl rfl rfl hx21) ?_
 refine oN ?_
 refine wy [ff.av fC.ai a1,.la 2 0,.la 5 0,iv n7] [(2,(fz.ai a0)),(5,(List.map iK (l8.set ((x12.from_).toNat) n7)))] ?_
 refine e9 ?_
 refine be rfl (λ_=>ca rfl rfl rfl (ju n7 1 aY aY)) ?_
 refine e9 ?_
 refine ⟨_,?_,(n7 - 1),((l8.set ((x12.from_).toNat) n7)),rfl,bu,bh,cM,atR⟩
 omega
 refine fk ?_
 refine ak ?_
 refine be rfl (λ_=>ca rfl rfl rfl (ju n7 1 aY aY)) ?_
 refine e9 ?_
 refine ⟨_,?_,(n7 - 1),l8,rfl,bu,bh,cM,atR⟩
 omega
 refine fS ?_
 refine ak ?_
 refine be rfl (λ_=>ca rfl rfl rfl (ju n7 1 aY aY)) ?_
 refine e9 ?_
 refine ⟨_,?_,(n7 - 1),l8,rfl,bu,bh,cM,atR⟩
 omega
 refine j9 ?_
 refine ak ?_
 refine be rfl (λ_=>ca rfl rfl rfl (ju n7 1 aY aY)) ?_
 refine e9 ?_
 refine ⟨_,?_,(n7 - 1),l8,rfl,bu,bh,cM,atR⟩
 omega
 refine tc ?_
 refine ak ?_
 refine be rfl (λ_=>ca rfl rfl rfl (ju n7 1 aY aY)) ?_
 refine e9 ?_
 refine ⟨_,?_,(n7 - 1),l8,rfl,bu,bh,cM,atR⟩
 omega
 refine fo ?_
 refine wy [.la 2 0,.la 5 0] [(2,(fz.ai a0)),(5,(List.map iK l8))] ?_
 refine gq ?_
 have hL22:=a0.cB.signals.lk
 refine gL a0.cB.signals ?_
 refine gj rfl (oM (m:=a0.cB.signals.l.length) gJ rfl rfl rfl rfl rfl aY bf) ?_
 rintro v23 H24 hS25
 have hS27:=Sep.yG (enc:=cI) (z:=(0)) hS25 rfl
 refine gS ?_
 refine be rfl (λ_=>jC (H:=H24) (i:=0) (l:=(List.replicate a0.cB.signals.l.length ((0):Int))) (enc:=cI) hS27 rfl rfl rfl rfl rfl rfl rfl) ?_
 refine fo ?_
 refine e8 ((List.replicate a0.cB.signals.l.length ((0):Int)).length) (λjA e h=>∃ v29:AV,∃ l30:List Int,∃ H31:au,(l30.length=a0.cB.signals.l.length)/\Sep H31 (kL v29 l30::[])/\At [2,5,9,61,62] [.la 2 0,.la 5 0,v29,iv ((List.replicate a0.cB.signals.l.length ((0):Int)).length:Int),cr jA] H31 [(2,(fz.ai a0)),(5,(List.map iK l8))] e h) ?_ (k0:=0) bh ⟨v23,((List.replicate a0.cB.signals.l.length ((0):Int))),H24,dA,hS27,(fV hS27 [(9,0)])⟩
 rintro jA e h hkk28 ⟨v29,l30,H31,hA4,hS32,hA⟩
 refine aa ?_
 refine fQ (λh33=>?_) (λh33=>?_)
 refine fk ?_
 refine wz [.la 2 0,.la 5 0,v29,iv ((List.replicate a0.cB.signals.l.length ((0):Int)).length:Int),cr jA] H31 [(2,(fz.ai a0)),(5,(List.map iK l8))] ?_ (fV hS32 [(9,0)])
 refine kP ?_
 refine jw (λh34=>?_) (λh34=>?_)
 refine gl ?_
 refine wz [.la 2 0,.la 5 0,v29,iv ((List.replicate a0.cB.signals.l.length ((0):Int)).length:Int),cr jA] H31 [(2,(fz.ai a0)),(5,(List.map iK l8))] ?_ (fV hS32 [(9,0)])
 refine qg ?_
 refine be rfl (λ_=>ca rfl rfl rfl (ej ((jA:Int)) 1 aY aY)) ?_
 refine e9 ?_
 exact eI
 refine e9 ?_
 have hx35:jA<l8.length:=by first | omega | (simp<;>omega) | (simp_all; done) | (simp_all; omega)
 refine be rfl (λ_=>C6 (k:=jA) rfl rfl rfl rfl rfl rfl (by have:=hx35; first | omega | (simp at this; omega))) ?_
 obtain ⟨b36,hqb36⟩:∃ x,l8[jA]=x:=⟨_,rfl⟩
 have hinb36:b36∈l8:=by rw [<- hqb36]; exact List.getElem_mem _
 have hbb36:=hA2 b36 hinb36
 refine be rfl (λ_=>Hc (l:=l8) rfl rfl rfl rfl hx35 hqb36) ?_
 refine fQ (λh37=>?_) (λh37=>?_)
 refine fk ?_
 refine wz [.la 2 0,.la 5 0,v29,iv ((List.replicate a0.cB.signals.l.length ((0):Int)).length:Int),cr jA] H31 [(2,(fz.ai a0)),(5,(List.map iK l8))] ?_ (fV hS32 [(9,0)])
 refine qg ?_
 refine be rfl (λ_=>ca rfl rfl rfl (ej ((jA:Int)) 1 aY aY)) ?_
 refine e9 ?_
 exact eI
 refine fk ?_
 refine wz [.la 2 0,.la 5 0,v29,cr jA,iv ((List.replicate a0.cB.signals.l.length ((0):Int)).length:Int),cr jA] H31 [(2,(fz.ai a0)),(5,(List.map iK l8))] ?_ (fV hS32 [(9,0)])
 refine lY ?_
 have hx38:jA<l8.length:=by first | omega | (simp<;>omega) | (simp_all; done) | (simp_all; omega)
 refine fD rfl rfl (λ_=>C6 (k:=jA) rfl rfl rfl rfl rfl rfl (by have:=hx38; first | omega | (simp at this; omega))) ?_
 obtain ⟨b39,hqb39⟩:∃ x,l8[jA]=x:=⟨_,rfl⟩
 have hinb39:b39∈l8:=by rw [<- hqb39]; exact List.getElem_mem _
 have hbb39:=hA2 b39 hinb39
 refine fD rfl rfl (λ_=>Hc (l:=l8) rfl rfl rfl rfl hx38 hqb39) ?_
 have hx40:(b39).toNat<a0.roads.l.length:=by omega
 refine Lc b39 a0.roads hx40 ?_
 generalize hqx41:a0.roads.l[(b39).toNat]=x41
 refine vD ?_
 refine e9 ?_
 have hx42:jA<l30.length:=by first | omega | (simp<;>omega) | (simp_all; done) | (simp_all; omega)
 obtain ⟨x43,hqx43⟩:∃ x,l30[jA]=x:=⟨_,rfl⟩
 refine lG rfl (iT (H:=H31) (i:=0) (m:=jA) (cs:=cI x43) hS32 rfl rfl rfl rfl rfl rfl rfl (gW hx42 hqx43)) ?_
 rintro a44 ⟨ha45,hea46⟩
 refine gj rfl (mB (H:=H31) (i:=0) (m:=jA) (o:=0) x43 1 hS32 rfl hx42 hqx43 hea46 rfl ha45 rfl rfl rfl rfl) ?_
 rintro _ H47 ⟨rfl,hS48⟩
 refine gq ?_
 refine gN (λh49=>?_) (λh49=>?_)
 refine FV ?_
 have hx50:jA<(l30.set jA 1).length:=by first | omega | (simp<;>omega) | (simp_all; done) | (simp_all; omega)
 obtain ⟨x51,hqx51⟩:∃ x,(l30.set jA 1)[jA]=x:=⟨_,rfl⟩
 refine lG rfl (iT (H:=H47) (i:=0) (m:=jA) (cs:=cI x51) hS48 rfl rfl rfl rfl rfl rfl rfl (gW hx50 hqx51)) ?_
 rintro a52 ⟨ha53,hea54⟩
 refine gj rfl (mB (H:=H47) (i:=0) (m:=jA) (o:=0) x51 2 hS48 rfl hx50 hqx51 hea54 rfl ha53 rfl rfl rfl rfl) ?_
 rintro _ H55 ⟨rfl,hS56⟩
 refine oN ?_
 refine wz [.la 2 0,.la 5 0,v29,iv ((List.replicate a0.cB.signals.l.length ((0):Int)).length:Int),cr jA] H55 [(2,(fz.ai a0)),(5,(List.map iK l8))] ?_ (fV hS56 [(9,0)])
 refine qg ?_
 refine be rfl (λ_=>ca rfl rfl rfl (ej ((jA:Int)) 1 aY aY)) ?_
 refine e9 ?_
 exact ⟨by omega,v29,(((l30.set jA 1).set jA 2)),H55,bu,hS56,(fV hS56 [(9,0)])⟩
 refine fo ?_
 refine gN (λh57=>?_) (λh57=>?_)
 refine fo ?_
 refine jw (λh58=>?_) (λh58=>?_)
 refine fk ?_
 refine fQ (λh59=>?_) (λh59=>?_)
 refine fk ?_
 have hk60:(((x41.to).toNat:Nat):Int)=x41.to:=Int.toNat_of_nonneg aY
 have hx61:(x41.to).toNat<l8.length:=by first | omega | (simp<;>omega) | (simp_all; done) | (simp_all; omega)
 refine be rfl (λ_=>C6 (k:=(x41.to).toNat) rfl rfl rfl rfl rfl (congrArg (AV.int .i64) hk60.symm) (by have:=hx61; first | omega | (simp at this; omega))) ?_
 obtain ⟨b62,hqb62⟩:∃ x,l8[(x41.to).toNat]=x:=⟨_,rfl⟩
 have hinb62:b62∈l8:=by rw [<- hqb62]; exact List.getElem_mem _
 have hbb62:=hA2 b62 hinb62
 refine be rfl (λ_=>Hc (l:=l8) rfl rfl rfl rfl hx61 hqb62) ?_
 refine jw (λh63=>?_) (λh63=>?_)
 refine gz ?_
 have hx64:jA<(l30.set jA 1).length:=by first | omega | (simp<;>omega) | (simp_all; done) | (simp_all; omega)
 obtain ⟨x65,hqx65⟩:∃ x,(l30.set jA 1)[jA]=x:=⟨_,rfl⟩
 refine lG rfl (iT (H:=H47) (i:=0) (m:=jA) (cs:=cI x65) hS48 rfl rfl rfl rfl rfl rfl rfl (gW hx64 hqx65)) ?_
 rintro a66 ⟨ha67,hea68⟩
 refine gj rfl (mB (H:=H47) (i:=0) (m:=jA) (o:=0) x65 2 hS48 rfl hx64 hqx65 hea68 rfl ha67 rfl rfl rfl rfl) ?_
 rintro _ H69 ⟨rfl,hS70⟩
 refine oN ?_
 refine wz [.la 2 0,.la 5 0,v29,iv ((List.replicate a0.cB.signals.l.length ((0):Int)).length:Int),cr jA] H69 [(2,(fz.ai a0)),(5,(List.map iK l8))] ?_ (fV hS70 [(9,0)])
 refine qg ?_
 refine be rfl (λ_=>ca rfl rfl rfl (ej ((jA:Int)) 1 aY aY)) ?_
 refine e9 ?_
 exact ⟨by omega,v29,(((l30.set jA 1).set jA 2)),H69,bu,hS70,(fV hS70 [(9,0)])⟩
 refine gq ?_
 refine wz [.la 2 0,.la 5 0,v29,iv ((List.replicate a0.cB.signals.l.length ((0):Int)).length:Int),cr jA] H47 [(2,(fz.ai a0)),(5,(List.map iK l8))] ?_ (fV hS48 [(9,0)])
 refine qg ?_
 refine be rfl (λ_=>ca rfl rfl rfl (ej ((jA:Int)) 1 aY aY)) ?_
 refine e9 ?_
 exact eJ
 refine j9 ?_
 refine wz [.la 2 0,.la 5 0,v29,iv ((List.replicate a0.cB.signals.l.length ((0):Int)).length:Int),cr jA] H47 [(2,(fz.ai a0)),(5,(List.map iK l8))] ?_ (fV hS48 [(9,0)])
 refine qg ?_
 refine be rfl (λ_=>ca rfl rfl rfl (ej ((jA:Int)) 1 aY aY)) ?_
 refine e9 ?_
 exact eJ
 refine rQ ?_
 refine wz [.la 2 0,.la 5 0,v29,iv ((List.replicate a0.cB.signals.l.length ((0):Int)).length:Int),cr jA] H47 [(2,(fz.ai a0)),(5,(List.map iK l8))] ?_ (fV hS48 [(9,0)])
 refine qg ?_
 refine be rfl (λ_=>ca rfl rfl rfl (ej ((jA:Int)) 1 aY aY)) ?_
 refine e9 ?_
 exact eJ
 refine Mo ?_
 refine wz [.la 2 0,.la 5 0,v29,iv ((List.replicate a0.cB.signals.l.length ((0):Int)).length:Int),cr jA] H47 [(2,(fz.ai a0)),(5,(List.map iK l8))] ?_ (fV hS48 [(9,0)])
 refine qg ?_
 refine be rfl (λ_=>ca rfl rfl rfl (ej ((jA:Int)) 1 aY aY)) ?_
 refine e9 ?_
 exact eJ
 refine fk ?_
 refine wz [v29] H31 [] ?_ (fV hS32 [(9,0)])
 refine gS ?_
 obtain ⟨r71,hl72,hf73⟩:=iZ (H:=H31) (i:=0) (l:=l30) (enc:=cI) hS32 rfl a8
 have hlq:=hl72; have hln75:=congrArg List.length hl72
 have hz74:∀ m,freeze false { H31 with aT:=[] } (m+2) v29=some (gk r71):=λm=>hf73 _ _ (λ_=>rfl)
 exact ⟨v29,(ia (vs:=[v29]) rfl (ei (Sep.arg (i:=0) hS32 rfl) fT)),gk r71,(show freeze false { H31 with aT:=[] } 8 v29=some (gk r71) by simp only [FZ,hz74]),r71,(by first | omega | (simp_all; done) | (simp_all; omega)),rfl⟩
def YB (_a0:iQ) (v:AV):Prop:=∃ r0:Row Int,(True)/\v=gk r0
def t34 (a0:iQ) (q1:a0.Dl.l.length<=1000):Ct 34 [.ip (iQ.ai a0) 0 true] (YB a0):=by
 refine fR Sm ?_
 refine hZ ?_
 refine oC (t38 a0.Dl aZ) ?_
 rintro _ ⟨r2,hc1,rfl⟩
 have hC115:=congrArg List.length hc1; try simp only [Row.ji] at hC115; have hIc:=hc1; try simp only [Row.ji] at hIc
 refine fo ?_
 exact xG ⟨r2,zt⟩
def u7 {H:au} (b0:Nat) (c:fz) (vlv:AV) (lvl:List fC) (vas:AV) (asl:List Int) (bb:Nat) (ke:Int) (vms:AV) (y:List (Int×(AV×List Int))) (vmz:AV) (z:List (Int×Row Int)) (vmd:AV) (dn:List (Int×Row bm)) (vmg:AV) (gn:List (Int×Row bm)) (bt:Nat) (nt:fw) (vmr:AV) (ru:List (bm×Bool)) (voc:AV) (ol:List Bool) (vpo:AV) (pol:List Int) (vlo:AV) (lol:List Bool) (vhe:AV) (hel:List Bool) (calls:Row Int) (F:List gh) (hS:Sep H (gi b0 [fA c.cB.elems,fJ c.cB.fj,fP c.cB.signals,fy c.cB.lines,iv c.cB.top,iv c.cB.gD,iv c.cB.gu,iv c.cB.gw,.bool c.cB.gE,gm c.roads,vlv,(eX bb),(eX bt),vas]::gy fC.ai 4 vlv lvl::gi bb [iv ke,vms,vmz,vmd,vmg]::.map vms (cA iK kx y)::.map vmz (cA iK (Row.av cI) z)::.map vmd (cA iK (Row.av bm.ai) dn)::.map vmg (cA iK (Row.av bm.ai) gn)::gi bt [.ip (fw.ai nt) 0 false,vmr]::.map vmr (cA nK bK ru)::gy cI 1 vas asl::gy fM 1 voc ol::gy cI 1 vpo pol::gy fM 1 vlo lol::gy fM 1 vhe hel::F)) (hBk:mn (rL y z dn gn)) (hFam:lP y F) (hTi:vS c lvl ke y) (hIdl:∀ x∈lvl,x.state=0) (q1:j1 nt.p) (q2:∀ r∈c.roads.l,(1<=r.steps.l.length/\r.steps.l.length<=12)/\r.fX.l.length<=12/\r.guards.l.length<=1000/\r.gB.l.length<=12) (q3:CF nt) (q4:lvl.length=c.roads.l.length) (q5:c.roads.l.length<=64) (q6:j1 c.cB) (q7:calls.l.length<=1000) (q8:ol.length=c.cB.elems.l.length/\pol.length=c.cB.elems.l.length/\lol.length=c.cB.signals.l.length/\hel.length=c.cB.signals.l.length) (q9:∀ x∈lvl,x.seen.l.length<=12):∃ v H',fh cfg FT fK true 7 [(eX b0),.agg [voc,vpo,vlo,vhe],gk calls,ee] { H with aT:=[] } v H'/\(∃ vlv1:AV,∃ lvl1:List fC,∃ y1:List (Int×(AV×List Int)),∃ z1:List (Int×Row Int),∃ d1:List (Int×Row bm),∃ g1:List (Int×Row bm),∃ ru1:List (bm×Bool),∃ asr:Row Int,∃ N:List gh,∃ u1:AV,∃ u2:AV,∃ u3:AV,∃ u4:AV,(vS c lvl1 ke y1/\mn (rL y1 z1 d1 g1)/\lP y1 (N++F)/\lvl1.length=lvl.length/\asr.l.length<=1000/\∀ x∈lvl1,x.seen.l.length<=12)/\Sep H' (gi b0 [fA c.cB.elems,fJ c.cB.fj,fP c.cB.signals,fy c.cB.lines,iv c.cB.top,iv c.cB.gD,iv c.cB.gu,iv c.cB.gw,.bool c.cB.gE,gm c.roads,vlv1,(eX bb),(eX bt),gk asr]::gy fC.ai 4 vlv1 lvl1::gi bb [iv ke,vms,vmz,vmd,vmg]::.map vms (cA iK kx y1)::.map vmz (cA iK (Row.av cI) z1)::.map vmd (cA iK (Row.av bm.ai) d1)::.map vmg (cA iK (Row.av bm.ai) g1)::gi bt [.ip (fw.ai nt) 0 false,vmr]::.map vmr (cA nK bK ru1)::gy fM 1 voc ol::gy cI 1 vpo pol::gy fM 1 vlo lol::gy fM 1 vhe hel::(N++F))/\v=.fG [.agg [u1,u2,u3],u4]):=by
 refine gO Yr ?_
 obtain ⟨qo1,qo2,qo3,qo4⟩:=q8
 have hFe:=q6.elems
 have hFs:=q6.signals
 refine e9 ?_
 refine be rfl (λ_=>Qg (cs:=[voc,vpo,vlo,vhe]) rfl rfl (ei (Sep.cell (i:=10) hS rfl) (ei (Sep.cell (i:=11) hS rfl) (ei (Sep.cell (i:=12) hS rfl) (ei (Sep.cell (i:=13) hS rfl) fT)))) rfl) ?_
 refine fo ?_
 refine qH ?_
 refine jG ?_
 refine nW 0 hS ?_
 iterate 3 refine mS 0 hS ?_
 refine l3 0 hS (fA c.cB.elems) ?_
 have hL1:=c.cB.elems.lk
 refine rl c.cB.elems ?_
 refine rV ?_
 refine nW 0 hS ?_
 iterate 3 refine mS 0 hS ?_
 refine l3 0 hS (fP c.cB.signals) ?_
 have hL2:=c.cB.signals.lk
 refine rl c.cB.signals ?_
 refine vD ?_
 refine e9 ?_
 refine be rfl (λ_=>jC (H:=H) (i:=10) (l:=ol) (enc:=fM) hS rfl rfl rfl rfl rfl rfl rfl) ?_
 refine oV ?_
 refine iV (λh3=>?_) (λh3=>?_)
 exfalso; omega
 refine fo ?_
 refine be rfl (λ_=>jC (H:=H) (i:=11) (l:=pol) (enc:=cI) hS rfl rfl rfl rfl rfl rfl rfl) ?_
 refine oV ?_
 refine iV (λh4=>?_) (λh4=>?_)
 exfalso; omega
 refine fk ?_
 refine be rfl (λ_=>jC (H:=H) (i:=12) (l:=lol) (enc:=fM) hS rfl rfl rfl rfl rfl rfl rfl) ?_
 refine oV ?_
 refine iV (λh5=>?_) (λh5=>?_)
 exfalso; omega
 refine fk ?_
 refine be rfl (λ_=>jC (H:=H) (i:=13) (l:=hel) (enc:=fM) hS rfl rfl rfl rfl rfl rfl rfl) ?_
 refine oV ?_
 refine iV (λh6=>?_) (λh6=>?_)
 exfalso; omega
 refine fk ?_
 refine wz [(eX b0),gk calls,ee,.la 5 0,.la 8 0,cr c.cB.elems.l.length] H [(5,[voc,vpo,vlo,vhe]),(8,[ee,ee,ee])] ?_
 refine fk ?_
 have hS7:=Sep.pick hS [0,10,11,12,13,1,2,3,4,5,6,7,8,9] 14 bf bf
 refine gA (H:=H) (args:=[(eX b0),.agg [voc,vpo,vlo,vhe]]) (p:=[]) (r:=[]) rfl rfl rfl rfl rfl rfl rfl (u24 b0 c vlv (eX bb) (eX bt) vas voc ol vpo pol vlo lol vhe hel (gy fC.ai 4 vlv lvl::gi bb [iv ke,vms,vmz,vmd,vmg]::.map vms (cA iK kx y)::.map vmz (cA iK (Row.av cI) z)::.map vmd (cA iK (Row.av bm.ai) dn)::.map vmg (cA iK (Row.av bm.ai) gn)::gi bt [.ip (fw.ai nt) 0 false,vmr]::.map vmr (cA nK bK ru)::gy cI 1 vas asl::F) hS7 aZ aZ) ?_
 rintro _ H8 ⟨vo111,ol112,hc10,hS9,rfl⟩
 have hTo:=hc10
 refine be rfl (λ_=>pf rfl rfl rfl rfl (ei (Sep.cell (i:=5) hS9 rfl) (ei (Sep.cell (i:=2) hS9 rfl) (ei (Sep.cell (i:=3) hS9 rfl) (ei (Sep.cell (i:=4) hS9 rfl) fT)))) rfl rfl) ?_
 refine fo ?_
 refine gj (H:=H8) rfl (iW hS9) ?_
 rintro _ H14 ⟨b13,rfl,hS15⟩
 refine hZ ?_
 refine e8 0 (λpD e h=>At [0,2,5,8,10,12,71,72,73] [(eX b0),gk calls,.la 5 0,.la 8 0,cr c.cB.elems.l.length,(.hm b13),ee,iv 0,cr pD] H14 [(5,[vo111,vpo,vlo,vhe]),(8,[ee,ee,ee])] e h) ?_ (k0:=0) bh atR
 rintro pD e h hkk16 hA
 refine aa ?_
 refine fQ (λh17=>?_) (λh17=>?_)
 refine fk ?_
 refine wz [(eX b0),gk calls,.la 5 0,.la 8 0,cr c.cB.elems.l.length,(.hm b13),ee,iv 0,cr pD] H14 [(5,[vo111,vpo,vlo,vhe]),(8,[ee,ee,ee])] ?_
 refine fk ?_
 exfalso; omega
 refine fk ?_
 refine wz [(eX b0),gk calls,.la 5 0,.la 8 0,cr c.cB.elems.l.length,(.hm b13)] H14 [(5,[vo111,vpo,vlo,vhe]),(8,[ee,ee,ee])] ?_
 refine gS ?_
 refine Ao 1 hS15 ?_
 refine nO 1 hS15 ?_
 refine kW 1 hS15 vlv ?_
 refine be rfl (λ_=>jC (H:=H14) (i:=7) (l:=lvl) (enc:=fC.ai) hS15 rfl rfl rfl rfl rfl rfl rfl) ?_
 refine fo ?_
 refine e8 lvl.length (λlx e h=>At [0,2,5,8,10,12,84,85] [(eX b0),gk calls,.la 5 0,.la 8 0,cr c.cB.elems.l.length,(.hm b13),cr lvl.length,cr lx] H14 [(5,[vo111,vpo,vlo,vhe]),(8,[ee,ee,ee])] e h) ?_ (k0:=0) bh atR
 rintro lx e h hkk18 hA
 refine aa ?_
 refine fQ (λh19=>?_) (λh19=>?_)
 refine fk ?_
 refine wz [(eX b0),gk calls,.la 5 0,.la 8 0,cr c.cB.elems.l.length,(.hm b13),cr lvl.length,cr lx] H14 [(5,[vo111,vpo,vlo,vhe]),(8,[ee,ee,ee])] ?_
 refine kP ?_
 refine Ao 1 hS15 ?_
 refine nO 1 hS15 ?_
 refine kW 1 hS15 vlv ?_
 refine oV ?_
 have hx20:lx<lvl.length:=by first | omega | (simp<;>omega) | (simp_all; done) | (simp_all; omega)
 obtain ⟨x21,hqx21⟩:∃ x,lvl[lx]=x:=⟨_,rfl⟩
 have hinx21:x21∈lvl:=by rw [<- hqx21]; exact List.getElem_mem _
 have hsx21:=hIdl x21 hinx21
 refine lG rfl (iT (H:=H14) (i:=7) (m:=lx) (cs:=fC.ai x21) hS15 rfl rfl rfl rfl rfl rfl rfl (gW hx20 hqx21)) ?_
 rintro a22 ⟨ha23,hea24⟩
 refine be rfl (λ_=>EA.FM hea24 rfl rfl rfl ha23) ?_
 refine be rfl (λ_=>lQ (H:=H14) (i:=7) (m:=lx) (o:=0) (r:=iv x21.state) (cs:=fC.ai x21) hS15 rfl (gW hx20 hqx21) hea24 rfl rfl rfl) ?_
 refine gN (λh25=>?_) (λh25=>?_)
 refine fo ?_
 refine wz [(eX b0),gk calls,.la 5 0,.la 8 0,cr c.cB.elems.l.length,(.hm b13),cr lvl.length,cr lx] H14 [(5,[vo111,vpo,vlo,vhe]),(8,[ee,ee,ee])] ?_
 refine qg ?_
 refine be rfl (λ_=>ca rfl rfl rfl (ej ((lx:Int)) 1 aY aY)) ?_
 refine e9 ?_
 exact dJ
 exfalso; omega
 refine fk ?_
 refine wz [(eX b0),gk calls,.la 5 0,.la 8 0,cr c.cB.elems.l.length] H14 [(5,[vo111,vpo,vlo,vhe]),(8,[ee,ee,ee])] ?_
 refine fS ?_
 have hL26:=calls.lk
 refine gL calls ?_
 refine fo ?_
 have hS27:=Sep.jZ hS15 1
 have hS28:=Sep.pick hS27 [0,2,3,4,5,6,7,8,9,10,11,12,13,14,15,16] 17 bf bf
 have hNk29:=calls.lk
 refine e8 calls.l.length (λkC e h=>∃ v30:AV,∃ l31:List Int,∃ v32:AV,∃ l33:List fC,∃ l34:List (Int×(AV×List Int)),∃ l35:List (Int×Row Int),∃ l36:List (Int×Row bm),∃ l37:List (Int×Row bm),∃ l38:List (bm×Bool),∃ N39:List gh,∃ H40:au,(l31.length<=0+kC)/\(l33.length<=lvl.length+kC)/\(vS c l33 ke l34)/\(mn (rL l34 l35 l36 l37))/\(lP l34 (N39++F))/\(l33.length=lvl.length)/\(∀ x∈l33,x.seen.l.length<=12)/\Sep H40 (kL v30 l31::gi b0 [fA c.cB.elems,fJ c.cB.fj,fP c.cB.signals,fy c.cB.lines,iv c.cB.top,iv c.cB.gD,iv c.cB.gu,iv c.cB.gw,.bool c.cB.gE,gm c.roads,v32,(eX bb),(eX bt),vas]::gy fM 1 voc ol::gy cI 1 vpo pol::gy fM 1 vlo lol::gy fM 1 vhe hel::gy fM 1 vo111 ol112::gy fC.ai 4 v32 l33::gi bb [iv ke,vms,vmz,vmd,vmg]::.map vms (cA iK kx l34)::.map vmz (cA iK (Row.av cI) l35)::.map vmd (cA iK (Row.av bm.ai) l36)::.map vmg (cA iK (Row.av bm.ai) l37)::gi bt [.ip (fw.ai nt) 0 false,vmr]::.map vmr (cA nK bK l38)::gy cI 1 vas asl::(N39++F))/\At [0,5,8,10,20,156,157,158] [(eX b0),.la 5 0,.la 8 0,cr c.cB.elems.l.length,.la 20 0,gk calls,cr calls.l.length,cr kC] H40 [(5,[vo111,vpo,vlo,vhe]),(8,[ee,ee,ee]),(20,[ee,ee,v30])] e h) ?_ (k0:=0) bh ⟨ee,(([]:List Int)),vlv,lvl,y,z,dn,gn,ru,([]),H14,bD,bD,(by exact hTi),(by exact hBk),(by exact hFam),c7,(by exact q9),hS28,atR⟩
 rintro kC e h hkk29 ⟨v30,l31,v32,l33,l34,l35,l36,l37,l38,N39,H40,hl42,hl43,hTi,hBk,hFam,hLl,hSe,hS41,hA⟩
 refine aa ?_
 refine fQ (λh44=>?_) (λh44=>?_)
 refine fk ?_
 refine wz [(eX b0),.la 5 0,.la 8 0,cr c.cB.elems.l.length,.la 20 0,gk calls,cr calls.l.length,cr kC] H40 [(5,[vo111,vpo,vlo,vhe]),(8,[ee,ee,ee]),(20,[ee,ee,v30])] ?_
 refine fk ?_
 have hx45:kC<calls.l.length:=by omega
 refine jn kC calls hx45 ?_
 generalize hqx46:calls.l[kC]=x46
 refine gq ?_
 refine rV ?_
 refine am ?_
 refine l3 1 hS41 (.agg (fz.ai c)) ?_
 refine rV ?_
 refine am ?_
 refine l3 1 hS41 v32 ?_
 refine rV ?_
 refine am ?_
 refine l3 1 hS41 ((eX bb)) ?_
 refine rV ?_
 refine am ?_
 refine l3 1 hS41 ((eX bt)) ?_
 refine lj ?_
 refine lJ hS41 7 λr47 hl48 hln51 hz50=>?_
 obtain ⟨S52,hm53,hz54⟩:=qU hS41 (i:=9) rfl hFam.cons.cons.cons.cons.cons.cons.cons.cons.cons.cons.cons.cons.cons.cons.cons.cons
 have hz55:∀ m,freeze true { H40 with aT:=[] } (m+3) vmz=some (.fm (cA iK (Row.av cI) l35) true):=λm=>gU (i:=10) hS41 rfl [] _ (ij λ_=>iE _)
 have hz56:∀ m,freeze true { H40 with aT:=[] } (m+3) vmd=some (.fm (cA iK (Row.av bm.ai) l36) true):=λm=>gU (i:=11) hS41 rfl [] _ (ij λ_=>iE _)
 have hz57:∀ m,freeze true { H40 with aT:=[] } (m+3) vmg=some (.fm (cA iK (Row.av bm.ai) l37) true):=λm=>gU (i:=12) hS41 rfl [] _ (ij λ_=>iE _)
 have hz58:∀ m,freeze true { H40 with aT:=[] } (m+4) (eX bb)=some (.ip [iv ke,.fm (cA iK (ff.av cI) S52) true,.fm (cA iK (Row.av cI) l35) true,.fm (cA iK (Row.av bm.ai) l36) true,.fm (cA iK (Row.av bm.ai) l37) true] 0 true):=λm=>jh (i:=8) hS41 rfl [] _ (by simp only [FZ,hz50,hz54,hz55,hz56,hz57]; try rfl)
 have hz59:∀ m,freeze true { H40 with aT:=[] } (m+3) vmr=some (.fm (cA nK bK l38) true):=λm=>gU (i:=14) hS41 rfl [] _ (ij λ_=>rfl)
 have hz60:∀ m,freeze true { H40 with aT:=[] } (m+4) (eX bt)=some (.ip [.ip (fw.ai nt) 0 false,.fm (cA nK bK l38) true] 0 true):=λm=>jh (i:=13) hS41 rfl [] _ (by simp only [FZ,hz50,hz54,hz55,hz56,hz57,hz58,hz59]; try rfl)
 refine lJ hS41 6 λr61 hl62 hln65 hz64=>?_
 refine lJ hS41 3 λr66 hl67 hln70 hz69=>?_
 refine lJ hS41 4 λr71 hl72 hln75 hz74=>?_
 refine lJ hS41 5 λr76 hl77 hln80 hz79=>?_
 have hBq:mn (⟨ke,S52,l35,l36,l37⟩:fq).pl:=by rw [sx hm53]; exact hBk
 refine Ek (args:=[.agg (fz.ai c),v32,(eX bb),(eX bt),.agg [vo111,vpo,vlo,vhe],iv x46]) (p:=[]) (r:=[]) (args':=[.agg (fz.ai c),ff.av fC.ai r47,.ip [iv ke,.fm (cA iK (ff.av cI) S52) true,.fm (cA iK (Row.av cI) l35) true,.fm (cA iK (Row.av bm.ai) l36) true,.fm (cA iK (Row.av bm.ai) l37) true] 0 true,.ip [.ip (fw.ai nt) 0 false,.fm (cA nK bK l38) true] 0 true,.agg [ff.av fM r61,nj r66,ff.av fM r71,ff.av fM r76],iv x46]) (R:=YN c r47 (⟨ke,S52,l35,l36,l37⟩:fq) (⟨nt,l38⟩:iy) (⟨r61,r66,r71,r76⟩:rK) x46) rfl rfl rfl rfl rfl rfl (ei rfl (ei (Sep.arg (i:=7) hS41 rfl) (ei rfl (ei rfl (ei rfl (ei rfl fT)))))) rfl cC (gG (by show fU (freeze true { H40 with aT:=[] } 8) [.agg (fz.ai c),v32,(eX bb),(eX bt),.agg [vo111,vpo,vlo,vhe],iv x46] = _; simp only [FZ,hz50,hz54,hz55,hz56,hz57,hz58,hz59,hz60,hz64,hz69,hz74,hz79]) (ei rfl (ei (Sep.qE (i:=7) hS41 rfl) (ei rfl (ei rfl (ei (PL (ei (Sep.cell (i:=6) hS41 rfl) (ei (Sep.cell (i:=3) hS41 rfl) (ei (Sep.cell (i:=4) hS41 rfl) (ei (Sep.cell (i:=5) hS41 rfl) fT))))) (ei rfl fT))))))) (gG bV (ei rfl (ei rfl (ei rfl (ei rfl (ei rfl (ei rfl fT))))))) (λh=>t29 c r47 (⟨ke,S52,l35,l36,l37⟩:fq) (⟨nt,l38⟩:iy) (⟨r61,r66,r71,r76⟩:rK) x46 aZ aZ aZ aZ h) ?_
 rintro _ ⟨r82,hc81,rfl⟩
 have hWy:=hc81
 rw [sx hm53,hl48] at hWy
 refine lY ?_
 refine oV ?_
 refine gN (λh83=>?_) (λh83=>?_)
 obtain ⟨hx0,r9,hr9,hIdl9,hMay9⟩:=hWy bh
 have hx1:=(List.getElem?_eq_some_iff.1 hr9).1
 refine gq ?_
 refine Ao 1 hS41 ?_
 iterate 2 refine nO 1 hS41 ?_
 refine kW 1 hS41 (gm c.roads) ?_
 refine oV ?_
 have hx84:(x46).toNat<c.roads.l.length:=by omega
 refine pa x46 c.roads hx84 ?_
 generalize hqx85:c.roads.l[(x46).toNat]=x85
 have hinx85:x85∈c.roads.l:=by rw [<- hqx85]; exact List.getElem_mem _
 have hex85:=hqx85.symm.trans (List.getElem?_eq_some_iff.1 hr9).2; have hsx85:=q2 x85 hinx85; have hrx85:=hsx85.1; have hnx85:=hsx85.2.1; have hgx85:=hsx85.2.2.1; have hzx85:=hsx85.2.2.2
 refine aG ?_
 refine am ?_
 refine l3 1 hS41 ((eX bt)) ?_
 refine lu ?_
 refine am ?_
 refine l3 1 hS41 ((eX bb)) ?_
 have hS86:=Sep.pick hS41 [13,14,8,9,10,11,12,6,0,1,2,3,4,5,7,15] 16 bf bf
 have hFm:lP l34 (kL v30 l31::gi b0 [fA c.cB.elems,fJ c.cB.fj,fP c.cB.signals,fy c.cB.lines,iv c.cB.top,iv c.cB.gD,iv c.cB.gu,iv c.cB.gw,.bool c.cB.gE,gm c.roads,v32,(eX bb),(eX bt),vas]::gy fM 1 voc ol::gy cI 1 vpo pol::gy fM 1 vlo lol::gy fM 1 vhe hel::gy fC.ai 4 v32 l33::gy cI 1 vas asl::(N39++F)):=hFam.cons.cons.cons.cons.cons.cons.cons.cons
 refine Dy (H:=H40) (args:=[(eX bt),.agg (fe.ai x85),vo111,(eX bb)]) (p:=[]) (r:=[]) rfl rfl rfl rfl rfl rfl (ei rfl (ei rfl (ei (Sep.arg (i:=6) hS41 rfl) (ei rfl fT)))) rfl (u30 bt nt vmr l38 bb ke vms l34 vmz l35 vmd l36 vmg l37 x85 vo111 ol112 (kL v30 l31::gi b0 [fA c.cB.elems,fJ c.cB.fj,fP c.cB.signals,fy c.cB.lines,iv c.cB.top,iv c.cB.gD,iv c.cB.gu,iv c.cB.gw,.bool c.cB.gE,gm c.roads,v32,(eX bb),(eX bt),vas]::gy fM 1 voc ol::gy cI 1 vpo pol::gy fM 1 vlo lol::gy fM 1 vhe hel::gy fC.ai 4 v32 l33::gy cI 1 vas asl::(N39++F)) hS86 aZ aZ aZ aZ aZ aZ) ?_
 rintro _ H87 ⟨r91,ru190,hc89,hS88,rfl⟩
 refine lY ?_
 refine nW 9 hS88 ?_
 refine mS 9 hS88 ?_
 refine l3 9 hS88 ((eX bb)) ?_
 refine lj ?_
 have hS92:=Sep.pick hS88 [2,3,4,5,6,0,1,7,8,9,10,11,12,13,14,15] 16 bf bf
 have hFm:lP l34 (gi bt [.ip (fw.ai nt) 0 false,vmr]::.map vmr (cA nK bK ru190)::gy fM 1 vo111 ol112::kL v30 l31::gi b0 [fA c.cB.elems,fJ c.cB.fj,fP c.cB.signals,fy c.cB.lines,iv c.cB.top,iv c.cB.gD,iv c.cB.gu,iv c.cB.gw,.bool c.cB.gE,gm c.roads,v32,(eX bb),(eX bt),vas]::gy fM 1 voc ol::gy cI 1 vpo pol::gy fM 1 vlo lol::gy fM 1 vhe hel::gy fC.ai 4 v32 l33::gy cI 1 vas asl::(N39++F)):=hFam.cons.cons.cons.cons.cons.cons.cons.cons.cons.cons.cons
 refine Dy (H:=H87) (args:=[(eX bb),iv x46,.agg (fe.ai x85)]) (p:=[]) (r:=[]) rfl rfl rfl rfl rfl rfl rfl rfl (u31 bb ke vms l34 vmz l35 vmd l36 vmg l37 x46 x85 (gi bt [.ip (fw.ai nt) 0 false,vmr]::.map vmr (cA nK bK ru190)::gy fM 1 vo111 ol112::kL v30 l31::gi b0 [fA c.cB.elems,fJ c.cB.fj,fP c.cB.signals,fy c.cB.lines,iv c.cB.top,iv c.cB.gD,iv c.cB.gu,iv c.cB.gw,.bool c.cB.gE,gm c.roads,v32,(eX bb),(eX bt),vas]::gy fM 1 voc ol::gy cI 1 vpo pol::gy fM 1 vlo lol::gy fM 1 vhe hel::gy fC.ai 4 v32 l33::gy cI 1 vas asl::(N39++F)) hS92 aZ aZ aZ aZ) ?_
 rintro _ H93 ⟨r101,y196,z197,d198,g199,N100,hc95,hS94,rfl⟩
 have hS102:Sep H93 (gi bb [iv ke,vms,vmz,vmd,vmg]::.map vms (cA iK kx y196)::.map vmz (cA iK (Row.av cI) z197)::.map vmd (cA iK (Row.av bm.ai) d198)::.map vmg (cA iK (Row.av bm.ai) g199)::gi bt [.ip (fw.ai nt) 0 false,vmr]::.map vmr (cA nK bK ru190)::gy fM 1 vo111 ol112::kL v30 l31::gi b0 [fA c.cB.elems,fJ c.cB.fj,fP c.cB.signals,fy c.cB.lines,iv c.cB.top,iv c.cB.gD,iv c.cB.gu,iv c.cB.gw,.bool c.cB.gE,gm c.roads,v32,(eX bb),(eX bt),vas]::gy fM 1 voc ol::gy cI 1 vpo pol::gy fM 1 vlo lol::gy fM 1 vhe hel::gy fC.ai 4 v32 l33::gy cI 1 vas asl::((N100++N39)++F)):=by rw [List.append_assoc]; exact Sep.PU (A:=[gi bb [iv ke,vms,vmz,vmd,vmg],.map vms (cA iK kx y196),.map vmz (cA iK (Row.av cI) z197),.map vmd (cA iK (Row.av bm.ai) d198),.map vmg (cA iK (Row.av bm.ai) g199)]) (B:=[gi bt [.ip (fw.ai nt) 0 false,vmr],.map vmr (cA nK bK ru190),gy fM 1 vo111 ol112,kL v30 l31,gi b0 [fA c.cB.elems,fJ c.cB.fj,fP c.cB.signals,fy c.cB.lines,iv c.cB.top,iv c.cB.gD,iv c.cB.gu,iv c.cB.gw,.bool c.cB.gE,gm c.roads,v32,(eX bb),(eX bt),vas],gy fM 1 voc ol,gy cI 1 vpo pol,gy fM 1 vlo lol,gy fM 1 vhe hel,gy fC.ai 4 v32 l33,gy cI 1 vas asl]) (N:=N100) (F:=N39++F) hS94
 have hTk:=hc95
 have hFam:lP y196 ((N100++N39)++F):=by rw [List.append_assoc]; exact hTk.fam hFam
 have hBk:=hTk.2
 refine jG ?_
 refine nW 9 hS102 ?_
 refine mS 9 hS102 ?_
 refine l3 9 hS102 v32 ?_
 refine jG ?_
 have hL103:=x85.steps.lk
 refine rl x85.steps ?_
 refine rC (t32 ((x85.steps.l.length:Int))) ?_
 rintro _ ⟨r105,hc104,rfl⟩
 have hBe:=hc104
 have hk106:(((x46).toNat:Nat):Int)=x46:=Int.toNat_of_nonneg aY
 have hx107:(x46).toNat<l33.length:=by first | omega | (simp<;>omega) | (simp_all; done) | (simp_all; omega)
 obtain ⟨x108,hqx108⟩:∃ x,l33[(x46).toNat]=x:=⟨_,rfl⟩
 refine lW rfl rfl (iT (H:=H93) (i:=14) (m:=(x46).toNat) (cs:=fC.ai x108) hS102 rfl rfl rfl rfl rfl rfl (congrArg (AV.int .i64) hk106.symm) (gW hx107 hqx108)) ?_
 rintro a109 ⟨ha110,hea111⟩
 refine iH (H:=H93) rfl rfl (mB (H:=H93) (i:=14) (m:=(x46).toNat) (o:=0) x108 r105 hS102 rfl hx107 hqx108 hea111 rfl ha110 rfl rfl rfl rfl) ?_
 rintro _ H112 ⟨rfl,hS113⟩
 refine rN ?_
 refine wz [(eX b0),.la 5 0,.la 8 0,cr c.cB.elems.l.length,.la 20 0,iv r91,gk calls,cr calls.l.length,cr kC] H112 [(5,[vo111,vpo,vlo,vhe]),(8,[ee,ee,ee]),(20,[ee,ee,v30])] ?_
 refine gq ?_
 refine oF 8 [r91] hS113 λv114 H115 hS116=>?_
 refine oV ?_
 refine be rfl (λ_=>pf rfl rfl rfl (jx rfl rfl (Sep.cell (i:=8) hS116 rfl)) (ei (Sep.cell (i:=8) hS116 rfl) fT) rfl rfl) ?_
 refine oN ?_
 refine wz [(eX b0),.la 5 0,.la 8 0,cr c.cB.elems.l.length,.la 20 0,gk calls,cr calls.l.length,cr kC] H115 [(5,[vo111,vpo,vlo,vhe]),(8,[ee,ee,ee]),(20,[ee,ee,v114])] ?_
 refine qg ?_
 refine be rfl (λ_=>ca rfl rfl rfl (ej ((kC:Int)) 1 aY aY)) ?_
 refine e9 ?_
 have hS117:=Sep.pick hS116 [8,9,10,11,12,13,7,14,0,1,2,3,4,5,6,15] 16 bf bf
 exact ⟨by omega,v114,((l31++[r91])),v32,((l33.set ((x46).toNat) r105)),y196,z197,d198,g199,ru190,((N100++N39)),H115,aY,aY,c3,(by exact hBk),(by exact hFam),bu,dB,hS117,atR⟩
 refine fo ?_
 refine wz [(eX b0),.la 5 0,.la 8 0,cr c.cB.elems.l.length,.la 20 0,iv r82,gk calls,cr calls.l.length,cr kC] H40 [(5,[vo111,vpo,vlo,vhe]),(8,[ee,ee,ee]),(20,[ee,ee,v30])] ?_
 refine gq ?_
 refine oF 0 [r82] hS41 λv118 H119 hS120=>?_
 refine oV ?_
 refine be rfl (λ_=>pf rfl rfl rfl (jx rfl rfl (Sep.cell (i:=0) hS120 rfl)) (ei (Sep.cell (i:=0) hS120 rfl) fT) rfl rfl) ?_
 refine oN ?_
 refine wz [(eX b0),.la 5 0,.la 8 0,cr c.cB.elems.l.length,.la 20 0,gk calls,cr calls.l.length,cr kC] H119 [(5,[vo111,vpo,vlo,vhe]),(8,[ee,ee,ee]),(20,[ee,ee,v118])] ?_
 refine qg ?_
 refine be rfl (λ_=>ca rfl rfl rfl (ej ((kC:Int)) 1 aY aY)) ?_
 refine e9 ?_
 exact ⟨by omega,v118,((l31++[r82])),v32,l33,l34,l35,l36,l37,l38,N39,H119,aY,aY,c3,(by exact hBk),(by exact hFam),bu,dB,hS120,atR⟩
 refine fk ?_
 refine wz [(eX b0),.la 8 0,cr c.cB.elems.l.length,.la 20 0] H40 [(8,[ee,ee,ee]),(20,[ee,ee,v30])] ?_
 refine lu ?_
 refine am ?_
 refine l3 1 hS41 (.agg (fz.ai c)) ?_
 refine rV ?_
 refine am ?_
 refine l3 1 hS41 v32 ?_
 refine lJ hS41 7 λr121 hl122 hln125 hz124=>?_
 refine Ek (args:=[.agg (fz.ai c),v32]) (p:=[]) (r:=[]) (args':=[.agg (fz.ai c),ff.av fC.ai r121]) (R:=Y1 c r121) rfl rfl rfl rfl rfl rfl (ei rfl (ei (Sep.arg (i:=7) hS41 rfl) fT)) rfl cC (gG (by show fU (freeze true { H40 with aT:=[] } 8) [.agg (fz.ai c),v32] = _; simp only [FZ,hz124]) (ei rfl (ei (Sep.qE (i:=7) hS41 rfl) fT))) (gG bV (ei rfl (ei rfl fT))) (λh=>t33 c r121 aZ h) ?_
 rintro _ ⟨r127,hc126,rfl⟩
 refine am ?_
 refine Rn 1 hS41 (gk r127) λH128 hS129=>?_
 refine jG ?_
 refine oV ?_
 refine lJ hS129 7 λr130 hl131 hln134 hz133=>?_
 obtain ⟨S135,hm136,hz137⟩:=qU hS129 (i:=9) rfl hFam.cons.cons.cons.cons.cons.cons.cons.cons.cons.cons.cons.cons.cons.cons.cons.cons
 have hz138:∀ m,freeze true { H128 with aT:=[] } (m+3) vmz=some (.fm (cA iK (Row.av cI) l35) true):=λm=>gU (i:=10) hS129 rfl [] _ (ij λ_=>iE _)
 have hz139:∀ m,freeze true { H128 with aT:=[] } (m+3) vmd=some (.fm (cA iK (Row.av bm.ai) l36) true):=λm=>gU (i:=11) hS129 rfl [] _ (ij λ_=>iE _)
 have hz140:∀ m,freeze true { H128 with aT:=[] } (m+3) vmg=some (.fm (cA iK (Row.av bm.ai) l37) true):=λm=>gU (i:=12) hS129 rfl [] _ (ij λ_=>iE _)
 have hz141:∀ m,freeze true { H128 with aT:=[] } (m+4) (eX bb)=some (.ip [iv ke,.fm (cA iK (ff.av cI) S135) true,.fm (cA iK (Row.av cI) l35) true,.fm (cA iK (Row.av bm.ai) l36) true,.fm (cA iK (Row.av bm.ai) l37) true] 0 true):=λm=>jh (i:=8) hS129 rfl [] _ (by simp only [FZ,hz133,hz137,hz138,hz139,hz140]; try rfl)
 have hz142:∀ m,freeze true { H128 with aT:=[] } (m+3) vmr=some (.fm (cA nK bK l38) true):=λm=>gU (i:=14) hS129 rfl [] _ (ij λ_=>rfl)
 have hz143:∀ m,freeze true { H128 with aT:=[] } (m+4) (eX bt)=some (.ip [.ip (fw.ai nt) 0 false,.fm (cA nK bK l38) true] 0 true):=λm=>jh (i:=13) hS129 rfl [] _ (by simp only [FZ,hz133,hz137,hz138,hz139,hz140,hz141,hz142]; try rfl)
 have hz144:∀ m,freeze true { H128 with aT:=[] } (m+5) (eX b0)=some (.ip [fA c.cB.elems,fJ c.cB.fj,fP c.cB.signals,fy c.cB.lines,iv c.cB.top,iv c.cB.gD,iv c.cB.gu,iv c.cB.gw,.bool c.cB.gE,gm c.roads,ff.av fC.ai r130,.ip [iv ke,.fm (cA iK (ff.av cI) S135) true,.fm (cA iK (Row.av cI) l35) true,.fm (cA iK (Row.av bm.ai) l36) true,.fm (cA iK (Row.av bm.ai) l37) true] 0 true,.ip [.ip (fw.ai nt) 0 false,.fm (cA nK bK l38) true] 0 true,gk r127] 0 true):=λm=>jh (i:=1) hS129 rfl [] _ (by simp only [FZ,hz133,hz137,hz138,hz139,hz140,hz141,hz142,hz143]; try rfl)
 refine kD (args:=[(eX b0)]) (p:=[]) (r:=[]) (args':=[.ip [fA c.cB.elems,fJ c.cB.fj,fP c.cB.signals,fy c.cB.lines,iv c.cB.top,iv c.cB.gD,iv c.cB.gu,iv c.cB.gw,.bool c.cB.gE,gm c.roads,ff.av fC.ai r130,.ip [iv ke,.fm (cA iK (ff.av cI) S135) true,.fm (cA iK (Row.av cI) l35) true,.fm (cA iK (Row.av bm.ai) l36) true,.fm (cA iK (Row.av bm.ai) l37) true] 0 true,.ip [.ip (fw.ai nt) 0 false,.fm (cA nK bK l38) true] 0 true,gk r127] 0 true]) (R:=YB (⟨c,r130,(⟨ke,S135,l35,l36,l37⟩:fq),(⟨nt,l38⟩:iy),(Row.ji r127)⟩:iQ)) rfl rfl rfl rfl rfl rfl rfl cC (gG (by show fU (freeze true { H128 with aT:=[] } 8) [(eX b0)] = _; simp only [FZ,hz133,hz137,hz138,hz139,hz140,hz141,hz142,hz143,hz144]) (ei rfl fT)) (gG bV (ei rfl fT)) (λh=>t34 (⟨c,r130,(⟨ke,S135,l35,l36,l37⟩:fq),(⟨nt,l38⟩:iy),(Row.ji r127)⟩:iQ) aZ h) ?_
 rintro _ ⟨r146,hc145,rfl⟩
 refine gS ?_
 refine gj (H:=H128) rfl (oM (m:=c.cB.elems.l.length) hS129 rfl rfl rfl rfl rfl aY bf) ?_
 rintro v147 H148 hS149
 have hS151:=Sep.yG (enc:=cI) (z:=(0)) hS149 rfl
 refine oV ?_
 refine be rfl (λ_=>pf rfl rfl rfl (jx rfl rfl (Sep.cell (i:=0) hS151 rfl)) (ei (Sep.cell (i:=0) hS151 rfl) fT) rfl rfl) ?_
 refine gS ?_
 refine be rfl (λ_=>jC (H:=H148) (i:=0) (l:=(List.replicate c.cB.elems.l.length ((0):Int))) (enc:=cI) hS151 rfl rfl rfl rfl rfl rfl rfl) ?_
 refine fo ?_
 have hS152:=Sep.pick hS151 [0,1,2,3,4,5,6,8,9,10,11,12,13,14,15,16] 17 bf bf
 refine e8 ((List.replicate c.cB.elems.l.length ((0):Int)).length) (λk153 e h=>∃ v154:AV,∃ l155:List Int,∃ H156:au,(l155.length=c.cB.elems.l.length)/\Sep H156 (kL v154 l155::kL v30 l31::gi b0 [fA c.cB.elems,fJ c.cB.fj,fP c.cB.signals,fy c.cB.lines,iv c.cB.top,iv c.cB.gD,iv c.cB.gu,iv c.cB.gw,.bool c.cB.gE,gm c.roads,v32,(eX bb),(eX bt),gk r127]::gy fM 1 voc ol::gy cI 1 vpo pol::gy fM 1 vlo lol::gy fM 1 vhe hel::gy fC.ai 4 v32 l33::gi bb [iv ke,vms,vmz,vmd,vmg]::.map vms (cA iK kx l34)::.map vmz (cA iK (Row.av cI) l35)::.map vmd (cA iK (Row.av bm.ai) l36)::.map vmg (cA iK (Row.av bm.ai) l37)::gi bt [.ip (fw.ai nt) 0 false,vmr]::.map vmr (cA nK bK l38)::gy cI 1 vas asl::(N39++F))/\At [0,8,20,247,248] [(eX b0),.la 8 0,.la 20 0,iv ((List.replicate c.cB.elems.l.length ((0):Int)).length:Int),cr k153] H156 [(8,[ee,ee,ee]),(20,[gk r146,v154,v30])] e h) ?_ (k0:=0) bh ⟨v147,((List.replicate c.cB.elems.l.length ((0):Int))),H148,dA,hS152,atR⟩
 rintro k153 e h hkk153 ⟨v154,l155,H156,hTg,hS157,hA⟩
 refine yQ hA ?_
 have hRep:(List.replicate c.cB.elems.l.length (0:Int)).length=c.cB.elems.l.length:=List.length_replicate
 refine e9 ?_
 refine fQ (λh158=>?_) (λh158=>?_)
 refine fk ?_
 refine wz [(eX b0),.la 8 0,.la 20 0,iv ((List.replicate c.cB.elems.l.length ((0):Int)).length:Int),cr k153] H156 [(8,[ee,ee,ee]),(20,[gk r146,v154,v30])] ?_
 refine hZ ?_
 refine Ao 2 hS157 ?_
 iterate 3 refine nO 2 hS157 ?_
 refine kW 2 hS157 (fA c.cB.elems) ?_
 refine oV ?_
 have hx159:k153<c.cB.elems.l.length:=by omega
 refine jn k153 c.cB.elems hx159 ?_
 generalize hqx160:c.cB.elems.l[k153]=x160
 refine e9 ?_
 refine gN (λh161=>?_) (λh161=>?_)
 refine fo ?_
 refine lu ?_
 refine nW 2 hS157 ?_
 refine mS 2 hS157 ?_
 refine l3 2 hS157 ((eX bb)) ?_
 refine rV ?_
 obtain ⟨S162,hm163,hz164⟩:=qU hS157 (i:=9) rfl hFam.cons.cons.cons.cons.cons.cons.cons.cons.cons.cons.cons.cons.cons.cons.cons.cons
 have hz165:∀ m,freeze true { H156 with aT:=[] } (m+3) vmz=some (.fm (cA iK (Row.av cI) l35) true):=λm=>gU (i:=10) hS157 rfl [] _ (ij λ_=>iE _)
 have hz166:∀ m,freeze true { H156 with aT:=[] } (m+3) vmd=some (.fm (cA iK (Row.av bm.ai) l36) true):=λm=>gU (i:=11) hS157 rfl [] _ (ij λ_=>iE _)
 have hz167:∀ m,freeze true { H156 with aT:=[] } (m+3) vmg=some (.fm (cA iK (Row.av bm.ai) l37) true):=λm=>gU (i:=12) hS157 rfl [] _ (ij λ_=>iE _)
 have hz168:∀ m,freeze true { H156 with aT:=[] } (m+4) (eX bb)=some (.ip [iv ke,.fm (cA iK (ff.av cI) S162) true,.fm (cA iK (Row.av cI) l35) true,.fm (cA iK (Row.av bm.ai) l36) true,.fm (cA iK (Row.av bm.ai) l37) true] 0 true):=λm=>jh (i:=8) hS157 rfl [] _ (by simp only [FZ,hz164,hz165,hz166,hz167]; try rfl)
 have hBq:mn (⟨ke,S162,l35,l36,l37⟩:fq).pl:=by rw [sx hm163]; exact hBk
 refine K8 (args:=[(eX bb),cr k153]) (p:=[]) (r:=[]) (args':=[.ip [iv ke,.fm (cA iK (ff.av cI) S162) true,.fm (cA iK (Row.av cI) l35) true,.fm (cA iK (Row.av bm.ai) l36) true,.fm (cA iK (Row.av bm.ai) l37) true] 0 true,cr k153]) (R:=YM (⟨ke,S162,l35,l36,l37⟩:fq) ((k153:Int))) rfl rfl rfl rfl rfl rfl rfl rfl Kr (gG (by show fU (freeze true { H156 with aT:=[] } 8) [(eX bb),cr k153] = _; simp only [FZ,hz164,hz165,hz166,hz167,hz168]) (ei rfl (ei rfl fT))) (gG bV (ei rfl (ei rfl fT))) (λh=>t35 (⟨ke,S162,l35,l36,l37⟩:fq) ((k153:Int)) aZ h) ?_
 rintro _ ⟨r170,r171,hc169,rfl⟩
 have hHe:=hc169
 refine jG ?_
 have hx172:k153<l155.length:=by first | omega | (simp<;>omega) | (simp_all; done) | (simp_all; omega)
 obtain ⟨x173,hqx173⟩:∃ x,l155[k153]=x:=⟨_,rfl⟩
 refine lW rfl rfl (iT (H:=H156) (i:=0) (m:=k153) (cs:=cI x173) hS157 rfl rfl rfl rfl rfl rfl rfl (gW hx172 hqx173)) ?_
 rintro a174 ⟨ha175,hea176⟩
 refine iH (H:=H156) rfl rfl (mB (H:=H156) (i:=0) (m:=k153) (o:=0) x173 r170 hS157 rfl hx172 hqx173 hea176 rfl ha175 rfl rfl rfl rfl) ?_
 rintro _ H177 ⟨rfl,hS178⟩
 refine rN ?_
 refine wz [(eX b0),.la 8 0,.la 20 0,iv ((List.replicate c.cB.elems.l.length ((0):Int)).length:Int),cr k153] H177 [(8,[ee,ee,ee]),(20,[gk r146,v154,v30])] ?_
 refine qg ?_
 refine be rfl (λ_=>ca rfl rfl rfl (ej ((k153:Int)) 1 aY aY)) ?_
 refine e9 ?_
 exact ⟨by omega,v154,((l155.set k153 r170)),H177,bu,hS178,atR⟩
 refine fo ?_
 refine wz [(eX b0),.la 8 0,.la 20 0,iv ((List.replicate c.cB.elems.l.length ((0):Int)).length:Int),cr k153] H156 [(8,[ee,ee,ee]),(20,[gk r146,v154,v30])] ?_
 refine qg ?_
 refine be rfl (λ_=>ca rfl rfl rfl (ej ((k153:Int)) 1 aY aY)) ?_
 refine e9 ?_
 exact ⟨by omega,v154,l155,H156,bu,hS157,atR⟩
 refine fk ?_
 refine wz [.la 8 0,.la 8 0,.la 20 0] H156 [(8,[ee,ee,ee]),(8,[ee,ee,ee]),(20,[gk r146,v154,v30])] ?_
 refine fo ?_
 refine be rfl (λ_=>pf rfl rfl rfl rfl (ei rfl (ei (Sep.cell (i:=0) hS157 rfl) (ei (Sep.cell (i:=1) hS157 rfl) fT))) rfl rfl) ?_
 refine fo ?_
 have hS179:=Sep.pick hS157 [2,7,8,9,10,11,12,13,14,3,4,5,6] 16 bf bf
 exact ⟨.fG [.agg [gk r146,v154,v30],iv 0],(ia (vs:=[.agg [gk r146,v154,v30],iv 0]) rfl rfl),v32,l33,l34,l35,l36,l37,l38,r127,N39,(gk r146),v154,v30,(iv 0),(by exact ⟨hTi,hBk,hFam,hLl,by omega,hSe⟩),Sep.aT hS179 _,rfl⟩
theorem Fi:fK 79=some oz:=by rfl
def u79 {H:au} (vm:AV) (l:List (Int×Row Int)) (F:List gh) (hS:Sep H (.map vm (cA iK (Row.av cI) l)::F)):∃ v H',fh cfg FT fK true 79 [vm] { H with aT:=[] } v H'/\(∃ vo:AV,(True)/\Sep H' (.map vo (cA iK (Row.av cI) l)::.map vm (cA iK (Row.av cI) l)::F)/\v=vo):=by
 obtain ⟨u,H',hc,hS'⟩:=zX Fi hS
 exact eR
def Y8 {H:au} (vm:AV) (l:List (Int×(AV×List Int))) (F:List gh) (hS:Sep H (.map vm (cA iK kx l)::F)):∃ v H',fh cfg FT fK true 79 [vm] { H with aT:=[] } v H'/\(∃ vo:AV,(True)/\Sep H' (.map vo (cA iK kx l)::.map vm (cA iK kx l)::F)/\v=vo):=by
 obtain ⟨u,H',hc,hS'⟩:=zX Fi hS
 exact eR
def Sr {H:au} {F:List gh} (es:List (AV×AV)) (s:Bool) (hS:Sep H F):∃ v H',fh cfg FT fK true 79 [.fm es s] { H with aT:=[] } v H'/\(Sep H' F/\v=.fm es s):=by
 refine ⟨_,_,⟨1,λk hk=>?_⟩,hS.aT [],rfl⟩
 cases k with
 | zero=>omega
 | succ k=>simp only [gP,Fi]; rfl
theorem LC:fK 80=some oz:=by rfl
def YP {H:au} (vm:AV) (l:List (Int×Row bm)) (F:List gh) (hS:Sep H (.map vm (cA iK (Row.av bm.ai) l)::F)):∃ v H',fh cfg FT fK true 80 [vm] { H with aT:=[] } v H'/\(∃ vo:AV,(True)/\Sep H' (.map vo (cA iK (Row.av bm.ai) l)::.map vm (cA iK (Row.av bm.ai) l)::F)/\v=vo):=by
 obtain ⟨u,H',hc,hS'⟩:=zX LC hS
 exact eR
def Uq {H:au} {F:List gh} (es:List (AV×AV)) (s:Bool) (hS:Sep H F):∃ v H',fh cfg FT fK true 80 [.fm es s] { H with aT:=[] } v H'/\(Sep H' F/\v=.fm es s):=by
 refine ⟨_,_,⟨1,λk hk=>?_⟩,hS.aT [],rfl⟩
 cases k with
 | zero=>omega
 | succ k=>simp only [gP,LC]; rfl
def u43 {H:au} (bb:Nat) (ke:Int) (vms:AV) (y:List (Int×(AV×List Int))) (vmz:AV) (z:List (Int×Row Int)) (vmd:AV) (dn:List (Int×Row bm)) (vmg:AV) (gn:List (Int×Row bm)) (F:List gh) (hS:Sep H (gi bb [iv ke,vms,vmz,vmd,vmg]::.map vms (cA iK kx y)::.map vmz (cA iK (Row.av cI) z)::.map vmd (cA iK (Row.av bm.ai) dn)::.map vmg (cA iK (Row.av bm.ai) gn)::F)) :∃ v H',fh cfg FT fK true 43 [(eX bb)] { H with aT:=[] } v H'/\(∃ bq:Nat,∃ ws:AV,∃ wz_:AV,∃ wd:AV,∃ wg:AV,(True)/\Sep H' (gi bb [iv ke,vms,vmz,vmd,vmg]::.map vms (cA iK kx y)::.map vmz (cA iK (Row.av cI) z)::.map vmd (cA iK (Row.av bm.ai) dn)::.map vmg (cA iK (Row.av bm.ai) gn)::gi bq [iv ke,ws,wz_,wd,wg]::.map ws (cA iK kx y)::.map wz_ (cA iK (Row.av cI) z)::.map wd (cA iK (Row.av bm.ai) dn)::.map wg (cA iK (Row.av bm.ai) gn)::F)/\v=(eX bq)):=by
 refine gO Nf ?_
 refine aG ?_
 refine ac ?_
 refine fD rfl rfl (λ_=>iP (i:=0) (o:=0) (r:=iv ke) hS rfl rfl rfl rfl) ?_
 refine rV ?_
 refine ac ?_
 refine fD rfl rfl (λ_=>iP (i:=0) (o:=1) (r:=vms) hS rfl rfl rfl rfl) ?_
 refine rV ?_
 refine ac ?_
 refine fD rfl rfl (λ_=>iP (i:=0) (o:=2) (r:=vmz) hS rfl rfl rfl rfl) ?_
 refine rV ?_
 refine ac ?_
 refine fD rfl rfl (λ_=>iP (i:=0) (o:=3) (r:=vmd) hS rfl rfl rfl rfl) ?_
 refine rV ?_
 refine ac ?_
 refine fD rfl rfl (λ_=>iP (i:=0) (o:=4) (r:=vmg) hS rfl rfl rfl rfl) ?_
 have hS1:=Sep.pick hS [1,0,2,3,4] 5 bf bf
 refine lB (H:=H) (args:=[vms]) (p:=[]) (r:=[]) rfl rfl rfl rfl rfl rfl (ei (Sep.arg (i:=1) hS rfl) fT) rfl (Y8 vms y (gi bb [iv ke,vms,vmz,vmd,vmg]::.map vmz (cA iK (Row.av cI) z)::.map vmd (cA iK (Row.av bm.ai) dn)::.map vmg (cA iK (Row.av bm.ai) gn)::F) hS1) ?_
 rintro vo5 H2 ⟨_,hc4,hS3,rfl⟩
 refine ⟨λcall=>(mH (gC rfl rfl rfl (iP (i:=2) (o:=0) (r:=iv ke) hS3 rfl rfl rfl rfl) rfl (jm _ _ _)) (mH (gC rfl rfl rfl (iP (i:=2) (o:=2) (r:=vmz) hS3 rfl rfl rfl rfl) rfl (sk (i:=3) hS3 rfl)) (mH (gC rfl rfl rfl (iP (i:=2) (o:=3) (r:=vmd) hS3 rfl rfl rfl rfl) rfl (sk (i:=4) hS3 rfl)) (nz (gC rfl rfl rfl (iP (i:=2) (o:=4) (r:=vmg) hS3 rfl rfl rfl rfl) rfl (sk (i:=5) hS3 rfl)))))),?_⟩
 have hS6:=Sep.pick hS3 [3,0,1,2,4,5] 6 bf bf
 refine lB (H:=H2) (args:=[vmz]) (p:=[]) (r:=[]) rfl rfl rfl rfl rfl rfl (ei (Sep.arg (i:=3) hS3 rfl) fT) rfl (u79 vmz z (.map vo5 (cA iK kx y)::.map vms (cA iK kx y)::gi bb [iv ke,vms,vmz,vmd,vmg]::.map vmd (cA iK (Row.av bm.ai) dn)::.map vmg (cA iK (Row.av bm.ai) gn)::F) hS6) ?_
 rintro vo10 H7 ⟨_,hc9,hS8,rfl⟩
 refine ⟨λcall=>(mH (gC rfl rfl rfl (iP (i:=4) (o:=0) (r:=iv ke) hS8 rfl rfl rfl rfl) rfl (jm _ _ _)) (mH (gC rfl rfl rfl (iP (i:=4) (o:=3) (r:=vmd) hS8 rfl rfl rfl rfl) rfl (sk (i:=5) hS8 rfl)) (nz (gC rfl rfl rfl (iP (i:=4) (o:=4) (r:=vmg) hS8 rfl rfl rfl rfl) rfl (sk (i:=6) hS8 rfl))))),?_⟩
 have hS11:=Sep.pick hS8 [5,0,1,2,3,4,6] 7 bf bf
 refine lB (H:=H7) (args:=[vmd]) (p:=[]) (r:=[]) rfl rfl rfl rfl rfl rfl (ei (Sep.arg (i:=5) hS8 rfl) fT) rfl (YP vmd dn (.map vo10 (cA iK (Row.av cI) z)::.map vmz (cA iK (Row.av cI) z)::.map vo5 (cA iK kx y)::.map vms (cA iK kx y)::gi bb [iv ke,vms,vmz,vmd,vmg]::.map vmg (cA iK (Row.av bm.ai) gn)::F) hS11) ?_
 rintro vo15 H12 ⟨_,hc14,hS13,rfl⟩
 refine ⟨λcall=>(mH (gC rfl rfl rfl (iP (i:=6) (o:=0) (r:=iv ke) hS13 rfl rfl rfl rfl) rfl (jm _ _ _)) (nz (gC rfl rfl rfl (iP (i:=6) (o:=4) (r:=vmg) hS13 rfl rfl rfl rfl) rfl (sk (i:=7) hS13 rfl)))),?_⟩
 have hS16:=Sep.pick hS13 [7,0,1,2,3,4,5,6] 8 bf bf
 refine lB (H:=H12) (args:=[vmg]) (p:=[]) (r:=[]) rfl rfl rfl rfl rfl rfl (ei (Sep.arg (i:=7) hS13 rfl) fT) rfl (YP vmg gn (.map vo15 (cA iK (Row.av bm.ai) dn)::.map vmd (cA iK (Row.av bm.ai) dn)::.map vo10 (cA iK (Row.av cI) z)::.map vmz (cA iK (Row.av cI) z)::.map vo5 (cA iK kx y)::.map vms (cA iK kx y)::gi bb [iv ke,vms,vmz,vmd,vmg]::F) hS16) ?_
 rintro vo20 H17 ⟨_,hc19,hS18,rfl⟩
 refine ⟨λcall=>(nz (gC rfl rfl rfl (iP (i:=8) (o:=0) (r:=iv ke) hS18 rfl rfl rfl rfl) rfl (jm _ _ _))),?_⟩
 refine fD rfl rfl (λ_=>IV rfl rfl rfl (nH rfl rfl rfl rfl rfl (nH rfl rfl (jx rfl rfl (Sep.cell (i:=6) hS18 rfl)) (ei (Sep.cell (i:=6) hS18 rfl) fT) rfl (nH rfl rfl (jx rfl rfl (Sep.cell (i:=4) hS18 rfl)) (ei (Sep.cell (i:=4) hS18 rfl) fT) rfl (nH rfl rfl (jx rfl rfl (Sep.cell (i:=2) hS18 rfl)) (ei (Sep.cell (i:=2) hS18 rfl) fT) rfl (nH rfl rfl (jx rfl rfl (Sep.cell (i:=0) hS18 rfl)) (ei (Sep.cell (i:=0) hS18 rfl) fT) rfl rfl)))))) ?_
 refine iH rfl rfl (o3 hS18 rfl rfl rfl rfl (ei rfl (ei (Sep.cell (i:=6) hS18 rfl) (ei (Sep.cell (i:=4) hS18 rfl) (ei (Sep.cell (i:=2) hS18 rfl) (ei (Sep.cell (i:=0) hS18 rfl) fT)))))) ?_
 rintro _ H22 ⟨b21,rfl,hS23⟩
 refine jG ?_
 have hS24:=Sep.pick hS23 [9,8,6,4,2,0,7,5,3,1] 10 bf bf
 exact ⟨(eX b21),rfl,b21,vo5,vo10,vo15,vo20,zT,Sep.aT hS24 _,rfl⟩
def abf {H:au} (a0:fq) (F:List gh) (hS:Sep H F) :∃ v H',fh cfg FT fK true 43 [.ip (fq.ai a0) 0 true] { H with aT:=[] } v H'/\(∃ bq:Nat,(True)/\Sep H' (gi bq (fq.ai a0)::F)/\v=(eX bq)):=by
 refine gO Nf ?_
 refine gS ?_
 refine MM ?_
 refine lB (H:=H) (args:=[.fm (cA iK (ff.av cI) a0.steps) true]) (p:=[]) (r:=[]) rfl rfl rfl rfl rfl rfl rfl rfl (Sr (cA iK (ff.av cI) a0.steps) true hS) ?_
 rintro _ H1 ⟨hS2,rfl⟩
 refine ⟨λcall=>(mH (gC (v:=iv a0.elems) rfl rfl rfl rfl rfl (jm _ _ _)) (mH (gC rfl rfl rfl rfl rfl Qn) (mH (gC rfl rfl rfl rfl rfl pR) (nz (gC rfl rfl rfl rfl rfl pR))))),?_⟩
 refine lB (H:=H1) (args:=[.fm (cA iK (Row.av cI) a0.gB) true]) (p:=[]) (r:=[]) rfl rfl rfl rfl rfl rfl rfl rfl (Sr (cA iK (Row.av cI) a0.gB) true hS2) ?_
 rintro _ H3 ⟨hS4,rfl⟩
 refine ⟨λcall=>(mH (gC (v:=iv a0.elems) rfl rfl rfl rfl rfl (jm _ _ _)) (mH (gC rfl rfl rfl rfl rfl pR) (nz (gC rfl rfl rfl rfl rfl pR)))),?_⟩
 refine lB (H:=H3) (args:=[.fm (cA iK (Row.av bm.ai) a0.fX) true]) (p:=[]) (r:=[]) rfl rfl rfl rfl rfl rfl rfl rfl (Uq (cA iK (Row.av bm.ai) a0.fX) true hS4) ?_
 rintro _ H5 ⟨hS6,rfl⟩
 refine ⟨λcall=>(mH (gC (v:=iv a0.elems) rfl rfl rfl rfl rfl (jm _ _ _)) (nz (gC rfl rfl rfl rfl rfl pR))),?_⟩
 refine lB (H:=H5) (args:=[.fm (cA iK (Row.av bm.ai) a0.guards) true]) (p:=[]) (r:=[]) rfl rfl rfl rfl rfl rfl rfl rfl (Uq (cA iK (Row.av bm.ai) a0.guards) true hS6) ?_
 rintro _ H7 ⟨hS8,rfl⟩
 refine ⟨λcall=>(nz (gC (v:=iv a0.elems) rfl rfl rfl rfl rfl (jm _ _ _))),?_⟩
 refine rV ?_
 refine iH rfl rfl (o3 hS8 rfl rfl rfl rfl rfl) ?_
 rintro _ H10 ⟨b9,rfl,hS11⟩
 refine jG ?_
 have hS12:=Sep.pick hS11 [0] 1 bf bf
 exact ⟨(eX b9),rfl,b9,zT,Sep.aT hS12 _,rfl⟩
def u10 {H:au} (b0:Nat) (c:fz) (xl:AV) (xt:AV) (xa:AV) (bb:Nat) (ke:Int) (vms:AV) (y:List (Int×(AV×List Int))) (vmz:AV) (z:List (Int×Row Int)) (vmd:AV) (dn:List (Int×Row bm)) (vmg:AV) (gn:List (Int×Row bm)) (F:List gh) (hS:Sep H (gi b0 [fA c.cB.elems,fJ c.cB.fj,fP c.cB.signals,fy c.cB.lines,iv c.cB.top,iv c.cB.gD,iv c.cB.gu,iv c.cB.gw,.bool c.cB.gE,gm c.roads,xl,(eX bb),xt,xa]::gi bb [iv ke,vms,vmz,vmd,vmg]::.map vms (cA iK kx y)::.map vmz (cA iK (Row.av cI) z)::.map vmd (cA iK (Row.av bm.ai) dn)::.map vmg (cA iK (Row.av bm.ai) gn)::F)) :∃ v H',fh cfg FT fK true 10 [(eX b0)] { H with aT:=[] } v H'/\(∃ bq:Nat,∃ ws:AV,∃ wz_:AV,∃ wd:AV,∃ wg:AV,(True)/\Sep H' (gi b0 [fA c.cB.elems,fJ c.cB.fj,fP c.cB.signals,fy c.cB.lines,iv c.cB.top,iv c.cB.gD,iv c.cB.gu,iv c.cB.gw,.bool c.cB.gE,gm c.roads,xl,(eX bb),xt,xa]::gi bb [iv ke,vms,vmz,vmd,vmg]::.map vms (cA iK kx y)::.map vmz (cA iK (Row.av cI) z)::.map vmd (cA iK (Row.av bm.ai) dn)::.map vmg (cA iK (Row.av bm.ai) gn)::gi bq [iv ke,ws,wz_,wd,wg]::.map ws (cA iK kx y)::.map wz_ (cA iK (Row.av cI) z)::.map wd (cA iK (Row.av bm.ai) dn)::.map wg (cA iK (Row.av bm.ai) gn)::F)/\v=(eX bq)):=by
 refine gO Mx ?_
 refine gz ?_
 refine ae ?_
 refine be rfl (λ_=>iP (i:=0) (o:=11) (r:=(eX bb)) hS rfl rfl rfl rfl) ?_
 have hS1:=Sep.pick hS [1,2,3,4,5,0] 6 bf bf
 refine gA (H:=H) (args:=[(eX bb)]) (p:=[]) (r:=[]) rfl rfl rfl rfl rfl rfl rfl (u43 bb ke vms y vmz z vmd dn vmg gn (gi b0 [fA c.cB.elems,fJ c.cB.fj,fP c.cB.signals,fy c.cB.lines,iv c.cB.top,iv c.cB.gD,iv c.cB.gu,iv c.cB.gw,.bool c.cB.gE,gm c.roads,xl,(eX bb),xt,xa]::F) hS1) ?_
 rintro _ H2 ⟨bq5,ws6,wz_7,wd8,wg9,hc4,hS3,rfl⟩
 refine fo ?_
 have hS10:=Sep.pick hS3 [10,0,1,2,3,4,5,6,7,8,9] 11 bf bf
 exact ⟨(eX bq5),rfl,bq5,ws6,wz_7,wd8,wg9,zT,Sep.aT hS10 _,rfl⟩
def Uj {H:au} (a0:iQ) (F:List gh) (hS:Sep H F) :∃ v H',fh cfg FT fK true 10 [.ip (iQ.ai a0) 0 true] { H with aT:=[] } v H'/\(∃ bq:Nat,(True)/\Sep H' (gi bq (fq.ai a0.book)::F)/\v=(eX bq)):=by
 refine gO Mx ?_
 refine hZ ?_
 refine gA (H:=H) (args:=[.ip (fq.ai a0.book) 0 true]) (p:=[]) (r:=[]) rfl rfl rfl rfl rfl rfl rfl (abf a0.book F hS) ?_
 rintro _ H2 ⟨bq5,hc4,hS3,rfl⟩
 refine fo ?_
 have hS6:=Sep.pick hS3 [0] 1 bf bf
 exact ⟨(eX bq5),rfl,bq5,zT,Sep.aT hS6 _,rfl⟩
def t36 (a0:iQ) (hFw:j1 a0.c.cB) (q2:rs 17 [.agg (bY.ai a0.c.cB)]=.fG [.agg (fz.ai a0.c),iv 0]):Ct 36 [.ip (iQ.ai a0) 0 true] (λv=>∃ r0:fz,(r0=a0.c)/\v=.agg (fz.ai r0)):=by
 refine fR R3 ?_
 refine kP ?_
 refine oC (TV a0.c.cB aZ q2) ?_
 rintro _ rfl
 refine kS ?_
 exact xG ⟨a0.c,c7,rfl⟩
end Go.Sx
