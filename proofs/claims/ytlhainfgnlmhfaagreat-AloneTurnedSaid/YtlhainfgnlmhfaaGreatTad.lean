/- Proves rules for the walks and their soundness. -/
import Derived.Orders
import Derived.Scope
import Derived.Test.YtlhainfgnlmhfaaGreatTac
set_option linter.all false
namespace Go.Sx
open Go
structure Fr (G0 G:Ga):Prop where
 S:Step G0 (G.fR [] fun _=>none)
 L:∀ d B,G.L d=some B→G0.w.heap.size≤B
section
variable {P:Program} {G0 G G':Ga} {e:Env} {a:Act} {o:Oper} {X:Ctx} {N:Nat}
theorem Fr.UT (h:Fr G0 G) (d:Nat):G0.L d=none:=by
 cases hq:G0.L d with
 | none=>rfl
 | some B=>have:=h.S.ext.dO d B hq; cases this
theorem Fr.step (h:Fr G0 G) (k:Step G G'):Fr G0 G':=by
 have hL:∀ d B,G'.L d=some B→G0.w.heap.size≤B:=by
  intro d B hd
  rcases k.kZ d B hd with h0 | hge
  ·exact h.L d B h0
  ·exact Nat.le_trans h.S.gG hge
 refine ⟨?_,hL⟩
 have hE:Ext G0 (G'.fR [] fun _=>none):=by
  refine ⟨fun s B t=>k.ext.T s B (h.S.ext.T s B t),?_,Nat.le_trans h.S.ext.size k.ext.size,?_,?_,?_⟩
  ·intro s B t
   have h1:=h.S.ext.eB s B t
   have h2:=k.ext.eB s B (h.S.ext.T s B t)
   exact h2.trans h1
  ·intro b hb g' z' xs' hg
   obtain ⟨g1,z1,xs1,h1,hle,heq⟩:=k.ext.eL b (Nat.lt_of_lt_of_le hb h.S.ext.size) g' z' xs' hg
   obtain ⟨g2,z2,xs2,h2,hle2,heq2⟩:=h.S.ext.eL b hb g1 z1 xs1 h1
   refine ⟨g2,z2,xs2,h2,Nat.le_trans hle2 hle,?_⟩
   rintro rfl
   have:g1=g2:=Nat.le_antisymm hle hle2
   subst this
   obtain ⟨e1,p1⟩:=heq rfl
   obtain ⟨e2,p2⟩:=heq2 rfl
   exact ⟨e2.trans e1,fun l hl=>p1 l (p2 l hl)⟩
  ·intro b hb es c hg
   obtain ⟨es1,c1,h1,p1⟩:=k.ext.map b (Nat.lt_of_lt_of_le hb h.S.ext.size) es c hg
   obtain ⟨es2,c2,h2,p2⟩:=h.S.ext.map b hb es1 c1 h1
   exact ⟨es2,c2,h2,fun l hl=>p1 l (p2 l hl)⟩
  ·intro d B hd
   rw [h.UT d] at hd; cases hd
 constructor
 ·exact hE
 ·exact k.os.trans h.S.os
 ·exact k.output.trans h.S.output
 ·exact k.tape.trans h.S.tape
 ·exact Nat.le_trans h.S.gG k.gG
 ·intro B hB hp hL0
  have h1:=h.S.frame B hB hp hL0
  have h2:=k.frame B (Nat.lt_of_lt_of_le hB h.S.gG) (by
   intro b l hl e
   rcases h.S.iN b l hl with ⟨l0,h0,e0⟩ | hge
   ·exact hp b l0 h0 (e0.trans e)
   ·have hge:G0.w.heap.size≤l.B:=hge
    omega) (by
   intro d B' hd e
   have:=h.L d B' hd
   omega)
  exact h2.trans h1
 ·intro b l' hl
  rcases k.iN b l' hl with ⟨l,h0,e⟩ | hge
  ·rcases h.S.iN b l h0 with ⟨l1,h1,e1⟩ | hge
   ·exact .inl ⟨l1,h1,e1.trans e⟩
   ·exact .inr (by rw [← e]; exact hge)
  ·exact .inr (Nat.le_trans h.S.gG hge)
 ·intro b l' hl
  rcases k.ji b l' hl with h0 | hge
  ·obtain ⟨l0,h0⟩:=Option.isSome_iff_exists.1 h0
   exact h.S.ji b l0 h0
  ·exact .inr (Nat.le_trans h.S.ext.size hge)
 ·intro s B hB
  rcases k.l3 s B hB with h0 | hge
  ·exact h.S.l3 s B h0
  ·exact .inr (Nat.le_trans h.S.gG hge)
 ·exact k.lo.trans h.S.lo
 ·intro b hb hn
  have hG:G.pi b=none:=by
   cases hq:G.pi b with
   | none=>rfl
   | some l =>
     rcases h.S.ji b l hq with h0 | hge
     ·rw [hn] at h0; cases h0
     ·omega
  have h1:=h.S.out b hb hn
  have h2:=k.out b (Nat.lt_of_lt_of_le hb h.S.ext.size) hG
  exact h2.trans h1
 ·intro d B hd; cases hd
 ·intro d B hd; cases hd
 ·intro d c hn hdc
  have:=h.S.mH d c hn hdc
  exact this
theorem Fr.fR (h:Fr G0 G) {m:gN} {L:Nat→Option Nat} (hL:∀ d B,L d=some B→G.L d=some B):Fr G0 (G.fR m L) :=
 ⟨h.S,fun d B hd=>h.L d B (hL d B hd)⟩
structure St (N:Nat) (G0 G:Ga) (e:Env) (a:Act):Prop where
 fr:Fr G0 G
 wr:WR G
 er:ER G e a
 df:a.defers=[]
 sz:N≤a.tmps.size
theorem Act.sW (a:Act) (d:Option Tmp) (u:Value):(a.put d u).tmps.size=a.tmps.size:=by
 cases d<;>simp [Act.put]
theorem Act.wu (a:Act) (d:Option Tmp) (u:Value):(a.put d u).defers=a.defers:=by
 cases d<;>rfl
theorem Act.w7 {a:Act} {d:Tmp} {u:Value} (h:d<a.tmps.size) (t:Tmp):(a.put (some d) u).eval (.tmp t)=if t=d then u else a.eval (.tmp t):=by
 simp only [Act.put,Act.eval]
 rw [Array.getD_eq_getD_getElem?,Array.getD_eq_getD_getElem?,Array.getElem?_setIfInBounds]
 by_cases e:d=t
 ·subst e; simp [h]
 ·rw [if_neg e,if_neg (fun x=>e x.symm)]
theorem sQ (e:Env) (d t:Nat) (v:AV):gY (w8 e d v) t=if t=d then v else gY e t:=by
 simp only [w8,gY]
 cases hq:Nat.beq t d with
 | true=>rw [if_pos (Nat.eq_of_beq_eq_true hq)]
 | false=>rw [if_neg (Nat.ne_of_beq_eq_false hq)]
def jV (N:Nat) (o:Oper):Bool:=match o.dst with
 | some d=>Nat.blt d N
 | none=>true
theorem pM {o:Oper} {d:Nat} (h:jV N o=true) (hd:o.dst=some d):d<N:=by
 simp only [jV,hd] at h
 exact Nat.le_of_ble_eq_true h
theorem ER.put (h:ER G e a) (hs:N≤a.tmps.size) (ho:jV N o=true) {v:AV} {u:Value} (hv:VR G v u):ER G (eY e o v) (a.put o.dst u):=by
 constructor
 intro t
 unfold eY
 cases hd:o.dst with
 | none=>exact h.rel t
 | some d =>
   simp only
   rw [sQ,Act.w7 (Nat.lt_of_lt_of_le (pM ho hd) hs)]
   split
   ·exact hv
   ·exact h.rel t
theorem St.put (h:St N G0 G e a) (k:Step G G') (w:WR G') (ho:jV N o=true) {v:AV} {u:Value} (hv:VR G' v u):St N G0 G' (eY e o v) (a.put o.dst u) :=
 ⟨h.fr.step k,w,(h.er.mono k.ext).put h.sz ho hv,by rw [Act.wu]; exact h.df,by rw [Act.sW]; exact h.sz⟩
theorem VR.Aa (G:Ga):VR G (.eP []) Go.undef:=.eP [] #[] rfl (by simp)
theorem VR.Ih {u:Value} (h:VR G (.eP []) u):u=Go.undef:=by
 cases h with
 | fp hp _=>simp [AV.gl] at hp
 | eP _ vs hl _ =>
   have:vs.size=0:=by simpa using hl.symm
   rw [Array.size_eq_zero_iff.1 this]; rfl
theorem wB (a b:Bool):wg a b=(a==b):=by cases a<;>cases b<;>rfl
theorem nZ {ops:Array Oper} (hE:∀ j o' d,ops[j]?=some o'→o'.dst=some d→o.guard.isSome=true→(∀ w,o.guard=some (j,w)→VR G (gY e d) (a.eval (.tmp d)))) {b:Bool} (h:fk ops.toList e o=some b) :
  Region.wanted o (yielded ops a.tmps)=b:=by
 unfold fk at h
 unfold Region.wanted
 split at h
 ·rename_i hg; rw [hg]; simpa using h
 ·rename_i j want hg
  rw [hg]
  simp only
  split at h
  ·rename_i o' ho'
   rw [Array.getElem?_toList] at ho'
   split at h
   ·rename_i d hd
    have hv:=hE j o' d ho' hd (by rw [hg]; rfl) want hg
    unfold yielded
    rw [ho']
    simp only [Option.bind_some,hd]
    unfold yN at h
    have hev:∀ u,a.eval (.tmp d)=u→u≠undef→a.tmps[d]?=some u:=by
     intro u hu hne
     simp only [Act.eval,Array.getD_eq_getD_getElem?] at hu
     cases hq:a.tmps[d]? with
     | none=>rw [hq] at hu; exact absurd hu.symm hne
     | some x=>rw [hq] at hu; simp only [Option.getD_some] at hu; rw [hu]
    split at h
    ·rename_i x hx
     rw [hx] at hv
     have hb:=hv.of_bool
     rw [hev _ hb (by simp [undef])]
     simp only
     simp only [Option.some.injEq] at h
     rw [← h,wB]
     cases x<;>cases want<;>rfl
    ·rename_i hx
     rw [hx] at hv
     have hb:=VR.Ih hv
     simp only [Option.some.injEq] at h
     rw [← h]
     have:∀ y,a.tmps[d]?=some (.bool y)→False:=by
      intro y hy
      have h2:a.eval (.tmp d)=.bool y:=by simp [Act.eval,hy]
      rw [h2] at hb
      simp [undef] at hb
     cases hq:a.tmps[d]? with
     | none=>rfl
     | some v =>
       cases v with
       | bool y=>exact (this y hq).elim
       | _=>rfl
    ·cases h
   ·cases h
  ·cases h
theorem Be {C:fP} (hCX:X.C=C) (hC:fV P C) (hK:js P X.call) {ops:Array Oper} (hN:ops.toList.all (jV N)=true) :
  ∀ (l:List Oper) (i:Nat) (e:Env) (h:bY) (e':Env) (h':bY),ops.toList.drop i=l→rv X ops.toList l e h=some (e',h') →
  ∀ (G:Ga) (a:Act) (Q:Exit→Act→World→Prop),G.h=h→St N G0 G e a→(∀ G' a',G'.h=h'→St N G0 G' e' a'→Q .normal a' G'.w)→wpOps P ops Q (List.range' i (ops.size - i)) a G.w:=by
 intro l
 induction l with
 | nil =>
   intro i e h e' h' hd hr G a Q hG hS hQ
   simp only [rv,Option.some.injEq,Prod.mk.injEq] at hr
   obtain ⟨rfl,rfl⟩:=hr
   have:ops.size - i=0:=by
    have:=congrArg List.length hd
    simpa using this
   rw [this]
   exact hQ G a hG hS
 | cons o l ih =>
   intro i e h e' h' hd hr G a Q hG hS hQ
   have hoi:ops[i]?=some o:=by
    have h1:(ops.toList.drop i)[0]?=some o:=by rw [hd]; rfl
    rw [List.getElem?_drop] at h1
    simpa using h1
   have hlt:i<ops.size:=(Array.getElem?_eq_some_iff.1 hoi).1
   have hd':ops.toList.drop (i+1)=l:=by
    rw [← List.tail_drop,hd]; rfl
   have hon:jV N o=true:=by
    have:=List.all_eq_true.1 hN o
    exact this (by rw [Array.mem_toList_iff]; exact Array.mem_of_getElem? hoi)
   have hrange:List.range' i (ops.size - i)=i::List.range' (i+1) (ops.size - (i+1)):=by
    have:ops.size - i=(ops.size - (i+1))+1:=by omega
    rw [this,List.range'_succ]
   rw [hrange]
   simp only [wpOps,hoi]
   simp only [rv] at hr
   cases hw:fk ops.toList e o with
   | none=>rw [hw] at hr; cases hr
   | some b =>
     rw [hw] at hr
     rw [nZ (fun _ _ d _ _ _ _ _=>hS.er.rel d) hw]
     cases b with
     | false =>
       simp only [Bool.false_eq_true,if_false]
       simp only [kG] at hr
       exact ih (i+1) _ _ e' h' hd' hr G _ Q hG (hS.put (.refl G) hS.wr hon (VR.Aa G)) hQ
     | true =>
       simp only [if_true]
       simp only [kG] at hr
       split at hr
       ·rename_i v h1 hop
        simp only [rU] at hr
        subst hG
        have:=qj hS.wr (by rw [hCX]; exact hC) hS.er hK hop
        left
        refine this _ Q (fun u G' hh hst hwr hv=>?_)
        exact ih (i+1) _ _ e' h' hd' hr G' _ Q hh (hS.put hst hwr hon hv) hQ
       ·cases hr
end
end Go.Sx
namespace Go.Sx
open Go
inductive Kd where
 | nP | qP | rd | pure
 deriving DecidableEq
def uf (fw:List Nat):Callee→Kd
 | .builtin .len=>.rd
 | .builtin .cap=>.pure
 | .builtin .max=>.pure
 | .builtin .min=>.pure
 | .value (.func f)=>if fw.elem f then .nP else .rd
 | _=>.nP
def gk (fw:List Nat):Op→Kd
 | .store .. | .mapUpdate .. | .insert .. | .mapEntry .. | .entryStore ..=>.nP
 | .alloc .. | .box .. | .makeMap .. | .makeSlice .. | .buildSlice ..=>.qP
 | .load .. | .lookup .. | .slice .. | .indexAddr ..=>.rd
 | .call c=>uf fw c.callee
 | _=>.pure
structure uq (h h':bY):Prop where
 get:∀ b o,h.get b=some o→h'.get b=some o
 loc:∀ d c,fJ h.dO d=some c→fJ h'.dO d=some c
theorem uq.refl (h:bY):uq h h:=⟨fun _ _ h=>h,fun _ _ h=>h⟩
def j4 (call:lD):Prop:=∀ (f:Nat) (args:List AV) (h:bY) (v:AV) (h':bY),call false f args h=some (v,h') →
 h'=h∧∀ h2:bY,(∀ b o,h.get b=some o→h2.get b=some o)→call false f args h2=some (v,h2)
section
variable {X:Ctx} {e e':Env} {o:Op} {h h1 h2:bY} {d:Option Nat} {v:AV}
theorem q8 (h:∀ x∈o.operands,eO e x=eO e' x):fC o X e h1 d=fC o X e' h1 d:=by
 have pairs:∀ ps:Array (Nat×Operand),(∀ x∈ps.map (·.2),eO e x=eO e' x)→jq e ps=jq e' ps:=fun ps hp=>by
  unfold jq
  refine List.map_congr_left fun p hm=>?_
  obtain ⟨i,x⟩:=p
  simp only [hp x (Array.mem_map.2 ⟨(i,x),by simpa using hm,rfl⟩)]
 have lst:∀ xs:Array Operand,(∀ x∈xs,eO e x=eO e' x)→xs.toList.map (eO e)=xs.toList.map (eO e'):=fun xs hp =>
  List.map_congr_left fun x hm=>hp x (by simpa using hm)
 cases o<;>simp only [Op.operands] at h<;>simp only [fC]
 case build t ps=>simp only [wx]; rw [pairs ps fun x hx=>h x (by simpa using hx)]
 case buildSlice t n ps=>simp only [oU]; rw [pairs ps fun x hx=>h x (by simpa using hx)]
 case makeFunc fn first captured =>
  simp only [oq]
  rw [lst first fun x hx=>h x (by simp [hx]),lst captured fun x hx=>h x (by simp [hx])]
 case call c =>
  simp only [kX,jW]
  rw [lst c.args fun x hx=>h x (by simp [Call.operands,hx])]
  cases hc:c.callee with
  | value f=>simp only; rw [h f (by simp [Call.operands,hc])]
  | invoke r m=>rfl
  | builtin b=>rfl
 case makeMap t r=>cases r<;>rfl
 case slice t x lo hi mx=>cases lo<;>cases hi<;>cases mx<;>simp_all [kI,jf]
 all_goals (first | rfl | (simp_all [Al,zF,Cg,rP,qQ,oT,sT,Lp,s7,uc,mb,wC,kQ,tD,nt,nh,oE,o0,s4]; done))
theorem jK {x:Option AV} {r:AV×bY} (k:gq h x=some r):r.2=h∧∀ h2,gq h2 x=some (r.1,h2):=by
 obtain ⟨u,hu,rfl⟩:=im k
 exact ⟨rfl,fun h2=>by simp [gq,hu]⟩
theorem sA {fw:List Nat} (hk:gk fw o=.pure) (k:fC o X e h d=some (v,h1)):h1=h∧∀ h2,fC o X e h2 d=some (v,h2):=by
 cases o<;>simp only [gk,reduceCtorEq] at hk<;>simp only [fC] at k ⊢
 case move x=>cases k; exact ⟨rfl,fun _=>rfl⟩
 case assign x=>cases k; exact ⟨rfl,fun _=>rfl⟩
 case pick c a b =>
  simp only [zF,vF] at k ⊢
  split at k<;>cases k
  ·rename_i hc; exact ⟨rfl,fun _=>by rfl⟩
  ·rename_i hc; exact ⟨rfl,fun _=>by rfl⟩
 case build t ps =>
  simp only [wx,tX] at k ⊢
  split at k
  ·split at k
   ·split at k
    ·cases k; exact ⟨rfl,fun _=>rfl⟩
    ·cases k
   ·cases k
  ·cases k
 case nilCheck x=>simp only [oT] at k ⊢; exact jK k
 case binOp op t x y ty=>simp only [sT] at k ⊢; exact jK k
 case unOp op t x=>simp only [Lp] at k ⊢; exact jK k
 case convert s t x =>
  simp only [s7,qw] at k ⊢
  split at k
  ·split at k
   ·split at k
    ·exact jK k
    ·cases k
   ·split at k
    ·cases k; exact ⟨rfl,fun _=>rfl⟩
    ·cases k
   ·cases k
  ·cases k
 case makeFunc fn a c =>
  simp only [oq,m0] at k ⊢
  split at k
  ·split at k
   ·cases k; exact ⟨rfl,fun _=>rfl⟩
   ·cases k
  ·cases k
 case fieldAddr t x f =>
  simp only [mb,kN] at k ⊢
  split at k
  ·cases k
  ·split at k
   ·split at k
    ·exact jK k
    ·cases k
   ·cases k
 case field t x f =>
  simp only [wC,tg] at k ⊢
  split at k
  ·cases k
  ·split at k
   ·split at k
    ·split at k
     ·split at k
      ·exact jK k
      ·cases k
     ·cases k
    ·cases k
   ·cases k
 case index t x i =>
  simp only [tD,rp] at k ⊢
  split at k
  ·cases k
  ·split at k
   ·cases k
   ·split at k
    ·split at k
     ·split at k
      ·cases k; exact ⟨rfl,fun _=>rfl⟩
      ·cases k
     ·cases k
    ·split at k
     ·split at k
      ·split at k
       ·exact jK k
       ·cases k
      ·cases k
     ·cases k
    ·cases k
 case extract t i =>
  simp only [s4,qm] at k ⊢
  split at k
  ·exact jK k
  ·cases k
 case call c =>
  simp only [kX,jW] at k ⊢
  unfold uf at hk
  split at hk<;>try (cases hk; done)
  ·rename_i hc
   rw [hc] at k ⊢
   simp only [iQ,DO,uK] at k ⊢
   split at k
   ·unfold ke at k ⊢
    split at k
    ·cases k; exact ⟨rfl,fun _=>rfl⟩
    ·cases k
   ·cases k
  ·rename_i hc
   rw [hc] at k ⊢
   simp only [iQ,D3,lQ] at k ⊢
   split at k
   ·exact jK k
   ·cases k
  ·rename_i hc
   rw [hc] at k ⊢
   simp only [iQ,D7,lQ] at k ⊢
   split at k
   ·exact jK k
   ·cases k
  ·split at hk<;>cases hk
 all_goals (cases k)
theorem AB {a:AV} {ti:TI} (E:uq h h2) (k:mM a h ti=some v):mM a h2 ti=some v:=by
 unfold mM at k ⊢
 split at k
 ·unfold B2 at k ⊢
  split at k
  ·rename_i cs hcs; simp only [E.loc _ _ hcs]; exact k
  ·cases k
 ·exact k
 ·unfold tF at k ⊢
  split at k
  ·rename_i g' z xs hg; simp only [E.get _ _ hg]; exact k
  ·cases k
 ·exact k
theorem vT {n i:Nat} {y:AV} (k:lv n h y i=some (v,h1)):h1=h∧∀ h2,uq h h2→lv n h2 y i=some (v,h2):=by
 unfold lv at k
 split at k
 ·split at k
  ·rename_i cs hxi
   split at k
   ·rename_i hl
    cases k
    exact ⟨rfl,fun h2 _=>by simp only [lv,hxi,hl]⟩
   ·cases k
  ·cases k
 ·split at k
  ·rename_i z xs hg
   split at k
   ·rename_i hb
    simp only [jw,Option.some.injEq,Prod.mk.injEq] at k
    obtain ⟨rfl,rfl⟩:=k
    exact ⟨rfl,fun h2 E=>by simp only [lv,E.get _ _ hg,hb,jw]⟩
   ·cases k
  ·cases k
 ·cases k
theorem oD {fw:List Nat} (hI:j4 X.call) (hs:X.fa.fw=fw) (hk:gk fw o=.rd) (k:fC o X e h d=some (v,h1)):h1=h∧∀ h2,uq h h2→fC o X e h2 d=some (v,h2):=by
 cases o<;>simp only [gk,reduceCtorEq] at hk<;>simp only [fC] at k ⊢
 case load t a =>
  simp only [rP,pS] at k ⊢
  split at k
  ·obtain ⟨u,hu,k⟩:=im k
   cases k
   exact ⟨rfl,fun h2 E=>by simp [gq,AB E hu]⟩
  ·cases k
 case lookup t m q ok =>
  simp only [nt] at k ⊢
  obtain ⟨u,hu,k⟩:=im k
  cases k
  refine ⟨rfl,fun h2 E=>?_⟩
  have:lM X.C t h2 (eO e m) (eO e q) ok=some v:=by
   unfold lM at hu ⊢
   split at hu
   ·cases hu
   ·split at hu
    ·split at hu
     ·cases hu
     ·split at hu
      ·cases hu
      ·have hf:∀ r,lr h (eO e q) (eO e m)=some r→lr h2 (eO e q) (eO e m)=some r:=by
        intro r hr
        unfold lr at hr ⊢
        split at hr
        ·exact hr
        ·exact hr
        ·split at hr
         ·rename_i es c hg; simp only [E.get _ _ hg]; exact hr
         ·cases hr
        ·cases hr
       split at hu
       ·cases hu
       ·rename_i w hr; simp only [hf _ hr]; exact hu
       ·rename_i hr; simp only [hf _ hr]; exact hu
    ·cases hu
  simp [gq,this]
 case slice t x lo hi mx =>
  simp only [kI,kg] at k ⊢
  split at k
  ·cases k
  ·split at k
   ·split at k
    ·obtain ⟨u,hu,k⟩:=im k
     cases k
     refine ⟨rfl,fun h2 E=>?_⟩
     have:∀ n,slice n h (eO e x) (jf (eO e) lo) (jf (eO e) hi) (jf (eO e) mx)=some v→slice n h2 (eO e x) (jf (eO e) lo) (jf (eO e) hi) (jf (eO e) mx)=some v:=by
      intro n hu
      unfold slice at hu ⊢
      split at hu
      ·exact hu
      ·unfold xo at hu ⊢
       split at hu
       ·rename_i g' z xs hg; simp only [E.get _ _ hg]; exact hu
       ·cases hu
      ·cases hu
     simp [gq,this _ hu]
    ·cases k
   ·split at k
    ·obtain ⟨u,hu,k⟩:=im k
     cases k
     exact ⟨rfl,fun h2 _=>by simp [gq,hu]⟩
    ·cases k
   ·cases k
 case indexAddr t x i =>
  simp only [kQ,j1] at k ⊢
  split at k
  ·cases k
  ·split at k
   ·cases k
   ·split at k
    ·split at k
     ·generalize eO e x=y at k ⊢
      exact vT k
     ·cases k
    ·split at k
     ·split at k
      ·obtain ⟨u,hu,k⟩:=im k
       cases k
       exact ⟨rfl,fun h2 _=>by simp [gq,hu]⟩
      ·cases k
     ·cases k
    ·cases k
 case call c =>
  simp only [kX,jW] at k ⊢
  unfold uf at hk
  split at hk<;>try (cases hk; done)
  ·rename_i hc
   rw [hc] at k ⊢
   simp only [iQ,qh,nU] at k ⊢
   split at k
   ·split at k
    ·unfold ke at k
     split at k
     ·rename_i n hn
      cases k
      refine ⟨rfl,fun h2 E=>?_⟩
      have:∀ (x:AV) (tk:TK),o5 h x tk=some n→o5 h2 x tk=some n:=by
       intro x tk ht
       unfold o5 at ht ⊢
       split at ht
       ·exact ht
       ·exact ht
       ·exact ht
       ·unfold wF at ht ⊢
        split at ht
        ·exact ht
        ·exact ht
        ·split at ht
         ·rename_i es c hg; simp only [E.get _ _ hg]; exact ht
         ·cases ht
        ·cases ht
       ·cases ht
      simp only [ke,this _ _ hn]
     ·cases k
    ·cases k
   ·cases k
  ·rename_i f hc
   rw [hc] at k ⊢
   simp only [eO,n9,ub,List.nil_append,List.append_nil] at k ⊢
   have hsf:X.fa.fw.elem f=false:=by
    rw [hs]
    split at hk
    ·cases hk
    ·rename_i hn; simpa using hn
   split at k
   ·rename_i hok
    rw [hsf] at k
    unfold pC at k
    split at k
    ·rename_i u hu hcall
     cases k
     obtain ⟨rfl,hall⟩:=hI _ _ _ _ _ hcall
     refine ⟨rfl,fun h2 E=>?_⟩
     rw [hsf]
     rw [hall { h2 with dO:=[] } (fun b o hb=>E.get b o hb)]
     rfl
    ·cases k
   ·cases k
end
end Go.Sx
namespace Go.Sx
open Go
theorem iP {α:Type} {f : α→α→Bool} (hf:∀ a b,f a b=true→a=b):∀ x y:List α,jX f x y=true→x=y
 | [],[],_=>rfl
 | a::x,b::y,h=>by
   simp only [jX,Bool.and_eq_true] at h
   rw [hf a b h.1,iP hf x y h.2]
 | [],_::_,h=>by simp [jX] at h
 | _::_,[],h=>by simp [jX] at h
theorem CO {a b:jx} (h:yZ a b=true):a=b:=by
 cases a<;>cases b<;>simp only [yZ,Bool.false_eq_true] at h<;>try rfl
 rw [Nat.eq_of_beq_eq_true h]
theorem kh:∀ (n:Nat) (a b:AV),jP n a b=true→a=b
 | 0,_,_,h=>by simp [jP] at h
 | n+1,a,b,h=>by
   have ih:=kh n
   cases a<;>cases b<;>simp only [jP,Bool.and_eq_true,Bool.false_eq_true,wB,beq_iff_eq,lN,lh,Nat.beq_eq] at h
   all_goals first | rfl | skip
   ·rw [h]
   ·rw [h.1,h.2]
   ·rw [h]
   ·rw [iP ih _ _ h.1.1,h.1.2,h.2]
   ·rw [h.1,h.2]
   ·rw [h.1.1.1,h.1.1.2,h.1.2,h.2]
   ·rw [iP (fun _ _=>iP ih _ _) _ _ h.1,CO h.2]
   ·rw [h.1.1.1,h.1.1.2,h.1.2,h.2]
   ·rw [iP (fun p q hpq=>by simp only [Bool.and_eq_true] at hpq; exact Prod.ext (ih _ _ hpq.1) (ih _ _ hpq.2)) _ _ h.1,h.2]
   ·rw [h]
   ·rw [iP ih _ _ h]
def direct (o:Oper):List Nat:=(o.after.toList.filter (Region.binds .any)).map (·.on)
inductive px (ops:Array Oper):Nat→Nat→Prop
 | one {i j:Nat} {o:Oper}:ops[i]?=some o→j∈direct o→px ops i j
 | more {i k j:Nat} {o:Oper}:ops[i]?=some o→k∈direct o→px ops k j→px ops i j
def pc:List (Nat×Nat)→Nat→Nat
 | [],_=>0
 | (i,m)::t,k=>match Nat.beq i k with
   | true=>m
   | false=>pc t k
def rj (tab:List (Nat×Nat)):List Nat→Nat
 | []=>0
 | k::l=>(1 <<< k) ||| (pc tab k) ||| rj tab l
def ui {β:Type} (ops:Array Oper):List (Nat×List Nat)→List (Nat×Nat)→(List (Nat×Nat)→β)→β
 | [],t,k=>k t
 | (i,_)::l,t,k=>match ops[i]? with
   | some o=>fN (rj t (direct o)) fun m=>ui ops l ((i,m)::t) k
   | none=>ui ops l t k
def Bp (tab:List (Nat×Nat)) (i j:Nat):Bool:=(pc tab i).testBit j
def rr (ops:Array Oper) (o:Oper):Option Tmp→Bool
 | some d=>(o.looksAt ops).elem d
 | none=>false
def yL:Option Tmp→Option Tmp→Bool
 | some a,some b=>Nat.beq a b
 | _,_=>false
def vo:Kd→Bool
 | .nP=>true
 | _=>false
def wv:Kd→Bool
 | .rd=>true
 | _=>false
def Bj (fw:List Nat) (ops:Array Oper) (tab:List (Nat×Nat)) (x y:Nat×List Nat):Bool:=!(Nat.beq x.1 y.1)&&match ops[x.1]?,ops[y.1]? with
 | some a,some b=>(!(rr ops a b.dst)||(Bp tab y.1 x.1&&!(wv (gk fw a.op))))&&(!(rr ops b a.dst)||Bp tab y.1 x.1)&&!(yL a.dst b.dst)&&!((direct a).elem y.1)&&(!(vo (gk fw a.op))||Bp tab y.1 x.1) &&
   (!(wv (gk fw a.op)&&vo (gk fw b.op))||Bp tab y.1 x.1||y.2.elem x.1)
 | _,_=>false
def DL (fw:List Nat) (ops:Array Oper) (x:Nat×List Nat):Bool:=match ops[x.1]? with
 | some o=>(!(rr ops o o.dst)||!(wv (gk fw o.op)))&&(direct o).all (fun j=>!(Nat.beq j x.1)&&Nat.blt j ops.size)
 | none=>false
def pw {α:Type} (R : α→α→Bool):List α→Bool
 | []=>true
 | x::l=>l.all (R x)&&pw R l
def vA (fw:List Nat) (ops:Array Oper) (sch:List (Nat×List Nat)):Bool :=
 ui ops sch [] fun tab=>(List.range ops.size).all (fun i=>sch.any fun x=>Nat.beq x.1 i)&&sch.all (DL fw ops)&&pw (Bj fw ops tab) sch
section
variable {ops:Array Oper} {fw:List Nat} {sch:List (Nat×List Nat)}
theorem s9 {t:List (Nat×Nat)} {i j:Nat} (h:(pc t i).testBit j=true):∃ m,(i,m)∈t∧m.testBit j=true:=by
 induction t with
 | nil=>simp [pc] at h
 | cons p t ih =>
   obtain ⟨k,m⟩:=p
   simp only [pc] at h
   split at h
   ·rename_i hk; rw [Nat.eq_of_beq_eq_true hk]; exact ⟨m,List.mem_cons_self,h⟩
   ·obtain ⟨m',h1,h2⟩:=ih h; exact ⟨m',List.mem_cons_of_mem _ h1,h2⟩
def vv (ops:Array Oper) (t:List (Nat×Nat)):Prop:=∀ i m,(i,m)∈t→∀ j,m.testBit j=true→px ops i j
theorem qK {t:List (Nat×Nat)} (ht:vv ops t) {i:Nat} {o:Oper} (ho:ops[i]?=some o) :
  ∀ l:List Nat,(∀ k∈l,k∈direct o)→∀ j,(rj t l).testBit j=true→px ops i j
 | [],_,j,h=>by simp [rj] at h
 | k::l,hl,j,h=>by
   simp only [rj,Nat.testBit_or,Bool.or_eq_true] at h
   have hk:=hl k List.mem_cons_self
   rcases h with (h | h) | h
   ·have:j=k:=by
     rw [Nat.testBit_shiftLeft] at h
     simp only [ge_iff_le,Bool.and_eq_true,decide_eq_true_eq,Nat.testBit_one_eq_true_iff_self_eq_zero] at h
     omega
    subst this
    exact .one ho hk
   ·obtain ⟨m,h1,h2⟩:=s9 h
    exact .more ho hk (ht k m h1 j h2)
   ·exact qK ht ho l (fun x hx=>hl x (List.mem_cons_of_mem _ hx)) j h
theorem oZ {p:List (Nat×Nat)→Bool}:∀ (l:List (Nat×List Nat)) (t:List (Nat×Nat)),vv ops t→ui ops l t p=true→∃ t',vv ops t'∧p t'=true
 | [],t,ht,h=>⟨t,ht,h⟩
 | (i,c)::l,t,ht,h=>by
   simp only [ui] at h
   split at h
   ·rename_i o ho
    simp only [jw] at h
    refine oZ l _ ?_ h
    intro a m hm j hj
    rcases List.mem_cons.1 hm with e | hm
    ·cases e; exact qK ht ho _ (fun _ h=>h) j hj
    ·exact ht a m hm j hj
   ·exact oZ l t ht h
theorem oF {t:List (Nat×Nat)} (ht:vv ops t) {i j:Nat} (h:Bp t i j=true):px ops i j:=by
 obtain ⟨m,h1,h2⟩:=s9 h
 exact ht i m h1 j h2
theorem Bb {α:Type} {R : α→α→Bool}:∀ {l:List α},pw R l=true→∀ {p q:Nat} {x y : α},p<q→l[p]?=some x→l[q]?=some y→R x y=true
 | [],_,p,q,x,y,_,hx,_=>by simp at hx
 | z::l,h,p,q,x,y,hlt,hx,hy=>by
   simp only [pw,Bool.and_eq_true,List.all_eq_true] at h
   obtain ⟨q,rfl⟩:∃ q',q=q'+1:=⟨q - 1,by omega⟩
   rw [List.getElem?_cons_succ] at hy
   cases p with
   | zero =>
     simp only [List.getElem?_cons_zero,Option.some.injEq] at hx
     subst hx
     exact h.1 y (List.mem_of_getElem? hy)
   | succ p =>
     rw [List.getElem?_cons_succ] at hx
     exact Bb h.2 (by omega) hx hy
structure ng (fw:List Nat) (ops:Array Oper) (sch:List (Nat×List Nat)):Prop where
 cover:∀ i,i<ops.size→∃ (p:Nat) (c:List Nat),sch[p]?=some (i,c)
 one:∀ (p i:Nat) c,sch[p]?=some (i,c)→∃ o,ops[i]?=some o∧(∀ d,o.dst=some d→d∈o.looksAt ops→gk fw o.op≠.rd)∧(∀ j∈direct o,j≠i∧j<ops.size)
 pair:∀ (p q i:Nat) c (j:Nat) c' a b,p<q→sch[p]?=some (i,c)→sch[q]?=some (j,c')→ops[i]?=some a→ops[j]?=some b →
  i≠j∧(∀ d,b.dst=some d→d∈a.looksAt ops→px ops j i∧gk fw a.op≠.rd)∧(∀ d,a.dst=some d→d∈b.looksAt ops→px ops j i)∧(∀ d,a.dst=some d→b.dst≠some d)∧j∉direct a ∧
  (gk fw a.op=.nP→px ops j i)∧(gk fw a.op=.rd→gk fw b.op=.nP→px ops j i∨i∈c')
theorem tw {k:Kd} (h:wv k=false):k≠.rd:=by rintro rfl; cases h
theorem n8 {o:Oper} {x:Option Tmp} (h:rr ops o x=false):∀ d,x=some d→d∉o.looksAt ops:=by
 rintro d rfl hd
 simp only [rr] at h
 rw [List.elem_eq_mem] at h
 simp [hd] at h
theorem Dw (h:vA fw ops sch=true):ng fw ops sch:=by
 obtain ⟨t,ht,h⟩:=oZ sch [] (by intro i m hm; cases hm) h
 simp only [Bool.and_eq_true,List.all_eq_true] at h
 obtain ⟨⟨h1,h2⟩,h3⟩:=h
 refine ⟨?_,?_,?_⟩
 ·intro i hi
  have:=h1 i (List.mem_range.2 hi)
  obtain ⟨x,hx,hb⟩:=List.any_eq_true.1 this
  have:=Nat.eq_of_beq_eq_true hb
  obtain ⟨p,hp⟩:=List.getElem?_of_mem hx
  exact ⟨p,x.2,by rw [hp,← this]⟩
 ·intro p i c hp
  have:=h2 (i,c) (List.mem_of_getElem? hp)
  unfold DL at this
  simp only at this
  split at this
  ·rename_i o ho
   simp only [Bool.and_eq_true,List.all_eq_true,Bool.not_eq_true',Bool.or_eq_true] at this
   obtain ⟨k1,k2⟩:=this
   refine ⟨o,ho,?_,?_⟩
   ·intro d hd hl
    rcases k1 with h | h
    ·exact absurd hl (n8 h d hd)
    ·exact tw h
   ·intro j hj
    obtain ⟨m1,m2⟩:=k2 j hj
    refine ⟨?_,Nat.le_of_ble_eq_true m2⟩
    rintro rfl
    simp at m1
  ·cases this
 ·intro p q i c j c' a b hlt hp hq ha hb
  have:=Bb h3 hlt hp hq
  unfold Bj at this
  simp only [ha,hb,Bool.and_eq_true,Bool.not_eq_true',Bool.or_eq_true] at this
  obtain ⟨k0,⟨⟨⟨⟨k1,k1'⟩,k2⟩,k3⟩,k4⟩,k5⟩:=this
  refine ⟨?_,?_,?_,?_,?_,?_,?_⟩
  ·rintro rfl; simp at k0
  ·intro d hd hl
   rcases k1 with h | h
   ·exact absurd hl (n8 h d hd)
   ·exact ⟨oF ht h.1,tw h.2⟩
  ·intro d hd hl
   rcases k1' with h | h
   ·exact absurd hl (n8 h d hd)
   ·exact oF ht h
  ·intro d hd hd2
   rw [hd,hd2] at k2
   simp [yL] at k2
  ·intro hm
   rw [List.elem_eq_mem] at k3
   simp [hm] at k3
  ·intro hk
   rcases k4 with h | h
   ·rw [hk] at h; simp [vo] at h
   ·exact oF ht h
  ·intro hk hk2
   rcases k5 with (h | h) | h
   ·rw [hk,hk2] at h; simp [vo,wv] at h
   ·exact .inl (oF ht h)
   ·rw [List.elem_eq_mem] at h
    exact .inr (by simpa using h)
structure Trace (X:Ctx) (ops:Array Oper) (sch:List (Nat×List Nat)) (E:Nat→Env) (H:Nat→bY) (V:Nat→AV) (W:Nat→Bool):Prop where
 at_:∀ (p i:Nat) c o,sch[p]?=some (i,c)→ops[i]?=some o→fk ops.toList (E p) o=some (W p)∧E (p+1)=eY (E p) o (V p) ∧
  (W p=true→fC o.op X (E p) (H p) o.dst=some (V p,H (p+1)))∧(W p=false→V p=.eP []∧H (p+1)=H p) ∧
  ∀ r∈c,again X ops.toList (E (p+1)) (H (p+1)) r=true
def shift {α:Type} (x : α) (f:Nat→α):Nat→α
 | 0=>x
 | n+1=>f n
theorem v7 {X:Ctx}:∀ (sch:List (Nat×List Nat)) (e:Env) (h:bY) (e':Env) (h':bY),nb X ops.toList sch e h=some (e',h') →
  ∃ E H V W,E 0=e∧H 0=h∧E sch.length=e'∧H sch.length=h'∧Trace X ops sch E H V W
 | [],e,h,e',h',hr=>by
   simp only [nb,Option.some.injEq,Prod.mk.injEq] at hr
   exact ⟨fun _=>e,fun _=>h,fun _=>.undef,fun _=>true,rfl,rfl,hr.1,hr.2,⟨by intro p i c o hp; simp at hp⟩⟩
 | (i,c)::rest,e,h,e',h',hr=>by
   simp only [nb] at hr
   split at hr
   ·cases hr
   ·rename_i o ho
    rw [Array.getElem?_toList] at ho
    have key:∀ (w:Bool) (v:AV) (h1:bY),fk ops.toList e o=some w→(w=true→fC o.op X e h o.dst=some (v,h1))→(w=false→v=.eP []∧h1=h) →
      (match c.all (again X ops.toList (eY e o v) h1) with | true=>nb X ops.toList rest (eY e o v) h1 | false=>none)=some (e',h') →
      ∃ E H V W,E 0=e∧H 0=h∧E ((i,c)::rest).length=e'∧H ((i,c)::rest).length=h'∧Trace X ops ((i,c)::rest) E H V W:=by
     intro w v h1 hw k1 k2 k3
     split at k3
     ·rename_i hall
      obtain ⟨E,H,V,W,hE0,hH0,hE,hH,hT⟩:=v7 rest _ _ _ _ k3
      refine ⟨shift e E,shift h H,shift v V,shift w W,rfl,rfl,hE,hH,⟨?_⟩⟩
      intro p i' c' o' hp ho'
      cases p with
      | zero =>
        simp only [List.getElem?_cons_zero,Option.some.injEq,Prod.mk.injEq] at hp
        obtain ⟨rfl,rfl⟩:=hp
        rw [ho] at ho'
        cases ho'
        simp only [shift,hE0,hH0]
        refine ⟨hw,trivial,k1,k2,?_⟩
        exact fun r hr=>List.all_eq_true.1 hall r hr
      | succ p =>
        rw [List.getElem?_cons_succ] at hp
        exact hT.at_ p i' c' o' hp ho'
     ·cases k3
    cases hw:fk ops.toList e o with
    | none=>rw [hw] at hr; cases hr
    | some w =>
      rw [hw] at hr
      cases w with
      | false =>
        simp only [kG] at hr
        exact key false (.eP []) h hw (by simp) (fun _=>⟨rfl,rfl⟩) hr
      | true =>
        simp only [kG] at hr
        split at hr
        ·rename_i v h1 hop
         simp only [rU] at hr
         exact key true v h1 hw (fun _=>hop) (by simp) hr
        ·cases hr
variable {X:Ctx} {E:Nat→Env} {H:Nat→bY} {V:Nat→AV} {W:Nat→Bool}
theorem mB {e:Env} {o:Oper} {v:AV} {t:Nat} (h:∀ d,o.dst=some d→d≠t):gY (eY e o v) t=gY e t:=by
 unfold eY
 cases hd:o.dst with
 | none=>rfl
 | some d=>simp only; rw [sQ,if_neg (fun x=>h d hd x.symm)]
theorem uw {e:Env} {o:Oper} {v:AV} {d:Nat} (h:o.dst=some d):gY (eY e o v) d=v:=by
 unfold eY
 rw [h]
 simp only
 rw [sQ,if_pos rfl]
theorem Trace.look (F:ng fw ops sch) (T:Trace X ops sch E H V W) {p i:Nat} {c:List Nat} {o:Oper} (hp:sch[p]?=some (i,c)) (ho:ops[i]?=some o) (hrd:gk fw o.op=.rd) {t:Nat} (ht:t∈o.looksAt ops) :
  ∀ k,p+k≤sch.length→gY (E (p+k)) t=gY (E p) t
 | 0,_=>rfl
 | k+1,hk=>by
   rw [← T.look F hp ho hrd ht k (by omega)]
   have hlt:p+k<sch.length:=by omega
   obtain ⟨x,hx⟩:∃ x,sch[p+k]?=some x:=⟨sch[p+k],by simp [hlt]⟩
   obtain ⟨j,c'⟩:=x
   obtain ⟨o',ho',h1,_⟩:=F.one _ _ _ hx
   have:=(T.at_ _ _ _ _ hx ho').2.1
   rw [← Nat.add_assoc,this]
   refine mB ?_
   rintro d hd rfl
   cases k with
   | zero =>
     rw [Nat.add_zero,hp] at hx
     cases hx
     rw [ho] at ho'; cases ho'
     exact h1 d hd ht hrd
   | succ k=>exact ((F.pair p (p+(k+1)) i c j c' o o' (by omega) hp hx ho ho').2.1 d hd ht).2 hrd
theorem Trace.val (F:ng fw ops sch) (T:Trace X ops sch E H V W) {p i:Nat} {c:List Nat} {o:Oper} (hp:sch[p]?=some (i,c)) (ho:ops[i]?=some o) {d:Nat} (hd:o.dst=some d) :
  ∀ k,p+1+k≤sch.length→gY (E (p+1+k)) d=V p
 | 0,_=>by rw [Nat.add_zero,(T.at_ _ _ _ _ hp ho).2.1]; exact uw hd
 | k+1,hk=>by
   rw [← T.val F hp ho hd k (by omega)]
   have hlt:p+1+k<sch.length:=by omega
   obtain ⟨x,hx⟩:∃ x,sch[p+1+k]?=some x:=⟨sch[p+1+k],by simp [hlt]⟩
   obtain ⟨j,c'⟩:=x
   obtain ⟨o',ho',_⟩:=F.one _ _ _ hx
   have:=(T.at_ _ _ _ _ hx ho').2.1
   rw [← Nat.add_assoc,this]
   refine mB ?_
   rintro d' hd' rfl
   exact (F.pair p (p+1+k) i c j c' o o' (by omega) hp hx ho ho').2.2.2.1 d' hd hd'
theorem Trace.eB (F:ng fw ops sch) (T:Trace X ops sch E H V W) {t:Nat}:∀ k,k≤sch.length→(∀ (q j:Nat) c o',q<k→sch[q]?=some (j,c)→ops[j]?=some o'→o'.dst≠some t)→gY (E k) t=gY (E 0) t
 | 0,_,_=>rfl
 | k+1,hk,ht=>by
   rw [← T.eB F k (by omega) (fun q j c o' hq=>ht q j c o' (by omega))]
   have hlt:k<sch.length:=by omega
   obtain ⟨x,hx⟩:∃ x,sch[k]?=some x:=⟨sch[k],by simp [hlt]⟩
   obtain ⟨j,c'⟩:=x
   obtain ⟨o',ho',_⟩:=F.one _ _ _ hx
   rw [(T.at_ _ _ _ _ hx ho').2.1]
   refine mB ?_
   rintro d hd rfl
   exact ht k j c' o' (Nat.lt_succ_self _) hx ho' hd
end
end Go.Sx
namespace Go.Sx
open Go
section
variable {P:Program} {C:fP} {X:Ctx} {o:Oper} {fw:List Nat}
def Ai (P:Program) (o:Oper) (e:Env) (h0:bY) (r:AV×bY) (E:kr):Prop :=
 r.2=E.on h0∧(∀ d cs,E=.loc d cs→fJ h0.dO d=none) ∧
 ∃ s:Act→Sem Value,(∀ a,execOp (Act.eval a) o=(do pure (.value (← s a))))∧∀ G a e',(∀ x∈o.op.operands,eO e' x=eO e x)→WR G→ER G e' a→lC P (s a) G h0.size r.1 E
theorem Jp (hC:fV P X.C) {e:Env} {h0:bY} {r:AV×bY} (hk:gk fw o.op=.qP) (h:fC o.op X e h0 o.dst=some r):∃ E,Ai P o e h0 r E:=by
 cases ho:o.op<;>rw [ho] at hk h<;>simp only [gk,reduceCtorEq] at hk
 case alloc t =>
  obtain ⟨E,h1,h2,h3⟩:=tA (P:=P) hC h
  exact ⟨E,h1,h2,fun _=>Instr.alloc t true (.tuple #[]),fun a=>by simp only [execOp,ho],fun G a e' _ hW _=>h3 G hW⟩
 case box t x =>
  obtain ⟨E,h1,h2,h3⟩:=wO (P:=P) h
  refine ⟨E,h1,h2,fun a=>Instr.box t (a.eval x),fun a=>by simp only [execOp,ho],fun G a e' hop hW hE=>h3 G _ hW ?_⟩
  rw [← hop x (by rw [ho]; simp [Op.operands])]
  exact e9 hE x
 case buildSlice t n ps =>
  obtain ⟨E,h1,h2,h3⟩:=oJ (P:=P) hC h
  refine ⟨E,h1,h2,fun a=>Instr.buildSlice t n (ps.map fun (i,x)=>(i,a.eval x)),fun a=>by simp only [execOp,ho],fun G a e' hop hW hE=>?_⟩
  obtain ⟨k1,k2⟩:=oY hE ps
  have he:jq e' ps=jq e ps:=by
   unfold jq
   refine List.map_congr_left fun p hm=>?_
   rw [hop p.2 (by rw [ho]; simp only [Op.operands]; exact List.mem_toArray.2 (List.mem_map.2 ⟨p,hm,rfl⟩))]
  rw [he] at k1 k2
  exact h3 G _ hW k1 k2
 case makeMap t hint =>
  cases hint with
  | none =>
    cases h
    obtain ⟨E,h1,h2,h3⟩:=rs (P:=P) (t:=t) h0 none rfl
    exact ⟨E,h1,h2,fun _=>Instr.makeMap t none,fun a=>by simp only [execOp,ho]; rfl,fun G a e' _ hW _=>h3 G hW⟩
  | some x=>cases h
 case makeSlice t l c =>
  obtain ⟨E,h1,h2,h3⟩:=ph (P:=P) hC h
  refine ⟨E,h1,h2,fun a=>Instr.makeSlice t (a.eval l) (a.eval c),fun a=>by simp only [execOp,ho],fun G a e' hop hW hE=>h3 G _ _ hW ?_ ?_⟩
  ·rw [← hop l (by rw [ho]; simp [Op.operands])]; exact e9 hE l
  ·rw [← hop c (by rw [ho]; simp [Op.operands])]; exact e9 hE c
 case call c =>
  unfold uf at hk
  split at hk<;>try (cases hk; done)
  split at hk<;>cases hk
def jT (G:Ga) (n:Nat):kr→Prop
 | .obj ob=>G.h.get n=some ob∧G.pi n=none
 | .loc d cs=>fJ G.h.dO d=some cs∧G.L d=none
 | .none=>True
theorem jT.step {G G':Ga} (hW:WR G) (S:Step G G') {n:Nat} {E:kr} (h:jT G n E):jT G' n E:=by
 cases E with
 | obj ob =>
   obtain ⟨h1,h2⟩:=h
   have hlt:=hW.lt _ _ h1
   refine ⟨by rw [S.out n hlt h2]; exact h1,?_⟩
   cases hq:G'.pi n with
   | none=>rfl
   | some l =>
     rcases S.ji n l hq with h0 | hge
     ·rw [h2] at h0; cases h0
     ·omega
 | loc d cs =>
   obtain ⟨h1,h2⟩:=h
   refine ⟨S.mH d cs h2 h1,?_⟩
   cases hq:G'.L d with
   | none=>rfl
   | some B =>
     rcases S.mf d B hq with h0 | h0
     ·rw [h2] at h0; cases h0
     ·rw [h1] at h0; cases h0
 | none=>trivial
theorem AX {G G':Ga} (S:Step G G') (W':WR G') {d:Nat} (h:(fJ G.h.dO d).isSome=true):(fJ G'.h.dO d).isSome=true:=by
 cases hq:G.L d with
 | none =>
   obtain ⟨c,hc⟩:=Option.isSome_iff_exists.1 h
   rw [S.mH d c hq hc]; rfl
 | some B=>exact (W'.iE d B (S.ext.dO d B hq)).2
structure uD (H:Nat→bY) (p:Nat):Prop where
 ok:∀ q,q≤p→(H q).lo≤(H q).size∧∀ b o,(H q).get b=some o→b<(H q).size
 size:∀ q r,q≤r→r≤p→(H q).size≤(H r).size
 loc:∀ q r,q≤r→r≤p→∀ d,(fJ (H q).dO d).isSome=true→(fJ (H r).dO d).isSome=true
theorem uD.next {H:Nat→bY} {p:Nat} (R:uD H p) {G G':Ga} (S:Step G G') (W':WR G') (hG:G.h=H p) (hG':G'.h=H (p+1)):uD H (p+1):=by
 have hz:(H p).size≤(H (p+1)).size:=by rw [← hG,← hG']; exact S.ext.size
 have hl:∀ d,(fJ (H p).dO d).isSome=true→(fJ (H (p+1)).dO d).isSome=true:=by
  intro d hd
  rw [← hG] at hd
  rw [← hG']
  exact AX S W' hd
 refine ⟨?_,?_,?_⟩
 ·intro q hq
  by_cases e:q≤p
  ·exact R.ok q e
  ·have:q=p+1:=by omega
   subst this
   rw [← hG']
   exact ⟨W'.lo,W'.lt⟩
 ·intro q r hqr hr
  by_cases e:r≤p
  ·exact R.size q r hqr e
  ·have:r=p+1:=by omega
   subst this
   by_cases e2:q≤p
   ·exact Nat.le_trans (R.size q p e2 (Nat.le_refl _)) hz
   ·have:q=p+1:=by omega
    subst this
    exact Nat.le_refl _
 ·intro q r hqr hr d hd
  by_cases e:r≤p
  ·exact R.loc q r hqr e d hd
  ·have:r=p+1:=by omega
   subst this
   by_cases e2:q≤p
   ·exact hl d (R.loc q p e2 (Nat.le_refl _) d hd)
   ·have:q=p+1:=by omega
    subst this
    exact hd
end
section
variable {P:Program} {X:Ctx} {N:Nat} {ops:Array Oper} {fw:List Nat} {sch:List (Nat×List Nat)}
variable {E:Nat→Env} {H:Nat→bY} {V:Nat→AV} {W:Nat→Bool}
def vV (P:Program) (fw:List Nat) (ops:Array Oper) (sch:List (Nat×List Nat)) (E:Nat→Env) (H:Nat→bY) (V:Nat→AV) (W:Nat→Bool) (Ef:Nat→kr):Prop :=
 ∀ (p i:Nat) c o,sch[p]?=some (i,c)→ops[i]?=some o→W p=true→gk fw o.op=.qP→Ai P o (E p) (H p) (V p,H (p+1)) (Ef p)
theorem RM (hC:fV P X.C) (T:Trace X ops sch E H V W):∃ Ef,vV P fw ops sch E H V W Ef:=by
 have:∀ p,∃ E0:kr,∀ (i:Nat) c o,sch[p]?=some (i,c)→ops[i]?=some o→W p=true→gk fw o.op=.qP→Ai P o (E p) (H p) (V p,H (p+1)) E0:=by
  intro p
  by_cases h:∃ (i:Nat) (c:List Nat) (o:Oper),sch[p]?=some (i,c)∧ops[i]?=some o∧W p=true∧gk fw o.op=.qP
  ·obtain ⟨i,c,o,h1,h2,h3,h4⟩:=h
   obtain ⟨E0,hE0⟩:=Jp hC h4 ((T.at_ p i c o h1 h2).2.2.1 h3)
   refine ⟨E0,?_⟩
   intro i' c' o' k1 k2 _ _
   rw [h1] at k1; cases k1
   rw [h2] at k2; cases k2
   exact hE0
  ·refine ⟨.none,?_⟩
   intro i c o k1 k2 k3 k4
   exact absurd ⟨i,c,o,k1,k2,k3,k4⟩ h
 exact ⟨fun p=>Classical.choose (this p),fun p=>Classical.choose_spec (this p)⟩
theorem mU (T:Trace X ops sch E H V W) (hI:j4 X.call) (hs:X.fa.fw=fw) {p i:Nat} {c:List Nat} {o:Oper} (hp:sch[p]?=some (i,c)) (ho:ops[i]?=some o)
  (hk:W p=false∨gk fw o.op=.pure∨gk fw o.op=.rd):H (p+1)=H p:=by
 obtain ⟨_,_,h1,h2,_⟩:=T.at_ p i c o hp ho
 cases hw:W p with
 | false=>exact (h2 hw).2
 | true =>
   rcases hk with h | h | h
   ·rw [hw] at h; cases h
   ·exact (sA h (h1 hw)).1
   ·exact (oD hI hs h (h1 hw)).1
theorem KI {h:bY} {E0:kr} (hlo:h.lo≤h.size) (hlt:∀ b o,h.get b=some o→b<h.size) (hl:∀ d cs,E0=.loc d cs→fJ h.dO d=none):uq h (E0.on h):=by
 cases E0 with
 | obj ob =>
   refine ⟨?_,?_⟩
   ·intro b o hb
    show (h.push ob).get b=some o
    rw [bY.jr _ _ _ hlo,if_neg (by have:=hlt b o hb; omega)]
    exact hb
   ·intro d c hd
    show fJ (h.push ob).dO d=some c
    rw [bY.Bh]
    exact hd
 | loc d cs =>
   refine ⟨fun b o hb=>hb,?_⟩
   intro d' c hd
   show fJ ((d,cs)::h.dO) d'=some c
   have hn:=hl d cs rfl
   simp only [fJ]
   cases hq:Nat.beq d' d with
   | true =>
     rw [Nat.eq_of_beq_eq_true hq,hn] at hd
     cases hd
   | false=>exact hd
 | none=>exact .refl h
theorem A9 {Ef:Nat→kr} (hI:j4 X.call) (hs:X.fa.fw=fw) (F:ng fw ops sch) (T:Trace X ops sch E H V W) (hEf:vV P fw ops sch E H V W Ef)
  {q i:Nat} {c:List Nat} {o:Oper} (hq:sch[q]?=some (i,c)) (ho:ops[i]?=some o) (hw:W q=true) (hk:gk fw o.op=.rd) {p:Nat} (hp:p≤sch.length) (R:uD H p)
  (hfree:∀ (r j:Nat) c' b,q<r→r<p→sch[r]?=some (j,c')→ops[j]?=some b→gk fw b.op=.nP→¬ px ops j i) :
  ∀ k,q+1+k≤p→fC o.op X (E q) (H (q+1+k)) o.dst=some (V q,H (q+1+k))
 | 0,_=>by
   obtain ⟨_,_,h1,_,_⟩:=T.at_ q i c o hq ho
   have h1:=h1 hw
   have e:=(oD hI hs hk h1).1
   rw [e] at h1
   simp only [Nat.add_zero]
   rw [e]
   exact h1
 | k+1,hk2=>by
   have ih:=A9 hI hs F T hEf hq ho hw hk hp R hfree k (by omega)
   have hlt:q+1+k<sch.length:=by omega
   obtain ⟨x,hx⟩:∃ x,sch[q+1+k]?=some x:=⟨sch[q+1+k],by simp [hlt]⟩
   obtain ⟨j,c'⟩:=x
   obtain ⟨b,hb,_⟩:=F.one _ _ _ hx
   obtain ⟨_,hE1,h1,h2,hchk⟩:=T.at_ _ _ _ _ hx hb
   rw [← Nat.add_assoc]
   cases hw2:W (q+1+k) with
   | false=>rw [(h2 hw2).2]; exact ih
   | true =>
     cases hkb:gk fw b.op with
     | pure=>rw [mU T hI hs hx hb (.inr (.inl hkb))]; exact ih
     | rd=>rw [mU T hI hs hx hb (.inr (.inr hkb))]; exact ih
     | qP =>
       obtain ⟨e1,e2,_⟩:=hEf _ _ _ _ hx hb hw2 hkb
       have e1:H (q+1+k+1)=(Ef (q+1+k)).on (H (q+1+k)):=e1
       have hext:=KI (R.ok _ (by omega)).1 (R.ok _ (by omega)).2 e2
       rw [e1]
       exact (oD hI hs hk ih).2 _ hext
     | nP =>
       have hpr:=F.pair q (q+1+k) i c j c' o b (by omega) hq hx ho hb
       have hmem:i∈c':=(hpr.2.2.2.2.2.2 hk hkb).resolve_left (hfree _ _ _ _ (by omega) (by omega) hx hb hkb)
       have hag:=hchk i hmem
       unfold again at hag
       rw [Array.getElem?_toList,ho] at hag
       simp only at hag
       have hwq:fk ops.toList (E (q+1+k+1)) o=fk ops.toList (E q) o:=by
        unfold fk
        split
        ·rfl
        ·rename_i j2 want hg
         split
         ·rename_i o2 ho2
          split
          ·rename_i d2 hd2
           rw [Array.getElem?_toList] at ho2
           have:d2∈o.looksAt ops:=by
            unfold Oper.looksAt
            refine List.mem_append_right _ ?_
            rw [hg]
            simp only [ho2,Option.bind_some,hd2]
            simp
           have:=T.look F hq ho hk this (k+2) (by omega)
           rw [← Nat.add_assoc,show q+k+2=q+1+k+1 by omega] at this
           rw [this]
          ·rfl
         ·rfl
       rw [hwq,(T.at_ _ _ _ _ hq ho).1,hw] at hag
       simp only at hag
       split at hag
       ·cases hag
       ·rename_i d hd
        have hcong:fC o.op X (E (q+1+k+1)) (H (q+1+k+1)) (some d)=fC o.op X (E q) (H (q+1+k+1)) (some d):=by
         refine q8 ?_
         intro x hx2
         cases x with
         | tmp t =>
           simp only [eO]
           have:t∈o.looksAt ops:=List.mem_append_left _ (List.mem_filterMap.2 ⟨.tmp t,by simpa using hx2,rfl⟩)
           have:=T.look F hq ho hk this (k+2) (by omega)
           rw [← Nat.add_assoc,show q+k+2=q+1+k+1 by omega] at this
           exact this
         | _=>rfl
        rw [hcong] at hag
        unfold wS at hag
        split at hag
        ·rename_i v hh hop
         have hv:=kh _ _ _ hag
         have:=T.val F hq ho hd (k+1) (by omega)
         rw [← Nat.add_assoc] at this
         rw [this] at hv
         subst hv
         have e:=(oD hI hs hk hop).1
         rw [e] at hop
         rw [hd]
         exact hop
        ·cases hag
end
end Go.Sx
namespace Go.Sx
open Go
theorem filter_lt {p p':Nat→Bool} (h:∀ x,p' x=true→p x=true) {i:Nat}:∀ {l:List Nat},i∈l→p i=true→p' i=false→(l.filter p').length<(l.filter p).length
 | [],hi,_,_=>by cases hi
 | x::l,hi,h1,h2=>by
   have hle:∀ l:List Nat,(l.filter p').length≤(l.filter p).length:=by
    intro l
    induction l with
    | nil=>simp
    | cons y l ih =>
      simp only [List.filter_cons]
      cases hy:p' y with
      | true=>simp [h y hy,ih]
      | false=>cases hp:p y<;>simp [ih]; omega
   simp only [List.filter_cons]
   rcases List.mem_cons.1 hi with rfl | hi
   ·simp only [h1,h2,if_true,Bool.false_eq_true,if_false,List.length_cons]
    have:=hle l
    omega
   ·have ih:=filter_lt h hi h1 h2
    cases hx:p' x with
    | true=>simp [h x hx,ih]
    | false=>cases hp:p x<;>simp [ih]; omega
def uJ (U:List Nat) (e0 e:Env):Env:=U.map (fun t=>(t,gY e0 t))++e
theorem mE (e0 e:Env) (t:Nat):∀ U:List Nat,gY (uJ U e0 e) t=if t∈U then gY e0 t else gY e t
 | []=>by simp [uJ]
 | x::U=>by
   have ih:=mE e0 e t U
   unfold uJ at ih ⊢
   simp only [List.map_cons,List.cons_append,gY,ih,List.mem_cons]
   cases hq:Nat.beq t x with
   | true=>rw [Nat.eq_of_beq_eq_true hq]; simp
   | false =>
     have:t≠x:=Nat.ne_of_beq_eq_false hq
     simp [this]
def mj (ops:Array Oper) (eX:Array Bool):List Nat:=(List.range ops.size).filterMap fun j=>if eX.getD j false then none else (ops[j]?).bind (·.dst)
theorem j9 {ops:Array Oper} {eX:Array Bool} {t:Nat}:t∈mj ops eX↔∃ (j:Nat) (b:Oper),ops[j]?=some b∧b.dst=some t∧eX.getD j false=false:=by
 unfold mj
 rw [List.mem_filterMap]
 constructor
 ·rintro ⟨j,_,h⟩
  split at h
  ·cases h
  ·rename_i hl
   cases hb:ops[j]? with
   | none=>rw [hb] at h; cases h
   | some b=>rw [hb] at h; exact ⟨j,b,hb,h,by simpa using hl⟩
 ·rintro ⟨j,b,hb,hd,hl⟩
  refine ⟨j,List.mem_range.2 (Array.getElem?_eq_some_iff.1 hb).1,?_⟩
  rw [hl,hb]
  simpa using hd
section
variable (P:Program) (N:Nat) (ops:Array Oper) (fw:List Nat) (sch:List (Nat×List Nat))
variable (E:Nat→Env) (H:Nat→bY) (V:Nat→AV) (W:Nat→Bool) (Ef:Nat→kr) (J:Ga→Act→Prop) (G0:Ga)
structure qA (p:Nat) (G:Ga) (eX:Array Bool) (a:Act):Prop where
 pn:p≤sch.length
 h:G.h=H p
 fr:Fr G0 G
 wr:WR G
 df:a.defers=[]
 sz:N≤a.tmps.size
 ls:eX.size=ops.size
 base:G0.h.size≤(H 0).size
 down:∀ i,eX.getD i false=true→∀ o,ops[i]?=some o→∀ j∈direct o,eX.getD j false=true
 zW:∀ (q i:Nat) c o,q<p→sch[q]?=some (i,c)→ops[i]?=some o→gk fw o.op=.nP→eX.getD i false=true
 er:ER G (uJ (mj ops eX) (E 0) (E sch.length)) a
 late:∀ (q i:Nat) c o,q<p→sch[q]?=some (i,c)→ops[i]?=some o→W q=true→gk fw o.op=.qP→eX.getD i false=false→jT G (H q).size (Ef q)
 oX:uD H p
 jj:J G a
structure Bf:Prop where
 step:∀ G G' a,J G a→Step G G'→J G' a
 put:∀ G a (o:Oper) u,o∈ops.toList→J G a→J G (a.put o.dst u)
 fill:∀ G G' a bs ds,J G a→nO G G' bs ds→J G' a
def Stop (p:Nat) (eX:Array Bool):Prop:=∀ (i:Nat) c,sch[p]?=some (i,c)→eX.getD i false=false∧∀ o,ops[i]?=some o→gk fw o.op=.nP
end
section
variable {P:Program} {X:Ctx} {N:Nat} {ops:Array Oper} {fw:List Nat} {sch:List (Nat×List Nat)}
variable {E:Nat→Env} {H:Nat→bY} {V:Nat→AV} {W:Nat→Bool} {Ef:Nat→kr} {J:Ga→Act→Prop} {G0:Ga} {Q:Exit→Act→World→Prop}
theorem Sy (hJ:Bf ops J) (hI:j4 X.call) (hs:X.fa.fw=fw) (F:ng fw ops sch) (T:Trace X ops sch E H V W) (hEf:vV P fw ops sch E H V W Ef) :
  ∀ (m p:Nat) (G:Ga) (eX:Array Bool) (a:Act),sch.length - p=m→qA N ops fw sch E H W Ef J G0 p G eX a →
  (∀ (q i:Nat) c,p≤q→sch[q]?=some (i,c)→eX.getD i false=false) →
  ∃ p' G',qA N ops fw sch E H W Ef J G0 p' G' eX a∧Stop ops fw sch p' eX∧G'.w=G.w:=by
 intro m
 induction m with
 | zero =>
   intro p G eX a hm hP hun
   refine ⟨p,G,hP,?_,rfl⟩
   intro i c hp
   have:=(List.getElem?_eq_some_iff.1 hp).1
   omega
 | succ m ih =>
   intro p G eX a hm hP hun
   have hlt:p<sch.length:=by omega
   obtain ⟨x,hx⟩:∃ x,sch[p]?=some x:=⟨sch[p],by simp [hlt]⟩
   obtain ⟨i,c⟩:=x
   obtain ⟨o,ho,_⟩:=F.one _ _ _ hx
   by_cases he:gk fw o.op=.nP
   ·refine ⟨p,G,hP,?_,rfl⟩
    intro i' c' hp
    rw [hx] at hp; cases hp
    refine ⟨hun p i c (Nat.le_refl _) hx,?_⟩
    intro o' ho'
    rw [ho] at ho'; cases ho'
    exact he
   ·
    have key:∀ G1,Step G G1→WR G1→G1.h=H (p+1)→G1.w=G.w→(W p=true→gk fw o.op=.qP→jT G1 (H p).size (Ef p)) →
      ∃ p' G',qA N ops fw sch E H W Ef J G0 p' G' eX a∧Stop ops fw sch p' eX∧G'.w=G.w:=by
     intro G1 S1 W1 h1 hw1 hl1
     have hP1:qA N ops fw sch E H W Ef J G0 (p+1) G1 eX a:=by
      refine ⟨hlt,h1,hP.fr.step S1,W1,hP.df,hP.sz,hP.ls,hP.base,hP.down,?_,?_,?_,hP.oX.next S1 W1 hP.h h1,hJ.step _ _ _ hP.jj S1⟩
      ·intro q i' c' o' hq k1 k2 k3
       by_cases e:q=p
       ·subst e
        rw [hx] at k1; cases k1
        rw [ho] at k2; cases k2
        exact absurd k3 he
       ·exact hP.zW q i' c' o' (by omega) k1 k2 k3
      ·exact hP.er.mono S1.ext
      ·intro q i' c' o' hq k1 k2 k3 k4 k5
       by_cases e:q=p
       ·subst e
        rw [hx] at k1; cases k1
        rw [ho] at k2; cases k2
        exact hl1 k3 k4
       ·exact (hP.late q i' c' o' (by omega) k1 k2 k3 k4 k5).step hP.wr S1
     obtain ⟨p',G',k1,k2,k3⟩:=ih (p+1) G1 eX a (by omega) hP1 (fun q i' c' hq=>hun q i' c' (by omega))
     exact ⟨p',G',k1,k2,k3.trans hw1⟩
    cases hw:W p with
    | false=>exact key G (.refl G) hP.wr (by rw [hP.h,mU T hI hs hx ho (.inl hw)]) rfl (by intro h; rw [hw] at h; cases h)
    | true =>
      cases hk:gk fw o.op with
      | nP=>exact absurd hk he
      | pure=>exact key G (.refl G) hP.wr (by rw [hP.h,mU T hI hs hx ho (.inr (.inl hk))]) rfl (by intro _ h; rw [hk] at h; cases h)
      | rd=>exact key G (.refl G) hP.wr (by rw [hP.h,mU T hI hs hx ho (.inr (.inr hk))]) rfl (by intro _ h; rw [hk] at h; cases h)
      | qP =>
        obtain ⟨e1,e2,_⟩:=hEf _ _ _ _ hx ho hw hk
        have e1:H (p+1)=(Ef p).on (H p):=e1
        cases hE:Ef p with
        | obj ob =>
          rw [hE] at e1
          obtain ⟨s1,w1⟩:=y8 hP.wr ob
          refine key _ s1 w1 (by rw [e1,← hP.h]; rfl) rfl (fun _ _=>?_)
          rw [hE,← hP.h]
          refine ⟨?_,wj hP.wr (Nat.le_refl _)⟩
          show (G.h.push ob).get G.h.size=some ob
          rw [bY.jr _ _ _ hP.wr.lo,if_pos rfl]
        | loc d cs =>
          rw [hE] at e1
          have hd:=e2 d cs hE
          rw [← hP.h] at hd
          obtain ⟨s1,w1⟩:=Lc hP.wr cs hd
          refine key _ s1 w1 (by rw [e1,← hP.h]; rfl) rfl (fun _ _=>?_)
          rw [hE]
          refine ⟨by simp [fJ],?_⟩
          cases hq:G.L d with
          | none=>rfl
          | some B=>have:=(hP.wr.iE d B hq).2; rw [hd] at this; cases this
        | none =>
          rw [hE] at e1
          exact key G (.refl G) hP.wr (by rw [hP.h,e1]; rfl) rfl (fun _ _=>by rw [hE]; trivial)
theorem Fr.fill {G G':Ga} {bs ds:Nat→Prop} (h:Fr G0 G) (k:nO G G' bs ds) (hb:∀ b,bs b→G0.h.size≤b):Fr G0 G':=by
 have hL:∀ d B,G'.L d=some B→G0.w.heap.size≤B:=by
  intro d B hd
  rcases k.kZ d B hd with h0 | hge
  ·exact h.L d B h0
  ·exact Nat.le_trans h.S.gG hge
 refine ⟨?_,hL⟩
 have kf:nO (G.fR [] fun _=>none) (G'.fR [] fun _=>none) bs (fun _=>False) :=
  ⟨⟨k.ext.T,k.ext.eB,k.ext.size,k.ext.eL,k.ext.map,fun d B hd=>by cases hd⟩,k.os,k.output,k.tape,k.gG,k.frame,k.iN,k.ji,k.T,
    (by show ({ G'.h with dO:=[] }:bY) = { G.h with dO:=[] }; rw [k.h]),fun d B hd=>(by cases hd),fun d B hd=>(by cases hd)⟩
 exact h.S.fill kf hb (fun _ h=>h.elim)
theorem nj {eX:Array Bool} (down:∀ i,eX.getD i false=true→∀ o,ops[i]?=some o→∀ j∈direct o,eX.getD j false=true) {i j:Nat} (h:px ops i j):eX.getD i false=true→eX.getD j false=true:=by
 induction h with
 | one ho hj=>exact fun hi=>down _ hi _ ho _ hj
 | more ho hk _ ih=>exact fun hi=>ih (down _ hi _ ho _ hk)
theorem mv {eX:Array Bool} {i:Nat} (hi:i<eX.size) (j:Nat) (b:Bool):(eX.setIfInBounds i true).getD j b=if j=i then true else eX.getD j b:=by
 by_cases e:j=i
 ·subst e; simp [hi]
 ·rw [getD_set_ne b (Ne.symm e),if_neg e]
theorem qA.eX {p q i:Nat} {c:List Nat} {o:Oper} {G G':Ga} {eX:Array Bool} {a:Act} {u:Value} (F:ng fw ops sch) (T:Trace X ops sch E H V W)
  (hP:qA N ops fw sch E H W Ef J G0 p G eX a) (hq:sch[q]?=some (i,c)) (ho:ops[i]?=some o) (hdir:∀ j∈direct o,eX.getD j false=true) (hlt:q<p∨q=p)
  (hN:jV N o=true) (hE:Ext G G') (hfr:Fr G0 G') (hwr:WR G') (hv:VR G' (V q) u) {p':Nat} (hp':p≤p') (hp2:p'≤p+1) (hpn:p'≤sch.length) (hh:G'.h=H p') (hrise:uD H p')
  (hj:J G' (a.put o.dst u)) (hnew:p'≠p→q=p∧gk fw o.op=.nP)
  (hlate:∀ (r j:Nat) c' b,r<p→r≠q→sch[r]?=some (j,c')→ops[j]?=some b→W r=true→gk fw b.op=.qP→eX.getD j false=false→jT G' (H r).size (Ef r)) :
  qA N ops fw sch E H W Ef J G0 p' G' (eX.setIfInBounds i true) (a.put o.dst u):=by
 have hi:i<eX.size:=by rw [hP.ls]; exact (Array.getElem?_eq_some_iff.1 ho).1
 have hqn:q<sch.length:=(List.getElem?_eq_some_iff.1 hq).1
 have huniq:∀ (r:Nat) c',sch[r]?=some (i,c')→r=q:=by
  intro r c' hr
  rcases Nat.lt_trichotomy r q with h | h | h
  ·exact absurd rfl (F.pair r q i c' i c o o h hr hq ho ho).1
  ·exact h
  ·exact absurd rfl (F.pair q r i c i c' o o h hq hr ho ho).1
 have hget:=fun j b=>mv hi j b
 refine ⟨hpn,hh,hfr,hwr,by rw [Act.wu]; exact hP.df,by rw [Act.sW]; exact hP.sz,by simp [hP.ls],hP.base,?_,?_,?_,?_,hrise,hj⟩
 ·intro j hj b hb k hk
  rw [hget] at hj ⊢
  by_cases e2:k=i
  ·rw [if_pos e2]
  ·rw [if_neg e2]
   by_cases e:j=i
   ·subst e
    rw [ho] at hb; cases hb
    exact hdir k hk
   ·rw [if_neg e] at hj
    exact hP.down j hj b hb k hk
 ·intro r j c' b hr h1 h2 h3
  rw [hget]
  by_cases e:j=i
  ·rw [if_pos e]
  ·rw [if_neg e]
   by_cases hrp:r<p
   ·exact hP.zW r j c' b hrp h1 h2 h3
   ·have:r=p:=by omega
    subst this
    have:p'≠r:=by omega
    have hqr:=(hnew this).1
    subst hqr
    rw [hq] at h1; cases h1
    exact absurd rfl e
 ·constructor
  intro t
  rw [mE]
  by_cases hd:o.dst=some t
  ·have hnu:t∉mj ops (eX.setIfInBounds i true):=by
    intro hm
    obtain ⟨j,b,hb,hbd,hl⟩:=j9.1 hm
    rw [hget] at hl
    by_cases e:j=i
    ·rw [if_pos e] at hl; cases hl
    ·obtain ⟨r,c',hr⟩:=F.cover j (Array.getElem?_eq_some_iff.1 hb).1
     rcases Nat.lt_trichotomy r q with h | h | h
     ·exact (F.pair r q j c' i c b o h hr hq hb ho).2.2.2.1 t hbd hd
     ·subst h
      rw [hq] at hr
      simp only [Option.some.injEq,Prod.mk.injEq] at hr
      exact e hr.1.symm
     ·exact (F.pair q r i c j c' o b h hq hr ho hb).2.2.2.1 t hd hbd
   rw [if_neg hnu]
   have hval:=T.val F hq ho hd (sch.length - (q+1)) (by omega)
   rw [show q+1+(sch.length - (q+1))=sch.length by omega] at hval
   rw [hval,hd,Act.w7 (Nat.lt_of_lt_of_le (pM hN hd) hP.sz),if_pos rfl]
   exact hv
  ·have h1:=hP.er.rel t
   rw [mE] at h1
   have hiff:t∈mj ops (eX.setIfInBounds i true)↔t∈mj ops eX:=by
    rw [j9,j9]
    constructor
    ·rintro ⟨j,b,hb,hbd,hl⟩
     rw [hget] at hl
     by_cases e:j=i
     ·rw [if_pos e] at hl; cases hl
     ·rw [if_neg e] at hl; exact ⟨j,b,hb,hbd,hl⟩
    ·rintro ⟨j,b,hb,hbd,hl⟩
     refine ⟨j,b,hb,hbd,?_⟩
     rw [hget]
     by_cases e:j=i
     ·subst e
      rw [ho] at hb; cases hb
      exact absurd hbd hd
     ·rw [if_neg e]; exact hl
   have h2:(a.put o.dst u).eval (.tmp t)=a.eval (.tmp t):=by
    refine Act.eval_put ?_
    intro d hd2 e
    cases e
    exact hd hd2
   rw [h2]
   by_cases hm:t∈mj ops eX
   ·rw [if_pos (hiff.2 hm)]
    rw [if_pos hm] at h1
    exact h1.mono hE
   ·rw [if_neg (fun x=>hm (hiff.1 x))]
    rw [if_neg hm] at h1
    exact h1.mono hE
 ·intro r j c' b hr h1 h2 h3 h4 h5
  rw [hget] at h5
  by_cases e:j=i
  ·rw [if_pos e] at h5; cases h5
  ·rw [if_neg e] at h5
   have hrq:r≠q:=by
    rintro rfl
    rw [hq] at h1; cases h1
    exact e rfl
   by_cases hrp:r<p
   ·exact hlate r j c' b hrp hrq h1 h2 h3 h4 h5
   ·have:r=p:=by omega
    subst this
    have:p'≠r:=by omega
    exact absurd (hnew this).1.symm hrq
end
end Go.Sx
namespace Go.Sx
open Go
section
variable {P:Program} {X:Ctx} {N:Nat} {ops:Array Oper} {fw:List Nat} {sch:List (Nat×List Nat)}
variable {E:Nat→Env} {H:Nat→bY} {V:Nat→AV} {W:Nat→Bool} {Ef:Nat→kr} {J:Ga→Act→Prop} {G0:Ga} {Q:Exit→Act→World→Prop}
theorem Bm {G G':Ga} {bs ds:Nat→Prop} (k:nO G G' bs ds) {n:Nat} {E0:kr} (h:jT G n E0) (h1:∀ ob,E0=.obj ob→¬ bs n) (h2:∀ d cs,E0=.loc d cs→¬ ds d):jT G' n E0:=by
 cases E0 with
 | obj ob =>
   obtain ⟨k1,k2⟩:=h
   refine ⟨by rw [k.h]; exact k1,?_⟩
   cases hq:G'.pi n with
   | none=>rfl
   | some l =>
     rcases k.ji n l hq with h0 | h0
     ·rw [k2] at h0; cases h0
     ·exact absurd h0 (h1 ob rfl)
 | loc d cs =>
   obtain ⟨k1,k2⟩:=h
   refine ⟨by rw [k.h]; exact k1,?_⟩
   cases hq:G'.L d with
   | none=>rfl
   | some B =>
     rcases k.mf d B hq with h0 | h0
     ·rw [k2] at h0; cases h0
     ·exact absurd h0 (h2 d cs rfl)
 | none=>trivial
theorem Dl (hJ:Bf ops J) (hC:fV P X.C) (hK:js P X.call) (hI:j4 X.call) (hs:X.fa.fw=fw) (F:ng fw ops sch) (T:Trace X ops sch E H V W) (hEf:vV P fw ops sch E H V W Ef)
  (hN:ops.toList.all (jV N)=true) {p:Nat} {G:Ga} {eX:Array Bool} {a:Act} (hP:qA N ops fw sch E H W Ef J G0 p G eX a) (hst:Stop ops fw sch p eX)
  {i:Nat} (hi:i∈Region.ready .any ops eX) {K:Act→World→Prop}
  (hQ:∀ p' G' a',qA N ops fw sch E H W Ef J G0 p' G' (eX.setIfInBounds i true) a'→Stop ops fw sch p' (eX.setIfInBounds i true)→K a' G'.w):wpOp P ops Q i K a G.w:=by
 obtain ⟨hun,o,ho,hall⟩:=mem_ready.1 hi
 have hilt:i<ops.size:=(Array.getElem?_eq_some_iff.1 ho).1
 have hil:i<eX.size:=by rw [hP.ls]; exact hilt
 have hunf:eX.getD i false=false:=by
  have:eX.getD i true=eX.getD i false:=by simp [hil]
  rw [← this]; exact hun
 have hdir:∀ j∈direct o,eX.getD j false=true:=by
  intro j hj
  unfold direct at hj
  obtain ⟨e,he,rfl⟩:=List.mem_map.1 hj
  obtain ⟨h1,h2⟩:=List.mem_filter.1 he
  exact hall e (Array.mem_toList_iff.1 h1) h2
 have hbef:∀ j,px ops i j→eX.getD j false=true:=by
  intro j hj
  cases hj with
  | one hb hj2=>rw [ho] at hb; cases hb; exact hdir _ hj2
  | more hb hk hj2=>rw [ho] at hb; cases hb; exact nj hP.down hj2 (hdir _ hk)
 have hoL:o∈ops.toList:=Array.mem_toList_iff.2 (Array.mem_of_getElem? ho)
 have hNo:jV N o=true:=List.all_eq_true.1 hN o (Array.mem_toList_iff.2 (Array.mem_of_getElem? ho))
 obtain ⟨q,c,hq⟩:=F.cover i hilt
 have hqn:q<sch.length:=(List.getElem?_eq_some_iff.1 hq).1
 obtain ⟨o',ho',hself,hdr⟩:=F.one q i c hq
 rw [ho] at ho'; cases ho'
 have hqp:q≤p:=by
  rcases Nat.lt_or_ge p q with h | h
  ·have hpn:p<sch.length:=by omega
   obtain ⟨x,hx⟩:∃ x,sch[p]?=some x:=⟨sch[p],by simp [hpn]⟩
   obtain ⟨i0,c0⟩:=x
   obtain ⟨b,hb,_⟩:=F.one _ _ _ hx
   obtain ⟨h1,h2⟩:=hst i0 c0 hx
   have:=(F.pair p q i0 c0 i c b o h hx hq hb ho).2.2.2.2.2.1 (h2 b hb)
   rw [hbef _ this] at h1
   cases h1
  ·exact h
 have hER:=hP.er
 have hnow:∀ t∈o.looksAt ops,gY (uJ (mj ops eX) (E 0) (E sch.length)) t=gY (E q) t:=by
  intro t ht
  rw [mE]
  split
  ·rename_i hm
   obtain ⟨j,b,hb,hd,hl⟩:=j9.1 hm
   obtain ⟨r,c',hr⟩:=F.cover j (Array.getElem?_eq_some_iff.1 hb).1
   have hrq:q≤r:=by
    rcases Nat.lt_or_ge r q with h | h
    ·rw [hbef _ ((F.pair r q j c' i c b o h hr hq hb ho).2.2.1 t hd ht)] at hl
     cases hl
    ·exact h
   refine (T.eB F q (by omega) ?_).symm
   intro s2 j2 c2 b2 hs2 hsj hb2 hd2
   exact (F.pair s2 r j2 c2 j c' b2 b (by omega) hsj hr hb2 hb).2.2.2.1 t hd2 hd
  ·rename_i hm
   by_cases hex:∃ (j:Nat) (b:Oper),ops[j]?=some b∧b.dst=some t
   ·obtain ⟨j,b,hb,hd⟩:=hex
    have hl:eX.getD j false=true:=by
     cases hl:eX.getD j false with
     | true=>rfl
     | false=>exact absurd (j9.2 ⟨j,b,hb,hd,hl⟩) hm
    obtain ⟨r,c',hr⟩:=F.cover j (Array.getElem?_eq_some_iff.1 hb).1
    have hrn:r<sch.length:=(List.getElem?_eq_some_iff.1 hr).1
    rcases Nat.lt_trichotomy r q with h | h | h
    ·have e1:=T.val F hr hb hd (sch.length - (r+1)) (by omega)
     have e2:=T.val F hr hb hd (q - (r+1)) (by omega)
     rw [show r+1+(sch.length - (r+1))=sch.length by omega] at e1
     rw [show r+1+(q - (r+1))=q by omega] at e2
     rw [e1,e2]
    ·subst h
     rw [hq] at hr
     simp only [Option.some.injEq,Prod.mk.injEq] at hr
     rw [hr.1,hl] at hunf
     cases hunf
    ·have:=nj hP.down ((F.pair q r i c j c' o b h hq hr ho hb).2.1 t hd ht).1 hl
     rw [hunf] at this; cases this
   ·have hno:∀ (q2 j:Nat) c2 o',sch[q2]?=some (j,c2)→ops[j]?=some o'→o'.dst≠some t:=fun q2 j c2 o' _ h1 h2=>hex ⟨j,o',h1,h2⟩
    rw [T.eB F _ (Nat.le_refl _) (fun q2 j c2 o' _=>hno q2 j c2 o'),T.eB F q (by omega) (fun q2 j c2 o' _=>hno q2 j c2 o')]
 have hlook:∀ t∈o.looksAt ops,VR G (gY (E q) t) (a.eval (.tmp t)):=by
  intro t ht
  rw [← hnow t ht]
  exact hER.rel t
 have hops:∀ x∈o.op.operands,eO (uJ (mj ops eX) (E 0) (E sch.length)) x=eO (E q) x:=by
  intro x hx
  cases x with
  | tmp t =>
    simp only [eO]
    exact hnow t (List.mem_append_left _ (List.mem_filterMap.2 ⟨.tmp t,by simpa using hx,rfl⟩))
  | _=>rfl
 obtain ⟨hw,hE1,hop,hsk,_⟩:=T.at_ q i c o hq ho
 have hwanted:Region.wanted o (yielded ops a.tmps)=W q:=by
  refine nZ (e:=E q) (G:=G) ?_ hw
  intro j b d hb hd hg w hgw
  refine hlook d ?_
  unfold Oper.looksAt
  refine List.mem_append_right _ ?_
  rw [hgw]
  simp only [hb,Option.bind_some,hd]
  simp
 have hbehind:q=p→∀ (r j:Nat) c',p+1≤r→sch[r]?=some (j,c')→(eX.setIfInBounds i true).getD j false=false:=by
  intro e r j c' hr hj
  subst e
  obtain ⟨b,hb,_⟩:=F.one _ _ _ hj
  have hpr:=F.pair q r i c j c' o b (by omega) hq hj ho hb
  rw [mv hil,if_neg (fun x=>hpr.1 x.symm)]
  cases hl:eX.getD j false with
  | false=>rfl
  | true =>
    have:=nj hP.down (hpr.2.2.2.2.2.1 ((hst i c hq).2 o ho)) hl
    rw [hunf] at this; cases this
 have quiet:q<p→∀ (G':Ga) (u:Value),Step G G'→WR G'→G'.h=G.h→VR G' (V q) u→K (a.put o.dst u) G'.w:=by
  intro hlt G' u S' W' hh hv
  refine hQ p G' _ (hP.eX F T hq ho hdir (.inl hlt) hNo S'.ext (hP.fr.step S') W' hv (Nat.le_refl _) (Nat.le_succ _) hP.pn (hh.trans hP.h) hP.oX (hJ.put _ _ _ _ hoL (hJ.step _ _ _ hP.jj S')) (fun h=>absurd rfl h) ?_) ?_
  ·intro r j c' b hr _ h1 h2 h3 h4 h5
   exact (hP.late r j c' b hr h1 h2 h3 h4 h5).step hP.wr S'
  ·intro j c' hj
   obtain ⟨h1,h2⟩:=hst j c' hj
   refine ⟨?_,h2⟩
   rw [mv hil,if_neg]
   ·exact h1
   ·rintro rfl
    obtain ⟨b,hb,_⟩:=F.one _ _ _ hj
    exact absurd rfl (F.pair q p j c j c' o b hlt hq hj ho hb).1
 have loud:q=p→∀ (G':Ga) (u:Value),Step G G'→WR G'→G'.h=H (p+1)→VR G' (V q) u→K (a.put o.dst u) G'.w:=by
  intro e G' u S' W' hh hv
  subst e
  have hP':=hP.eX F T hq ho hdir (.inr rfl) hNo S'.ext (hP.fr.step S') W' hv (Nat.le_succ _) (Nat.le_refl _) hqn hh (hP.oX.next S' W' hP.h hh) (hJ.put _ _ _ _ hoL (hJ.step _ _ _ hP.jj S')) (fun _=>⟨rfl,(hst i c hq).2 o ho⟩) (by
   intro r j c' b hr _ h1 h2 h3 h4 h5
   exact (hP.late r j c' b hr h1 h2 h3 h4 h5).step hP.wr S')
  obtain ⟨p2,G2,k1,k2,k3⟩:=Sy hJ hI hs F T hEf _ _ G' _ _ rfl hP' (hbehind rfl)
  rw [← k3]
  exact hQ p2 G2 _ k1 k2
 unfold wpOp
 simp only [ho,hwanted]
 cases hwq:W q with
 | false =>
   simp only [Bool.false_eq_true,if_false]
   obtain ⟨hv,hh⟩:=hsk hwq
   rcases Nat.lt_or_ge q p with h | h
   ·exact quiet h G undef (.refl G) hP.wr rfl (by rw [hv]; exact VR.Aa G)
   ·have e:q=p:=by omega
    exact loud e G undef (.refl G) hP.wr (by rw [hP.h,← e]; exact hh.symm) (by rw [hv]; exact VR.Aa G)
 | true =>
   simp only [if_true]
   left
   have hop:=hop hwq
   rcases Nat.lt_or_ge q p with h | h
   ·have hne:gk fw o.op≠.nP:=by
     intro hk
     have:=hP.zW q i c o h hq ho hk
     rw [hunf] at this; cases this
    have value:∀ (hk:fC o.op X (E q) (H p) o.dst=some (V q,H p)),o.wp P a G.w K Q:=by
     intro hk
     rw [← q8 hops,← hP.h] at hk
     exact qj hP.wr hC hER hK hk K Q (fun u G' hh S' W' hv=>quiet h G' u S' W' hh hv)
    cases hk:gk fw o.op with
    | nP=>exact absurd hk hne
    | pure=>exact value ((sA hk hop).2 _)
    | rd =>
      have:=A9 hI hs F T hEf hq ho hwq hk hP.pn hP.oX (by
       intro r j c' b hr1 hr2 h1 h2 h3 hb
       have:=nj hP.down hb (hP.zW r j c' b hr2 h1 h2 h3)
       rw [hunf] at this; cases this) (p - (q+1)) (by omega)
      rw [show q+1+(p - (q+1))=p by omega] at this
      exact value this
    | qP =>
      have hA:=hEf q i c o hq ho hwq hk
      obtain ⟨e1,e2,s,hsx,hlate⟩:=hA
      have e1:H (q+1)=(Ef q).on (H q):=e1
      have hL:=hP.late q i c o h hq ho hwq hk hunf
      have L:=hlate G a _ hops hP.wr hER
      have fin:∀ (u:Value) (G':Ga) (bs ds:Nat→Prop),(s a).run P G.w=.ok u G'.w→nO G G' bs ds→(∀ b,bs b→b=(H q).size∧∃ ob,Ef q=.obj ob)→(∀ d,ds d→∃ cs,Ef q=.loc d cs)→WR G'→VR G' (V q) u→o.wp P a G.w K Q:=by
       intro u G' bs ds hrun hF hbs hds W' hv
       have hnew:K (a.put o.dst u) G'.w:=by
        refine hQ p G' _ (hP.eX F T hq ho hdir (.inl h) hNo hF.ext (hP.fr.fill hF ?_) W' hv (Nat.le_refl _) (Nat.le_succ _) hP.pn (hF.h.trans hP.h) hP.oX (hJ.put _ _ _ _ hoL (hJ.fill _ _ _ _ _ hP.jj hF)) (fun h=>absurd rfl h) ?_) ?_
        ·intro b hb
         rw [(hbs b hb).1]
         exact Nat.le_trans hP.base (hP.oX.size 0 q (Nat.zero_le _) (by omega))
        ·intro r j c' b hr hrq h1 h2 h3 h4 h5
         obtain ⟨f1,f2,_⟩:=hEf r j c' b h1 h2 h3 h4
         have f1:H (r+1)=(Ef r).on (H r):=f1
         refine Bm hF (hP.late r j c' b hr h1 h2 h3 h4 h5) ?_ ?_
         ·intro ob hob hb
          obtain ⟨g1,ob2,g2⟩:=hbs _ hb
          rw [hob] at f1
          rw [g2] at e1
          have z1:(H (r+1)).size=(H r).size+1:=by rw [f1]; exact bY.size_push _ _
          have z2:(H (q+1)).size=(H q).size+1:=by rw [e1]; exact bY.size_push _ _
          rcases Nat.lt_or_gt_of_ne hrq with hlt | hgt
          ·have:=hP.oX.size (r+1) q (by omega) (by omega)
           omega
          ·have:=hP.oX.size (q+1) r (by omega) (by omega)
           omega
         ·intro d cs hloc hb
          obtain ⟨cs2,g2⟩:=hds d hb
          rw [hloc] at f1
          rw [g2] at e1
          have n1:=f2 d cs hloc
          have n2:=e2 d cs2 g2
          rcases Nat.lt_or_gt_of_ne hrq with hlt | hgt
          ·have:=hP.oX.loc (r+1) q (by omega) (by omega) d (by rw [f1]; simp [kr.on,fJ])
           rw [n2] at this; cases this
          ·have:=hP.oX.loc (q+1) r (by omega) (by omega) d (by rw [e1]; simp [kr.on,fJ])
           rw [n1] at this; cases this
        ·intro j c' hj
         obtain ⟨h1,h2⟩:=hst j c' hj
         refine ⟨?_,h2⟩
         rw [mv hil,if_neg]
         ·exact h1
         ·rintro rfl
          obtain ⟨b,hb,_⟩:=F.one _ _ _ hj
          exact absurd rfl (F.pair q p j c j c' o b h hq hj ho hb).1
       unfold Oper.wp
       rw [hsx a]
       simp only [Sem.run_bind,hrun,Result.andThen_ok,Sem.run_pure,Oper.upon_value]
       exact hnew
      cases hE:Ef q with
      | obj ob =>
        rw [hE] at L hL
        obtain ⟨u,G',k1,k2,k3,k4⟩:=L hL.1 hL.2
        exact fin u G' _ _ k1 k2 (fun b hb=>⟨hb,ob,hE⟩) (fun _ h=>h.elim) k3 k4
      | loc d cs =>
        rw [hE] at L hL
        obtain ⟨u,G',k1,k2,k3,k4⟩:=L hL.1 hL.2
        exact fin u G' _ _ k1 k2 (fun _ h=>h.elim) (fun b hb=>⟨cs,by rw [hb]; exact hE⟩) k3 k4
      | none =>
        rw [hE] at L
        obtain ⟨u,G',k1,k2,k3,k4,k5⟩:=L
        unfold Oper.wp
        rw [hsx a]
        simp only [Sem.run_bind,k1,Result.andThen_ok,Sem.run_pure,Oper.upon_value]
        exact quiet h G' u k2 k4 k3 k5
   ·have e:q=p:=by omega
    have hk:=hop
    rw [← q8 hops,e,← hP.h] at hk
    exact qj hP.wr hC hER hK hk K Q (fun u G' hh S' W' hv=>loud e G' u S' W' hh (by rw [e]; exact hv))
theorem AF (hJ:Bf ops J) (hC:fV P X.C) (hK:js P X.call) (hI:j4 X.call) (hs:X.fa.fw=fw) (F:ng fw ops sch) (T:Trace X ops sch E H V W) (hEf:vV P fw ops sch E H V W Ef)
  (hN:ops.toList.all (jV N)=true) (hQ:∀ G' a',G'.h=H sch.length→St N G0 G' (E sch.length) a'→J G' a'→Q .normal a' G'.w) :
  ∀ (fuel:Nat) (eX:Array Bool) (a:Act) (p:Nat) (G:Ga),((List.range ops.size).filter fun i=>!eX.getD i true).length≤fuel →
    qA N ops fw sch E H W Ef J G0 p G eX a→Stop ops fw sch p eX→wpAny P .any ops Q fuel eX a G.w:=by
 have key:∀ (eX:Array Bool) (a:Act) (p:Nat) (G:Ga),qA N ops fw sch E H W Ef J G0 p G eX a→Stop ops fw sch p eX→Region.ready .any ops eX=[]→Q .normal a G.w:=by
  intro eX a p G hP hst hr
  have hall:∀ (m q i:Nat) c,q<m→sch[q]?=some (i,c)→eX.getD i false=true:=by
   intro m
   induction m with
   | zero=>intro q i c hq; omega
   | succ m ih =>
     intro q i c hq hsq
     by_cases e:q<m
     ·exact ih q i c e hsq
     ·have:q=m:=by omega
      subst this
      cases hl:eX.getD i false with
      | true=>rfl
      | false =>
        exfalso
        obtain ⟨o,ho,_,hdr⟩:=F.one _ _ _ hsq
        have hil:i<eX.size:=by rw [hP.ls]; exact (Array.getElem?_eq_some_iff.1 ho).1
        have:i∈Region.ready .any ops eX:=by
         rw [mem_ready]
         refine ⟨?_,o,ho,?_⟩
         ·have:eX.getD i true=eX.getD i false:=by simp [hil]
          rw [this]; exact hl
         ·intro e he hb
          have hj:e.on∈direct o:=List.mem_map.2 ⟨e,List.mem_filter.2 ⟨Array.mem_toList_iff.2 he,hb⟩,rfl⟩
          obtain ⟨h1,h2⟩:=hdr _ hj
          obtain ⟨r,c',hr⟩:=F.cover _ h2
          obtain ⟨b,hb2,_⟩:=F.one _ _ _ hr
          rcases Nat.lt_trichotomy r q with h | h | h
          ·exact ih r _ _ h hr
          ·subst h
           rw [hsq] at hr
           simp only [Option.some.injEq,Prod.mk.injEq] at hr
           exact absurd hr.1.symm h1
          ·exact absurd hj (F.pair q r _ _ _ _ o b h hsq hr ho hb2).2.2.2.2.1
        rw [hr] at this
        cases this
  have hp:p=sch.length:=by
   rcases Nat.lt_or_ge p sch.length with h | h
   ·obtain ⟨x,hx⟩:∃ x,sch[p]?=some x:=⟨sch[p],by simp [h]⟩
    obtain ⟨i,c⟩:=x
    have h1:=(hst i c hx).1
    rw [hall (p+1) p i c (Nat.lt_succ_self _) hx] at h1
    cases h1
   ·exact Nat.le_antisymm hP.pn h
  refine hQ G a (by rw [hP.h,hp]) ⟨hP.fr,hP.wr,⟨fun t=>?_⟩,hP.df,hP.sz⟩ hP.jj
  have h1:=hP.er.rel t
  rw [mE,if_neg] at h1
  ·exact h1
  ·intro hm
   obtain ⟨j,b,hb,_,hl⟩:=j9.1 hm
   obtain ⟨r,c,hr⟩:=F.cover j (Array.getElem?_eq_some_iff.1 hb).1
   rw [hall (r+1) r j c (Nat.lt_succ_self _) hr] at hl
   cases hl
 intro fuel
 induction fuel with
 | zero =>
   intro eX a p G hf hP hst
   have hr:Region.ready .any ops eX=[]:=by
    rw [List.eq_nil_iff_forall_not_mem]
    intro i hi
    obtain ⟨hun,o,ho,_⟩:=mem_ready.1 hi
    have:i∈(List.range ops.size).filter fun i=>!eX.getD i true:=by
     rw [List.mem_filter]
     refine ⟨List.mem_range.2 (Array.getElem?_eq_some_iff.1 ho).1,?_⟩
     rw [hun]; rfl
    have h0:(List.range ops.size).filter (fun i=>!eX.getD i true)=[]:=List.eq_nil_of_length_eq_zero (by omega)
    rw [h0] at this
    cases this
   exact ⟨hr,key eX a p G hP hst hr⟩
 | succ fuel ih =>
   intro eX a p G hf hP hst
   refine ⟨fun hr=>key eX a p G hP hst hr,fun i hi=>?_⟩
   refine Dl hJ hC hK hI hs F T hEf hN hP hst hi (fun p' G' a' h1 h2=>ih _ a' p' G' ?_ h1 h2)
   obtain ⟨hun,o,ho,_⟩:=mem_ready.1 hi
   have hio:i<ops.size:=(Array.getElem?_eq_some_iff.1 ho).1
   have hil:i<eX.size:=by rw [hP.ls]; exact hio
   have:=filter_lt (p:=fun i=>!eX.getD i true) (p':=fun j=>!(eX.setIfInBounds i true).getD j true) (i:=i) (l:=List.range ops.size) (by
    intro x hx
    rw [mv hil] at hx
    split at hx
    ·cases hx
    ·exact hx) (List.mem_range.2 hio) (by rw [hun]; rfl) (by rw [mv hil,if_pos rfl]; rfl)
   omega
theorem qX (hJ:Bf ops J) (hm:P.follows .mixedOrders=true) (hC:fV P X.C) (hK:js P X.call) (hI:j4 X.call) {id:Nat} (hreg:vA X.fa.fw ops sch=true) (hN:ops.toList.all (jV N)=true)
  {e e':Env} {h h':bY} (hr:nb X ops.toList sch e h=some (e',h')) {G:Ga} {a:Act} (hG:G.h=h) (hS:St N G0 G e a) (hj:J G a)
  (hQ:∀ G' a',G'.h=h'→St N G0 G' e' a'→J G' a'→Q .normal a' G'.w):(Code.region id ops true).wp P Q a G.w:=by
 have F:=Dw hreg
 obtain ⟨E,H,V,W,hE0,hH0,hEn,hHn,T⟩:=v7 sch e h e' h' hr
 obtain ⟨Ef,hEf⟩:=RM (P:=P) hC T
 refine wp_region_any hm ?_
 let G1:Ga:=⟨{ G.w with drawn:=G.w.drawn+1 },G.T,G.h,G.pi,G.L⟩
 have hext:Ext G G1:=⟨fun _ _ h=>h,fun _ _ _=>rfl,Nat.le_refl _,fun _ _ g z xs h=>⟨g,z,xs,h,Nat.le_refl _,fun _=>⟨rfl,fun _ h=>h⟩⟩,fun _ _ es c h=>⟨es,c,h,fun _ h=>h⟩,fun _ _ h=>h⟩
 have S1:Step G G1:=⟨hext,rfl,rfl,rfl,Nat.le_refl _,fun _ _ _ _=>rfl,fun _ l h=>.inl ⟨l,h,rfl⟩,fun _ _ h=>.inl (by rw [show G.pi _ = _ from h]; rfl),fun _ _ h=>.inl h,rfl,fun _ _ _=>rfl,fun _ _ h=>.inl h,fun _ _ h=>.inl (by rw [show G.L _ = _ from h]; rfl),fun _ _ _ h=>h⟩
 have W1:WR G1:=by
  obtain ⟨k1,k2,k3⟩:=hS.wr.eB hext (fun _ _=>rfl)
  exact ⟨k1,k2,k3,hS.wr.gE,hS.wr.iU,hS.wr.ll,hS.wr.jZ,hS.wr.LT,hS.wr.kp,hS.wr.iE,hS.wr.jn,hS.wr.lo,hS.wr.lt⟩
 have hfr1:Fr G0 G1:=hS.fr.step S1
 have hfalse:∀ j,(Array.replicate ops.size false).getD j false=false:=by
  intro j
  rw [Array.getD_eq_getD_getElem?,Array.getElem?_replicate]
  split<;>rfl
 have hP0:qA N ops X.fa.fw sch E H W Ef J G0 0 G1 (Array.replicate ops.size false) a:=by
  refine ⟨Nat.zero_le _,hG.trans hH0.symm,hfr1,W1,hS.df,hS.sz,by simp,?_,?_,?_,?_,?_,?_,hJ.step _ _ _ hj S1⟩
  ·rw [hH0,← hG]; exact hfr1.S.ext.size
  ·intro i hi; rw [hfalse] at hi; cases hi
  ·intro q i c o hq; omega
  ·constructor
   intro t
   rw [mE]
   have h1:=(hS.er.rel t).mono hext
   rw [← hE0] at h1
   split
   ·exact h1
   ·rename_i hm
    rw [T.eB F _ (Nat.le_refl _) (fun q j c o' _ _ hb hd=>hm (j9.2 ⟨j,o',hb,hd,hfalse j⟩))]
    exact h1
  ·intro q i c o hq; omega
  ·refine ⟨?_,?_,?_⟩
   ·intro q hq
    have:q=0:=by omega
    subst this
    rw [hH0,← hG]
    exact ⟨W1.lo,W1.lt⟩
   ·intro q r h1 h2
    have:q=r:=by omega
    subst this
    exact Nat.le_refl _
   ·intro q r h1 h2 d hd
    have:q=r:=by omega
    subst this
    exact hd
 obtain ⟨p',G',k1,k2,k3⟩:=Sy hJ hI rfl F T hEf _ _ G1 _ _ rfl hP0 (fun q i c _ _=>hfalse i)
 have hw:({ G.w with drawn:=G.w.drawn+1 }:World)=G'.w:=k3.symm
 rw [hw]
 refine AF hJ hC hK hI rfl F T hEf hN ?_ ops.size _ a p' G' ?_ k1 k2
 ·intro G2 a2 h1 h2 h3
  rw [hEn] at h2
  exact hQ G2 a2 (h1.trans hHn) h2 h3
 ·exact Nat.le_trans (List.length_filter_le _ _) (by simp)
theorem xX (hm:P.follows .mixedOrders=true) (hC:fV P X.C) (hK:js P X.call) (hI:j4 X.call) {id:Nat} (hreg:vA X.fa.fw ops sch=true) (hN:ops.toList.all (jV N)=true)
  {e e':Env} {h h':bY} (hr:nb X ops.toList sch e h=some (e',h')) {G:Ga} {a:Act} (hG:G.h=h) (hS:St N G0 G e a)
  (hQ:∀ G' a',G'.h=h'→St N G0 G' e' a'→Q .normal a' G'.w):(Code.region id ops true).wp P Q a G.w :=
 qX (J:=fun _ _=>True) ⟨fun _ _ _ _ _=>trivial,fun _ _ _ _ _ _=>trivial,fun _ _ _ _ _ _ _=>trivial⟩ hm hC hK hI hreg hN hr hG hS trivial (fun G' a' h1 h2 _=>hQ G' a' h1 h2)
end
end Go.Sx
namespace Go.Sx
open Go
def sZ:Ex→Exit
 | .gf=>.normal
 | .ext id=>.exit id
 | .ret=>.ret
def codeOk (N:Nat) (fw:List Nat):Code→g8→Bool
 | .region _ ops draw,an=>ops.toList.all (jV N)&&match draw,an with
   | true,.lZ sch=>vA fw ops sch
   | _,_=>true
 | .seq a b,.seq _ x y=>codeOk N fw a x&&codeOk N fw b y
 | .seq a b,.sq x y=>codeOk N fw a x&&codeOk N fw b y
 | .cond _ a b,.two x y=>codeOk N fw a x&&codeOk N fw b y
 | .block _ a,an=>codeOk N fw a an
 | .loop a,.loop _ x=>codeOk N fw a x
 | .scope a,an=>codeOk N fw a an
 | _,_=>true
section
variable {P:Program} {X:Ctx} {N:Nat} {G0:Ga} {Q:Exit→Act→World→Prop}
theorem sS {c:Code} (J:Nat→Act→World→Prop) (round:∀ n a w,J n a w→c.wp P (Exit.then (fun a' w'=>∃ m,m<n∧J m a' w') Q) a w) :
  ∀ (n:Nat) (a:Act) (w:World),J n a w→(Code.loop c).wp P Q a w:=by
 intro n a w h₀ b k cs
 have key:∀ n a w,J n a w→∃ e a' w',Q e a' w'∧Arrives P (lone (b.at a (.code c::.inLoop c::k)) cs w) b k cs e a' w':=by
  intro n
  induction n using Nat.strongRecOn with
  | _ n ih =>
    intro a w hI
    obtain ⟨e,a₁,w₁,hq,harr⟩:=round n a w hI b (.inLoop c::k) cs
    cases e with
    | normal =>
      obtain ⟨m,hlt,hI₁⟩:=hq
      obtain ⟨e₂,a₂,w₂,hq₂,harr₂⟩:=ih m hlt a₁ w₁ hI₁
      exact ⟨e₂,a₂,w₂,hq₂,.of_steps (Steps.trans harr (.one step_inLoop)) harr₂⟩
    | exit id=>exact ⟨_,a₁,w₁,hq,.pass (x:=.inLoop c) rfl (fun _ _=>.inl (by simp)) harr⟩
    | goto l=>exact ⟨_,a₁,w₁,hq,.pass (x:=.inLoop c) rfl (fun _ _=>.inl (by simp)) harr⟩
    | ret=>exact ⟨_,a₁,w₁,hq,.pass (x:=.inLoop c) rfl (fun _ _=>.inl (by simp)) harr⟩
    | panic ch=>exact ⟨_,a₁,w₁,hq,.pass (x:=.inLoop c) rfl (fun _ _=>.inl (by simp)) harr⟩
    | outgrown=>exact ⟨_,a₁,w₁,hq,.pass (x:=.inLoop c) rfl (fun _ _=>.inl (by simp)) harr⟩
 obtain ⟨e,a',w',hq,harr⟩:=key n a w h₀
 exact ⟨e,a',w',hq,.of_steps (.one step_loop) harr⟩
theorem u2 (e:Env) (t:Nat):∀ live:List Nat,gY (proj live e) t=if t∈live then eB t (gY e t) else .undef
 | []=>rfl
 | x::l=>by
   have ih:=u2 e t l
   unfold proj at ih ⊢
   simp only [List.map_cons,gY,List.mem_cons]
   cases hq:Nat.beq t x with
   | true =>
     have:=Nat.eq_of_beq_eq_true hq
     subst this
     simp
   | false =>
     have:t≠x:=Nat.ne_of_beq_eq_false hq
     simp only [ih,this,false_or]
theorem nq (m:gN) (d:Nat):∀ live:List Nat,d∈live→fJ (eV live m) d=fJ m d
 | [],h=>by cases h
 | x::l,h=>by
   simp only [eV]
   by_cases e:d=x
   ·subst e
    cases hq:fJ m d with
    | some c=>simp [fJ]
    | none =>
      simp only
      by_cases hl:d∈l
      ·rw [nq m d l hl,hq]
      ·have:∀ l:List Nat,d∉l→fJ (eV l m) d=none:=by
        intro l
        induction l with
        | nil=>intro _; rfl
        | cons y l ih =>
          intro hn
          simp only [List.mem_cons,not_or] at hn
          simp only [eV]
          cases hy:fJ m y with
          | none=>exact ih hn.2
          | some c =>
            simp only [fJ]
            cases hq:Nat.beq d y with
            | true=>exact absurd (Nat.eq_of_beq_eq_true hq) hn.1
            | false=>exact ih hn.2
       exact this l hl
   ·have hl:d∈l:=(List.mem_cons.1 h).resolve_left e
    have hb:Nat.beq d x=false:=by
     cases hq:Nat.beq d x with
     | true=>exact absurd (Nat.eq_of_beq_eq_true hq) e
     | false=>rfl
    cases hq:fJ m x with
    | some c=>simp only [fJ,hb]; exact nq m d l hl
    | none=>exact nq m d l hl
def ka (live:List Nat) (L:Nat→Option Nat):Nat→Option Nat:=fun d=>if d∈live then L d else none
theorem St.hZ {G:Ga} {e:Env} {a:Act} (h:St N G0 G e a) (live:List Nat):St N G0 (G.fR (eV live G.h.dO) (ka live G.L)) (proj live e) a:=by
 have hL:∀ d B,ka live G.L d=some B→d∈live∧G.L d=some B:=by
  intro d B hd
  unfold ka at hd
  split at hd
  ·rename_i hm; exact ⟨hm,hd⟩
  ·cases hd
 refine ⟨h.fr.fR (fun d B hd=>(hL d B hd).2),h.wr.vI (fun d B hd=>(hL d B hd).2) (fun d B hd=>nq _ d live (hL d B hd).1),⟨?_⟩,h.df,h.sz⟩
 intro t
 rw [u2]
 split
 ·rename_i ht
  have hv:=h.er.rel t
  unfold eB
  cases hg:(gY e t).pd t with
  | false=>exact .undef _
  | true =>
    simp only
    generalize gY e t=v at hv hg
    generalize a.eval (.tmp t)=u at hv
    cases v with
    | la d o =>
      simp only [AV.pd,Bool.and_eq_true,Nat.beq_eq] at hg
      obtain ⟨rfl,rfl⟩:=hg
      cases hv with
      | fp hp _=>simp [AV.gl] at hp
      | la _ _ B hd =>
        refine .la _ _ B ?_
        show ka live G.L t=some B
        unfold ka
        rw [if_pos ht]
        exact hd
    | eP l=>simp [AV.pd] at hg
    | _=>exact hv.fR rfl
 ·exact .undef _
theorem jI (live:List Nat) (k:Env→bY→RC) (e:Env) (h:bY):Sx.hZ live k e h=k (proj live e) { h with dO:=eV live h.dO }:=by
 unfold Sx.hZ
 rw [vQ,uM]
def om (P:Program) (X:Ctx) (N:Nat) (G0:Ga) (lp:rR) (c:Code):Prop:=∀ (an:g8) (e:Env) (h:bY) (x:Ex) (e':Env) (h':bY),fT X lp c an e h=some (x,e',h')→codeOk N X.fa.fw c an=true →
 ∀ (G:Ga) (a:Act) (Q:Exit→Act→World→Prop),G.h=h→St N G0 G e a→(∀ G' a',G'.h=h'→St N G0 G' e' a'→Q (sZ x) a' G'.w)→c.wp P Q a G.w
theorem zZ {c:Code} {n0:Nat} (ih:om P X N G0 (gA n0) c) {live:List Nat} {y:g8} (hok:codeOk N X.fa.fw c y=true) :
  ∀ (n:Nat) (e:Env) (h:bY) (x:Ex) (e':Env) (h':bY),gA n (hZ live (fT X (gA n0) c y)) e h=some (x,e',h') →
  ∀ (G:Ga) (a:Act) (Q:Exit→Act→World→Prop),G.h=h→St N G0 G e a→(∀ G' a',G'.h=h'→St N G0 G' e' a'→Q (sZ x) a' G'.w)→(Code.loop c).wp P Q a G.w:=by
 intro n e h x e' h' hr G a Q hG hS hQ
 refine sS (fun m a w=>∃ G e,G.w=w∧St N G0 G e a∧gA m (hZ live (fT X (gA n0) c y)) e G.h=some (x,e',h')) ?_ n a G.w ⟨G,e,rfl,hS,by rw [hG]; exact hr⟩
 rintro m a _ ⟨G,e,rfl,hS,hr⟩
 cases m with
 | zero=>cases hr
 | succ m =>
   simp only [gA] at hr
   have hj:=hS.hZ live
   split at hr
   ·rename_i e1 h1 hb
    rw [jI] at hb
    refine ih y _ _ _ _ _ hb hok (G.fR (eV live G.h.dO) (ka live G.L)) a _ rfl hj ?_
    intro G' a' hG' hS'
    exact ⟨m,Nat.lt_succ_self _,G',e1,rfl,hS',by rw [hG']; exact hr⟩
   ·rename_i hne
    rw [jI] at hr
    refine ih y _ _ _ _ _ hr hok (G.fR (eV live G.h.dO) (ka live G.L)) a _ rfl hj ?_
    intro G' a' hG' hS'
    cases x with
    | gf=>exact (hne e' h' (by rw [jI]; exact hr)).elim
    | ext id=>exact hQ G' a' hG' hS'
    | ret=>exact hQ G' a' hG' hS'
theorem p8 (hm:P.follows .mixedOrders=true) (hC:fV P X.C) (hK:js P X.call) (hI:j4 X.call) (n:Nat):∀ c:Code,om P X N G0 (gA n) c:=by
 intro c
 induction c with
 | skip =>
   intro an e h x e' h' hr _ G a Q hG hS hQ
   simp only [fT,Option.some.injEq,Prod.mk.injEq] at hr
   obtain ⟨rfl,rfl,rfl⟩:=hr
   exact wp_skip (hQ G a hG hS)
 | label l =>
   intro an e h x e' h' hr _ G a Q hG hS hQ
   simp only [fT,Option.some.injEq,Prod.mk.injEq] at hr
   obtain ⟨rfl,rfl,rfl⟩:=hr
   exact wp_label (hQ G a hG hS)
 | exit id =>
   intro an e h x e' h' hr _ G a Q hG hS hQ
   simp only [fT,Option.some.injEq,Prod.mk.injEq] at hr
   obtain ⟨rfl,rfl,rfl⟩:=hr
   exact wp_exit (hQ G a hG hS)
 | ret =>
   intro an e h x e' h' hr _ G a Q hG hS hQ
   simp only [fT,Option.some.injEq,Prod.mk.injEq] at hr
   obtain ⟨rfl,rfl,rfl⟩:=hr
   exact wp_ret (hQ G a hG hS)
 | region id ops draw =>
   intro an e h x e' h' hr hok G a Q hG hS hQ
   have gf:∀ r:RE,pX r=some (x,e',h')→x=.gf∧r=some (e',h'):=by
    intro r hr
    unfold pX at hr
    split at hr
    ·simp only [Option.some.injEq,Prod.mk.injEq] at hr
     obtain ⟨rfl,rfl,rfl⟩:=hr
     exact ⟨rfl,rfl⟩
    ·cases hr
   cases draw with
   | false =>
     simp only [fT,pr,Aq] at hr
     obtain ⟨rfl,hr2⟩:=gf _ hr
     clear hr
     simp only [codeOk,Bool.and_eq_true] at hok
     refine wp_region ?_
     have:=Be rfl hC hK hok.1 ops.toList 0 e h e' h' (by simp) hr2 G a Q hG hS (fun G' a' h1 h2=>hQ G' a' h1 h2)
     rw [Nat.sub_zero,← List.range_eq_range'] at this
     exact this
   | true =>
     simp only [fT,pr,qY] at hr
     split at hr
     ·rename_i sch
      obtain ⟨rfl,hr2⟩:=gf _ hr
      simp only [codeOk,Bool.and_eq_true] at hok
      exact xX hm hC hK hI hok.2 hok.1 hr2 hG hS (fun G' a' h1 h2=>hQ G' a' h1 h2)
     ·cases hr
 | seq p q ihp ihq =>
   intro an e h x e' h' hr hok G a Q hG hS hQ
   simp only [fT,rA] at hr
   have key:∀ (y:g8) (k:Env→bY→RC),codeOk N X.fa.fw p y=true→andThen k (fT X (gA n) p y e h)=some (x,e',h') →
     (∀ e1 h1,k e1 h1=some (x,e',h')→∀ G1 a1,G1.h=h1→St N G0 G1 e1 a1→q.wp P Q a1 G1.w)→(Code.seq p q).wp P Q a G.w:=by
    intro y k hoy hr hk
    unfold andThen at hr
    split at hr
    ·rename_i e1 h1 hb
     refine wp_seq (ihp y _ _ _ _ _ hb hoy G a _ hG hS ?_)
     intro G1 a1 hG1 hS1
     exact hk e1 h1 hr G1 a1 hG1 hS1
    ·rename_i hne
     refine wp_seq (ihp y _ _ _ _ _ hr hoy G a _ hG hS ?_)
     intro G1 a1 hG1 hS1
     cases x with
     | gf=>exact (hne e' h' hr).elim
     | ext id=>exact hQ G1 a1 hG1 hS1
     | ret=>exact hQ G1 a1 hG1 hS1
   split at hr
   ·rename_i live y z
    simp only [codeOk,Bool.and_eq_true] at hok
    refine key y _ hok.1 hr ?_
    intro e1 h1 hk G1 a1 hG1 hS1
    rw [jI] at hk
    rw [← hG1] at hk
    exact ihq z _ _ _ _ _ hk hok.2 (G1.fR (eV live G1.h.dO) (ka live G1.L)) a1 Q rfl (hS1.hZ live) hQ
   ·rename_i y z
    simp only [codeOk,Bool.and_eq_true] at hok
    refine key y _ hok.1 hr ?_
    intro e1 h1 hk G1 a1 hG1 hS1
    exact ihq z _ _ _ _ _ hk hok.2 G1 a1 Q hG1 hS1 hQ
   ·cases hr
 | cond c p q ihp ihq =>
   intro an e h x e' h' hr hok G a Q hG hS hQ
   simp only [fT,vC] at hr
   split at hr
   ·rename_i y z
    simp only [codeOk,Bool.and_eq_true] at hok
    unfold vL at hr
    have hv:=e9 hS.er c
    split at hr
    ·rename_i hb
     rw [bool?_eq hb] at hv
     exact wp_cond_true hv.of_bool (ihp y _ _ _ _ _ hr hok.1 G a Q hG hS hQ)
    ·rename_i hb
     rw [bool?_eq hb] at hv
     exact wp_cond_false hv.of_bool (ihq z _ _ _ _ _ hr hok.2 G a Q hG hS hQ)
    ·cases hr
   ·cases hr
 | block id p ih =>
   intro an e h x e' h' hr hok G a Q hG hS hQ
   simp only [fT,pe] at hr
   simp only [codeOk] at hok
   refine wp_block ?_
   unfold atEnd at hr
   split at hr
   ·rename_i id' e1 h1 hb
    split at hr
    ·rename_i hid
     have hid:=Nat.eq_of_beq_eq_true hid
     simp only [Option.some.injEq,Prod.mk.injEq] at hr
     obtain ⟨rfl,rfl,rfl⟩:=hr
     refine ih an _ _ _ _ _ hb hok G a _ hG hS ?_
     intro G1 a1 hG1 hS1
     show Exit.inBlock id Q (.exit id') a1 G1.w
     simp only [Exit.inBlock,hid,if_true]
     exact hQ G1 a1 hG1 hS1
    ·rename_i hid
     have hid:=Nat.ne_of_beq_eq_false hid
     simp only [Option.some.injEq,Prod.mk.injEq] at hr
     obtain ⟨rfl,rfl,rfl⟩:=hr
     refine ih an _ _ _ _ _ hb hok G a _ hG hS ?_
     intro G1 a1 hG1 hS1
     show Exit.inBlock id Q (.exit id') a1 G1.w
     simp only [Exit.inBlock,hid,if_false]
     exact hQ G1 a1 hG1 hS1
   ·rename_i hne
    refine ih an _ _ _ _ _ hr hok G a _ hG hS ?_
    intro G1 a1 hG1 hS1
    cases x with
    | gf=>exact hQ G1 a1 hG1 hS1
    | ext id'=>exact (hne id' e' h' hr).elim
    | ret=>exact hQ G1 a1 hG1 hS1
 | loop p ih =>
   intro an e h x e' h' hr hok G a Q hG hS hQ
   simp only [fT,Ew] at hr
   split at hr
   ·rename_i live y
    simp only [codeOk] at hok
    exact zZ ih hok n e h x e' h' hr G a Q hG hS hQ
   ·cases hr
 | scope p ih =>
   intro an e h x e' h' hr hok G a Q hG hS hQ
   simp only [fT] at hr
   simp only [codeOk] at hok
   refine wp_scope_straight (ih an _ _ _ _ _ hr hok G a _ hG hS ?_)
   intro G1 a1 hG1 hS1
   cases x with
   | gf=>exact hQ G1 a1 hG1 hS1
   | ext id=>exact hQ G1 a1 hG1 hS1
   | ret=>exact hQ G1 a1 hG1 hS1
 | _=>intro an e h x e' h' hr; cases hr
end
end Go.Sx
namespace Go.Sx
open Go
theorem gO {f:AV→Option AV}:∀ {l l':List AV},fx f l=some l'→l'.length=l.length∧∀ (i:Nat) x',l'[i]?=some x'→∃ x,l[i]?=some x∧f x=some x'
 | [],l',h=>by
   simp only [fx,Option.some.injEq] at h
   subst h
   exact ⟨rfl,by simp⟩
 | v::l,l',h=>by
   simp only [fx] at h
   split at h
   ·cases h
   ·rename_i w hw
    split at h
    ·cases h
    ·rename_i l2 hl2
     simp only [Option.some.injEq] at h
     subst h
     obtain ⟨h1,h2⟩:=gO hl2
     refine ⟨by simp [h1],?_⟩
     intro i x' hx
     cases i with
     | zero =>
       simp only [List.getElem?_cons_zero,Option.some.injEq] at hx
       subst hx
       exact ⟨v,rfl,hw⟩
     | succ i =>
       rw [List.getElem?_cons_succ] at hx
       exact h2 i x' hx
theorem qC {f:AV→Option AV}:∀ {l l':List (List AV)},jJ f l=some l'→l'.length=l.length∧∀ (i:Nat) x',l'[i]?=some x'→∃ x,l[i]?=some x∧fx f x=some x'
 | [],l',h=>by
   simp only [jJ,Option.some.injEq] at h
   subst h
   exact ⟨rfl,by simp⟩
 | v::l,l',h=>by
   simp only [jJ] at h
   split at h
   ·cases h
   ·rename_i w hw
    split at h
    ·cases h
    ·rename_i l2 hl2
     simp only [Option.some.injEq] at h
     subst h
     obtain ⟨h1,h2⟩:=qC hl2
     refine ⟨by simp [h1],?_⟩
     intro i x' hx
     cases i with
     | zero =>
       simp only [List.getElem?_cons_zero,Option.some.injEq] at hx
       subst hx
       exact ⟨v,rfl,hw⟩
     | succ i =>
       rw [List.getElem?_cons_succ] at hx
       exact h2 i x' hx
theorem rq {f:AV→Option AV}:∀ {l:List (AV×AV×Nat)} {l':List (AV×AV)},jO f l=some l'→l'.length=l.length∧∀ (i:Nat) p',l'[i]?=some p'→∃ p,l[i]?=some p∧p.1=p'.1∧f p.2.1=some p'.2
 | [],l',h=>by
   simp only [jO,Option.some.injEq] at h
   subst h
   exact ⟨rfl,by simp⟩
 | (k,v,n)::l,l',h=>by
   simp only [jO] at h
   split at h
   ·cases h
   ·rename_i w hw
    split at h
    ·cases h
    ·rename_i l2 hl2
     simp only [Option.some.injEq] at h
     subst h
     obtain ⟨h1,h2⟩:=rq hl2
     refine ⟨by simp [h1],?_⟩
     intro i x' hx
     cases i with
     | zero =>
       simp only [List.getElem?_cons_zero,Option.some.injEq] at hx
       subst hx
       exact ⟨(k,v,n),rfl,rfl,hw⟩
     | succ i =>
       rw [List.getElem?_cons_succ] at hx
       exact h2 i x' hx
def AV.marked:AV→Bool
 | .ip _ _ s=>s
 | .fm _ s=>s
 | .sl _ c=>lH c
 | _=>false
theorem PR.at_ {w:World} {T:Bool→Nat→Prop} {m:Bool} {v:AV} {u:Value} (h:PR w T true v u) (hi:v.gl=true) (hm:v.marked=true→m=true):PR w T m v u:=by
 cases h with
 | undef _ v h=>simp [AV.gl] at hi
 | bool _ b=>exact .bool m b
 | int _ k n=>exact .int m k n
 | str _ s b h=>exact .str m s b h
 | fS _=>exact .fS m
 | ip _ cells off sn B base c e fr f _ hB hB' hc h1 hr=>exact .ip m cells off sn B base c e fr f hm hB hB' hc h1 hr
 | slnil _=>exact .slnil m
 | iO _ cap a c _ h=>exact .iO m cap a c hm h
 | sl _ xs cap B base c e fr cap' esz f _ hB hB' hcap hle hz hc h1 hr=>exact .sl m xs cap B base c e fr cap' esz f hm hB hB' hcap hle hz hc h1 hr
 | fZ _=>exact .fZ m
 | fm _ es sn r ents clk _ hB hB' hl hy hko hk hv=>exact .fm m es sn r ents clk hm hB hB' hl hy hko hk hv
 | gZ _=>exact .gZ m
 | fz _ g a c a' c' _ _ _ _=>simp [AV.gl] at hi
 | agg _ l vs _ _ _=>simp [AV.gl] at hi
theorem CZ (sn:Bool):lH (vO sn)=sn:=by cases sn<;>rfl
theorem v8 (sn:Bool) {k c:Nat} (h:k≤c):j3 (vO sn) k c:=by cases sn<;>exact h
section
variable {G:Ga} {T1:Bool→Nat→Prop} {sn:Bool}
theorem qL (hW:WR G) (hT:∀ s B,G.T s B→T1 s B) (hpi:∀ b l,G.pi b=some l→T1 sn l.B) :
  ∀ (n:Nat) (v v':AV) (u:Value),freeze sn G.h n v=some v'→v.iL=true→VR G v u→PR G.w T1 sn v' u:=by
 intro n
 induction n with
 | zero=>intro v v' u h; simp [freeze] at h
 | succ n ih =>
   intro v v' u h hna hv
   have fp:v.gl=true→(v.marked=true→sn=true)→PR G.w T1 sn v u:=by
    intro hi hm
    cases hv with
    | fp _ h=>exact (h.at_ hi hm).mono hT (fun _ _ _=>rfl)
    | _=>simp [AV.gl] at hi
   have lst:∀ (l l':List AV) (vs:Array Value),fx (freeze sn G.h n) l=some l'→(∀ x∈l,x.iL=true)→(∀ (i:Nat) (x:AV) (y:Value),l[i]?=some x→vs[i]?=some y→VR G x y) →
     ∀ (i:Nat) (x:AV) (y:Value),l'[i]?=some x→vs[i]?=some y→PR G.w T1 sn x y:=by
    intro l l' vs hl hn hr i x y hx hy
    obtain ⟨_,h2⟩:=gO hl
    obtain ⟨x0,k1,k2⟩:=h2 i x hx
    exact ih x0 x y k2 (hn x0 (List.mem_of_getElem? k1)) (hr i x0 y k1 hy)
   cases v with
   | undef=>simp [freeze] at h
   | bool b=>simp only [freeze,Option.some.injEq] at h; subst h; exact fp rfl (by simp [AV.marked])
   | int k m=>simp only [freeze,Option.some.injEq] at h; subst h; exact fp rfl (by simp [AV.marked])
   | str s=>simp only [freeze,Option.some.injEq] at h; subst h; exact fp rfl (by simp [AV.marked])
   | fS=>simp only [freeze,Option.some.injEq] at h; subst h; exact fp rfl (by simp [AV.marked])
   | fZ=>simp only [freeze,Option.some.injEq] at h; subst h; exact fp rfl (by simp [AV.marked])
   | gZ=>simp only [freeze,Option.some.injEq] at h; subst h; exact fp rfl (by simp [AV.marked])
   | ip c o s =>
     simp only [freeze] at h
     split at h
     ·cases h
     ·rename_i hs
      simp only [Option.some.injEq] at h; subst h
      refine fp rfl ?_
      intro hm
      simp only [AV.marked] at hm
      subst hm
      simpa using hs
   | fm es s =>
     simp only [freeze] at h
     split at h
     ·cases h
     ·rename_i hs
      simp only [Option.some.injEq] at h; subst h
      refine fp rfl ?_
      intro hm
      simp only [AV.marked] at hm
      subst hm
      simpa using hs
   | sl xs c =>
     cases c with
     | kY =>
       simp only [freeze] at h
       split at h
       ·simp only [Option.some.injEq] at h; subst h
        exact fp rfl (fun _=>rfl)
       ·cases h
     | nil=>simp only [freeze,Option.some.injEq] at h; subst h; exact fp rfl (by simp [AV.marked,lH])
     | exact k=>simp only [freeze,Option.some.injEq] at h; subst h; exact fp rfl (by simp [AV.marked,lH])
     | ee=>simp only [freeze,Option.some.injEq] at h; subst h; exact fp rfl (by simp [AV.marked,lH])
   | la d o=>simp [freeze] at h
   | ptr b g i o =>
     simp only [freeze] at h
     split at h
     ·rename_i g' z xs hg
      split at h
      ·rename_i hgg
       have hgg:=Nat.eq_of_beq_eq_true hgg
       subst hgg
       split at h
       ·rename_i cs hcs
        split at h
        ·rename_i cs' hfr
         simp only [Option.some.injEq] at h; subst h
         cases hv with
         | fp hi _=>simp [AV.gl] at hi
         | ptr _ _ _ _ a hb hge hat =>
           obtain ⟨l,hl,rfl⟩:=hat z xs hg
           obtain ⟨c,e,hB,hcap,hsz,hz,hcell,hone⟩:=hW.eL b l _ _ _ hl hg
           obtain ⟨hlen,hget⟩:=gO hfr
           refine .ip sn cs' o sn l.B (l.base+i*z) c e (0,0) (fun j=>c.getD (l.base+i*z+j) undef) (fun h=>h) hB (hpi b l hl) ?_ ?_ ?_
           ·intro j x hx
            obtain ⟨x0,k1,_⟩:=hget j x hx
            obtain ⟨w,k3,_⟩:=hcell i cs j x0 hcs k1
            rw [Array.getD_eq_getD_getElem?,k3]; rfl
           ·intro j x hx
            obtain ⟨x0,k1,_⟩:=hget j x hx
            obtain ⟨w,k3,k4,_⟩:=hcell i cs j x0 hcs k1
            rw [Array.getD_eq_getD_getElem?,k3]; exact k4
           ·intro j x hx
            obtain ⟨x0,k1,k2⟩:=hget j x hx
            obtain ⟨w,k3,_,k5⟩:=hcell i cs j x0 hcs k1
            rw [Array.getD_eq_getD_getElem?,k3]
            exact ih x0 x w k2 k5.na k5.vr
        ·cases h
       ·cases h
      ·cases h
     ·cases h
   | hs b g off len =>
     simp only [freeze] at h
     split at h
     ·rename_i g' z xs hg
      split at h
      ·rename_i hgg
       simp only [Bool.and_eq_true,Nat.ble_eq] at hgg
       have hlen:=hgg.2
       have hgg:=Nat.eq_of_beq_eq_true hgg.1
       subst hgg
       split at h
       ·rename_i ys hfr
        simp only [Option.some.injEq] at h; subst h
        obtain ⟨hl1,hget⟩:=qC hfr
        have hlen2:ys.length=len:=by
         rw [hl1,List.length_take,List.length_drop]
         omega
        have hcapn:=CZ sn
        cases hv with
        | fp hi _=>simp [AV.gl] at hi
        | hs _ _ _ _ a cap' hb hge hle hat =>
          cases hys:ys with
          | nil =>
            have:len=0:=by rw [← hlen2,hys]; rfl
            subst this
            exact .iO sn _ a cap' (by rw [hcapn]; exact fun h=>h) (v8 sn (Nat.zero_le _))
          | cons y0 yr =>
            rw [← hys]
            have hpos:0<len:=by rw [← hlen2,hys]; simp
            obtain ⟨l,hl,hcapl,haddr⟩:=hat z xs hg
            have haddr:=haddr (by omega)
            subst haddr
            obtain ⟨c,e,hB,hcap,hsz,hz,hcell,hone⟩:=hW.eL b l _ _ _ hl hg
            have hrow:∀ (i:Nat) cs',ys[i]?=some cs'→∃ cs,xs[off+i]?=some cs∧fx (freeze sn G.h n) cs=some cs':=by
             intro i cs' hi
             obtain ⟨cs,k1,k2⟩:=hget i cs' hi
             refine ⟨cs,?_,k2⟩
             rw [List.getElem?_take] at k1
             split at k1
             ·rw [List.getElem?_drop] at k1; exact k1
             ·cases k1
            have hpos2:∀ i j:Nat,l.base+off*z+i*z+j=l.base+(off+i)*z+j:=by
             intro i j
             rw [Nat.add_mul]
             omega
            rw [← hlen2]
            refine .sl sn ys _ l.B (l.base+off*z) c e (0,0) cap' z (fun i j=>c.getD (l.base+(off+i)*z+j) undef) (by rw [hcapn]; exact fun h=>h) hB (by rw [hcapn]; exact hpi b l hl)
             (v8 sn (by rw [hlen2]; exact hle)) (by rw [hlen2]; exact hle) ?_ ?_ ?_ ?_
            ·intro i cs' hi
             obtain ⟨cs,k1,k2⟩:=hrow i cs' hi
             rw [(gO k2).1]
             exact hz _ cs k1
            ·intro i cs' j x hi hj
             obtain ⟨cs,k1,k2⟩:=hrow i cs' hi
             obtain ⟨x0,k3,k4⟩:=(gO k2).2 j x hj
             obtain ⟨w,k5,_⟩:=hcell _ cs j x0 k1 k3
             rw [hpos2,Array.getD_eq_getD_getElem?,k5]; rfl
            ·intro i cs' j x hi hj
             obtain ⟨cs,k1,k2⟩:=hrow i cs' hi
             obtain ⟨x0,k3,k4⟩:=(gO k2).2 j x hj
             obtain ⟨w,k5,k6,_⟩:=hcell _ cs j x0 k1 k3
             rw [Array.getD_eq_getD_getElem?,k5]; exact k6
            ·intro i cs' j x hi hj
             obtain ⟨cs,k1,k2⟩:=hrow i cs' hi
             obtain ⟨x0,k3,k4⟩:=(gO k2).2 j x hj
             obtain ⟨w,k5,_,k7⟩:=hcell _ cs j x0 k1 k3
             rw [hcapn,Array.getD_eq_getD_getElem?,k5]
             exact ih x0 x w k4 k7.na k7.vr
       ·cases h
      ·cases h
     ·cases h
   | hm b =>
     simp only [freeze] at h
     split at h
     ·rename_i es c hg
      split at h
      ·rename_i es' hfr
       simp only [Option.some.injEq] at h; subst h
       cases hv with
       | fp hi _=>simp [AV.gl] at hi
       | hm _ r hb hat =>
         obtain ⟨l,hl,rfl⟩:=hat es c hg
         obtain ⟨ents,hB,hlen,hyo,hent⟩:=hW.map b l es c hl hg
         obtain ⟨hl1,hget⟩:=rq hfr
         have hent2:∀ (i:Nat) p,es[i]?=some p→∃ e,ents[i]?=some e:=by
          intro i p hp
          have:i<ents.size:=by rw [← hlen]; exact (List.getElem?_eq_some_iff.1 hp).1
          exact ⟨ents[i],by simp [this]⟩
         refine .fm sn es' sn l.B ents c (fun h=>h) hB (hpi b l hl) (hl1.trans hlen) ?_ ?_ ?_ ?_
         ·intro i e he
          have hi:i<es.length:=by rw [hlen]; exact (Array.getElem?_eq_some_iff.1 he).1
          have hei:es[i]?=some es[i]:=by simp [hi]
          rw [← (hent i es[i] e hei he).2.2.2]
          exact hyo _ (List.getElem_mem hi)
         ·intro i p hp
          obtain ⟨p0,k1,k2,_⟩:=hget i p hp
          obtain ⟨e,he⟩:=hent2 i p0 k1
          rw [← k2]
          exact (hent i p0 e k1 he).1
         ·intro i p e hp he
          obtain ⟨p0,k1,k2,_⟩:=hget i p hp
          rw [← k2]
          have:=(hent i p0 e k1 he).2.1.mono hT (fun _ _ _=>rfl)
          cases sn with
          | false=>exact this
          | true=>exact this.yA
         ·intro i p e hp he
          obtain ⟨p0,k1,_,k3⟩:=hget i p hp
          have:=(hent i p0 e k1 he).2.2.1
          exact ih p0.2.1 p.2 e.val k3 this.na this.vr
      ·cases h
     ·cases h
   | fz f a c =>
     simp only [freeze] at h
     split at h
     ·rename_i a1 c1 ha hc
      simp only [Option.some.injEq] at h; subst h
      cases hv with
      | fp hi _=>simp [AV.gl] at hi
      | fz _ _ _ a' c' hal hcl hna1 hnc1 hra hrc =>
        exact .fz sn f a1 c1 a' c' ((gO ha).1.trans hal) ((gO hc).1.trans hcl) (lst a a1 a' ha hna1 hra) (lst c c1 c' hc hnc1 hrc)
     ·cases h
   | agg l =>
     simp only [freeze] at h
     split at h
     ·rename_i l1 hl
      simp only [Option.some.injEq] at h; subst h
      cases hv with
      | fp hi _=>simp [AV.gl] at hi
      | agg _ vs hll hn h1 hr=>exact .agg sn l1 vs ((gO hl).1.trans hll) h1 (lst l l1 vs hl hn hr)
     ·cases h
   | eP l=>cases hna
theorem pL {h h2:bY} (E:∀ b o,h.get b=some o→h2.get b=some o):∀ (n:Nat) (v v':AV),freeze sn h n v=some v'→freeze sn h2 n v=some v':=by
 intro n
 induction n with
 | zero=>intro v v' k; simp [freeze] at k
 | succ n ih =>
   have il:∀ l l',fx (freeze sn h n) l=some l'→fx (freeze sn h2 n) l=some l':=by
    intro l
    induction l with
    | nil=>intro l' k; exact k
    | cons x l ihl =>
      intro l' k
      simp only [fx] at k ⊢
      split at k
      ·cases k
      ·rename_i w hw
       rw [ih _ _ hw]
       split at k
       ·cases k
       ·rename_i l2 hl2
        simp only [ihl _ hl2]
        exact k
   have ill:∀ l l',jJ (freeze sn h n) l=some l'→jJ (freeze sn h2 n) l=some l':=by
    intro l
    induction l with
    | nil=>intro l' k; exact k
    | cons x l ihl =>
      intro l' k
      simp only [jJ] at k ⊢
      split at k
      ·cases k
      ·rename_i w hw
       rw [il _ _ hw]
       split at k
       ·cases k
       ·rename_i l2 hl2
        simp only [ihl _ hl2]
        exact k
   have ilm:∀ l l',jO (freeze sn h n) l=some l'→jO (freeze sn h2 n) l=some l':=by
    intro l
    induction l with
    | nil=>intro l' k; exact k
    | cons x l ihl =>
      intro l' k
      obtain ⟨kx,vx,nx⟩:=x
      simp only [jO] at k ⊢
      split at k
      ·cases k
      ·rename_i w hw
       rw [ih _ _ hw]
       split at k
       ·cases k
       ·rename_i l2 hl2
        simp only [ihl _ hl2]
        exact k
   intro v v' k
   cases v with
   | ptr b g i o =>
     simp only [freeze] at k ⊢
     split at k
     ·rename_i g' z xs hg
      rw [E _ _ hg]
      simp only
      split at k
      ·split at k
       ·split at k
        ·rename_i hfr
         simp only [il _ _ hfr]
         exact k
        ·cases k
       ·cases k
      ·cases k
     ·cases k
   | hs b g off len =>
     simp only [freeze] at k ⊢
     split at k
     ·rename_i g' z xs hg
      rw [E _ _ hg]
      simp only
      split at k
      ·split at k
       ·rename_i ys hfr
        simp only [ill _ _ hfr]
        exact k
       ·cases k
      ·cases k
     ·cases k
   | hm b =>
     simp only [freeze] at k ⊢
     split at k
     ·rename_i es c hg
      rw [E _ _ hg]
      simp only
      split at k
      ·rename_i es' hfr
       simp only [ilm _ _ hfr]
       exact k
      ·cases k
     ·cases k
   | fz f a c =>
     simp only [freeze] at k ⊢
     split at k
     ·rename_i a1 c1 ha hc
      simp only [il _ _ ha,il _ _ hc]
      exact k
     ·cases k
   | agg l =>
     simp only [freeze] at k ⊢
     split at k
     ·rename_i l1 hl
      simp only [il _ _ hl]
      exact k
     ·cases k
   | eP l =>
     simp only [freeze] at k ⊢
     split at k
     ·rename_i l1 hl
      simp only [il _ _ hl]
      exact k
     ·cases k
   | sl xs c=>cases c<;>exact k
   | _=>exact k
end
end Go.Sx
