/- Proves rules for the walks and their soundness. -/
import Derived.Scope
import Derived.Maps.RangeRun
import Derived.Test.YtmajcicmbclkhaaGreatHac
set_option linter.all false
namespace Go.Sx
open Go
variable [DD]
section
variable {P:Program} {C:gv} {X:Ctx} {o:Oper} {fY:List Nat}
def I5 (P:Program) (o:Oper) (e:Env) (h0:au) (r:AV×au) (E:pe):Prop :=
 r.2=E.on h0/\(∀ d cs,E=.loc d cs->gM h0.aT d=none) /\
 ∃ s:Act->Sem Value,(∀ a,execOp (Act.eval a) o=(do pure (.value (<- s a))))/\∀ G a e',(∀ x∈o.op.operands,fg e' x=fg e x)->WR G->ER G e' a->qp P (s a) G h0.size r.1 E
def Sy (hC:gR P X.C) {e:Env} {h0:au} {r:AV×au} (hk:iM fY o.op=.zb) (h:gd o.op X e h0 o.dst=some r):∃ E,I5 P o e h0 r E:=by
 cases ho:o.op<;>rw [ho] at hk h<;>simp only [iM,reduceCtorEq] at hk
 case alloc t =>
  obtain ⟨E,h1,h2,h3⟩:=CC (P:=P) hC h
  exact ⟨E,h1,h2,λ_=>Instr.alloc t true (.tuple #[]),λa=>by grind [execOp],λG a e' _ hW _=>h3 G hW⟩
 case box t x =>
  obtain ⟨E,h1,h2,h3⟩:=FO (P:=P) h
  refine ⟨E,h1,h2,λa=>Instr.box t (a.eval x),λa=>by grind [execOp],λG a e' hop hW hE=>h3 G _ hW ?_⟩
  grind [Op.operands,fW]
 case buildSlice t n ps =>
  obtain ⟨E,h1,h2,h3⟩:=vL (P:=P) hC h
  refine ⟨E,h1,h2,λa=>Instr.buildSlice t n (ps.map λ(i,x)=>(i,a.eval x)),λa=>by grind [execOp],λG a e' hop hW hE=>?_⟩
  obtain ⟨k1,k2⟩:=wK hE ps
  grind [oc,Op.operands]
 case makeMap t hint =>
  cases hint with
  | none =>
    cases h
    obtain ⟨E,h1,h2,h3⟩:=za (P:=P) (t:=t) h0 none rfl
    exact ⟨E,h1,h2,λ_=>Instr.makeMap t none,λa=>by grind [execOp],λG a e' _ hW _=>h3 G hW⟩
  | some x=>cases h
 case makeSlice t l c =>
  obtain ⟨E,h1,h2,h3⟩:=w3 (P:=P) hC h
  refine ⟨E,h1,h2,λa=>Instr.makeSlice t (a.eval l) (a.eval c),λa=>by simp only [execOp,ho],λG a e' hop hW hE=>h3 G _ _ hW ?_ ?_⟩<;>grind [Instr.makeSlice,execOp,Op.operands,fW]
 case call c =>
  unfold Cx at hk
  grind
def oB (G:Ga) (n:Nat):pe->Prop
 | .obj ob=>G.h.get n=some ob/\G.pi n=none
 | .loc d cs=>gM G.h.aT d=some cs/\G.L d=none
 | .none=>True
def oB.step {G G':Ga} (hW:WR G) (S:Step G G') {n:Nat} {E:pe} (h:oB G n E):oB G' n E:=by
 cases E with
 | obj ob =>
   obtain ⟨h1,h2⟩:=h
   have hlt:=hW.lt _ _ h1
   refine ⟨by rw [S.out n hlt h2]; exact h1,?_⟩
   cases hq:G'.pi n with
   | none=>rfl
   | some l =>
     rcases S.mQ n l hq with h0 | hge<;>grind
 | loc d cs =>
   obtain ⟨h1,h2⟩:=h
   refine ⟨S.rX d cs h2 h1,?_⟩
   cases hq:G'.L d with
   | none=>rfl
   | some B =>
     rcases S.rk d B hq with h0 | h0<;>grind
 | none=>trivial
theorem Lh {G G':Ga} (S:Step G G') (W':WR G') {d:Nat} (h:(gM G.h.aT d).isSome=true):(gM G'.h.aT d).isSome=true:=by
 cases hq:G.L d with
 | none =>
   obtain ⟨c,hc⟩:=Option.isSome_iff_exists.1 h
   rw [S.rX d c hq hc]; rfl
 | some B=>exact (W'.kN d B (S.ext.aT d B hq)).2
structure DF (H:Nat->au) (p:Nat):Prop where
 ok:∀ q,q<=p->(H q).lo<=(H q).size/\∀ b o,(H q).get b=some o->b<(H q).size
 size:∀ q r,q<=r->r<=p->(H q).size<=(H r).size
 loc:∀ q r,q<=r->r<=p->∀ d,(gM (H q).aT d).isSome=true->(gM (H r).aT d).isSome=true
theorem DF.next {H:Nat->au} {p:Nat} (R:DF H p) {G G':Ga} (S:Step G G') (W':WR G') (hG:G.h=H p) (hG':G'.h=H (p+1)):DF H (p+1):=by
 have hz:(H p).size<=(H (p+1)).size:=by rw [<- hG,<- hG']; exact S.ext.size
 have hl:∀ d,(gM (H p).aT d).isSome=true->(gM (H (p+1)).aT d).isSome=true:=by
  grind [Lh]
 refine ⟨?_,?_,?_⟩
 ·intro q hq
  by_cases e:q<=p
  ·exact R.ok q e
  ·have:q=p+1:=by omega
   subst this
   rw [<- hG']
   exact ⟨W'.lo,W'.lt⟩
 ·intro q r hqr hr
  by_cases e:r<=p
  ·exact R.size q r hqr e
  ·have:r=p+1:=by omega
   subst this
   by_cases e2:q<=p
   ·exact Nat.le_trans (R.size q p e2 (Nat.le_refl _)) hz
   grind
 ·intro q r hqr hr d hd
  by_cases e:r<=p
  ·exact R.loc q r hqr e d hd
  ·have:r=p+1:=by omega
   subst this
   by_cases e2:q<=p
   ·exact hl d (R.loc q p e2 (Nat.le_refl _) d hd)
   grind
end
section
variable {P:Program} {X:Ctx} {N:Nat} {ops:Array Oper} {fY:List Nat} {sch:List (Nat×List Nat)}
variable {E:Nat->Env} {H:Nat->au} {V:Nat->AV} {W:Nat->Bool}
def F7 (P:Program) (fY:List Nat) (ops:Array Oper) (sch:List (Nat×List Nat)) (E:Nat->Env) (H:Nat->au) (V:Nat->AV) (W:Nat->Bool) (Ef:Nat->pe):Prop :=
 ∀ (p i:Nat) c o,sch[p]?=some (i,c)->ops[i]?=some o->W p=true->iM fY o.op=.zb->I5 P o (E p) (H p) (V p,H (p+1)) (Ef p)
def WB (hC:gR P X.C) (T:Trace X ops sch E H V W):∃ Ef,F7 P fY ops sch E H V W Ef:=by
 have:∀ p,∃ E0:pe,∀ (i:Nat) c o,sch[p]?=some (i,c)->ops[i]?=some o->W p=true->iM fY o.op=.zb->I5 P o (E p) (H p) (V p,H (p+1)) E0:=by
  intro p
  by_cases h:∃ (i:Nat) (c:List Nat) (o:Oper),sch[p]?=some (i,c)/\ops[i]?=some o/\W p=true/\iM fY o.op=.zb
  ·obtain ⟨i,c,o,h1,h2,h3,h4⟩:=h
   obtain ⟨E0,hE0⟩:=Sy hC h4 ((T.at_ p i c o h1 h2).2.2.1 h3)
   refine ⟨E0,?_⟩
   grind
  ·refine ⟨.none,?_⟩
   grind
 exact ⟨λp=>Classical.choose (this p),λp=>Classical.choose_spec (this p)⟩
theorem sP (T:Trace X ops sch E H V W) (hI:mr X.call) (hs:X.fa.fY=fY) {p i:Nat} {c:List Nat} {o:Oper} (hp:sch[p]?=some (i,c)) (ho:ops[i]?=some o)
  (hk:W p=false\/iM fY o.op=.pure\/iM fY o.op=.rd):H (p+1)=H p:=by
 obtain ⟨_,_,h1,h2,_⟩:=T.at_ p i c o hp ho
 grind [A0,vC]
def SB {h:au} {E0:pe} (hlo:h.lo<=h.size) (hlt:∀ b o,h.get b=some o->b<h.size) (hl:∀ d cs,E0=.loc d cs->gM h.aT d=none):Di h (E0.on h):=by
 cases E0 with
 | obj ob =>
   refine ⟨?_,?_⟩
   ·intro b o hb
    show (h.push ob).get b=some o
    grind [au.nU]
   ·intro d c hd
    show gM (h.push ob).aT d=some c
    simp_all
 | loc d cs =>
   refine ⟨λb o hb=>hb,?_⟩
   intro d' c hd
   show gM ((d,cs)::h.aT) d'=some c
   have hn:=hl d cs rfl
   simp only [gM]
   cases hq:Nat.beq d' d<;>simp_all
 | none=>exact .refl h
def KP {Ef:Nat->pe} (hI:mr X.call) (hs:X.fa.fY=fY) (F:tI fY ops sch) (T:Trace X ops sch E H V W) (hEf:F7 P fY ops sch E H V W Ef)
  {q i:Nat} {c:List Nat} {o:Oper} (hq:sch[q]?=some (i,c)) (ho:ops[i]?=some o) (hw:W q=true) (hk:iM fY o.op=.rd) {p:Nat} (hp:p<=sch.length) (R:DF H p)
  (hfree:∀ (r j:Nat) c' b,q<r->r<p->sch[r]?=some (j,c')->ops[j]?=some b->iM fY b.op=.uD->¬ xb ops j i) :
  ∀ k,q+1+k<=p->gd o.op X (E q) (H (q+1+k)) o.dst=some (V q,H (q+1+k))
 | 0,_=>by
   obtain ⟨_,_,h1,_,_⟩:=T.at_ q i c o hq ho
   grind [vC]
 | k+1,hk2=>by
   have ih:=KP hI hs F T hEf hq ho hw hk hp R hfree k (by omega)
   have hlt:q+1+k<sch.length:=by omega
   obtain ⟨x,hx⟩:∃ x,sch[q+1+k]?=some x:=⟨sch[q+1+k],by simp⟩
   obtain ⟨j,c'⟩:=x
   obtain ⟨b,hb,_⟩:=F.one _ _ _ hx
   obtain ⟨_,hE1,h1,h2,hchk⟩:=T.at_ _ _ _ _ hx hb
   rw [<- Nat.add_assoc]
   cases hw2:W (q+1+k) with
   | false=>grind
   | true =>
     cases hkb:iM fY b.op with
     | pure=>grind [sP]
     | rd=>grind [sP]
     | zb =>
       obtain ⟨e1,e2,_⟩:=hEf _ _ _ _ hx hb hw2 hkb
       have e1:H (q+1+k+1)=(Ef (q+1+k)).on (H (q+1+k)):=e1
       have hext:=SB (R.ok _ (by omega)).1 (R.ok _ (by omega)).2 e2
       grind [vC]
     | uD =>
       have hpr:=F.pair q (q+1+k) i c j c' o b (by omega) hq hx ho hb
       have hmem:i∈c':=(hpr.2.2.2.2.2.2 hk hkb).resolve_left (hfree _ _ _ _ (by omega) (by omega) hx hb hkb)
       have hag:=hchk i hmem
       unfold again at hag
       rw [Array.getElem?_toList,ho] at hag
       simp only at hag
       have hwq:fE ops.toList (E (q+1+k+1)) o=fE ops.toList (E q) o:=by
        unfold fE
        split
        ·rfl
        ·rename_i j2 want hg
         split
         ·rename_i o2 ho2
          split
          ·rename_i d2 hd2
           rw [Array.getElem?_toList] at ho2
           have:d2∈o.looksAt ops:=by
            grind [Oper.looksAt]
           have:=T.look F hq ho hk this (k+2) (by omega)
           grind
          ·rfl
         ·rfl
       rw [hwq,(T.at_ _ _ _ _ hq ho).1,hw] at hag
       simp only at hag
       split at hag
       ·cases hag
       ·rename_i d hd
        have hcong:gd o.op X (E (q+1+k+1)) (H (q+1+k+1)) (some d)=gd o.op X (E q) (H (q+1+k+1)) (some d):=by
         refine Al ?_
         intro x hx2
         cases x with
         | tmp t =>
           simp only [fg]
           have:t∈o.looksAt ops:=List.mem_append_left _ (List.mem_filterMap.2 ⟨.tmp t,by grind,rfl⟩)
           have:=T.look F hq ho hk this (k+2) (by omega)
           grind
         | _=>rfl
        rw [hcong] at hag
        unfold GI at hag
        split at hag
        ·rename_i v hh hop
         have hv:=oe _ _ _ hag
         have:=T.val F hq ho hd (k+1) (by omega)
         grind [vC]
        grind
end
end Go.Sx
namespace Go.Sx
open Go
variable [DD]
def filter_lt {p p':Nat->Bool} (h:∀ x,p' x=true->p x=true) {i:Nat}:∀ {l:List Nat},i∈l->p i=true->p' i=false->(l.filter p').length<(l.filter p).length
 | [],hi,_,_=>by cases hi
 | x::l,hi,h1,h2=>by
   have hle:∀ l:List Nat,(l.filter p').length<=(l.filter p).length:=by
    intro l
    induction l<;>grind
   simp only [List.filter_cons]
   rcases List.mem_cons.1 hi with rfl | hi
   ·grind
   ·have ih:=filter_lt h hi h1 h2
    grind
def E9 (U:List Nat) (e0 e:Env):Env:=U.map (λt=>(t,j5 e0 t))++e
theorem sd (e0 e:Env) (t:Nat):∀ U:List Nat,j5 (E9 U e0 e) t=if t∈U then j5 e0 t else j5 e t
 | []=>by rfl
 | x::U=>by
   have ih:=sd e0 e t U
   unfold E9 at ih ⊢
   simp only [List.map_cons,List.cons_append,j5,ih,List.mem_cons]
   cases hq:Nat.beq t x with
   | true=>rw [Nat.eq_of_beq_eq_true hq]; simp
   | false =>
     have:t≠x:=Nat.ne_of_beq_eq_false hq
     simp [this]
def rF (ops:Array Oper) (fZ:Array Bool):List Nat:=(List.range ops.size).filterMap λj=>if fZ.getD j false then none else (ops[j]?).bind (·.dst)
theorem oQ {ops:Array Oper} {fZ:Array Bool} {t:Nat}:t∈rF ops fZ↔∃ (j:Nat) (b:Oper),ops[j]?=some b/\b.dst=some t/\fZ.getD j false=false:=by
 grind [rF]
section
variable (P:Program) (N:Nat) (ops:Array Oper) (fY:List Nat) (sch:List (Nat×List Nat))
variable (E:Nat->Env) (H:Nat->au) (V:Nat->AV) (W:Nat->Bool) (Ef:Nat->pe) (J:Ga->Act->Prop) (G0:Ga)
structure yS (p:Nat) (G:Ga) (fZ:Array Bool) (a:Act):Prop where
 pn:p<=sch.length
 h:G.h=H p
 fr:Fr G0 G
 wr:WR G
 df:a.defers=[]
 sz:N<=a.tmps.size
 ls:fZ.size=ops.size
 base:G0.h.size<=(H 0).size
 down:∀ i,fZ.getD i false=true->∀ o,ops[i]?=some o->∀ j∈direct o,fZ.getD j false=true
 I6:∀ (q i:Nat) c o,q<p->sch[q]?=some (i,c)->ops[i]?=some o->iM fY o.op=.uD->fZ.getD i false=true
 er:ER G (E9 (rF ops fZ) (E 0) (E sch.length)) a
 late:∀ (q i:Nat) c o,q<p->sch[q]?=some (i,c)->ops[i]?=some o->W q=true->iM fY o.op=.zb->fZ.getD i false=false->oB G (H q).size (Ef q)
 uy:DF H p
 jj:J G a
structure IF:Prop where
 step:∀ G G' a,J G a->Step G G'->J G' a
 put:∀ G a (o:Oper) u,o∈ops.toList->J G a->J G (a.put o.dst u)
 fill:∀ G G' a bs ds,J G a->tz G G' bs ds->J G' a
def Stop (p:Nat) (fZ:Array Bool):Prop:=∀ (i:Nat) c,sch[p]?=some (i,c)->fZ.getD i false=false/\∀ o,ops[i]?=some o->iM fY o.op=.uD
end
section
variable {P:Program} {X:Ctx} {N:Nat} {ops:Array Oper} {fY:List Nat} {sch:List (Nat×List Nat)}
variable {E:Nat->Env} {H:Nat->au} {V:Nat->AV} {W:Nat->Bool} {Ef:Nat->pe} {J:Ga->Act->Prop} {G0:Ga} {Q:Exit->Act->World->Prop}
def YX (hJ:IF ops J) (hI:mr X.call) (hs:X.fa.fY=fY) (F:tI fY ops sch) (T:Trace X ops sch E H V W) (hEf:F7 P fY ops sch E H V W Ef) :
  ∀ (m p:Nat) (G:Ga) (fZ:Array Bool) (a:Act),sch.length - p=m->yS N ops fY sch E H W Ef J G0 p G fZ a ->
  (∀ (q i:Nat) c,p<=q->sch[q]?=some (i,c)->fZ.getD i false=false) ->
  ∃ p' G',yS N ops fY sch E H W Ef J G0 p' G' fZ a/\Stop ops fY sch p' fZ/\G'.w=G.w:=by
 intro m
 induction m with
 | zero =>
   intro p G fZ a hm hP hun
   refine ⟨p,G,hP,?_,rfl⟩
   intro i c hp
   grind
 | succ m ih =>
   intro p G fZ a hm hP hun
   have hlt:p<sch.length:=by omega
   obtain ⟨x,hx⟩:∃ x,sch[p]?=some x:=⟨sch[p],by simp⟩
   obtain ⟨i,c⟩:=x
   obtain ⟨o,ho,_⟩:=F.one _ _ _ hx
   by_cases he:iM fY o.op=.uD
   ·refine ⟨p,G,hP,?_,rfl⟩
    intro i' c' hp
    grind
   ·
    have key:∀ G1,Step G G1->WR G1->G1.h=H (p+1)->G1.w=G.w->(W p=true->iM fY o.op=.zb->oB G1 (H p).size (Ef p)) ->
      ∃ p' G',yS N ops fY sch E H W Ef J G0 p' G' fZ a/\Stop ops fY sch p' fZ/\G'.w=G.w:=by
     intro G1 S1 W1 h1 hw1 hl1
     have hP1:yS N ops fY sch E H W Ef J G0 (p+1) G1 fZ a:=by
      refine ⟨hlt,h1,hP.fr.step S1,W1,hP.df,hP.sz,hP.ls,hP.base,hP.down,?_,?_,?_,hP.uy.next S1 W1 hP.h h1,hJ.step _ _ _ hP.jj S1⟩
      ·intro q i' c' o' hq k1 k2 k3
       by_cases e:q=p
       ·grind
       ·exact hP.I6 q i' c' o' (by omega) k1 k2 k3
      ·exact hP.er.mono S1.ext
      ·intro q i' c' o' hq k1 k2 k3 k4 k5
       by_cases e:q=p
       ·grind
       ·exact (hP.late q i' c' o' (by omega) k1 k2 k3 k4 k5).step hP.wr S1
     grind
    cases hw:W p with
    | false=>exact key G (.refl G) hP.wr (by rw [hP.h,sP T hI hs hx ho (.inl hw)]) rfl (by grind)
    | true =>
      cases hk:iM fY o.op with
      | uD=>grind
      | pure=>exact key G (.refl G) hP.wr (by rw [hP.h,sP T hI hs hx ho (.inr (.inl hk))]) rfl (by grind)
      | rd=>exact key G (.refl G) hP.wr (by rw [hP.h,sP T hI hs hx ho (.inr (.inr hk))]) rfl (by grind)
      | zb =>
        obtain ⟨e1,e2,_⟩:=hEf _ _ _ _ hx ho hw hk
        have e1:H (p+1)=(Ef p).on (H p):=e1
        cases hE:Ef p with
        | obj ob =>
          rw [hE] at e1
          obtain ⟨s1,w1⟩:=Kb hP.wr ob
          refine key _ s1 w1 (by rw [e1,<- hP.h]; rfl) rfl (λ_ _=>?_)
          rw [hE,<- hP.h]
          refine ⟨?_,G8 hP.wr (Nat.le_refl _)⟩
          show (G.h.push ob).get G.h.size=some ob
          rw [au.nU _ _ _ hP.wr.lo,if_pos rfl]
        | loc d cs =>
          rw [hE] at e1
          have hd:=e2 d cs hE
          rw [<- hP.h] at hd
          obtain ⟨s1,w1⟩:=T9 hP.wr cs hd
          refine key _ s1 w1 (by rw [e1,<- hP.h]; rfl) rfl (λ_ _=>?_)
          rw [hE]
          refine ⟨by simp [gM],?_⟩
          cases hq:G.L d with
          | none=>rfl
          | some B=>have:=(hP.wr.kN d B hq).2; grind
        | none =>
          rw [hE] at e1
          exact key G (.refl G) hP.wr (by rw [hP.h,e1]; rfl) rfl (λ_ _=>by rw [hE]; trivial)
theorem Fr.fill {G G':Ga} {bs ds:Nat->Prop} (h:Fr G0 G) (k:tz G G' bs ds) (hb:∀ b,bs b->G0.h.size<=b):Fr G0 G':=by
 have hL:∀ d B,G'.L d=some B->G0.w.heap.size<=B:=by
  intro d B hd
  rcases k.o7 d B hd with h0 | hge
  ·exact h.L d B h0
  ·exact Nat.le_trans h.S.jd hge
 refine ⟨?_,hL⟩
 have kf:tz (G.gK [] λ_=>none) (G'.gK [] λ_=>none) bs (λ_=>False) :=
  ⟨⟨k.ext.T,k.ext.keep,k.ext.size,k.ext.fc,k.ext.map,λd B hd=>by cases hd⟩,k.os,k.output,k.tape,k.jd,k.frame,k.lI,k.mQ,k.T,
    (by show ({ G'.h with aT:=[] }:au) = { G.h with aT:=[] }; rw [k.h]),λd B hd=>(by cases hd),λd B hd=>(by cases hd)⟩
 exact h.S.fill kf hb (λ_ h=>h.elim)
def tG {fZ:Array Bool} (down:∀ i,fZ.getD i false=true->∀ o,ops[i]?=some o->∀ j∈direct o,fZ.getD j false=true) {i j:Nat} (h:xb ops i j):fZ.getD i false=true->fZ.getD j false=true:=by
 induction h<;>grind
theorem uz {fZ:Array Bool} {i:Nat} (hi:i<fZ.size) (j:Nat) (b:Bool):(fZ.setIfInBounds i true).getD j b=if j=i then true else fZ.getD j b:=by
 by_cases e:j=i
 ·simp_all
 ·rw [getD_set_ne b (Ne.symm e),if_neg e]
def yS.fZ {p q i:Nat} {c:List Nat} {o:Oper} {G G':Ga} {fZ:Array Bool} {a:Act} {u:Value} (F:tI fY ops sch) (T:Trace X ops sch E H V W)
  (hP:yS N ops fY sch E H W Ef J G0 p G fZ a) (hq:sch[q]?=some (i,c)) (ho:ops[i]?=some o) (hdir:∀ j∈direct o,fZ.getD j false=true) (hlt:q<p\/q=p)
  (hN:nL N o=true) (hE:Ext G G') (hfr:Fr G0 G') (hwr:WR G') (hv:VR G' (V q) u) {p':Nat} (hp':p<=p') (hp2:p'<=p+1) (hpn:p'<=sch.length) (hh:G'.h=H p') (hrise:DF H p')
  (hj:J G' (a.put o.dst u)) (hnew:p'≠p->q=p/\iM fY o.op=.uD)
  (hlate:∀ (r j:Nat) c' b,r<p->r≠q->sch[r]?=some (j,c')->ops[j]?=some b->W r=true->iM fY b.op=.zb->fZ.getD j false=false->oB G' (H r).size (Ef r)) :
  yS N ops fY sch E H W Ef J G0 p' G' (fZ.setIfInBounds i true) (a.put o.dst u):=by
 have hi:i<fZ.size:=by rw [hP.ls]; grind
 have hqn:q<sch.length:=(List.getElem?_eq_some_iff.1 hq).1
 have huniq:∀ (r:Nat) c',sch[r]?=some (i,c')->r=q:=by
  intro r c' hr
  rcases Nat.lt_trichotomy r q with h | h | h
  ·exact absurd rfl (F.pair r q i c' i c o o h hr hq ho ho).1
  ·exact h
  ·exact absurd rfl (F.pair q r i c i c' o o h hq hr ho ho).1
 have hget:=λj b=>uz hi j b
 refine ⟨hpn,hh,hfr,hwr,by rw [Act.Cl]; exact hP.df,by rw [Act.yo]; exact hP.sz,by simp [hP.ls],hP.base,?_,?_,?_,?_,hrise,hj⟩
 ·intro j hj b hb k hk
  rw [hget] at hj ⊢
  by_cases e2:k=i
  ·grind
  ·rw [if_neg e2]
   by_cases e:j=i
   ·grind
   ·rw [if_neg e] at hj
    exact hP.down j hj b hb k hk
 ·intro r j c' b hr h1 h2 h3
  rw [hget]
  by_cases e:j=i
  ·grind
  ·rw [if_neg e]
   by_cases hrp:r<p
   ·exact hP.I6 r j c' b hrp h1 h2 h3
   grind
 ·constructor
  intro t
  rw [sd]
  by_cases hd:o.dst=some t
  ·have hnu:t∉rF ops (fZ.setIfInBounds i true):=by
    intro hm
    obtain ⟨j,b,hb,hbd,hl⟩:=oQ.1 hm
    rw [hget] at hl
    by_cases e:j=i
    ·grind
    ·obtain ⟨r,c',hr⟩:=F.cover j (Array.getElem?_eq_some_iff.1 hb).1
     rcases Nat.lt_trichotomy r q with h | h | h
     ·exact (F.pair r q j c' i c b o h hr hq hb ho).2.2.2.1 t hbd hd
     ·grind
     ·exact (F.pair q r i c j c' o b h hq hr ho hb).2.2.2.1 t hd hbd
   rw [if_neg hnu]
   have hval:=T.val F hq ho hd (sch.length - (q+1)) (by omega)
   rw [show q+1+(sch.length - (q+1))=sch.length by omega] at hval
   rw [hval,hd,Act.Cu (Nat.lt_of_lt_of_le (tV hN hd) hP.sz),if_pos rfl]
   exact hv
  ·have h1:=hP.er.rel t
   rw [sd] at h1
   have hiff:t∈rF ops (fZ.setIfInBounds i true)↔t∈rF ops fZ:=by
    rw [oQ,oQ]
    constructor
    ·rintro ⟨j,b,hb,hbd,hl⟩
     rw [hget] at hl
     grind
    ·rintro ⟨j,b,hb,hbd,hl⟩
     refine ⟨j,b,hb,hbd,?_⟩
     rw [hget]
     grind
   have h2:(a.put o.dst u).eval (.tmp t)=a.eval (.tmp t):=by
    grind [Act.eval_put]
   rw [h2]
   by_cases hm:t∈rF ops fZ
   ·rw [if_pos (hiff.2 hm)]
    rw [if_pos hm] at h1
    exact h1.mono hE
   ·rw [if_neg (λx=>hm (hiff.1 x))]
    rw [if_neg hm] at h1
    exact h1.mono hE
 ·intro r j c' b hr h1 h2 h3 h4 h5
  rw [hget] at h5
  grind
end
end Go.Sx
namespace Go.Sx
open Go
variable [DD]
section
variable {P:Program} {X:Ctx} {N:Nat} {ops:Array Oper} {fY:List Nat} {sch:List (Nat×List Nat)}
variable {E:Nat->Env} {H:Nat->au} {V:Nat->AV} {W:Nat->Bool} {Ef:Nat->pe} {J:Ga->Act->Prop} {G0:Ga} {Q:Exit->Act->World->Prop}
def LN {G G':Ga} {bs ds:Nat->Prop} (k:tz G G' bs ds) {n:Nat} {E0:pe} (h:oB G n E0) (h1:∀ ob,E0=.obj ob->¬ bs n) (h2:∀ d cs,E0=.loc d cs->¬ ds d):oB G' n E0:=by
 cases E0 with
 | obj ob =>
   obtain ⟨k1,k2⟩:=h
   refine ⟨by rw [k.h]; exact k1,?_⟩
   cases hq:G'.pi n with
   | none=>rfl
   | some l =>
     rcases k.mQ n l hq with h0 | h0<;>grind
 | loc d cs =>
   obtain ⟨k1,k2⟩:=h
   refine ⟨by rw [k.h]; exact k1,?_⟩
   cases hq:G'.L d with
   | none=>rfl
   | some B =>
     rcases k.rk d B hq with h0 | h0<;>grind
 | none=>trivial
def M4 (hJ:IF ops J) (hC:gR P X.C) (hK:lh P X.call) (hI:mr X.call) (hs:X.fa.fY=fY) (F:tI fY ops sch) (T:Trace X ops sch E H V W) (hEf:F7 P fY ops sch E H V W Ef)
  (hN:ops.toList.all (nL N)=true) {p:Nat} {G:Ga} {fZ:Array Bool} {a:Act} (hP:yS N ops fY sch E H W Ef J G0 p G fZ a) (hst:Stop ops fY sch p fZ)
  {i:Nat} (hi:i∈Region.ready .any ops fZ) {K:Act->World->Prop}
  (hQ:∀ p' G' a',yS N ops fY sch E H W Ef J G0 p' G' (fZ.setIfInBounds i true) a'->Stop ops fY sch p' (fZ.setIfInBounds i true)->K a' G'.w):wpOp P ops Q i K a G.w:=by
 obtain ⟨hun,o,ho,hall⟩:=mem_ready.1 hi
 have hilt:i<ops.size:=(Array.getElem?_eq_some_iff.1 ho).1
 have hil:i<fZ.size:=by grind
 have hunf:fZ.getD i false=false:=by
  grind
 have hdir:∀ j∈direct o,fZ.getD j false=true:=by
  grind [direct]
 have hbef:∀ j,xb ops i j->fZ.getD j false=true:=by
  intro j hj
  cases hj with
  | one hb hj2=>grind
  | more hb hk hj2=>rw [ho] at hb; cases hb; exact tG hP.down hj2 (hdir _ hk)
 have hoL:o∈ops.toList:=Array.mem_toList_iff.2 (Array.mem_of_getElem? ho)
 have hNo:nL N o=true:=List.all_eq_true.1 hN o (Array.mem_toList_iff.2 (Array.mem_of_getElem? ho))
 obtain ⟨q,c,hq⟩:=F.cover i hilt
 have hqn:q<sch.length:=(List.getElem?_eq_some_iff.1 hq).1
 obtain ⟨o',ho',hself,hdr⟩:=F.one q i c hq
 rw [ho] at ho'; cases ho'
 have hqp:q<=p:=by
  rcases Nat.lt_or_ge p q with h | h
  ·have hpn:p<sch.length:=by omega
   obtain ⟨x,hx⟩:∃ x,sch[p]?=some x:=⟨sch[p],by simp⟩
   obtain ⟨i0,c0⟩:=x
   obtain ⟨b,hb,_⟩:=F.one _ _ _ hx
   obtain ⟨h1,h2⟩:=hst i0 c0 hx
   have:=(F.pair p q i0 c0 i c b o h hx hq hb ho).2.2.2.2.2.1 (h2 b hb)
   grind
  ·exact h
 have hER:=hP.er
 have hnow:∀ t∈o.looksAt ops,j5 (E9 (rF ops fZ) (E 0) (E sch.length)) t=j5 (E q) t:=by
  intro t ht
  rw [sd]
  split
  ·rename_i hm
   obtain ⟨j,b,hb,hd,hl⟩:=oQ.1 hm
   obtain ⟨r,c',hr⟩:=F.cover j (Array.getElem?_eq_some_iff.1 hb).1
   have hrq:q<=r:=by
    rcases Nat.lt_or_ge r q with h | h
    ·rw [hbef _ ((F.pair r q j c' i c b o h hr hq hb ho).2.2.1 t hd ht)] at hl
     cases hl
    ·exact h
   refine (T.keep F q (by omega) ?_).symm
   intro s2 j2 c2 b2 hs2 hsj hb2 hd2
   exact (F.pair s2 r j2 c2 j c' b2 b (by omega) hsj hr hb2 hb).2.2.2.1 t hd2 hd
  ·rename_i hm
   by_cases hex:∃ (j:Nat) (b:Oper),ops[j]?=some b/\b.dst=some t
   ·obtain ⟨j,b,hb,hd⟩:=hex
    have hl:fZ.getD j false=true:=by
     grind [oQ]
    obtain ⟨r,c',hr⟩:=F.cover j (Array.getElem?_eq_some_iff.1 hb).1
    have hrn:r<sch.length:=(List.getElem?_eq_some_iff.1 hr).1
    rcases Nat.lt_trichotomy r q with h | h | h
    ·have e1:=T.val F hr hb hd (sch.length - (r+1)) (by omega)
     have e2:=T.val F hr hb hd (q - (r+1)) (by omega)
     grind
    ·grind
    ·have:=tG hP.down ((F.pair q r i c j c' o b h hq hr ho hb).2.1 t hd ht).1 hl
     grind
   ·have hno:∀ (q2 j:Nat) c2 o',sch[q2]?=some (j,c2)->ops[j]?=some o'->o'.dst≠some t:=λq2 j c2 o' _ h1 h2=>hex ⟨j,o',h1,h2⟩
    rw [T.keep F _ (Nat.le_refl _) (λq2 j c2 o' _=>hno q2 j c2 o'),T.keep F q (by omega) (λq2 j c2 o' _=>hno q2 j c2 o')]
 have hlook:∀ t∈o.looksAt ops,VR G (j5 (E q) t) (a.eval (.tmp t)):=by
  intro t ht
  rw [<- hnow t ht]
  exact hER.rel t
 have hops:∀ x∈o.op.operands,fg (E9 (rF ops fZ) (E 0) (E sch.length)) x=fg (E q) x:=by
  intro x hx
  cases x with
  | tmp t =>
    simp only [fg]
    exact hnow t (List.mem_append_left _ (List.mem_filterMap.2 ⟨.tmp t,by grind,rfl⟩))
  | _=>rfl
 obtain ⟨hw,hE1,hop,hsk,_⟩:=T.at_ q i c o hq ho
 have hwanted:Region.wanted o (yielded ops a.tmps)=W q:=by
  refine pz (e:=E q) (G:=G) ?_ hw
  grind [Oper.looksAt]
 have hbehind:q=p->∀ (r j:Nat) c',p+1<=r->sch[r]?=some (j,c')->(fZ.setIfInBounds i true).getD j false=false:=by
  intro e r j c' hr hj
  subst e
  obtain ⟨b,hb,_⟩:=F.one _ _ _ hj
  have hpr:=F.pair q r i c j c' o b (by omega) hq hj ho hb
  rw [uz hil,if_neg (λx=>hpr.1 x.symm)]
  cases hl:fZ.getD j false with
  | false=>rfl
  | true =>
    have:=tG hP.down (hpr.2.2.2.2.2.1 ((hst i c hq).2 o ho)) hl
    grind
 have quiet:q<p->∀ (G':Ga) (u:Value),Step G G'->WR G'->G'.h=G.h->VR G' (V q) u->K (a.put o.dst u) G'.w:=by
  intro hlt G' u S' W' hh hv
  refine hQ p G' _ (hP.fZ F T hq ho hdir (.inl hlt) hNo S'.ext (hP.fr.step S') W' hv (Nat.le_refl _) (Nat.le_succ _) hP.pn (hh.trans hP.h) hP.uy (hJ.put _ _ _ _ hoL (hJ.step _ _ _ hP.jj S')) (λh=>absurd rfl h) ?_) ?_
  ·intro r j c' b hr _ h1 h2 h3 h4 h5
   exact (hP.late r j c' b hr h1 h2 h3 h4 h5).step hP.wr S'
  ·intro j c' hj
   obtain ⟨h1,h2⟩:=hst j c' hj
   refine ⟨?_,h2⟩
   rw [uz hil,if_neg]
   ·exact h1
   ·rintro rfl
    obtain ⟨b,hb,_⟩:=F.one _ _ _ hj
    exact absurd rfl (F.pair q p j c j c' o b hlt hq hj ho hb).1
 have loud:q=p->∀ (G':Ga) (u:Value),Step G G'->WR G'->G'.h=H (p+1)->VR G' (V q) u->K (a.put o.dst u) G'.w:=by
  intro e G' u S' W' hh hv
  subst e
  have hP':=hP.fZ F T hq ho hdir (.inr rfl) hNo S'.ext (hP.fr.step S') W' hv (Nat.le_succ _) (Nat.le_refl _) hqn hh (hP.uy.next S' W' hP.h hh) (hJ.put _ _ _ _ hoL (hJ.step _ _ _ hP.jj S')) (λ_=>⟨rfl,(hst i c hq).2 o ho⟩) (by
   intro r j c' b hr _ h1 h2 h3 h4 h5
   exact (hP.late r j c' b hr h1 h2 h3 h4 h5).step hP.wr S')
  obtain ⟨p2,G2,k1,k2,k3⟩:=YX hJ hI hs F T hEf _ _ G' _ _ rfl hP' (hbehind rfl)
  grind
 unfold wpOp
 simp only [ho,hwanted]
 cases hwq:W q with
 | false =>
   simp only [Bool.false_eq_true,if_false]
   obtain ⟨hv,hh⟩:=hsk hwq
   rcases Nat.lt_or_ge q p with h | h
   ·exact quiet h G undef (.refl G) hP.wr rfl (by grind [VR.Gv])
   ·have e:q=p:=by omega
    exact loud e G undef (.refl G) hP.wr (by rw [hP.h,<- e]; grind) (by grind [VR.Gv])
 | true =>
   simp only [if_true]
   left
   have hop:=hop hwq
   rcases Nat.lt_or_ge q p with h | h
   ·have hne:iM fY o.op≠.uD:=by
     intro hk
     have:=hP.I6 q i c o h hq ho hk
     grind
    have value:∀ (hk:gd o.op X (E q) (H p) o.dst=some (V q,H p)),o.wp P a G.w K Q:=by
     intro hk
     rw [<- Al hops,<- hP.h] at hk
     exact uS hP.wr hC hER hK hk K Q (λu G' hh S' W' hv=>quiet h G' u S' W' hh hv)
    cases hk:iM fY o.op with
    | uD=>grind
    | pure=>grind [A0]
    | rd =>
      have:=KP hI hs F T hEf hq ho hwq hk hP.pn hP.uy (by
       intro r j c' b hr1 hr2 h1 h2 h3 hb
       have:=tG hP.down hb (hP.I6 r j c' b hr2 h1 h2 h3)
       grind) (p - (q+1)) (by omega)
      grind
    | zb =>
      have hA:=hEf q i c o hq ho hwq hk
      obtain ⟨e1,e2,s,hsx,hlate⟩:=hA
      have e1:H (q+1)=(Ef q).on (H q):=e1
      have hL:=hP.late q i c o h hq ho hwq hk hunf
      have L:=hlate G a _ hops hP.wr hER
      have fin:∀ (u:Value) (G':Ga) (bs ds:Nat->Prop),(s a).run P G.w=.ok u G'.w->tz G G' bs ds->(∀ b,bs b->b=(H q).size/\∃ ob,Ef q=.obj ob)->(∀ d,ds d->∃ cs,Ef q=.loc d cs)->WR G'->VR G' (V q) u->o.wp P a G.w K Q:=by
       intro u G' bs ds hrun hF hbs hds W' hv
       have hnew:K (a.put o.dst u) G'.w:=by
        refine hQ p G' _ (hP.fZ F T hq ho hdir (.inl h) hNo hF.ext (hP.fr.fill hF ?_) W' hv (Nat.le_refl _) (Nat.le_succ _) hP.pn (hF.h.trans hP.h) hP.uy (hJ.put _ _ _ _ hoL (hJ.fill _ _ _ _ _ hP.jj hF)) (λh=>absurd rfl h) ?_) ?_
        ·intro b hb
         rw [(hbs b hb).1]
         exact Nat.le_trans hP.base (hP.uy.size 0 q (Nat.zero_le _) (by omega))
        ·intro r j c' b hr hrq h1 h2 h3 h4 h5
         obtain ⟨f1,f2,_⟩:=hEf r j c' b h1 h2 h3 h4
         have f1:H (r+1)=(Ef r).on (H r):=f1
         refine LN hF (hP.late r j c' b hr h1 h2 h3 h4 h5) ?_ ?_
         ·intro ob hob hb
          obtain ⟨g1,ob2,g2⟩:=hbs _ hb
          rw [hob] at f1
          rw [g2] at e1
          have z1:(H (r+1)).size=(H r).size+1:=by rw [f1]; exact au.size_push _ _
          have z2:(H (q+1)).size=(H q).size+1:=by rw [e1]; exact au.size_push _ _
          rcases Nat.lt_or_gt_of_ne hrq with hlt | hgt
          ·have:=hP.uy.size (r+1) q (by omega) (by omega)
           omega
          ·have:=hP.uy.size (q+1) r (by omega) (by omega)
           omega
         ·intro d cs hloc hb
          obtain ⟨cs2,g2⟩:=hds d hb
          rw [hloc] at f1
          rw [g2] at e1
          have n1:=f2 d cs hloc
          have n2:=e2 d cs2 g2
          rcases Nat.lt_or_gt_of_ne hrq with hlt | hgt
          ·have:=hP.uy.loc (r+1) q (by omega) (by omega) d (by rw [f1]; simp [pe.on,gM])
           grind
          ·have:=hP.uy.loc (q+1) r (by omega) (by omega) d (by rw [e1]; simp [pe.on,gM])
           grind
        ·intro j c' hj
         obtain ⟨h1,h2⟩:=hst j c' hj
         refine ⟨?_,h2⟩
         rw [uz hil,if_neg]<;>grind
       grind [Oper.wp,Sem.run_bind,Result.andThen_ok,Sem.run_pure,Oper.upon_value]
      cases hE:Ef q with
      | obj ob =>
        rw [hE] at L hL
        obtain ⟨u,G',k1,k2,k3,k4⟩:=L hL.1 hL.2
        grind
      | loc d cs =>
        rw [hE] at L hL
        obtain ⟨u,G',k1,k2,k3,k4⟩:=L hL.1 hL.2
        exact fin u G' _ _ k1 k2 (λ_ h=>h.elim) (λb hb=>⟨cs,by grind⟩) k3 k4
      | none =>
        rw [hE] at L
        obtain ⟨u,G',k1,k2,k3,k4,k5⟩:=L
        grind [Oper.wp,Sem.run_bind,Result.andThen_ok,Sem.run_pure,Oper.upon_value]
   ·have e:q=p:=by omega
    have hk:=hop
    rw [<- Al hops,e,<- hP.h] at hk
    exact uS hP.wr hC hER hK hk K Q (λu G' hh S' W' hv=>loud e G' u S' W' hh (by grind))
theorem LV (hJ:IF ops J) (hC:gR P X.C) (hK:lh P X.call) (hI:mr X.call) (hs:X.fa.fY=fY) (F:tI fY ops sch) (T:Trace X ops sch E H V W) (hEf:F7 P fY ops sch E H V W Ef)
  (hN:ops.toList.all (nL N)=true) (hQ:∀ G' a',G'.h=H sch.length->St N G0 G' (E sch.length) a'->J G' a'->Q .normal a' G'.w) :
  ∀ (fuel:Nat) (fZ:Array Bool) (a:Act) (p:Nat) (G:Ga),((List.range ops.size).filter λi=>!fZ.getD i true).length<=fuel ->
    yS N ops fY sch E H W Ef J G0 p G fZ a->Stop ops fY sch p fZ->wpAny P .any ops Q fuel fZ a G.w:=by
 have key:∀ (fZ:Array Bool) (a:Act) (p:Nat) (G:Ga),yS N ops fY sch E H W Ef J G0 p G fZ a->Stop ops fY sch p fZ->Region.ready .any ops fZ=[]->Q .normal a G.w:=by
  intro fZ a p G hP hst hr
  have hall:∀ (m q i:Nat) c,q<m->sch[q]?=some (i,c)->fZ.getD i false=true:=by
   intro m
   induction m with
   | zero=>omega
   | succ m ih =>
     intro q i c hq hsq
     by_cases e:q<m
     ·grind
     ·have:q=m:=by omega
      subst this
      cases hl:fZ.getD i false with
      | true=>rfl
      | false =>
        exfalso
        obtain ⟨o,ho,_,hdr⟩:=F.one _ _ _ hsq
        have hil:i<fZ.size:=by rw [hP.ls]; grind
        have:i∈Region.ready .any ops fZ:=by
         rw [mem_ready]
         refine ⟨?_,o,ho,?_⟩
         ·grind
         ·intro e he hb
          have hj:e.on∈direct o:=List.mem_map.2 ⟨e,List.mem_filter.2 ⟨Array.mem_toList_iff.2 he,hb⟩,rfl⟩
          obtain ⟨h1,h2⟩:=hdr _ hj
          obtain ⟨r,c',hr⟩:=F.cover _ h2
          obtain ⟨b,hb2,_⟩:=F.one _ _ _ hr
          rcases Nat.lt_trichotomy r q with h | h | h
          ·grind
          ·grind
          ·exact absurd hj (F.pair q r _ _ _ _ o b h hsq hr ho hb2).2.2.2.2.1
        grind
  have hp:p=sch.length:=by
   rcases Nat.lt_or_ge p sch.length with h | h
   ·obtain ⟨x,hx⟩:∃ x,sch[p]?=some x:=⟨sch[p],by simp [h]⟩
    obtain ⟨i,c⟩:=x
    have h1:=(hst i c hx).1
    grind
   ·exact Nat.le_antisymm hP.pn h
  refine hQ G a (by rw [hP.h,hp]) ⟨hP.fr,hP.wr,⟨λt=>?_⟩,hP.df,hP.sz⟩ hP.jj
  have h1:=hP.er.rel t
  rw [sd,if_neg] at h1
  ·exact h1
  ·intro hm
   obtain ⟨j,b,hb,_,hl⟩:=oQ.1 hm
   obtain ⟨r,c,hr⟩:=F.cover j (Array.getElem?_eq_some_iff.1 hb).1
   grind
 intro fuel
 induction fuel with
 | zero =>
   intro fZ a p G hf hP hst
   have hr:Region.ready .any ops fZ=[]:=by
    rw [List.eq_nil_iff_forall_not_mem]
    intro i hi
    obtain ⟨hun,o,ho,_⟩:=mem_ready.1 hi
    have:i∈(List.range ops.size).filter λi=>!fZ.getD i true:=by
     grind
    grind
   exact ⟨hr,key fZ a p G hP hst hr⟩
 | succ fuel ih =>
   intro fZ a p G hf hP hst
   refine ⟨λhr=>key fZ a p G hP hst hr,λi hi=>?_⟩
   refine M4 hJ hC hK hI hs F T hEf hN hP hst hi (λp' G' a' h1 h2=>ih _ a' p' G' ?_ h1 h2)
   obtain ⟨hun,o,ho,_⟩:=mem_ready.1 hi
   have hio:i<ops.size:=(Array.getElem?_eq_some_iff.1 ho).1
   have hil:i<fZ.size:=by grind
   have:=filter_lt (p:=λi=>!fZ.getD i true) (p':=λj=>!(fZ.setIfInBounds i true).getD j true) (i:=i) (l:=List.range ops.size) (by
    intro x hx
    rw [uz hil] at hx
    grind) (List.mem_range.2 hio) (by grind) (by simp)
   omega
def uY (hJ:IF ops J) (hm:P.follows .mixedOrders=true) (hC:gR P X.C) (hK:lh P X.call) (hI:mr X.call) {id:Nat} (hreg:EV X.fa.fY ops sch=true) (hN:ops.toList.all (nL N)=true)
  {e e':Env} {h h':au} (hr:tA X ops.toList sch e h=some (e',h')) {G:Ga} {a:Act} (hG:G.h=h) (hS:St N G0 G e a) (hj:J G a)
  (hQ:∀ G' a',G'.h=h'->St N G0 G' e' a'->J G' a'->Q .normal a' G'.w):(Code.region id ops true).wp P Q a G.w:=by
 have F:=MR hreg
 obtain ⟨E,H,V,W,hE0,hH0,hEn,hHn,T⟩:=GV sch e h e' h' hr
 obtain ⟨Ef,hEf⟩:=WB (P:=P) hC T
 refine wp_region_any hm ?_
 let G1:Ga:=⟨{ G.w with drawn:=G.w.drawn+1 },G.T,G.h,G.pi,G.L⟩
 have hext:Ext G G1:=⟨λ_ _ h=>h,λ_ _ _=>rfl,Nat.le_refl _,λ_ _ g z xs h=>⟨g,z,xs,h,Nat.le_refl _,λ_=>⟨rfl,λ_ h=>h⟩⟩,λ_ _ es c h=>⟨es,c,h,λ_ h=>h⟩,λ_ _ h=>h⟩
 have S1:Step G G1:=⟨hext,rfl,rfl,⟨rfl,λ_=>Nat.le_succ _⟩,Nat.le_refl _,λ_ _ _ _=>rfl,λ_ l h=>.inl ⟨l,h,rfl⟩,λ_ _ h=>.inl (by grind),λ_ _ h=>.inl h,rfl,λ_ _ _=>rfl,λ_ _ h=>.inl h,λ_ _ h=>.inl (by grind),λ_ _ _ h=>h⟩
 have W1:WR G1:=by
  obtain ⟨k1,k2,k3⟩:=hS.wr.keep hext (λ_ _=>rfl)
  exact ⟨k1,k2,k3,hS.wr.iU,hS.wr.ma,hS.wr.qf,hS.wr.ou,hS.wr.LT,hS.wr.oT,hS.wr.kN,hS.wr.mv,hS.wr.lo,hS.wr.lt⟩
 have hfr1:Fr G0 G1:=hS.fr.step S1
 have hfalse:∀ j,(Array.replicate ops.size false).getD j false=false:=by
  intro j
  rw [Array.getD_eq_getD_getElem?,Array.getElem?_replicate]
  grind
 have hP0:yS N ops X.fa.fY sch E H W Ef J G0 0 G1 (Array.replicate ops.size false) a:=by
  refine ⟨Nat.zero_le _,hG.trans hH0.symm,hfr1,W1,hS.df,hS.sz,by simp,?_,?_,?_,?_,?_,?_,hJ.step _ _ _ hj S1⟩
  ·rw [hH0,<- hG]; exact hfr1.S.ext.size
  ·grind
  ·omega
  ·constructor
   intro t
   rw [sd]
   have h1:=(hS.er.rel t).mono hext
   rw [<- hE0] at h1
   split
   ·exact h1
   ·rename_i hm
    rw [T.keep F _ (Nat.le_refl _) (λq j c o' _ _ hb hd=>hm (oQ.2 ⟨j,o',hb,hd,hfalse j⟩))]
    exact h1
  ·omega
  ·refine ⟨?_,?_,?_⟩
   ·intro q hq
    have:q=0:=by omega
    subst this
    rw [hH0,<- hG]
    exact ⟨W1.lo,W1.lt⟩
   ·grind
   grind
 obtain ⟨p',G',k1,k2,k3⟩:=YX hJ hI rfl F T hEf _ _ G1 _ _ rfl hP0 (λq i c _ _=>hfalse i)
 grind [LV]
def Hn (hm:P.follows .mixedOrders=true) (hC:gR P X.C) (hK:lh P X.call) (hI:mr X.call) {id:Nat} (hreg:EV X.fa.fY ops sch=true) (hN:ops.toList.all (nL N)=true)
  {e e':Env} {h h':au} (hr:tA X ops.toList sch e h=some (e',h')) {G:Ga} {a:Act} (hG:G.h=h) (hS:St N G0 G e a)
  (hQ:∀ G' a',G'.h=h'->St N G0 G' e' a'->Q .normal a' G'.w):(Code.region id ops true).wp P Q a G.w :=
 uY (J:=λ_ _=>True) ⟨λ_ _ _ _ _=>trivial,λ_ _ _ _ _ _=>trivial,λ_ _ _ _ _ _ _=>trivial⟩ hm hC hK hI hreg hN hr hG hS trivial (λG' a' h1 h2 _=>hQ G' a' h1 h2)
end
end Go.Sx
namespace Go.Sx
open Go
variable [DD]
def Af:Ex->Exit
 | .gH=>.normal
 | .ext id=>.exit id
 | .ret=>.ret
def codeOk (N:Nat) (fY:List Nat):Code->ga->Bool
 | .region _ ops draw,an=>ops.toList.all (nL N)&&match draw,an with
   | true,.uB sch=>EV fY ops sch
   | _,_=>true
 | .seq a b,.seq _ x y=>codeOk N fY a x&&codeOk N fY b y
 | .seq a b,.sq x y=>codeOk N fY a x&&codeOk N fY b y
 | .cond _ a b,.two x y=>codeOk N fY a x&&codeOk N fY b y
 | .block _ a,an=>codeOk N fY a an
 | .loop a,.loop _ x=>codeOk N fY a x
 | .scope a,an=>codeOk N fY a an
 | _,_=>true
section
variable {P:Program} {X:Ctx} {N:Nat} {G0:Ga} {Q:Exit->Act->World->Prop}
def xP {c:Code} (J:Nat->Act->World->Prop) (round:∀ n a w,J n a w->c.wp P (Exit.then (λa' w'=>∃ m,m<n/\J m a' w') Q) a w) :
  ∀ (n:Nat) (a:Act) (w:World),J n a w->(Code.loop c).wp P Q a w:=by
 intro n a w h₀ b k cs
 have key:∀ n a w,J n a w->∃ e a' w',Q e a' w'/\Arrives P (lone (b.at a (.code c::.inLoop c::k)) cs w) b k cs e a' w':=by
  intro n
  induction n using Nat.strongRecOn with
  | _ n ih =>
    intro a w hI
    obtain ⟨e,a₁,w₁,hq,harr⟩:=round n a w hI b (.inLoop c::k) cs
    cases e with
    | normal =>
      obtain ⟨m,hlt,hI₁⟩:=hq
      obtain ⟨e₂,a₂,w₂,hq₂,harr₂⟩:=ih m hlt a₁ w₁ hI₁
      exact ⟨e₂,a₂,w₂,hq₂,.of_steps (Steps.trans harr (.one step_inLoop)) harr₂⟩
    | exit id=>exact ⟨_,a₁,w₁,hq,.pass (x:=.inLoop c) rfl (λ_ _=>.inl (by simp)) harr⟩
    | goto l=>exact ⟨_,a₁,w₁,hq,.pass (x:=.inLoop c) rfl (λ_ _=>.inl (by simp)) harr⟩
    | ret=>exact ⟨_,a₁,w₁,hq,.pass (x:=.inLoop c) rfl (λ_ _=>.inl (by simp)) harr⟩
    | panic ch=>exact ⟨_,a₁,w₁,hq,.pass (x:=.inLoop c) rfl (λ_ _=>.inl (by simp)) harr⟩
    | outgrown=>exact ⟨_,a₁,w₁,hq,.pass (x:=.inLoop c) rfl (λ_ _=>.inl (by simp)) harr⟩
 obtain ⟨e,a',w',hq,harr⟩:=key n a w h₀
 exact ⟨e,a',w',hq,.of_steps (.one step_loop) harr⟩
theorem DQ (e:Env) (t:Nat):∀ live:List Nat,j5 (proj live e) t=if t∈live then keep t (j5 e t) else .undef
 | []=>rfl
 | x::l=>by
   have ih:=DQ e t l
   unfold proj at ih ⊢
   simp only [List.map_cons,j5,List.mem_cons]
   cases hq:Nat.beq t x with
   | true =>
     have:=Nat.eq_of_beq_eq_true hq
     subst this
     simp
   | false =>
     have:t≠x:=Nat.ne_of_beq_eq_false hq
     simp only [ih,this,false_or]
theorem tQ (m:iN) (d:Nat):∀ live:List Nat,d∈live->gM (iu live m) d=gM m d
 | [],h=>by cases h
 | x::l,h=>by
   simp only [iu]
   by_cases e:d=x
   ·subst e
    cases hq:gM m d with
    | some c=>simp [gM]
    | none =>
      simp only
      by_cases hl:d∈l
      ·rw [tQ m d l hl,hq]
      ·have:∀ l:List Nat,d∉l->gM (iu l m) d=none:=by
        intro l
        induction l with
        | nil=>intro _; rfl
        | cons y l ih =>
          intro hn
          simp only [List.mem_cons,not_or] at hn
          simp only [iu]
          cases hy:gM m y with
          | none=>exact ih hn.2
          | some c =>
            simp only [gM]
            cases hq:Nat.beq d y with
            | true=>exact absurd (Nat.eq_of_beq_eq_true hq) hn.1
            | false=>exact ih hn.2
       exact this l hl
   ·have hl:d∈l:=(List.mem_cons.1 h).resolve_left e
    have hb:Nat.beq d x=false:=by
     cases hq:Nat.beq d x with
     | true=>exact absurd (Nat.eq_of_beq_eq_true hq) e
     | false=>rfl
    cases hq:gM m x with
    | some c=>simp only [gM,hb]; exact tQ m d l hl
    | none=>exact tQ m d l hl
def mC (live:List Nat) (L:Nat->Option Nat):Nat->Option Nat:=λd=>if d∈live then L d else none
theorem St.jo {G:Ga} {e:Env} {a:Act} (h:St N G0 G e a) (live:List Nat):St N G0 (G.gK (iu live G.h.aT) (mC live G.L)) (proj live e) a:=by
 have hL:∀ d B,mC live G.L d=some B->d∈live/\G.L d=some B:=by
  grind [mC]
 refine ⟨h.fr.gK (λd B hd=>(hL d B hd).2),h.wr.Cb (λd B hd=>(hL d B hd).2) (λd B hd=>tQ _ d live (hL d B hd).1),⟨?_⟩,h.df,h.sz⟩
 intro t
 rw [DQ]
 split
 ·rename_i ht
  have hv:=h.er.rel t
  unfold keep
  cases hg:(j5 e t).wN t with
  | false=>exact .undef _
  | true =>
    simp only
    generalize j5 e t=v at hv hg
    generalize a.eval (.tmp t)=u at hv
    cases v with
    | la d o =>
      simp only [AV.wN,Bool.and_eq_true,Nat.beq_eq] at hg
      obtain ⟨rfl,rfl⟩:=hg
      cases hv with
      | gf hp _=>simp [AV.iA] at hp
      | la _ _ B hd =>
        refine .la _ _ B ?_
        show mC live G.L t=some B
        grind [mC]
    | fG l=>simp [AV.wN] at hg
    | _=>exact hv.gK rfl
 ·exact .undef _
theorem nQ (live:List Nat) (k:Env->au->RC) (e:Env) (h:au):Sx.jo live k e h=k (proj live e) { h with aT:=iu live h.aT }:=by
 unfold Sx.jo
 simp
def wc (P:Program) (X:Ctx) (N:Nat) (G0:Ga) (lp:Az) (c:Code):Prop:=∀ (an:ga) (e:Env) (h:au) (x:Ex) (e':Env) (h':au),gF X lp c an e h=some (x,e',h')->codeOk N X.fa.fY c an=true ->
 ∀ (G:Ga) (a:Act) (Q:Exit->Act->World->Prop),G.h=h->St N G0 G e a->(∀ G' a',G'.h=h'->St N G0 G' e' a'->Q (Af x) a' G'.w)->c.wp P Q a G.w
theorem Jk {c:Code} {n0:Nat} (ih:wc P X N G0 (iC n0) c) {live:List Nat} {y:ga} (hok:codeOk N X.fa.fY c y=true) :
  ∀ (n:Nat) (e:Env) (h:au) (x:Ex) (e':Env) (h':au),iC n (jo live (gF X (iC n0) c y)) e h=some (x,e',h') ->
  ∀ (G:Ga) (a:Act) (Q:Exit->Act->World->Prop),G.h=h->St N G0 G e a->(∀ G' a',G'.h=h'->St N G0 G' e' a'->Q (Af x) a' G'.w)->(Code.loop c).wp P Q a G.w:=by
 intro n e h x e' h' hr G a Q hG hS hQ
 refine xP (λm a w=>∃ G e,G.w=w/\St N G0 G e a/\iC m (jo live (gF X (iC n0) c y)) e G.h=some (x,e',h')) ?_ n a G.w ⟨G,e,rfl,hS,by grind⟩
 rintro m a _ ⟨G,e,rfl,hS,hr⟩
 cases m with
 | zero=>cases hr
 | succ m =>
   simp only [iC] at hr
   have hj:=hS.jo live
   split at hr
   ·rename_i e1 h1 hb
    rw [nQ] at hb
    refine ih y _ _ _ _ _ hb hok (G.gK (iu live G.h.aT) (mC live G.L)) a _ rfl hj ?_
    intro G' a' hG' hS'
    exact ⟨m,Nat.lt_succ_self _,G',e1,rfl,hS',by grind⟩
   ·rename_i hne
    rw [nQ] at hr
    refine ih y _ _ _ _ _ hr hok (G.gK (iu live G.h.aT) (mC live G.L)) a _ rfl hj ?_
    intro G' a' hG' hS'
    cases x with
    | gH=>grind [nQ]
    | ext id=>exact hQ G' a' hG' hS'
    | ret=>exact hQ G' a' hG' hS'
def yu (hm:P.follows .mixedOrders=true) (hC:gR P X.C) (hK:lh P X.call) (hI:mr X.call) (n:Nat):∀ c:Code,wc P X N G0 (iC n) c:=by
 intro c
 induction c with
 | skip =>
   intro an e h x e' h' hr _ G a Q hG hS hQ
   simp only [gF,Option.some.injEq,Prod.mk.injEq] at hr
   obtain ⟨rfl,rfl,rfl⟩:=hr
   exact wp_skip (hQ G a hG hS)
 | label l =>
   intro an e h x e' h' hr _ G a Q hG hS hQ
   simp only [gF,Option.some.injEq,Prod.mk.injEq] at hr
   obtain ⟨rfl,rfl,rfl⟩:=hr
   exact wp_label (hQ G a hG hS)
 | exit id =>
   intro an e h x e' h' hr _ G a Q hG hS hQ
   simp only [gF,Option.some.injEq,Prod.mk.injEq] at hr
   obtain ⟨rfl,rfl,rfl⟩:=hr
   exact wp_exit (hQ G a hG hS)
 | ret =>
   intro an e h x e' h' hr _ G a Q hG hS hQ
   simp only [gF,Option.some.injEq,Prod.mk.injEq] at hr
   obtain ⟨rfl,rfl,rfl⟩:=hr
   exact wp_ret (hQ G a hG hS)
 | region id ops draw =>
   intro an e h x e' h' hr hok G a Q hG hS hQ
   have gH:∀ r:RE,sB r=some (x,e',h')->x=.gH/\r=some (e',h'):=by
    intro r hr
    unfold sB at hr
    grind
   cases draw with
   | false =>
     simp only [gF,sr,EX] at hr
     obtain ⟨rfl,hr2⟩:=gH _ hr
     clear hr
     simp only [codeOk,Bool.and_eq_true] at hok
     refine wp_region ?_
     have:=K6 rfl hC hK hok.1 ops.toList 0 e h e' h' (by simp) hr2 G a Q hG hS (λG' a' h1 h2=>hQ G' a' h1 h2)
     rw [Nat.sub_zero,<- List.range_eq_range'] at this
     exact this
   | true =>
     simp only [gF,sr,s6] at hr
     split at hr
     ·rename_i sch
      obtain ⟨rfl,hr2⟩:=gH _ hr
      simp only [codeOk,Bool.and_eq_true] at hok
      exact Hn hm hC hK hI hok.2 hok.1 hr2 hG hS (λG' a' h1 h2=>hQ G' a' h1 h2)
     grind
 | seq p q ihp ihq =>
   intro an e h x e' h' hr hok G a Q hG hS hQ
   simp only [gF,yI] at hr
   have key:∀ (y:ga) (k:Env->au->RC),codeOk N X.fa.fY p y=true->andThen k (gF X (iC n) p y e h)=some (x,e',h') ->
     (∀ e1 h1,k e1 h1=some (x,e',h')->∀ G1 a1,G1.h=h1->St N G0 G1 e1 a1->q.wp P Q a1 G1.w)->(Code.seq p q).wp P Q a G.w:=by
    intro y k hoy hr hk
    unfold andThen at hr
    split at hr
    ·rename_i e1 h1 hb
     refine wp_seq (ihp y _ _ _ _ _ hb hoy G a _ hG hS ?_)
     intro G1 a1 hG1 hS1
     exact hk e1 h1 hr G1 a1 hG1 hS1
    ·rename_i hne
     refine wp_seq (ihp y _ _ _ _ _ hr hoy G a _ hG hS ?_)
     intro G1 a1 hG1 hS1
     cases x with
     | gH=>grind
     | ext id=>exact hQ G1 a1 hG1 hS1
     | ret=>exact hQ G1 a1 hG1 hS1
   split at hr
   ·rename_i live y z
    simp only [codeOk,Bool.and_eq_true] at hok
    refine key y _ hok.1 hr ?_
    intro e1 h1 hk G1 a1 hG1 hS1
    rw [nQ] at hk
    rw [<- hG1] at hk
    exact ihq z _ _ _ _ _ hk hok.2 (G1.gK (iu live G1.h.aT) (mC live G1.L)) a1 Q rfl (hS1.jo live) hQ
   ·rename_i y z
    simp only [codeOk,Bool.and_eq_true] at hok
    refine key y _ hok.1 hr ?_
    intro e1 h1 hk G1 a1 hG1 hS1
    exact ihq z _ _ _ _ _ hk hok.2 G1 a1 Q hG1 hS1 hQ
   grind
 | cond c p q ihp ihq =>
   intro an e h x e' h' hr hok G a Q hG hS hQ
   simp only [gF,CM] at hr
   split at hr
   ·rename_i y z
    simp only [codeOk,Bool.and_eq_true] at hok
    unfold Cv at hr
    have hv:=fW hS.er c
    split at hr
    ·rename_i hb
     rw [bool?_eq hb] at hv
     exact wp_cond_true hv.of_bool (ihp y _ _ _ _ _ hr hok.1 G a Q hG hS hQ)
    ·rename_i hb
     rw [bool?_eq hb] at hv
     exact wp_cond_false hv.of_bool (ihq z _ _ _ _ _ hr hok.2 G a Q hG hS hQ)
    grind
   grind
 | block id p ih =>
   intro an e h x e' h' hr hok G a Q hG hS hQ
   simp only [gF,ux] at hr
   simp only [codeOk] at hok
   refine wp_block ?_
   unfold atEnd at hr
   split at hr
   ·rename_i id' e1 h1 hb
    split at hr
    ·rename_i hid
     have hid:=Nat.eq_of_beq_eq_true hid
     simp only [Option.some.injEq,Prod.mk.injEq] at hr
     obtain ⟨rfl,rfl,rfl⟩:=hr
     refine ih an _ _ _ _ _ hb hok G a _ hG hS ?_
     intro G1 a1 hG1 hS1
     show Exit.inBlock id Q (.exit id') a1 G1.w
     simp only [Exit.inBlock,hid,if_true]
     exact hQ G1 a1 hG1 hS1
    ·rename_i hid
     have hid:=Nat.ne_of_beq_eq_false hid
     simp only [Option.some.injEq,Prod.mk.injEq] at hr
     obtain ⟨rfl,rfl,rfl⟩:=hr
     refine ih an _ _ _ _ _ hb hok G a _ hG hS ?_
     intro G1 a1 hG1 hS1
     show Exit.inBlock id Q (.exit id') a1 G1.w
     simp only [Exit.inBlock,hid,if_false]
     exact hQ G1 a1 hG1 hS1
   ·rename_i hne
    refine ih an _ _ _ _ _ hr hok G a _ hG hS ?_
    intro G1 a1 hG1 hS1
    cases x with
    | gH=>exact hQ G1 a1 hG1 hS1
    | ext id'=>grind
    | ret=>exact hQ G1 a1 hG1 hS1
 | loop p ih =>
   intro an e h x e' h' hr hok G a Q hG hS hQ
   simp only [gF,Jv] at hr
   grind [codeOk,Jk]
 | scope p ih =>
   intro an e h x e' h' hr hok G a Q hG hS hQ
   simp only [gF] at hr
   simp only [codeOk] at hok
   refine wp_scope_straight (ih an _ _ _ _ _ hr hok G a _ hG hS ?_)
   intro G1 a1 hG1 hS1
   cases x with
   | gH=>exact hQ G1 a1 hG1 hS1
   | ext id=>exact hQ G1 a1 hG1 hS1
   | ret=>exact hQ G1 a1 hG1 hS1
 | _=>intro an e h x e' h' hr; cases hr
end
end Go.Sx
namespace Go.Sx
open Go
variable [DD]
theorem jP {f:AV->Option AV}:∀ {l l':List AV},fU f l=some l'->l'.length=l.length/\∀ (i:Nat) x',l'[i]?=some x'->∃ x,l[i]?=some x/\f x=some x'
 | [],l',h=>by
   grind [fU]
 | v::l,l',h=>by
   simp only [fU] at h
   split at h
   ·cases h
   ·rename_i w hw
    split at h
    ·cases h
    ·rename_i l2 hl2
     simp only [Option.some.injEq] at h
     subst h
     obtain ⟨h1,h2⟩:=jP hl2
     refine ⟨by simp [h1],?_⟩
     intro i x' hx
     cases i with
     | zero =>
       simp only [List.getElem?_cons_zero,Option.some.injEq] at hx
       subst hx
       exact ⟨v,rfl,hw⟩
     | succ i =>
       rw [List.getElem?_cons_succ] at hx
       exact h2 i x' hx
def yN {f:AV->Option AV}:∀ {l l':List (List AV)},lT f l=some l'->l'.length=l.length/\∀ (i:Nat) x',l'[i]?=some x'->∃ x,l[i]?=some x/\fU f x=some x'
 | [],l',h=>by
   grind [lT]
 | v::l,l',h=>by
   simp only [lT] at h
   split at h
   ·cases h
   ·rename_i w hw
    split at h
    ·cases h
    ·rename_i l2 hl2
     simp only [Option.some.injEq] at h
     subst h
     obtain ⟨h1,h2⟩:=yN hl2
     refine ⟨by simp [h1],?_⟩
     intro i x' hx
     cases i with
     | zero =>
       simp only [List.getElem?_cons_zero,Option.some.injEq] at hx
       subst hx
       exact ⟨v,rfl,hw⟩
     | succ i =>
       rw [List.getElem?_cons_succ] at hx
       exact h2 i x' hx
def z6 {f:AV->Option AV}:∀ {l:List (AV×AV×Nat)} {l':List (AV×AV)},nb f l=some l'->l'.length=l.length/\∀ (i:Nat) p',l'[i]?=some p'->∃ p,l[i]?=some p/\p.1=p'.1/\f p.2.1=some p'.2
 | [],l',h=>by
   grind [nb]
 | (k,v,n)::l,l',h=>by
   simp only [nb] at h
   split at h
   ·cases h
   ·rename_i w hw
    split at h
    ·cases h
    ·rename_i l2 hl2
     simp only [Option.some.injEq] at h
     subst h
     obtain ⟨h1,h2⟩:=z6 hl2
     refine ⟨by simp [h1],?_⟩
     intro i x' hx
     cases i with
     | zero =>
       simp only [List.getElem?_cons_zero,Option.some.injEq] at hx
       subst hx
       exact ⟨(k,v,n),rfl,rfl,hw⟩
     | succ i =>
       rw [List.getElem?_cons_succ] at hx
       exact h2 i x' hx
def AV.marked:AV->Bool
 | .ip _ _ s=>s
 | .fm _ s=>s
 | .sl _ c=>o6 c
 | _=>false
theorem PR.at_ {w:World} {T:Bool->Nat->Prop} {m:Bool} {v:AV} {u:Value} (h:PR w T true v u) (hi:v.iA=true) (hm:v.marked=true->m=true):PR w T m v u:=by
 cases h with
 | undef _ v h=>simp [AV.iA] at hi
 | bool _ b=>exact .bool m b
 | int _ k n=>exact .int m k n
 | str _ s b h=>exact .str m s b h
 | iL _=>exact .iL m
 | ip _ cells off sn B base c e fr f _ hB hB' hc h1 hr=>exact .ip m cells off sn B base c e fr f hm hB hB' hc h1 hr
 | slnil _=>exact .slnil m
 | my _ cap a c _ h=>exact .my m cap a c hm h
 | sl _ xs cap B base c e fr cap' esz f _ hB hB' hcap hle hz hc h1 hr=>exact .sl m xs cap B base c e fr cap' esz f hm hB hB' hcap hle hz hc h1 hr
 | iw _=>exact .iw m
 | fm _ es sn r ents clk _ hB hB' hl hy hko hk hv=>exact .fm m es sn r ents clk hm hB hB' hl hy hko hk hv
 | j7 _=>exact .j7 m
 | gx _ g a c a' c' _ _ _ _=>simp [AV.iA] at hi
 | agg _ l vs _ _ _=>simp [AV.iA] at hi
def NF (sn:Bool):o6 (Av sn)=sn:=by cases sn<;>rfl
def Fg (sn:Bool) {k c:Nat} (h:k<=c):nJ (Av sn) k c:=by cases sn<;>exact h
section
variable {G:Ga} {T1:Bool->Nat->Prop} {sn:Bool}
def zy (hW:WR G) (hT:∀ s B,G.T s B->T1 s B) (hpi:∀ b l,G.pi b=some l->T1 sn l.B) :
  ∀ (n:Nat) (v v':AV) (u:Value),freeze sn G.h n v=some v'->v.lR=true->VR G v u->PR G.w T1 sn v' u:=by
 intro n
 induction n with
 | zero=>grind [freeze]
 | succ n ih =>
   intro v v' u h hna hv
   have gf:v.iA=true->(v.marked=true->sn=true)->PR G.w T1 sn v u:=by
    intro hi hm
    cases hv with
    | gf _ h=>exact (h.at_ hi hm).mono hT (λ_ _ _=>rfl)
    | _=>simp [AV.iA] at hi
   have lst:∀ (l l':List AV) (vs:Array Value),fU (freeze sn G.h n) l=some l'->(∀ x∈l,x.lR=true)->(∀ (i:Nat) (x:AV) (y:Value),l[i]?=some x->vs[i]?=some y->VR G x y) ->
     ∀ (i:Nat) (x:AV) (y:Value),l'[i]?=some x->vs[i]?=some y->PR G.w T1 sn x y:=by
    grind [jP]
   cases v with
   | undef=>simp [freeze] at h
   | bool b=>simp only [freeze,Option.some.injEq] at h; subst h; exact gf rfl (by simp [AV.marked])
   | int k m=>simp only [freeze,Option.some.injEq] at h; subst h; exact gf rfl (by simp [AV.marked])
   | str s=>simp only [freeze,Option.some.injEq] at h; subst h; exact gf rfl (by simp [AV.marked])
   | iL=>simp only [freeze,Option.some.injEq] at h; subst h; exact gf rfl (by simp [AV.marked])
   | iw=>simp only [freeze,Option.some.injEq] at h; subst h; exact gf rfl (by simp [AV.marked])
   | j7=>simp only [freeze,Option.some.injEq] at h; subst h; exact gf rfl (by simp [AV.marked])
   | ip c o s =>
     simp only [freeze] at h
     split at h
     ·cases h
     ·rename_i hs
      simp only [Option.some.injEq] at h; subst h
      refine gf rfl ?_
      grind [AV.marked]
   | fm es s =>
     simp only [freeze] at h
     split at h
     ·cases h
     ·rename_i hs
      simp only [Option.some.injEq] at h; subst h
      refine gf rfl ?_
      grind [AV.marked]
   | sl xs c =>
     cases c with
     | qC =>
       simp only [freeze] at h
       split at h
       ·simp only [Option.some.injEq] at h; subst h
        exact gf rfl (λ_=>rfl)
       ·cases h
     | nil=>simp only [freeze,Option.some.injEq] at h; subst h; exact gf rfl (by simp [AV.marked,o6])
     | exact k=>simp only [freeze,Option.some.injEq] at h; subst h; exact gf rfl (by simp [AV.marked,o6])
     | iB=>simp only [freeze,Option.some.injEq] at h; subst h; exact gf rfl (by simp [AV.marked,o6])
   | la d o=>simp [freeze] at h
   | ptr b g i o =>
     simp only [freeze] at h
     split at h
     ·rename_i g' z xs hg
      split at h
      ·rename_i hgg
       have hgg:=Nat.eq_of_beq_eq_true hgg
       subst hgg
       split at h
       ·rename_i cs hcs
        split at h
        ·rename_i cs' hfr
         simp only [Option.some.injEq] at h; subst h
         cases hv with
         | gf hi _=>simp [AV.iA] at hi
         | ptr _ _ _ _ a hb hge hat =>
           obtain ⟨l,hl,rfl⟩:=hat z xs hg
           obtain ⟨c,e,hB,hcap,hsz,hz,hcell⟩:=hW.fc b l _ _ _ hl hg
           obtain ⟨hlen,hget⟩:=jP hfr
           refine .ip sn cs' o sn l.B (l.base+i*z) c e (0,0) (λj=>c.getD (l.base+i*z+j) undef) (λh=>h) hB (hpi b l hl) ?_ ?_ ?_
           ·intro j x hx
            obtain ⟨x0,k1,_⟩:=hget j x hx
            obtain ⟨w,k3,_⟩:=hcell i cs j x0 hcs k1
            simp_all
           ·intro j x hx
            obtain ⟨x0,k1,_⟩:=hget j x hx
            obtain ⟨w,k3,k4,_⟩:=hcell i cs j x0 hcs k1
            simp_all
           ·intro j x hx
            obtain ⟨x0,k1,k2⟩:=hget j x hx
            obtain ⟨w,k3,_,k5⟩:=hcell i cs j x0 hcs k1
            rw [Array.getD_eq_getD_getElem?,k3]
            exact ih x0 x w k2 k5.na k5.vr
        ·cases h
       ·cases h
      ·cases h
     ·cases h
   | hs b g off len =>
     simp only [freeze] at h
     split at h
     ·rename_i g' z xs hg
      split at h
      ·rename_i hgg
       simp only [Bool.and_eq_true,Nat.ble_eq] at hgg
       have hlen:=hgg.2
       have hgg:=Nat.eq_of_beq_eq_true hgg.1
       subst hgg
       split at h
       ·rename_i ys hfr
        simp only [Option.some.injEq] at h; subst h
        obtain ⟨hl1,hget⟩:=yN hfr
        have hlen2:ys.length=len:=by
         grind
        have hcapn:=NF sn
        cases hv with
        | gf hi _=>simp [AV.iA] at hi
        | hs _ _ _ _ a cap' hb hge hle hat =>
          cases hys:ys with
          | nil =>
            have:len=0:=by grind
            subst this
            exact .my sn _ a cap' (by grind) (Fg sn (Nat.zero_le _))
          | cons y0 yr =>
            rw [<- hys]
            have hpos:0<len:=by grind
            obtain ⟨l,hl,hcapl,haddr⟩:=hat z xs hg
            have haddr:=haddr (by omega)
            subst haddr
            obtain ⟨c,e,hB,hcap,hsz,hz,hcell⟩:=hW.fc b l _ _ _ hl hg
            have hrow:∀ (i:Nat) cs',ys[i]?=some cs'->∃ cs,xs[off+i]?=some cs/\fU (freeze sn G.h n) cs=some cs':=by
             grind
            have hpos2:∀ i j:Nat,l.base+off*z+i*z+j=l.base+(off+i)*z+j:=by
             grind
            rw [<- hlen2]
            refine .sl sn ys _ l.B (l.base+off*z) c e (0,0) cap' z (λi j=>c.getD (l.base+(off+i)*z+j) undef) (by grind) hB (by grind)
             (Fg sn (by omega)) (by omega) ?_ ?_ ?_ ?_
            ·grind [jP]
            ·intro i cs' j x hi hj
             obtain ⟨cs,k1,k2⟩:=hrow i cs' hi
             obtain ⟨x0,k3,k4⟩:=(jP k2).2 j x hj
             obtain ⟨w,k5,_⟩:=hcell _ cs j x0 k1 k3
             rw [hpos2,Array.getD_eq_getD_getElem?,k5]; rfl
            ·intro i cs' j x hi hj
             obtain ⟨cs,k1,k2⟩:=hrow i cs' hi
             obtain ⟨x0,k3,k4⟩:=(jP k2).2 j x hj
             obtain ⟨w,k5,k6,_⟩:=hcell _ cs j x0 k1 k3
             rw [Array.getD_eq_getD_getElem?,k5]; exact k6
            ·intro i cs' j x hi hj
             obtain ⟨cs,k1,k2⟩:=hrow i cs' hi
             obtain ⟨x0,k3,k4⟩:=(jP k2).2 j x hj
             obtain ⟨w,k5,_,k7⟩:=hcell _ cs j x0 k1 k3
             rw [hcapn,Array.getD_eq_getD_getElem?,k5]
             exact ih x0 x w k4 k7.na k7.vr
       ·cases h
      ·cases h
     ·cases h
   | hm b =>
     simp only [freeze] at h
     split at h
     ·rename_i es c hg
      split at h
      ·rename_i es' hfr
       simp only [Option.some.injEq] at h; subst h
       cases hv with
       | gf hi _=>simp [AV.iA] at hi
       | hm _ r hb hat =>
         obtain ⟨l,hl,rfl⟩:=hat es c hg
         obtain ⟨ents,hB,hlen,hyo,hent⟩:=hW.map b l es c hl hg
         obtain ⟨hl1,hget⟩:=z6 hfr
         have hent2:∀ (i:Nat) p,es[i]?=some p->∃ e,ents[i]?=some e:=by
          intro i p hp
          have:i<ents.size:=by grind
          exact ⟨ents[i],by simp⟩
         refine .fm sn es' sn l.B ents c (λh=>h) hB (hpi b l hl) (hl1.trans hlen) ?_ ?_ ?_ ?_
         ·exact hyo.Zf hlen λi p e hp he=>(hent i p e hp he).2.2.2
         ·grind
         ·intro i p e hp he
          obtain ⟨p0,k1,k2,_⟩:=hget i p hp
          rw [<- k2]
          have:=(hent i p0 e k1 he).2.1.mono hT (λ_ _ _=>rfl)
          cases sn with
          | false=>exact this
          | true=>exact this.D6
         ·intro i p e hp he
          obtain ⟨p0,k1,_,k3⟩:=hget i p hp
          have:=(hent i p0 e k1 he).2.2.1
          exact ih p0.2.1 p.2 e.val k3 this.na this.vr
      ·cases h
     ·cases h
   | gx f a c =>
     simp only [freeze] at h
     split at h
     ·rename_i a1 c1 ha hc
      simp only [Option.some.injEq] at h; subst h
      cases hv with
      | gf hi _=>simp [AV.iA] at hi
      | gx _ _ _ a' c' hal hcl hna1 hnc1 hra hrc =>
        exact .gx sn f a1 c1 a' c' ((jP ha).1.trans hal) ((jP hc).1.trans hcl) (lst a a1 a' ha hna1 hra) (lst c c1 c' hc hnc1 hrc)
     ·cases h
   | agg l =>
     simp only [freeze] at h
     split at h
     ·rename_i l1 hl
      simp only [Option.some.injEq] at h; subst h
      cases hv with
      | gf hi _=>simp [AV.iA] at hi
      | agg _ vs hll hn h1 hr=>exact .agg sn l1 vs ((jP hl).1.trans hll) h1 (lst l l1 vs hl hn hr)
     ·cases h
   | fG l=>cases hna
theorem nM {h h2:au} (E:∀ b o,h.get b=some o->h2.get b=some o):∀ (n:Nat) (v v':AV),freeze sn h n v=some v'->freeze sn h2 n v=some v':=by
 intro n
 induction n with
 | zero=>grind [freeze]
 | succ n ih =>
   have il:∀ l l',fU (freeze sn h n) l=some l'->fU (freeze sn h2 n) l=some l':=by
    intro l
    induction l<;>grind [fU]
   have ill:∀ l l',lT (freeze sn h n) l=some l'->lT (freeze sn h2 n) l=some l':=by
    intro l
    induction l<;>grind [lT]
   have ilm:∀ l l',nb (freeze sn h n) l=some l'->nb (freeze sn h2 n) l=some l':=by
    intro l
    induction l<;>grind [nb]
   intro v v' k
   cases v with
   | ptr b g i o =>
     simp only [freeze] at k ⊢
     grind
   | hs b g off len =>
     grind [freeze]
   | hm b =>
     grind [freeze]
   | gx f a c =>
     grind [freeze]
   | agg l =>
     grind [freeze]
   | fG l =>
     grind [freeze]
   | sl xs c=>cases c<;>exact k
   | _=>exact k
end
end Go.Sx
namespace Go.Sx
open Go
variable [DD]
def lb (G:Ga) (r:Nat) (i:It):Prop:=match i.k with
 | .nil=>G.w.heap[r]?=some (.mapIter none 0 #[] 0)
 | .fix last left=>∃ m ents clk s,G.T s m/\G.w.heap[m]?=some (.map ents clk) /\
   ((ents = #[]/\left=[]/\last=none/\G.w.heap[r]?=some (.mapIter (some m) clk #[] clk)) \/
    (∃ e0 x,ents = #[e0]/\e0.born<clk/\PR G.w G.T true x.1 e0.key/\PR G.w G.T true x.2 e0.val /\
      ((left=[x]/\last=none/\G.w.heap[r]?=some (.mapIter (some m) clk #[] clk)) \/
       (left=[]/\last=some x/\G.w.heap[r]?=some (.mapIter (some m) clk #[e0.born] clk)))))
 | .BX b clk seen=>∃ m,VR G (.hm b) (.map (some m))/\G.w.heap[r]?=some (.mapIter (some m) clk (match seen with | none=>#[] | some n=>#[n]) clk)
structure rr (G0 G:Ga) (a:Act) (i:It) (r:Nat):Prop where
 at_:a.eval (.tmp i.d)=.pointer (some ⟨r,0,none⟩)
 new:G0.w.heap.size<=r
 lt:r<G.w.heap.size
 T:∀ s,¬ G.T s r
 pi:∀ b l,G.pi b=some l->l.B≠r
 L:∀ d B,G.L d=some B->B≠r
 obj:lb G r i
def rJ (G0 G:Ga) (a:Act):Option It->Prop
 | none=>True
 | some i=>∃ r,rr G0 G a i r
section
variable {P:Program} {X:Ctx} {N:Nat} {G0 G G':Ga} {a a':Act} {Q:Exit->Act->World->Prop}
def lb.ext {r:Nat} {i:It} (h:lb G r i) (E:Ext G G') (hr:G'.w.heap[r]?=G.w.heap[r]?):lb G' r i:=by
 unfold lb at h ⊢
 split at h
 ·grind
 ·obtain ⟨m,ents,clk,s,hT,hm,h⟩:=h
  refine ⟨m,ents,clk,s,E.T s m hT,(E.keep s m hT).trans hm,?_⟩
  rcases h with ⟨h1,h2,h3,h4⟩ | ⟨e0,x,h1,h2,h3,h4,h⟩
  ·grind
  ·refine .inr ⟨e0,x,h1,h2,h3.mono E.T E.keep,h4.mono E.T E.keep,?_⟩
   grind
 ·obtain ⟨m,h1,h2⟩:=h
  exact ⟨m,h1.mono E,hr.trans h2⟩
def rr.step {i:It} {r:Nat} (h:rr G0 G a i r) (S:Step G G') (ha:a'.eval (.tmp i.d)=a.eval (.tmp i.d)):rr G0 G' a' i r:=by
 have hr:G'.w.heap[r]?=G.w.heap[r]?:=S.frame r h.lt h.pi h.L
 refine ⟨ha.trans h.at_,h.new,Nat.lt_of_lt_of_le h.lt S.jd,?_,?_,?_,h.obj.ext S.ext hr⟩
 ·intro s ht
  rcases S.qG s r ht with h0 | hge
  ·exact h.T s h0
  ·have:=h.lt; omega
 ·intro b l hl e
  rcases S.lI b l hl with ⟨l0,h0,e0⟩ | hge
  ·exact h.pi b l0 h0 (e0.trans e)
  ·have:=h.lt; omega
 ·intro d B hd e
  rcases S.o7 d B hd with h0 | hge
  ·exact h.L d B h0 e
  ·have:=h.lt; omega
theorem rr.fill {i:It} {r:Nat} {bs ds:Nat->Prop} (h:rr G0 G a i r) (S:tz G G' bs ds):rr G0 G' a i r:=by
 have hr:G'.w.heap[r]?=G.w.heap[r]?:=S.frame r h.lt
 refine ⟨h.at_,h.new,Nat.lt_of_lt_of_le h.lt S.jd,?_,?_,?_,h.obj.ext S.ext hr⟩
 ·intro s ht
  rw [S.T] at ht
  exact h.T s ht
 ·intro b l hl e
  rcases S.lI b l hl with h0 | hge
  ·exact h.pi b l h0 e
  ·have:=h.lt; omega
 ·intro d B hd e
  rcases S.o7 d B hd with h0 | hge
  ·exact h.L d B h0 e
  ·have:=h.lt; omega
def rJ.step {it:Option It} (h:rJ G0 G a it) (S:Step G G') (ha:∀ i,it=some i->a'.eval (.tmp i.d)=a.eval (.tmp i.d)):rJ G0 G' a' it:=by
 cases it with
 | none=>trivial
 | some i =>
   obtain ⟨r,h⟩:=h
   exact ⟨r,h.step S (ha i rfl)⟩
theorem lb.gK {r:Nat} {i:It} (h:lb G r i) {m:iN} {L:Nat->Option Nat}:lb (G.gK m L) r i:=by
 unfold lb at h ⊢
 split at h
 ·exact h
 ·exact h
 ·obtain ⟨m,h1,h2⟩:=h
  exact ⟨m,h1.gK rfl,h2⟩
theorem rJ.gK {it:Option It} (h:rJ G0 G a it) {m:iN} {L:Nat->Option Nat} (hL:∀ d B,L d=some B->G.L d=some B):rJ G0 (G.gK m L) a it:=by
 cases it with
 | none=>trivial
 | some i =>
   obtain ⟨r,h⟩:=h
   exact ⟨r,h.at_,h.new,h.lt,h.T,h.pi,λd B hd=>h.L d B (hL d B hd),h.obj.gK⟩
theorem u0 {it:Option It} {o:Oper} {u:Value} (h:sa it o=true):∀ i,it=some i->(a.put o.dst u).eval (.tmp i.d)=a.eval (.tmp i.d):=by
 rintro i rfl
 refine Act.eval_put ?_
 intro d hd e
 cases e
 simp only [sa,hd,Bool.not_eq_true'] at h
 simp at h
def w8 (hW:WR G) (o:Obj):Step G ⟨G.w.alloc o,G.T,G.h,G.pi,G.L⟩/\WR ⟨G.w.alloc o,G.T,G.h,G.pi,G.L⟩:=by
 have hA:=iX.alloc G.w o
 have hold:∀ B,B<G.w.heap.size->(G.w.alloc o).heap[B]?=G.w.heap[B]?:=λB hB=>hA.ri (G:=G) hB
 have hsz:(G.w.alloc o).heap.size=G.w.heap.size+1:=hA.size (G:=G)
 have E:Ext G ⟨G.w.alloc o,G.T,G.h,G.pi,G.L⟩:=⟨λ_ _ h=>h,λs B t=>hold B (hW.mv s B t),Nat.le_refl _,λ_ _ g z xs h=>⟨g,z,xs,h,Nat.le_refl _,λ_=>⟨rfl,λ_ h=>h⟩⟩,λ_ _ es c h=>⟨es,c,h,λ_ h=>h⟩,λ_ _ h=>h⟩
 have hle:G.w.heap.size<=(G.w.alloc o).heap.size:=by omega
 refine ⟨⟨E,hA.os,hA.output,hA.tape,hle,λB hB _ _=>hold B hB,λ_ l h=>.inl ⟨l,h,rfl⟩,λ_ _ h=>.inl (by grind),λ_ _ h=>.inl h,rfl,λ_ _ _=>rfl,λ_ _ h=>.inl h,λ_ _ h=>.inl (by grind),λ_ _ _ h=>h⟩,?_⟩
 obtain ⟨k1,k2,k3⟩:=hW.keep E hold
 exact ⟨k1,k2,k3,λb l h=>⟨Nat.lt_of_lt_of_le (hW.iU b l h).1 hle,(hW.iU b l h).2⟩,hW.ma,hW.qf,hW.ou,hW.LT,hW.oT,λd B h=>⟨Nat.lt_of_lt_of_le (hW.kN d B h).1 hle,(hW.kN d B h).2⟩,λs B h=>Nat.lt_of_lt_of_le (hW.mv s B h) hle,hW.lo,hW.lt⟩
def NO {r:Nat} {o:Obj} {w':World} (hF:Fr G0 G) (hW:WR G) (hh:w'.heap=G.w.heap.setIfInBounds r o) (hos:w'.os=G.w.os) (hou:w'.output=G.w.output) (hta:qY G.w w')
  (h0:G0.w.heap.size<=r) (hT:∀ s,¬ G.T s r) (hpi:∀ b l,G.pi b=some l->l.B≠r) (hL:∀ d B,G.L d=some B->B≠r) :
  Ext G ⟨w',G.T,G.h,G.pi,G.L⟩/\Fr G0 ⟨w',G.T,G.h,G.pi,G.L⟩/\WR ⟨w',G.T,G.h,G.pi,G.L⟩:=by
 have hne:∀ B,B≠r->w'.heap[B]?=G.w.heap[B]?:=by
  grind
 have hsz:w'.heap.size=G.w.heap.size:=by grind
 have E:Ext G ⟨w',G.T,G.h,G.pi,G.L⟩ :=
  ⟨λ_ _ h=>h,λs B t=>hne B (λe=>hT s (e▸t)),Nat.le_refl _,λ_ _ g z xs h=>⟨g,z,xs,h,Nat.le_refl _,λ_=>⟨rfl,λ_ h=>h⟩⟩,λ_ _ es c h=>⟨es,c,h,λ_ h=>h⟩,λ_ _ h=>h⟩
 refine ⟨E,⟨?_,λd B h=>hF.L d B h⟩,?_⟩
 ·have hS:=hF.S
  refine ⟨⟨hS.ext.T,?_,hS.ext.size,hS.ext.fc,hS.ext.map,hS.ext.aT⟩,hos.trans hS.os,hou.trans hS.output,hta.trans hS.tape,?_,?_,hS.lI,hS.mQ,hS.qG,hS.lo,hS.out,hS.o7,hS.rk,hS.rX⟩
  ·intro s B t
   have:B≠r:=λe=>hT s (e▸hS.ext.T s B t)
   exact (hne B this).trans (hS.ext.keep s B t)
  ·show G0.w.heap.size<=w'.heap.size
   rw [hsz]; exact hS.jd
  ·intro B hB hp hl
   have:B≠r:=by omega
   exact (hne B this).trans (hS.frame B hB hp hl)
 ·constructor
  ·exact λb l g z xs hp hg=>(hW.fc b l g z xs hp hg).mono E (hne _ (hpi b l hp))
  ·exact λb l es c hp hg=>(hW.map b l es c hp hg).mono E (hne _ (hpi b l hp))
  ·exact λd B cs hd hcs=>(hW.loc d B cs hd hcs).mono E (hne _ (hL d B hd))
  ·exact λb l h=>⟨by show l.B<w'.heap.size; rw [hsz]; exact (hW.iU b l h).1,(hW.iU b l h).2⟩
  ·exact hW.ma
  ·exact hW.qf
  ·exact hW.ou
  ·exact hW.LT
  ·exact hW.oT
  ·exact λd B h=>⟨by show B<w'.heap.size; rw [hsz]; exact (hW.kN d B h).1,(hW.kN d B h).2⟩
  ·exact λs B h=>by show B<w'.heap.size; rw [hsz]; exact hW.mv s B h
  ·exact hW.lo
  ·exact hW.lt
def Kn (es:Array MapEntry) (seen:Array Nat) (h:∀ x∈es.toList,x.born∈seen.toList):(leftOf es seen).toList=[]:=by
 simp_all [leftOf]
def IX (e0:MapEntry):(leftOf #[e0] #[]).toList=[e0]:=by
 grind [leftOf]
theorem vO {w:World} {ty r m since:Nat} {seen:Array Nat} {es:Array MapEntry} (hr:w.heap[r]?=some (.mapIter (some m) since seen since)) (hb:w.heap[m]?=some (.map es since))
  (hold:∀ x∈es.toList,x.born<since) (h:∀ x∈es.toList,x.born∈seen.toList):(Instr.next (.pointer (some ⟨r,0,none⟩)) false ty).run P w=.ok (.tuple #[.bool false]) w:=by
 have hl:=Kn es seen h
 grind [run_next_at,seen]
def FC {w:World} {ty r m since:Nat} {e0:MapEntry} (hr:w.heap[r]?=some (.mapIter (some m) since #[] since)) (hb:w.heap[m]?=some (.map #[e0] since)) (hold:e0.born<since) :
  ∃ w',(Instr.next (.pointer (some ⟨r,0,none⟩)) false ty).run P w=.ok (.tuple #[.bool true,e0.key,e0.val]) w'/\w'.heap=w.heap.setIfInBounds r (.mapIter (some m) since #[e0.born] since)/\w'.os=w.os/\w'.output=w.output/\qY w w':=by
 have hl:=IX e0
 rcases run_next_at (P:=P) w ty r m since since #[] #[e0] since hr hb (by grind) (Nat.le_refl _) with ⟨h0,_⟩ | ⟨e,he,w1,hw1,h1⟩
 ·grind
 ·rw [hl] at he
  have:=List.mem_singleton.1 he
  subst this
  refine ⟨_,h1,?_⟩
  rcases hw1 with rfl | rfl<;>first | exact ⟨rfl,rfl,rfl,.rfl _⟩ | exact ⟨rfl,rfl,rfl,rfl,λ_=>Nat.le_succ _⟩
def Bz {k v:AV} {ku vu:Value} (hk:VR G k ku) (hv:VR G v vu):VR G (qv (some (k,v))) (.tuple #[.bool true,ku,vu]):=by
 refine .fG _ _ rfl ?_
 grind [VR.bool]
def C4:VR G (qv none) (.tuple #[.bool false]):=by
 refine .fG _ _ rfl ?_
 grind [VR.bool]
def rr.O3 {i:It} {r:Nat} {w':World} {o:Obj} {k':A9} (hA:rr G0 G a i r) (hh:w'.heap=G.w.heap.setIfInBounds r o) (hobj:lb ⟨w',G.T,G.h,G.pi,G.L⟩ r ⟨i.d,k'⟩):rr G0 ⟨w',G.T,G.h,G.pi,G.L⟩ a ⟨i.d,k'⟩ r :=
 ⟨hA.at_,hA.new,by show r<w'.heap.size; rw [hh]; simpa using hA.lt,hA.T,hA.pi,hA.L,hobj⟩
def Fm (hF:Fr G0 G) (hW:WR G) {i:It} {r:Nat} (hA:rr G0 G a i r) {res:Option (AV×AV)} {k':A9} (h:uW G.h i.k=some (res,k')) (ty:Nat) :
  ∃ u G',(Instr.next (.pointer (some ⟨r,0,none⟩)) false ty).run P G.w=.ok u G'.w/\G'.h=G.h/\Ext G G'/\Fr G0 G'/\WR G'/\VR G' (qv res) u/\rr G0 G' a ⟨i.d,k'⟩ r:=by
 have hobj:=hA.obj
 unfold lb at hobj
 have zP:(Instr.next (.pointer (some ⟨r,0,none⟩)) false ty).run P G.w=.ok (.tuple #[.bool false]) G.w->res=none->lb G r ⟨i.d,k'⟩ ->
   ∃ u G',(Instr.next (.pointer (some ⟨r,0,none⟩)) false ty).run P G.w=.ok u G'.w/\G'.h=G.h/\Ext G G'/\Fr G0 G'/\WR G'/\VR G' (qv res) u/\rr G0 G' a ⟨i.d,k'⟩ r:=by
  intro hrun hres ho
  subst hres
  exact ⟨_,G,hrun,rfl,.refl G,hF,hW,C4,⟨hA.at_,hA.new,hA.lt,hA.T,hA.pi,hA.L,ho⟩⟩
 split at hobj
 ·rename_i hk
  rw [hk] at h
  simp only [uW,Option.some.injEq,Prod.mk.injEq] at h
  obtain ⟨rfl,rfl⟩:=h
  refine zP ?_ rfl ?_
  ·simp [Instr.next,getObj,Sem.run,hobj]
  grind [lb]
 ·rename_i last left hk
  rw [hk] at h
  obtain ⟨m,ents,clk,s,hT,hm,ho⟩:=hobj
  rcases ho with ⟨rfl,rfl,rfl,hr⟩ | ⟨e0,x,rfl,hlt,hpk,hpv,ho⟩
  ·grind [uW,vO,lb]
  ·rcases ho with ⟨rfl,rfl,hr⟩ | ⟨rfl,rfl,hr⟩
   ·simp only [uW,Option.some.injEq,Prod.mk.injEq] at h
    obtain ⟨rfl,rfl⟩:=h
    obtain ⟨w',h1,h2,h3,h4,h5⟩:=FC (P:=P) (ty:=ty) hr hm hlt
    obtain ⟨E,F',W'⟩:=NO hF hW h2 h3 h4 h5 hA.new hA.T hA.pi hA.L
    have hmr:m≠r:=λe=>hA.T s (e▸hT)
    refine ⟨_,⟨w',G.T,G.h,G.pi,G.L⟩,h1,rfl,E,F',W',Bz (PR.tj (hpk.mono E.T E.keep)) (PR.tj (hpv.mono E.T E.keep)),hA.O3 h2 ?_⟩
    unfold lb
    refine ⟨m,#[e0],clk,s,hT,?_,.inr ⟨e0,x,rfl,hlt,hpk.mono E.T E.keep,hpv.mono E.T E.keep,.inr ⟨rfl,rfl,?_⟩⟩⟩<;>grind
   grind [uW,vO,lb]
 ·rename_i b clk seen hk
  rw [hk] at h
  obtain ⟨m,hv,hr⟩:=hobj
  simp only [uW] at h
  split at h
  ·rename_i es c hget
   obtain ⟨l,ents,hpi,hml,hB,hent,hyo⟩:=sX hW hv hget
   simp only [Value.map.injEq,Option.some.injEq] at hml
   subst hml
   have hold:∀ x∈ents.toList,x.born<c:=by
    intro x hx
    obtain ⟨j,hj⟩:=List.getElem?_of_mem hx
    have hjl:j<es.length:=by rw [hent.1]; grind
    have he:es[j]?=some es[j]:=by simp
    rw [<- (hent.2 j es[j] x he hj).2.2.2]
    exact hyo.1 _ (List.getElem_mem hjl)
   generalize hbq:Nat.beq c clk=bq at h
   split at h
   ·rename_i sn
    have:=Nat.eq_of_beq_eq_true hbq
    subst this
    simp only [Option.some.injEq,Prod.mk.injEq] at h
    obtain ⟨rfl,rfl⟩:=h
    have he:ents.toList=[]:=List.eq_nil_of_length_eq_zero (by rw [<- hent.1]; rfl)
    grind [vO,lb]
   ·rename_i k v n
    have:=Nat.eq_of_beq_eq_true hbq
    subst this
    simp only [Option.some.injEq,Prod.mk.injEq] at h
    obtain ⟨rfl,rfl⟩:=h
    obtain ⟨e0,he0⟩:∃ e0,ents.toList=[e0]:=List.length_eq_one_iff.1 (by rw [<- hent.1]; rfl)
    have hents:ents = #[e0]:=by grind
    subst hents
    obtain ⟨_,hpk,hvv,hn⟩:=hent.2 0 (k,v,n) e0 rfl rfl
    have hn:n=e0.born:=hn
    obtain ⟨w',h1,h2,h3,h4,h5⟩:=FC (P:=P) (ty:=ty) hr hB (hold e0 (by simp))
    obtain ⟨E,F',W'⟩:=NO hF hW h2 h3 h4 h5 hA.new hA.T hA.pi hA.L
    refine ⟨_,⟨w',G.T,G.h,G.pi,G.L⟩,h1,rfl,E,F',W',Bz (PR.tj (hpk.mono E.T E.keep)) (hvv.vr.mono E),hA.O3 h2 ?_⟩
    unfold lb
    refine ⟨_,hv.mono E,?_⟩
    grind
   ·rename_i k v n n'
    have:=Nat.eq_of_beq_eq_true hbq
    subst this
    split at h
    ·rename_i hnn
     have:=Nat.eq_of_beq_eq_true hnn
     subst this
     simp only [Option.some.injEq,Prod.mk.injEq] at h
     obtain ⟨rfl,rfl⟩:=h
     obtain ⟨e0,he0⟩:∃ e0,ents.toList=[e0]:=List.length_eq_one_iff.1 (by rw [<- hent.1]; rfl)
     obtain ⟨_,_,_,hn⟩:=hent.2 0 (k,v,n) e0 rfl (by grind)
     grind [vO,lb]
    ·cases h
   ·cases h
  ·cases h
def Er (hW:WR G) {i:It} {r:Nat} (hA:rr G0 G a i r) {x:AV×AV} (h:AL G.h i.k=some x) :
  ∃ u,(Instr.entry (.pointer (some ⟨r,0,none⟩))).run P G.w=.ok u G.w/\VR G (.fG [x.1,x.2]) u:=by
 have hobj:=hA.obj
 unfold lb at hobj
 have pair:∀ {k v:AV} {ku vu:Value},VR G k ku->VR G v vu->VR G (.fG [k,v]) (.tuple #[ku,vu]):=by
  intro k v ku vu hk hv
  refine .fG _ _ rfl ?_
  grind
 split at hobj
 ·rename_i hk; rw [hk] at h; cases h
 ·rename_i last left hk
  rw [hk] at h
  obtain ⟨m,ents,clk,s,hT,hm,ho⟩:=hobj
  rcases ho with ⟨rfl,rfl,rfl,hr⟩ | ⟨e0,y,rfl,hlt,hpk,hpv,ho⟩
  ·cases h
  ·rcases ho with ⟨rfl,rfl,hr⟩ | ⟨rfl,rfl,hr⟩
   ·cases h
   ·simp only [AL,Option.some.injEq] at h
    subst h
    refine ⟨_,run_entry_at G.w r m clk #[] #[e0] clk e0 hr hm (by simp) (by simp),pair (PR.tj hpk) (PR.tj hpv)⟩
 ·rename_i b clk seen hk
  rw [hk] at h
  obtain ⟨m,hv,hr⟩:=hobj
  cases seen with
  | none=>cases h
  | some n =>
    simp only [AL] at h
    split at h
    ·rename_i k v n' c hget
     split at h
     ·rename_i hb
      simp only [Bool.and_eq_true] at hb
      have e1:=Nat.eq_of_beq_eq_true hb.1
      have e2:=Nat.eq_of_beq_eq_true hb.2
      subst e1; subst e2
      simp only [Option.some.injEq] at h
      subst h
      obtain ⟨l,ents,hpi,hml,hB,hent,hyo⟩:=sX hW hv hget
      simp only [Value.map.injEq,Option.some.injEq] at hml
      subst hml
      obtain ⟨e0,he0⟩:∃ e0,ents.toList=[e0]:=List.length_eq_one_iff.1 (by rw [<- hent.1]; rfl)
      have hents:ents = #[e0]:=by rw [<- Array.toArray_toList (xs:=ents),he0]
      subst hents
      obtain ⟨_,hpk,hvv,hn⟩:=hent.2 0 (k,v,n') e0 rfl rfl
      have hn:n'=e0.born:=hn
      refine ⟨_,run_entry_at G.w r l.B c #[] #[e0] c e0 (by grind) hB (by simp) (by simp),pair (PR.tj hpk) hvv.vr⟩
     ·cases h
    ·cases h
def Fv (hW:WR G) (hC:gR P X.C) {t:Nat} {x:AV} {x':Value} (hx:VR G x x') {k:A9} (h:Gd X.C G.h t x=some k) {d:Nat} :
  ∃ o,(Instr.range t x').run P G.w=.ok (.pointer (some ⟨G.w.heap.size,0,none⟩)) (G.w.alloc o)/\lb ⟨G.w.alloc o,G.T,G.h,G.pi,G.L⟩ G.w.heap.size ⟨d,k⟩:=by
 unfold Gd at h
 split at h
 ·rename_i ti hti
  split at h
  ·rename_i kt el hkind
   have hd:=ur hC hti hkind
   have hnew:∀ o:Obj,(G.w.alloc o).heap[G.w.heap.size]?=some o:=λo=>(iX.alloc G.w o).new (G:=G)
   have hold:∀ (o:Obj) B,B<G.w.heap.size->(G.w.alloc o).heap[B]?=G.w.heap[B]?:=λo B hB=>(iX.alloc G.w o).ri (G:=G) hB
   have hE:∀ o:Obj,Ext G ⟨G.w.alloc o,G.T,G.h,G.pi,G.L⟩:=λo=>(w8 hW o).1.ext
   unfold IG at h
   split at h
   ·cases h
    cases hx with
    | gf _ hx =>
      cases hx
      simp_all [Instr.range,run_underlying,newObj,Sem.run,lb]
   ·cases h
    cases hx with
    | gf _ hx =>
      cases hx<;>grind [run_range_map,lb]
   ·rename_i y _
    cases h
    cases hx with
    | gf _ hx =>
      cases hx with
      | fm _ _ sn m ents clk _ hB hI hl hy hko hkk hvv =>
        obtain ⟨e0,he0⟩:∃ e0,ents.toList=[e0]:=List.length_eq_one_iff.1 (by grind)
        have hents:ents = #[e0]:=by grind
        subst hents
        refine ⟨.mapIter (some m) clk #[] clk,run_range_map G.w t kt el m #[e0] clk hd hB,?_⟩
        unfold lb
        have E:=hE (.mapIter (some m) clk #[] clk)
        exact ⟨m,#[e0],clk,_,hI,(hold _ m (hW.mv _ m hI)).trans hB,.inr ⟨e0,y,rfl,hy.1 0 e0 rfl,((hkk 0 y e0 rfl rfl).D6).mono E.T E.keep,((hvv 0 y e0 rfl rfl).D6).mono E.T E.keep,.inl ⟨rfl,rfl,hnew _⟩⟩⟩
   ·rename_i b
    have key:∀ es c,G.h.get b=some (.map es c)->∃ o,(Instr.range t x').run P G.w=.ok (.pointer (some ⟨G.w.heap.size,0,none⟩)) (G.w.alloc o)/\lb ⟨G.w.alloc o,G.T,G.h,G.pi,G.L⟩ G.w.heap.size ⟨d,.BX b c none⟩:=by
     intro es c hget
     obtain ⟨l,ents,hpi,rfl,hB,hent,hyo⟩:=sX hW hx hget
     refine ⟨.mapIter (some l.B) c #[] c,run_range_map G.w t kt el l.B ents c hd hB,?_⟩
     unfold lb
     exact ⟨l.B,hx.mono (hE _),hnew _⟩
    grind
   ·cases h
  ·cases h
 ·cases h
end
end Go.Sx
namespace Go.Sx
open Go
variable [DD]
section
variable {P:Program} {X:Ctx} {N:Nat} {G0 G G':Ga} {a a':Act} {Q:Exit->Act->World->Prop}
def Ej {o:Op} {t:Nat} {x:Operand} (h:sO o=.range t x):o=.range t x:=by
 unfold sO at h
 grind
def F4 {o:Op} {t:Nat} (h:sO o=.next t):o=.next (.tmp t) false:=by
 unfold sO at h
 grind
def DU {o:Op} {t:Nat} (h:sO o=.entry t):o=.entry (.tmp t):=by
 unfold sO at h
 grind
theorem oa {o:Oper} (h:oj o=true) (ops:Array Oper) (a:Act):Region.wanted o (yielded ops a.tmps)=true:=by
 grind [oj,Region.wanted]
def Js (hC:gR P X.C) (hK:lh P X.call) {ops:Array Oper} (hN:ops.toList.all (nL N)=true) :
  ∀ (l:List Oper) (i:Nat) (it:Option It) (e:Env) (h:au) (it':Option It) (e':Env) (h':au),ops.toList.drop i=l->Ae X ops.toList l it e h=some (it',e',h') ->
  ∀ (G:Ga) (a:Act) (Q:Exit->Act->World->Prop),G.h=h->St N G0 G e a->rJ G0 G a it->(∀ G' a',G'.h=h'->St N G0 G' e' a'->rJ G0 G' a' it'->Q .normal a' G'.w)->wpOps P ops Q (List.range' i (ops.size - i)) a G.w:=by
 intro l
 induction l with
 | nil =>
   intro i it e h it' e' h' hd hr G a Q hG hS hI hQ
   simp only [Ae,Option.some.injEq,Prod.mk.injEq] at hr
   obtain ⟨rfl,rfl,rfl⟩:=hr
   have:ops.size - i=0:=by
    simp_all
   rw [this]
   exact hQ G a hG hS hI
 | cons o l ih =>
   intro i it e h it' e' h' hd hr G a Q hG hS hI hQ
   have hoi:ops[i]?=some o:=by
    have h1:(ops.toList.drop i)[0]?=some o:=by grind
    grind
   have hlt:i<ops.size:=(Array.getElem?_eq_some_iff.1 hoi).1
   have hd':ops.toList.drop (i+1)=l:=by
    rw [<- List.tail_drop,hd]; rfl
   have hon:nL N o=true:=List.all_eq_true.1 hN o (by grind)
   have hrange:List.range' i (ops.size - i)=i::List.range' (i+1) (ops.size - (i+1)):=by
    have:ops.size - i=(ops.size - (i+1))+1:=by omega
    rw [this,List.range'_succ]
   rw [hrange]
   simp only [wpOps,hoi]
   simp only [Ae] at hr
   have next:=ih (i+1)
   split at hr
   ·
    rename_i t x hk
    have hop:=Ej hk
    unfold HL at hr
    split at hr
    ·rename_i k d hrt hdst hng
     subst hG
     obtain ⟨ob,hrun,hobj⟩:=Fv (P:=P) (d:=d) hS.wr hC (fW hS.er x) hrt
     obtain ⟨S1,W1⟩:=w8 hS.wr ob
     rw [oa hng]
     simp only [if_true]
     left
     unfold Oper.wp
     simp only [execOp,hop,Sem.run_bind,hrun,Result.andThen_ok,Sem.run_pure,Oper.upon_value]
     have hS1:=hS.put (o:=o) (v:=.undef) (u:=.pointer (some ⟨G.w.heap.size,0,none⟩)) S1 W1 hon (.undef _)
     have hes:fp e o .undef=y6 e d .undef:=by grind [fp]
     rw [hes] at hS1
     refine next _ _ _ it' e' h' hd' hr ⟨G.w.alloc ob,G.T,G.h,G.pi,G.L⟩ _ Q rfl hS1 ⟨G.w.heap.size,?_,hS.fr.S.jd,?_,?_,?_,?_,hobj⟩ hQ
     ·rw [hdst,Act.Cu (Nat.lt_of_lt_of_le (tV hon hdst) hS.sz),if_pos rfl]
     ·simp
     ·intro s ht
      exact Nat.lt_irrefl _ (hS.wr.mv s _ ht)
     ·intro b l hl e
      have:=(hS.wr.iU b l hl).1
      omega
     ·intro d2 B hB e
      have:=(hS.wr.kN d2 B hB).1
      omega
    grind
   ·
    rename_i t hk
    have hop:=F4 hk
    unfold Lg at hr
    split at hr
    ·rename_i it0
     split at hr
     ·rename_i hb
      simp only [Bool.and_eq_true] at hb
      have hdt:=Nat.eq_of_beq_eq_true hb.1.1
      split at hr
      ·rename_i res k' hnx
       obtain ⟨r,hA⟩:=hI
       subst hG
       obtain ⟨u,G1,hrun,hh,E1,F1,W1,hv,hA1⟩:=Fm (P:=P) hS.fr hS.wr hA hnx o.type
       rw [oa hb.2]
       simp only [if_true]
       left
       unfold Oper.wp
       have hat:a.eval (.tmp t)=.pointer (some ⟨r,0,none⟩):=by rw [<- hdt]; exact hA.at_
       simp only [execOp,hop,hat,Sem.run_bind,hrun,Result.andThen_ok,Sem.run_pure,Oper.upon_value]
       have hS1:St N G0 G1 (fp e o (qv res)) (a.put o.dst u) :=
        ⟨F1,W1,(hS.er.mono E1).put hS.sz hon hv,by rw [Act.Cl]; exact hS.df,by rw [Act.yo]; exact hS.sz⟩
       refine next _ _ _ it' e' h' hd' hr G1 _ Q hh hS1 ⟨r,?_,hA1.new,hA1.lt,hA1.T,hA1.pi,hA1.L,hA1.obj⟩ hQ
       grind [u0]
      grind
     grind
    grind
   ·
    rename_i t hk
    have hop:=DU hk
    unfold IN at hr
    split at hr
    ·rename_i it0
     split at hr
     ·rename_i hb
      simp only [Bool.and_eq_true] at hb
      have hdt:=Nat.eq_of_beq_eq_true hb.1.1
      split at hr
      ·rename_i x hnx
       obtain ⟨r,hA⟩:=hI
       subst hG
       obtain ⟨u,hrun,hv⟩:=Er (P:=P) hS.wr hA hnx
       rw [oa hb.2]
       simp only [if_true]
       left
       unfold Oper.wp
       have hat:a.eval (.tmp t)=.pointer (some ⟨r,0,none⟩):=by rw [<- hdt]; exact hA.at_
       simp only [execOp,hop,hat,Sem.run_bind,hrun,Result.andThen_ok,Sem.run_pure,Oper.upon_value]
       refine next _ _ _ it' e' h' hd' hr G _ Q rfl (hS.put (.refl G) hS.wr hon hv) ⟨r,hA.step (.refl G) (u0 hb.1.2 it0 rfl)⟩ hQ
      grind
     grind
    grind
   ·
    split at hr
    ·rename_i haw
     cases hw:fE ops.toList e o with
     | none=>rw [hw] at hr; cases hr
     | some b =>
       rw [hw] at hr
       rw [pz (λ_ _ d _ _ _ _ _=>hS.er.rel d) hw]
       cases b with
       | false =>
         simp only [Bool.false_eq_true,if_false]
         simp only [Fe] at hr
         exact next _ _ _ it' e' h' hd' hr G _ Q hG (hS.put (.refl G) hS.wr hon (VR.Gv G)) (hI.step (.refl G) (u0 haw)) hQ
       | true =>
         simp only [if_true]
         simp only [Fe] at hr
         split at hr
         ·rename_i v h1 hop
          simp only [xZ] at hr
          subst hG
          have:=uS hS.wr hC hS.er hK hop
          left
          refine this _ Q (λu G' hh hst hwr hv=>?_)
          exact next _ _ _ it' e' h' hd' hr G' _ Q hh (hS.put hst hwr hon hv) (hI.step hst (u0 haw)) hQ
         grind
    grind
   grind
theorem vI (live:List Nat) (k:Env->au->uA) (e:Env) (h:au):xd live k e h=k (proj live e) { h with aT:=iu live h.aT }:=by
 unfold xd
 simp
theorem rJ.jo {it:Option It} (h:rJ G0 G a it) (live:List Nat):rJ G0 (G.gK (iu live G.h.aT) (mC live G.L)) a it:=by
 refine h.gK ?_
 grind [mC]
def B8 (P:Program) (X:Ctx) (N:Nat) (G0:Ga) (n:Nat) (c:Code):Prop:=∀ (an:ga) (it:Option It) (e:Env) (h:au) (x:Ex) (it':Option It) (e':Env) (h':au),lU X n c an it e h=some (x,it',e',h')->codeOk N X.fa.fY c an=true ->
 ∀ (G:Ga) (a:Act) (Q:Exit->Act->World->Prop),G.h=h->St N G0 G e a->rJ G0 G a it->(∀ G' a',G'.h=h'->St N G0 G' e' a'->rJ G0 G' a' it'->Q (Af x) a' G'.w)->c.wp P Q a G.w
def HE {c:Code} {n0:Nat} (ih:B8 P X N G0 n0 c) {live:List Nat} {y:ga} (hok:codeOk N X.fa.fY c y=true) :
  ∀ (n:Nat) (it:Option It) (e:Env) (h:au) (x:Ex) (it':Option It) (e':Env) (h':au),Cn n (λit e h=>xd live (lU X n0 c y it) e h) it e h=some (x,it',e',h') ->
  ∀ (G:Ga) (a:Act) (Q:Exit->Act->World->Prop),G.h=h->St N G0 G e a->rJ G0 G a it->(∀ G' a',G'.h=h'->St N G0 G' e' a'->rJ G0 G' a' it'->Q (Af x) a' G'.w)->(Code.loop c).wp P Q a G.w:=by
 intro n it e h x it' e' h' hr G a Q hG hS hI hQ
 refine xP (λm a w=>∃ G it e,G.w=w/\St N G0 G e a/\rJ G0 G a it/\Cn m (λit e h=>xd live (lU X n0 c y it) e h) it e G.h=some (x,it',e',h')) ?_ n a G.w ⟨G,it,e,rfl,hS,hI,by grind⟩
 rintro m a _ ⟨G,it,e,rfl,hS,hI,hr⟩
 cases m with
 | zero=>cases hr
 | succ m =>
   simp only [Cn] at hr
   have hj:=hS.jo live
   have hji:=hI.jo live
   split at hr
   ·rename_i it1 e1 h1 hb
    rw [vI] at hb
    refine ih y _ _ _ _ _ _ _ hb hok (G.gK (iu live G.h.aT) (mC live G.L)) a _ rfl hj hji ?_
    intro G' a' hG' hS' hI'
    exact ⟨m,Nat.lt_succ_self _,G',it1,e1,rfl,hS',hI',by grind⟩
   ·rename_i hne
    rw [vI] at hr
    refine ih y _ _ _ _ _ _ _ hr hok (G.gK (iu live G.h.aT) (mC live G.L)) a _ rfl hj hji ?_
    intro G' a' hG' hS' hI'
    cases x with
    | gH=>grind [vI]
    | ext id=>exact hQ G' a' hG' hS' hI'
    | ret=>exact hQ G' a' hG' hS' hI'
def Hs (hm:P.follows .mixedOrders=true) (hC:gR P X.C) (hK:lh P X.call) (hIso:mr X.call) (n:Nat):∀ c:Code,B8 P X N G0 n c:=by
 intro c
 induction c with
 | skip =>
   intro an it e h x it' e' h' hr _ G a Q hG hS hI hQ
   simp only [lU,Option.some.injEq,Prod.mk.injEq] at hr
   obtain ⟨rfl,rfl,rfl,rfl⟩:=hr
   exact wp_skip (hQ G a hG hS hI)
 | label l =>
   intro an it e h x it' e' h' hr _ G a Q hG hS hI hQ
   simp only [lU,Option.some.injEq,Prod.mk.injEq] at hr
   obtain ⟨rfl,rfl,rfl,rfl⟩:=hr
   exact wp_label (hQ G a hG hS hI)
 | exit id =>
   intro an it e h x it' e' h' hr _ G a Q hG hS hI hQ
   simp only [lU,Option.some.injEq,Prod.mk.injEq] at hr
   obtain ⟨rfl,rfl,rfl,rfl⟩:=hr
   exact wp_exit (hQ G a hG hS hI)
 | ret =>
   intro an it e h x it' e' h' hr _ G a Q hG hS hI hQ
   simp only [lU,Option.some.injEq,Prod.mk.injEq] at hr
   obtain ⟨rfl,rfl,rfl,rfl⟩:=hr
   exact wp_ret (hQ G a hG hS hI)
 | region id ops draw =>
   intro an it e h x it' e' h' hr hok G a Q hG hS hI hQ
   cases draw with
   | true =>
     simp only [lU] at hr
     split at hr
     ·rename_i haw
      unfold L4 at hr
      split at hr
      ·rename_i x1 e1 h1 hb
       simp only [Option.some.injEq,Prod.mk.injEq] at hr
       obtain ⟨rfl,rfl,rfl,rfl⟩:=hr
       simp only [s6] at hb
       split at hb
       ·rename_i sch
        unfold sB at hb
        split at hb
        ·rename_i e2 h2 hb2
         simp only [Option.some.injEq,Prod.mk.injEq] at hb
         obtain ⟨rfl,rfl,rfl⟩:=hb
         simp only [codeOk,Bool.and_eq_true] at hok
         have hJ:IF ops (λG a=>rJ G0 G a it):=by
          refine ⟨λG G' a h S=>h.step S (λ_ _=>rfl),?_,?_⟩
          ·intro G a o u ho h
           exact h.step (.refl G) (u0 (List.all_eq_true.1 haw o ho))
          ·intro G G' a bs ds h S
           cases it with
           | none=>trivial
           | some i =>
             obtain ⟨r,h⟩:=h
             exact ⟨r,h.fill S⟩
         exact uY hJ hm hC hK hIso hok.2 hok.1 hb2 hG hS hI (λG' a' k1 k2 k3=>hQ G' a' k1 k2 k3)
        grind
       grind
      grind
     grind
   | false =>
     simp only [lU] at hr
     simp only [codeOk,Bool.and_eq_true] at hok
     unfold S6 at hr
     split at hr
     ·rename_i it1 e1 h1 hb
      simp only [Option.some.injEq,Prod.mk.injEq] at hr
      obtain ⟨rfl,rfl,rfl,rfl⟩:=hr
      refine wp_region ?_
      have:=Js hC hK hok.1 ops.toList 0 it e h it1 e1 h1 (by simp) hb G a Q hG hS hI (λG' a' k1 k2 k3=>hQ G' a' k1 k2 k3)
      rw [Nat.sub_zero,<- List.range_eq_range'] at this
      exact this
     grind
 | seq p q ihp ihq =>
   intro an it e h x it' e' h' hr hok G a Q hG hS hI hQ
   simp only [lU,RU] at hr
   have key:∀ (y:ga) (k:Option It->Env->au->uA),codeOk N X.fa.fY p y=true->Ey k (lU X n p y it e h)=some (x,it',e',h') ->
     (∀ it1 e1 h1,k it1 e1 h1=some (x,it',e',h')->∀ G1 a1,G1.h=h1->St N G0 G1 e1 a1->rJ G0 G1 a1 it1->q.wp P Q a1 G1.w)->(Code.seq p q).wp P Q a G.w:=by
    intro y k hoy hr hk
    unfold Ey at hr
    split at hr
    ·rename_i it1 e1 h1 hb
     refine wp_seq (ihp y _ _ _ _ _ _ _ hb hoy G a _ hG hS hI ?_)
     intro G1 a1 hG1 hS1 hI1
     exact hk it1 e1 h1 hr G1 a1 hG1 hS1 hI1
    ·rename_i hne
     refine wp_seq (ihp y _ _ _ _ _ _ _ hr hoy G a _ hG hS hI ?_)
     intro G1 a1 hG1 hS1 hI1
     cases x with
     | gH=>grind
     | ext id=>exact hQ G1 a1 hG1 hS1 hI1
     | ret=>exact hQ G1 a1 hG1 hS1 hI1
   split at hr
   ·rename_i live y z
    simp only [codeOk,Bool.and_eq_true] at hok
    refine key y _ hok.1 hr ?_
    intro it1 e1 h1 hk G1 a1 hG1 hS1 hI1
    rw [vI] at hk
    rw [<- hG1] at hk
    exact ihq z _ _ _ _ _ _ _ hk hok.2 (G1.gK (iu live G1.h.aT) (mC live G1.L)) a1 Q rfl (hS1.jo live) (hI1.jo live) hQ
   ·rename_i y z
    simp only [codeOk,Bool.and_eq_true] at hok
    refine key y _ hok.1 hr ?_
    intro it1 e1 h1 hk G1 a1 hG1 hS1 hI1
    exact ihq z _ _ _ _ _ _ _ hk hok.2 G1 a1 Q hG1 hS1 hI1 hQ
   grind
 | cond c p q ihp ihq =>
   intro an it e h x it' e' h' hr hok G a Q hG hS hI hQ
   simp only [lU,PK] at hr
   split at hr
   ·rename_i y z
    simp only [codeOk,Bool.and_eq_true] at hok
    have hv:=fW hS.er c
    split at hr
    ·rename_i hb
     rw [bool?_eq hb] at hv
     exact wp_cond_true hv.of_bool (ihp y _ _ _ _ _ _ _ hr hok.1 G a Q hG hS hI hQ)
    ·rename_i hb
     rw [bool?_eq hb] at hv
     exact wp_cond_false hv.of_bool (ihq z _ _ _ _ _ _ _ hr hok.2 G a Q hG hS hI hQ)
    grind
   grind
 | block id p ih =>
   intro an it e h x it' e' h' hr hok G a Q hG hS hI hQ
   simp only [lU] at hr
   simp only [codeOk] at hok
   refine wp_block ?_
   unfold S5 at hr
   split at hr
   ·rename_i id' it1 e1 h1 hb
    split at hr
    ·rename_i hid
     have hid:=Nat.eq_of_beq_eq_true hid
     simp only [Option.some.injEq,Prod.mk.injEq] at hr
     obtain ⟨rfl,rfl,rfl,rfl⟩:=hr
     refine ih an _ _ _ _ _ _ _ hb hok G a _ hG hS hI ?_
     intro G1 a1 hG1 hS1 hI1
     show Exit.inBlock id Q (.exit id') a1 G1.w
     simp only [Exit.inBlock,hid,if_true]
     exact hQ G1 a1 hG1 hS1 hI1
    ·rename_i hid
     have hid:=Nat.ne_of_beq_eq_false hid
     simp only [Option.some.injEq,Prod.mk.injEq] at hr
     obtain ⟨rfl,rfl,rfl,rfl⟩:=hr
     refine ih an _ _ _ _ _ _ _ hb hok G a _ hG hS hI ?_
     intro G1 a1 hG1 hS1 hI1
     show Exit.inBlock id Q (.exit id') a1 G1.w
     simp only [Exit.inBlock,hid,if_false]
     exact hQ G1 a1 hG1 hS1 hI1
   ·rename_i hne
    refine ih an _ _ _ _ _ _ _ hr hok G a _ hG hS hI ?_
    intro G1 a1 hG1 hS1 hI1
    cases x with
    | gH=>exact hQ G1 a1 hG1 hS1 hI1
    | ext id'=>grind
    | ret=>exact hQ G1 a1 hG1 hS1 hI1
 | loop p ih =>
   intro an it e h x it' e' h' hr hok G a Q hG hS hI hQ
   simp only [lU] at hr
   split at hr
   ·rename_i live y
    simp only [codeOk] at hok
    exact HE ih hok n it e h x it' e' h' hr G a Q hG hS hI hQ
   grind
 | scope p ih =>
   intro an it e h x it' e' h' hr hok G a Q hG hS hI hQ
   simp only [lU] at hr
   simp only [codeOk] at hok
   refine wp_scope_straight (ih an _ _ _ _ _ _ _ hr hok G a _ hG hS hI ?_)
   intro G1 a1 hG1 hS1 hI1
   cases x with
   | gH=>exact hQ G1 a1 hG1 hS1 hI1
   | ext id=>exact hQ G1 a1 hG1 hS1 hI1
   | ret=>exact hQ G1 a1 hG1 hS1 hI1
 | _=>intro an it e h x it' e' h' hr; cases hr
def HB (hm:P.follows .mixedOrders=true) (hC:gR P X.C) (hK:lh P X.call) (hI:mr X.call) {n:Nat} {c:Code} {an:ga} {b:Bool} {e:Env} {h:au} {x:Ex} {e':Env} {h':au} (hr:Cg X n c an e h b=some (x,e',h')) (hok:codeOk N X.fa.fY c an=true)
  {G:Ga} {a:Act} {Q:Exit->Act->World->Prop} (hG:G.h=h) (hS:St N G0 G e a) (hQ:∀ G' a',G'.h=h'->St N G0 G' e' a'->Q (Af x) a' G'.w):c.wp P Q a G.w:=by
 cases b with
 | false=>exact yu hm hC hK hI n c an e h x e' h' hr hok G a Q hG hS hQ
 | true =>
   simp only [Cg] at hr
   unfold KQ at hr
   split at hr
   ·rename_i x1 it1 e1 h1 hb
    simp only [Option.some.injEq,Prod.mk.injEq] at hr
    obtain ⟨rfl,rfl,rfl⟩:=hr
    exact Hs hm hC hK hI n c an none e h x1 it1 e1 h1 hb hok G a Q hG hS trivial (λG' a' k1 k2 _=>hQ G' a' k1 k2)
   grind
end
end Go.Sx
namespace Go.Sx
open Go
variable [DD]
def wI (G:Ga) (v:AV) (u:Value):Prop :=
 VC G v u\/∃ l vs,v=.fG l/\u=.tuple vs/\l.length=vs.size/\∀ (i:Nat) (x:AV) (y:Value),l[i]?=some x->vs[i]?=some y->VC G x y
theorem wI.gK {G:Ga} {m:iN} {L:Nat->Option Nat} {v:AV} {u:Value} (h:wI G v u):wI (G.gK m L) v u:=by
 rcases h with h | ⟨l,vs,rfl,rfl,h1,h2⟩
 ·exact .inl h.gK
 ·exact .inr ⟨l,vs,rfl,rfl,h1,λi x y a b=>(h2 i x y a b).gK⟩
def wI.vr {G:Ga} {v:AV} {u:Value} (h:wI G v u):VR G v u:=by
 rcases h with h | ⟨l,vs,rfl,rfl,h1,h2⟩
 ·exact h.vr
 ·exact .fG l vs h1 (λi x y a b=>(h2 i x y a b).vr)
def F3 (tmps:Array Value):ResultVar->Sem Value
 | .tmp t=>pure (tmps.getD t undef)
 | .cell a t=>do loadVar t (<- asAddr (tmps.getD a undef))
section
variable {P:Program} {C:gv} {G:Ga} {e:Env} {a:Act}
def JR (hW:WR G) (hC:gR P C) (hE:ER G e a) {r:ResultVar} {v:AV} (h:I0 C e G.h r=some v):∃ u,(F3 a.tmps r).run P G.w=.ok u G.w/\VR G v u:=by
 cases r with
 | tmp t =>
   simp only [I0,Option.some.injEq] at h
   subst h
   exact ⟨a.tmps.getD t undef,by rfl,hE.rel t⟩
 | cell b t =>
   simp only [I0] at h
   split at h
   ·rename_i ti hti
    obtain ⟨u,hu,hv,_⟩:=Cr hW (hC.ty t ti hti) (hE.rel b) h
    refine ⟨u,?_,hv⟩
    have hx:a.eval (.tmp b)=a.tmps.getD b undef:=rfl
    rw [hx] at hu
    show (do loadVar t (<- asAddr (a.tmps.getD b undef)):Sem Value).run P G.w = _
    generalize a.tmps.getD b undef=x at hu ⊢
    cases x with
    | pointer p =>
      cases p with
      | some ad=>grind [Instr.loadAt,Instr.sureAddr,asAddr]
      | none=>simp [Instr.loadAt,Instr.sureAddr,Sem.run_bind,Result.andThen] at hu
    | _=>simp [Instr.loadAt,Instr.sureAddr,Sem.run_bind,Result.andThen] at hu
   ·cases h
def Ch (hW:WR G) (hC:gR P C) (hE:ER G e a):∀ (l:List ResultVar) (vs:List AV),Dv C e G.h l=some vs ->
  ∃ us:List Value,(l.mapM (F3 a.tmps)).run P G.w=.ok us G.w/\vs.length=us.length/\∀ (i:Nat) (x:AV) (y:Value),vs[i]?=some x->us[i]?=some y->VR G x y
 | [],vs,h=>by
   simp_all [Dv]
 | r::l,vs,h=>by
   simp only [Dv] at h
   split at h
   ·cases h
   ·rename_i v hv
    split at h
    ·cases h
    ·rename_i vs' hvs
     simp only [Option.some.injEq] at h
     subst h
     obtain ⟨u,h1,h2⟩:=JR hW hC hE hv
     obtain ⟨us,k1,k2,k3⟩:=Ch hW hC hE l vs' hvs
     refine ⟨u::us,?_,by simp [k2],?_⟩
     ·simp only [List.mapM_cons,Sem.run_bind,h1,Result.andThen_ok,k1,Sem.run_pure]
     ·intro i x y hx hy
      cases i with
      | zero =>
        simp only [List.getElem?_cons_zero,Option.some.injEq] at hx hy
        subst hx; subst hy
        exact h2
      | succ i =>
        rw [List.getElem?_cons_succ] at hx hy
        exact k3 i x y hx hy
def uN (hW:WR G) (hC:gR P C) (hE:ER G e a) {fn:Func} {v:AV} {h':au} (h:leave.leave1 C fn.results.toList e G.h=some (v,h')) :
  h'=G.h/\∃ u,(results fn a.tmps).run P G.w=.ok u G.w/\wI G v u:=by
 unfold leave.leave1 at h
 split at h
 ·rename_i vs hvs
  split at h
  ·rename_i hok
   simp only [Option.some.injEq,Prod.mk.injEq] at h
   obtain ⟨rfl,rfl⟩:=h
   refine ⟨rfl,?_⟩
   obtain ⟨us,k1,k2,k3⟩:=Ch hW hC hE _ _ hvs
   have hna:∀ x∈vs,x.lR=true:=λx hx=>Gg (List.all_eq_true.1 hok x hx)
   have hrun:(results fn a.tmps).run P G.w=.ok (if h:us.toArray.size=1 then us.toArray[0] else .tuple us.toArray) G.w:=by
    have:results fn a.tmps=(do let vs <- fn.results.mapM (F3 a.tmps); pure (if h:vs.size=1 then vs[0] else .tuple vs)):=by
     rfl
    rw [this,Array.mapM_eq_mapM_toList]
    simp_all
   rcases vs with _ | ⟨x,_ | ⟨x2,vs⟩⟩
   ·have:us=[]:=List.eq_nil_of_length_eq_zero (by grind)
    subst this
    exact ⟨_,hrun,.inr ⟨[],#[],rfl,rfl,rfl,by simp⟩⟩
   ·obtain ⟨y,rfl⟩:∃ y,us=[y]:=List.length_eq_one_iff.1 (by grind)
    refine ⟨y,by grind,.inl ⟨k3 0 x y rfl rfl,hna x List.mem_cons_self⟩⟩
   ·have hsz:us.toArray.size≠1:=by grind
    rw [dif_neg hsz] at hrun
    refine ⟨_,hrun,.inr ⟨_,_,rfl,rfl,by omega,?_⟩⟩
    intro i p q hp hq
    exact ⟨k3 i p q hp (by grind),hna p (List.mem_of_getElem? hp)⟩
  ·cases h
 ·cases h
theorem A6:∀ (l:List AV) (k t:Nat),j5 (params k l) t=if t<k then .undef else (l[t - k]?).getD .undef
 | [],k,t=>by simp [params,j5]
 | v::l,k,t=>by
   simp only [params,j5]
   cases hq:Nat.beq t k with
   | true =>
     have:=Nat.eq_of_beq_eq_true hq
     subst this
     simp
   | false =>
     have hne:=Nat.ne_of_beq_eq_false hq
     simp only [A6 l (k+1) t]
     by_cases h:t<k
     ·rw [if_pos (by omega),if_pos h]
     ·rw [if_neg (by omega),if_neg h]
      rw [show t - k=(t - (k+1))+1 by omega,List.getElem?_cons_succ]
def zY {args:List AV} {args':Array Value} (hl:args.length=args'.size) (hr:∀ (i:Nat) (x:AV) (y:Value),args[i]?=some x->args'[i]?=some y->VC G x y) (k:Nat) :
  ER G (params 0 args) { tmps:=args'++Array.replicate k undef,defers:=[] }:=by
 constructor
 intro t
 rw [A6]
 simp only [Nat.not_lt_zero,if_false,Nat.sub_zero]
 simp only [Act.eval,Array.getD_eq_getD_getElem?]
 by_cases h:t<args.length
 ·have h1:args[t]?=some args[t]:=by simp [h]
  have h2:t<args'.size:=by omega
  have h3:args'[t]?=some args'[t]:=by simp [h2]
  rw [Array.getElem?_append_left h2,h1,h3]
  exact (hr t _ _ h1 h3).vr
 ·have h1:args[t]?=none:=by grind
  rw [h1]
  exact .undef _
structure nV (P:Program) (f:Nat) (fa:eY):Prop where
 ex : ∃ fn : Func, P.funcs[f]? = some fn ∧ fn.body = some fa.body ∧ fn.results.toList = fa.res ∧ (fn.name == "runtime.NumGoroutine") = false ∧ codeOk fn.ntmps fa.fY fa.body fa.lE = true
def C8 (hm:P.follows .mixedOrders=true) (hC:gR P C) {call:mN} (hK:lh P call) (hI:mr call) {n f:Nat} {fa:eY} (hF:nV P f fa) {args:List AV} {v:AV} {h':au}
  (h:tH C fa call n args G.h=some (v,h')) (hlo:G.h.aT=[]) (hL:∀ d,G.L d=none) (hW:WR G) {args':Array Value} (hl:args.length=args'.size)
  (hr:∀ (i:Nat) (x:AV) (y:Value),args[i]?=some x->args'[i]?=some y->VC G x y) {R:Ending->World->Prop}
  (hR:∀ u G',Step G G'->WR G'->(∀ d,G'.L d=none)->G'.h = { h' with aT:=[] }->wI G' v u->R (.returned u) G'.w):Calls P f args' G.w R:=by
 obtain ⟨fn,hfn,hbody,hres,_,hcode⟩:=hF.ex
 unfold tH at h
 generalize hc:Cg ⟨C,fa,call⟩ n fa.body fa.lE (params 0 args) G.h fa.iter=rc at h
 have main:∀ (x:Ex) (e':Env) (h1:au),rc=some (x,e',h1)->(x=.gH\/x=.ret)->leave.leave1 C fa.res e' h1=some (v,h')->Calls P f args' G.w R:=by
  intro x e' h1 hrc hx hlv
  subst hrc
  refine calls_of_wp hfn hbody ?_
  have hfr:Fr G G:=by
   refine ⟨⟨⟨λ_ _ h=>h,λ_ _ _=>rfl,Nat.le_refl _,λ_ _ g z xs h=>⟨g,z,xs,h,Nat.le_refl _,λ_=>⟨rfl,λ_ h=>h⟩⟩,λ_ _ es c h=>⟨es,c,h,λ_ h=>h⟩,λd B h=>by grind⟩,rfl,rfl,.rfl _,Nat.le_refl _,λ_ _ _ _=>rfl,
    λ_ l h=>.inl ⟨l,h,rfl⟩,λ_ _ h=>.inl (by rw [show G.pi _ = _ from h]; rfl),λ_ _ h=>.inl h,rfl,λ_ _ _=>rfl,λ_ _ h=>(by cases h),λ_ _ h=>(by cases h),?_⟩,λd B h=>by grind⟩
   intro d c _ hd
   rw [hlo] at hd
   cases hd
  have hSt:St fn.ntmps G G (params 0 args) { tmps:=args'++Array.replicate (fn.ntmps - args'.size) undef,defers:=[] } :=
   ⟨hfr,hW,zY hl hr _,rfl,by grind⟩
  refine HB (X:=⟨C,fa,call⟩) (N:=fn.ntmps) (G0:=G) hm hC hK hI hc hcode rfl hSt ?_
  intro G1 a1 hG1 hS1
  have hpost:∃ u,(results fn a1.tmps).run P G1.w=.ok u G1.w/\R (.returned u) G1.w:=by
   rw [<- hG1,<- hres] at hlv
   obtain ⟨e1,u,e2,e3⟩:=uN hS1.wr hC hS1.er hlv
   refine ⟨u,e2,?_⟩
   exact hR u (G1.gK [] λ_=>none) hS1.fr.S (hS1.wr.Cb (λd B h=>by cases h) (λd B h=>by cases h)) (λ_=>rfl) (by rw [e1]; rfl) e3.gK
  rcases hx with rfl | rfl
  ·exact ⟨hS1.df,hpost⟩
  ·exact ⟨hS1.df,hpost⟩
 cases rc with
 | none=>cases h
 | some p =>
   obtain ⟨x,e',h1⟩:=p
   cases x with
   | gH=>exact main .gH e' h1 rfl (.inl rfl) h
   | ret=>exact main .ret e' h1 rfl (.inr rfl) h
   | ext id=>cases h
end
end Go.Sx
namespace Go.Sx
open Go
variable [DD]
def PR.JN {w:World} {T T':Bool->Nat->Prop} {m:Bool} {v:AV} {u:Value} (h:PR w T m v u) (hm:m=false) (hT:∀ B,T false B->T' false B):PR w T' m v u:=by
 induction h with
 | undef m v h=>exact .undef m v h
 | bool m b=>exact .bool m b
 | int m k n=>exact .int m k n
 | str m s b h=>exact .str m s b h
 | iL m=>exact .iL m
 | ip m cells off sn B base c e fr f hm' hB hB' hc h1 hr ih =>
   have hs:sn=false:=by
    grind
   subst hs
   exact .ip m cells off false B base c e fr f hm' hB (hT B hB') hc h1 (λi x hx=>ih i x hx rfl)
 | slnil m=>exact .slnil m
 | my m cap a c hm' h=>exact .my m cap a c hm' h
 | sl m xs cap B base c e fr cap' esz f hm' hB hB' hcap hle hz hc h1 hr ih =>
   have hs:o6 cap=false:=by
    grind
   refine .sl m xs cap B base c e fr cap' esz f hm' hB (by grind) hcap hle hz hc h1 ?_
   grind
 | iw m=>exact .iw m
 | fm m es sn r ents clk hm' hB hB' hl hy hko hk hv ihk ihv =>
   have hs:sn=false:=by
    grind
   subst hs
   exact .fm m es false r ents clk hm' hB (hT r hB') hl hy hko (λi p e h1 h2=>ihk i p e h1 h2 rfl) (λi p e h1 h2=>ihv i p e h1 h2 rfl)
 | j7 m=>exact .j7 m
 | gx m g a c a' c' ha hc hra hrc iha ihc=>exact .gx m g a c a' c' ha hc (λi x y h1 h2=>iha i x y h1 h2 hm) (λi x y h1 h2=>ihc i x y h1 h2 hm)
 | agg m l vs hl h1 hr ih=>exact .agg m l vs hl h1 (λi x y h1 h2=>ih i x y h1 h2 hm)
section
variable {P:Program} {C:gv} {G:Ga}
def Se (G:Ga):Bool->Nat->Prop:=λs B=>G.T s B\/(s=true/\∃ b l,G.pi b=some l/\l.B=B)
def od (G:Ga):Ga:=⟨G.w,Se G,au.empty,λ_=>none,λ_=>none⟩
theorem DR (b:Nat):au.empty.get b=none:=by
 rfl
def AD (hW:WR G):WR (od G) where
 fc:=λ_ _ _ _ _ h=>by cases h
 map:=λ_ _ _ _ h=>by cases h
 loc:=λ_ _ _ h=>by cases h
 iU:=λ_ _ h=>by cases h
 ma:=λ_ _ _ _ h=>by cases h
 qf:=λ_ _ _ h=>by cases h
 ou:=λ_ _ _ h=>by cases h
 LT:=λ_ _ _ h=>by cases h
 oT:=λ_ _ _ _ h=>by cases h
 kN:=λ_ _ h=>by cases h
 mv:=by
  intro s B h
  rcases h with h | ⟨_,b,l,h1,rfl⟩
  ·exact hW.mv s B h
  ·exact (hW.iU b l h1).1
 lo:=Nat.le_refl _
 lt:=λb o h=>by grind [od,au.empty,DR]
def X2 {x:AV} {u:Value} (h:VR G x u) (hx:x.p5=false) (hn:x.lR=true):VR (od G) x u:=by
 have gf:∀ (x:AV) (u:Value),VR G x u->x.iA=true->VR (od G) x u:=by
  intro x u h hi
  cases h with
  | gf _ h=>exact .gf hi (h.mono (λs B t=>.inl t) (λ_ _ _=>rfl))
  | _=>simp [AV.iA] at hi
 have hp:∀ x:AV,x.ka=true->x.iA=true:=by
  intro x hx
  cases x<;>simp_all [AV.ka,AV.iA]
 have gx:∀ (g:Nat) (a c:List AV) (u:Value),VR G (.gx g a c) u->(a.all AV.ka&&c.all AV.ka)=true->VR (od G) (.gx g a c) u:=by
  intro g a c u h hx
  simp only [Bool.and_eq_true,List.all_eq_true] at hx
  cases h with
  | gf hi _=>simp [AV.iA] at hi
  | gx _ _ _ a' c' ha hc hna hnc hra hrc =>
    exact .gx g a c a' c' ha hc hna hnc (λi x y h1 h2=>gf x y (hra i x y h1 h2) (hp x (hx.1 x (List.mem_of_getElem? h1)))) (λi x y h1 h2=>gf x y (hrc i x y h1 h2) (hp x (hx.2 x (List.mem_of_getElem? h1))))
 cases x with
 | undef=>exact .undef _
 | bool b=>exact gf _ _ h rfl
 | int k n=>exact gf _ _ h rfl
 | str s=>exact gf _ _ h rfl
 | iL=>exact gf _ _ h rfl
 | ip c o s=>exact gf _ _ h rfl
 | la d o=>cases hn
 | ptr b g i o=>simp [AV.p5] at hx
 | sl xs c=>exact gf _ _ h rfl
 | hs b g o l=>simp [AV.p5] at hx
 | iw=>exact gf _ _ h rfl
 | fm es s=>exact gf _ _ h rfl
 | hm b=>simp [AV.p5] at hx
 | gx g a c =>
   grind [AV.p5]
 | j7=>exact gf _ _ h rfl
 | agg l =>
   simp only [AV.p5] at hx
   rw [List.any_eq_false] at hx
   cases h with
   | gf hi _=>simp [AV.iA] at hi
   | agg _ vs hl hna h1 hr =>
     refine .agg l vs hl hna h1 ?_
     intro i x y hi hy
     have hv:=hr i x y hi hy
     have hxx:=hx x (List.mem_of_getElem? hi)
     have hxn:=hna x (List.mem_of_getElem? hi)
     cases x with
     | undef=>exact .undef _
     | bool b=>exact gf _ _ hv rfl
     | int k n=>exact gf _ _ hv rfl
     | str s=>exact gf _ _ hv rfl
     | iL=>exact gf _ _ hv rfl
     | ip c o s=>exact gf _ _ hv rfl
     | la d o=>cases hxn
     | ptr b g i o=>grind
     | sl xs c=>exact gf _ _ hv rfl
     | hs b g o l=>grind
     | iw=>exact gf _ _ hv rfl
     | fm es s=>exact gf _ _ hv rfl
     | hm b=>grind
     | gx g a c =>
       grind
     | j7=>exact gf _ _ hv rfl
     | agg l2 =>
       cases hv<;>grind [AV.iA,Value.oneCell']
     | fG l2=>cases hxn
 | fG l=>cases hn
def qn (hW:WR G) {args kU:List AV} (h:gT G.h args=some kU) {args':Array Value} (hl:args.length=args'.size)
  (hr:∀ (i:Nat) (x:AV) (y:Value),args[i]?=some x->args'[i]?=some y->VC G x y) :
  kU.length=args'.size/\∀ (i:Nat) (x:AV) (y:Value),kU[i]?=some x->args'[i]?=some y->VC (od G) x y:=by
 unfold gT at h
 split at h
 ·obtain ⟨h1,h2⟩:=jP h
  refine ⟨h1.trans hl,?_⟩
  intro i x y hx hy
  obtain ⟨x0,k1,k2⟩:=h2 i x hx
  have hv:=hr i x0 y k1 hy
  have:PR G.w (Se G) true x y:=zy hW (λs B t=>.inl t) (λb l hp=>.inr ⟨rfl,b,l,hp,rfl⟩) 8 x0 x y k2 hv.na hv.vr
  exact PR.wv (G:=od G) this
 ·rename_i hany
  simp only [Option.some.injEq] at h
  subst h
  refine ⟨hl,?_⟩
  intro i x y hx hy
  have hv:=hr i x y hx hy
  rw [List.any_eq_false] at hany
  exact ⟨X2 hv.vr (by grind) hv.na,hv.na⟩
def SG (G G2:Ga):Bool->Nat->Prop:=λs B=>G.T s B\/(s=false/\G.w.heap.size<=B/\(G2.T false B\/∃ b l,G2.pi b=some l/\l.B=B))
def re (G G2:Ga):Ga:=⟨G2.w,SG G G2,G.h,G.pi,G.L⟩
def vW (hW:WR G) (hL:∀ d,G.L d=none) {G2:Ga} (S:Step (od G) G2) (W2:WR G2):Step G (re G G2)/\WR (re G G2):=by
 have hpi2:∀ b l,G2.pi b=some l->G.w.heap.size<=l.B:=by
  intro b l h
  rcases S.lI b l h with ⟨l0,h0,_⟩ | hge
  ·cases h0
  ·exact hge
 have E:Ext G (re G G2):=by
  refine ⟨λs B t=>.inl t,?_,Nat.le_refl _,λ_ _ g z xs h=>⟨g,z,xs,h,Nat.le_refl _,λ_=>⟨rfl,λ_ h=>h⟩⟩,λ_ _ es c h=>⟨es,c,h,λ_ h=>h⟩,λ_ _ h=>h⟩
  intro s B t
  exact S.ext.keep s B (.inl t)
 have hkeep:∀ b l,G.pi b=some l->(re G G2).w.heap[l.B]?=G.w.heap[l.B]?:=λb l h=>S.ext.keep true l.B (.inr ⟨rfl,b,l,h,rfl⟩)
 refine ⟨⟨E,S.os,S.output,S.tape,S.jd,?_,λ_ l h=>.inl ⟨l,h,rfl⟩,λ_ _ h=>.inl (by rw [show G.pi _ = _ from h]; rfl),?_,rfl,λ_ _ _=>rfl,λ_ _ h=>.inl h,λ_ _ h=>.inl (by rw [show G.L _ = _ from h]; rfl),λ_ _ _ h=>h⟩,?_⟩
 ·intro B hB _ _
  exact S.frame B hB (λb l h=>by cases h) (λd B' h=>by cases h)
 ·intro s B h
  rcases h with h | ⟨_,h,_⟩<;>grind
 ·constructor
  ·exact λb l g z xs hp hg=>(hW.fc b l g z xs hp hg).mono E (hkeep b l hp)
  ·exact λb l es c hp hg=>(hW.map b l es c hp hg).mono E (hkeep b l hp)
  ·simp_all [re]
  ·exact λb l h=>⟨Nat.lt_of_lt_of_le (hW.iU b l h).1 S.jd,(hW.iU b l h).2⟩
  ·exact hW.ma
  ·intro s b l h ht
   rcases ht with ht | ⟨_,hge,_⟩
   ·exact hW.qf s b l h ht
   ·have:=(hW.iU b l h).1
    omega
  ·exact hW.ou
  ·simp_all [re]
  ·exact hW.oT
  ·simp_all [re]
  ·intro s B h
   rcases h with h | ⟨_,_,h | ⟨b,l,h,rfl⟩⟩
   ·exact Nat.lt_of_lt_of_le (hW.mv s B h) S.jd
   ·exact W2.mv false B h
   ·exact (W2.iU b l h).1
  ·exact hW.lo
  ·exact hW.lt
theorem CV {G2:Ga} (S:Step (od G) G2) (W2:WR G2) {v v':AV} {u:Value} {n:Nat} (h:freeze false G2.h n v=some v') (hv:VC G2 v u):VC (re G G2) v' u:=by
 have k:PR G2.w (λs B=>G2.T s B\/(s=false/\∃ b l,G2.pi b=some l/\l.B=B)) false v' u :=
  zy W2 (λs B t=>.inl t) (λb l hp=>.inr ⟨rfl,b,l,hp,rfl⟩) n v v' u h hv.na hv.vr
 have k2:=k.JN (T':=SG G G2) rfl (by
  intro B hB
  rcases hB with hB | ⟨_,b,l,hp,rfl⟩
  ·rcases S.qG false B hB with h0 | hge
   ·rcases h0 with h0 | ⟨h0,_⟩
    ·exact .inl h0
    grind
   ·exact .inr ⟨rfl,hge,.inl hB⟩
  ·refine .inr ⟨rfl,?_,.inr ⟨b,l,hp,rfl⟩⟩
   rcases S.lI b l hp with ⟨l0,h0,_⟩ | hge
   ·cases h0
   ·exact hge)
 exact PR.wv (G:=re G G2) k2
def tZ {G2:Ga} (S:Step (od G) G2) (W2:WR G2) {v v':AV} {u:Value} {n:Nat} (h:freeze false G2.h n v=some v') (hv:wI G2 v u):wI (re G G2) v' u:=by
 rcases hv with hv | ⟨l,vs,rfl,rfl,h1,h2⟩
 ·exact .inl (CV S W2 h hv)
 ·cases n with
  | zero=>simp [freeze] at h
  | succ n =>
    simp only [freeze] at h
    split at h
    ·rename_i l' hl
     simp only [Option.some.injEq] at h
     subst h
     obtain ⟨k1,k2⟩:=jP hl
     refine .inr ⟨l',vs,rfl,rfl,k1.trans h1,?_⟩
     grind [CV]
    ·cases h
def BY (P:Program) (f:Nat) (args:List AV) (h:au) (v:AV) (h':au):Prop :=
 ∀ (G:Ga) (args':Array Value),G.h=h->h.aT=[]->(∀ d,G.L d=none)->WR G->args.length=args'.size->(∀ (i:Nat) (x:AV) (y:Value),args[i]?=some x->args'[i]?=some y->VC G x y) ->
 (∃ fn, P.funcs[f]? = some fn ∧ fn.body.isNone = false ∧ (fn.name == "runtime.NumGoroutine") = false) ∧
 ∀ R:Ending->World->Prop,(∀ u G',Step G G'->WR G'->(∀ m:iN,{ G'.h with aT:=m } = { h' with aT:=m })->(∀ m L,VR (G'.gK m L) v u)->R (.returned u) G'.w)->Calls P f args' G.w R
structure lg (P:Program) (f:Nat) (p:Bool->List AV->au->Option (AV×au)):Prop where
 call:∀ shd args h v h',p shd args h=some (v,h')->BY P f args h v h'
 Ce:∀ (args:List AV) (h:au) (v:AV) (h':au),p false args h=some (v,h')->h'=h/\∀ h2:au,(∀ b o,h.get b=some o->h2.get b=some o)->p false args h2=some (v,h2)
structure nF (P:Program) (C:gv) (F:gX) (Pr:gQ):Prop where
 mixed:P.follows .mixedOrders=true
 cfg:gR P C
 fns:∀ f fa,F f=some fa->nV P f fa
 EP:∀ f p,Pr f=some p->lg P f p
theorem DL {fa:eY} {call:mN} {lp:Nat} {args:List AV} {h:au} {v:AV} {h':au} (hc:rG C fa call lp false args h=some (v,h')) :
  h'=h/\∀ h2:au,(∀ b o,h.get b=some o->h2.get b=some o)->rG C fa call lp false args h2=some (v,h2):=by
 simp only [rG] at hc
 split at hc
 ·cases hc
 ·rename_i kU ha
  generalize hb:tH C fa call lp kU au.empty=r at hc
  unfold frozen at hc
  split at hc
  ·rename_i v0 h0
   split at hc
   ·cases hc
   ·rename_i v1 hv1
    simp only [Option.some.injEq,Prod.mk.injEq] at hc
    obtain ⟨rfl,rfl⟩:=hc
    refine ⟨rfl,?_⟩
    intro h2 E
    have ha2:gT h2 args=some kU:=by
     unfold gT at ha ⊢
     split at ha
     ·obtain ⟨e1,e2⟩:=jP ha
      have:∀ (l l':List AV),fU (freeze true h 8) l=some l'->fU (freeze true h2 8) l=some l':=by
       intro l
       induction l<;>grind [fU,nM]
      grind
     omega
    grind [rG,frozen]
  grind
def pC {F:gX} {Pr:gQ} (T:nF P C F Pr) (n:Nat):mr (gP C F Pr n):=by
 intro f args h v h' hc
 cases n with
 | zero=>cases hc
 | succ n =>
   simp only [gP] at hc
   cases hp:Pr f with
   | some p =>
     rw [hp] at hc
     obtain ⟨k1,k2⟩:=(T.EP f p hp).Ce _ _ _ _ hc
     grind [gP]
   | none =>
     grind [DL,gP]
def mT {F:gX} {Pr:gQ} (T:nF P C F Pr):∀ n:Nat,lh P (gP C F Pr n):=by
 intro n
 induction n with
 | zero=>intro shd f args h v h' hc; cases hc
 | succ n ih =>
   intro shd f args h v h' hc
   simp only [gP] at hc
   cases hp:Pr f with
   | some p =>
     rw [hp] at hc
     exact (T.EP f p hp).call _ _ _ _ _ hc
   | none =>
     rw [hp] at hc
     simp only at hc
     split at hc
     ·cases hc
     ·rename_i fa hfa
      intro G args' hG hlo hL hW hl hr
      have hF:=T.fns f fa hfa
      obtain ⟨fn,hfn,hbody,_,hname,_⟩:=hF.ex
      refine ⟨⟨fn,hfn,by grind,hname⟩,?_⟩
      intro R hR
      subst hG
      cases shd with
      | true =>
        simp only [rG] at hc
        refine C8 T.mixed T.cfg ih (pC T n) hF hc hlo hL hW hl hr ?_
        intro u G' S' W' _ hh hv
        exact hR u G' S' W' (λm=>by rw [hh]) (λm L=>(hv.gK).vr)
      | false =>
        simp only [rG] at hc
        split at hc
        ·cases hc
        ·rename_i kU ha
         generalize hb:tH C fa (gP C F Pr n) n kU au.empty=r at hc
         unfold frozen at hc
         split at hc
         ·rename_i v0 h0
          split at hc
          ·cases hc
          ·rename_i v1 hv1
           simp only [Option.some.injEq,Prod.mk.injEq] at hc
           obtain ⟨rfl,rfl⟩:=hc
           obtain ⟨k1,k2⟩:=qn hW ha hl hr
           refine C8 (G:=od G) T.mixed T.cfg ih (pC T n) hF hb rfl (λ_=>rfl) (AD hW) k1 k2 ?_
           intro u G2 S2 W2 _ hh hv
           obtain ⟨S3,W3⟩:=vW hW hL S2 W2
           have hfz:freeze false G2.h 8 v0=some v1:=by
            rw [hh]
            exact nM (λb o h=>h) _ _ _ hv1
           exact hR u (re G G2) S3 W3 (λm=>rfl) (λm L=>(tZ S2 W2 hfz hv).gK.vr)
         grind
end
end Go.Sx
namespace Go.Sx
def oz (shd:Bool) (args:List AV) (h:au):R2:=match args with
 | [.iw]=>some (.iw,h)
 | [.fm es s]=>some (.fm es s,h)
 | [.hm b]=>match shd with
   | true=>match h.get b with
     | some (.map es c)=>some (.hm h.size,h.push (.map es c))
     | _=>none
   | false=>none
 | _=>none
def UB (f:Func):Code:=match f.body with
 | some c=>c
 | none=>.skip
end Go.Sx
