/- Proves rules for the walks and their soundness. -/
import Derived.Scope
import Derived.Maps.RangeRun
import Derived.Test.YtmnmenklbegmeaaGreatHaa
import Derived.Test.YtmnmenklbegmeaaGreatHac
set_option linter.all false
namespace Go.Sx
open Go
variable [DD]
section
variable {P:Program} {C:jE} {X:Ctx} {o:Oper} {jl:List Nat}
def HK (P:Program) (o:Oper) (e:Env) (h0:aT) (r:AV×aT) (E:pA):Prop :=
 r.2=E.on h0/\(∀ d cs,E=.loc d cs->jM h0.iq d=none) /\
 ∃ s:Act->Sem Value,(∀ a,execOp (Act.eval a) o=(do pure (.value (<- s a))))/\∀ G a e',(∀ x∈o.op.operands,iP e' x=iP e x)->WR G->ER G e' a->qB P (s a) G h0.size r.1 E
def VG (hC:jR P X.C) {e:Env} {h0:aT} {r:AV×aT} (hk:kz jl o.op=.yH) (h:jq o.op X e h0 o.dst=some r):∃ E,HK P o e h0 r E:=by
 cases ho:o.op<;>rw [ho] at hk h<;>simp only [kz,reduceCtorEq] at hk
 case alloc t =>
  obtain ⟨E,h1,h2,h3⟩:=BH (P:=P) hC h
  exact ⟨E,h1,h2,λ_=>Instr.alloc t true (.tuple #[]),λa=>by grind [execOp],λG a e' _ hW _=>h3 G hW⟩
 case box t x =>
  obtain ⟨E,h1,h2,h3⟩:=Fb (P:=P) h
  refine ⟨E,h1,h2,λa=>Instr.box t (a.eval x),λa=>by grind [execOp],λG a e' hop hW hE=>h3 G _ hW ?_⟩
  grind [Op.operands,jk]
 case buildSlice t n ps =>
  obtain ⟨E,h1,h2,h3⟩:=vA (P:=P) hC h
  refine ⟨E,h1,h2,λa=>Instr.buildSlice t n (ps.map λ(i,x)=>(i,a.eval x)),λa=>by grind [execOp],λG a e' hop hW hE=>?_⟩
  obtain ⟨k1,k2⟩:=vN hE ps
  grind [pk,Op.operands]
 case makeMap t hint =>
  cases hint with
  | none =>
    cases h
    obtain ⟨E,h1,h2,h3⟩:=yl (P:=P) (t:=t) h0 none rfl
    exact ⟨E,h1,h2,λ_=>Instr.makeMap t none,λa=>by grind [execOp],λG a e' _ hW _=>h3 G hW⟩
  | some x=>cases h
 case makeSlice t l c =>
  obtain ⟨E,h1,h2,h3⟩:=wT (P:=P) hC h
  refine ⟨E,h1,h2,λa=>Instr.makeSlice t (a.eval l) (a.eval c),λa=>by simp only [execOp,ho],λG a e' hop hW hE=>h3 G _ _ hW ?_ ?_⟩<;>grind [Instr.makeSlice,execOp,Op.operands,jk]
 case call c =>
  unfold Bv at hk
  grind
def oM (G:Ga) (n:Nat):pA->Prop
 | .obj ob=>G.h.get n=some ob/\G.pi n=none
 | .loc d cs=>jM G.h.iq d=some cs/\G.L d=none
 | .none=>True
def oM.step {G G':Ga} (hW:WR G) (S:Step G G') {n:Nat} {E:pA} (h:oM G n E):oM G' n E:=by
 cases E with
 | obj ob =>
   obtain ⟨h1,h2⟩:=h
   have hlt:=hW.lt _ _ h1
   refine ⟨by rw [S.out n hlt h2]; exact h1,?_⟩
   cases hq:G'.pi n with
   | none=>rfl
   | some l =>
     rcases S.nz n l hq with h0 | hge<;>grind
 | loc d cs =>
   obtain ⟨h1,h2⟩:=h
   refine ⟨S.sp d cs h2 h1,?_⟩
   cases hq:G'.L d with
   | none=>rfl
   | some B =>
     rcases S.rH d B hq with h0 | h0<;>grind
 | none=>trivial
theorem L1 {G G':Ga} (S:Step G G') (W':WR G') {d:Nat} (h:(jM G.h.iq d).isSome=true):(jM G'.h.iq d).isSome=true:=by
 cases hq:G.L d with
 | none =>
   obtain ⟨c,hc⟩:=Option.isSome_iff_exists.1 h
   rw [S.sp d c hq hc]; rfl
 | some B=>exact (W'.lT d B (S.ext.iq d B hq)).2
structure Cp (H:Nat->aT) (p:Nat):Prop where
 ok:∀ q,q<=p->(H q).lo<=(H q).size/\∀ b o,(H q).get b=some o->b<(H q).size
 size:∀ q r,q<=r->r<=p->(H q).size<=(H r).size
 loc:∀ q r,q<=r->r<=p->∀ d,(jM (H q).iq d).isSome=true->(jM (H r).iq d).isSome=true
theorem Cp.next {H:Nat->aT} {p:Nat} (R:Cp H p) {G G':Ga} (S:Step G G') (W':WR G') (hG:G.h=H p) (hG':G'.h=H (p+1)):Cp H (p+1):=by
 have hz:(H p).size<=(H (p+1)).size:=by rw [<- hG,<- hG']; exact S.ext.size
 have hl:∀ d,(jM (H p).iq d).isSome=true->(jM (H (p+1)).iq d).isSome=true:=by
  grind [L1]
 refine ⟨?_,?_,?_⟩
 ·intro q hq
  by_cases e:q<=p
  ·exact R.ok q e
  ·have:q=p+1:=by omega
   subst this
   rw [<- hG']
   exact ⟨W'.lo,W'.lt⟩
 ·intro q r hqr hr
  by_cases e:r<=p
  ·exact R.size q r hqr e
  ·have:r=p+1:=by omega
   subst this
   by_cases e2:q<=p
   ·exact Nat.le_trans (R.size q p e2 (Nat.le_refl _)) hz
   grind
 ·intro q r hqr hr d hd
  by_cases e:r<=p
  ·exact R.loc q r hqr e d hd
  ·have:r=p+1:=by omega
   subst this
   by_cases e2:q<=p
   ·exact hl d (R.loc q p e2 (Nat.le_refl _) d hd)
   grind
end
section
variable {P:Program} {X:Ctx} {N:Nat} {ops:Array Oper} {jl:List Nat} {sch:List (Nat×List Nat)}
variable {E:Nat->Env} {H:Nat->aT} {V:Nat->AV} {W:Nat->Bool}
def El (P:Program) (jl:List Nat) (ops:Array Oper) (sch:List (Nat×List Nat)) (E:Nat->Env) (H:Nat->aT) (V:Nat->AV) (W:Nat->Bool) (Ef:Nat->pA):Prop :=
 ∀ (p i:Nat) c o,sch[p]?=some (i,c)->ops[i]?=some o->W p=true->kz jl o.op=.yH->HK P o (E p) (H p) (V p,H (p+1)) (Ef p)
def aat (hC:jR P X.C) (T:Trace X ops sch E H V W):∃ Ef,El P jl ops sch E H V W Ef:=by
 have:∀ p,∃ E0:pA,∀ (i:Nat) c o,sch[p]?=some (i,c)->ops[i]?=some o->W p=true->kz jl o.op=.yH->HK P o (E p) (H p) (V p,H (p+1)) E0:=by
  intro p
  by_cases h:∃ (i:Nat) (c:List Nat) (o:Oper),sch[p]?=some (i,c)/\ops[i]?=some o/\W p=true/\kz jl o.op=.yH
  ·obtain ⟨i,c,o,h1,h2,h3,h4⟩:=h
   obtain ⟨E0,hE0⟩:=VG hC h4 ((T.at_ p i c o h1 h2).2.2.1 h3)
   refine ⟨E0,?_⟩
   grind
  ·refine ⟨.none,?_⟩
   grind
 exact ⟨λp=>Classical.choose (this p),λp=>Classical.choose_spec (this p)⟩
theorem sX (T:Trace X ops sch E H V W) (hI:oz X.call) (hs:X.fa.jl=jl) {p i:Nat} {c:List Nat} {o:Oper} (hp:sch[p]?=some (i,c)) (ho:ops[i]?=some o)
  (hk:W p=false\/kz jl o.op=.pure\/kz jl o.op=.rd):H (p+1)=H p:=by
 obtain ⟨_,_,h1,h2,_⟩:=T.at_ p i c o hp ho
 grind [z7,vb]
def Uh {h:aT} {E0:pA} (hlo:h.lo<=h.size) (hlt:∀ b o,h.get b=some o->b<h.size) (hl:∀ d cs,E0=.loc d cs->jM h.iq d=none):CJ h (E0.on h):=by
 cases E0 with
 | obj ob =>
   refine ⟨?_,?_⟩
   ·intro b o hb
    show (h.push ob).get b=some o
    grind [aT.o5]
   ·intro d c hd
    show jM (h.push ob).iq d=some c
    simp_all
 | loc d cs =>
   refine ⟨λb o hb=>hb,?_⟩
   intro d' c hd
   show jM ((d,cs)::h.iq) d'=some c
   have hn:=hl d cs rfl
   simp only [jM]
   cases hq:Nat.beq d' d<;>simp_all
 | none=>exact .refl h
def Ki {Ef:Nat->pA} (hI:oz X.call) (hs:X.fa.jl=jl) (F:tM jl ops sch) (T:Trace X ops sch E H V W) (hEf:El P jl ops sch E H V W Ef)
  {q i:Nat} {c:List Nat} {o:Oper} (hq:sch[q]?=some (i,c)) (ho:ops[i]?=some o) (hw:W q=true) (hk:kz jl o.op=.rd) {p:Nat} (hp:p<=sch.length) (R:Cp H p)
  (hfree:∀ (r j:Nat) c' b,q<r->r<p->sch[r]?=some (j,c')->ops[j]?=some b->kz jl b.op=.uA->¬ wB ops j i) :
  ∀ k,q+1+k<=p->jq o.op X (E q) (H (q+1+k)) o.dst=some (V q,H (q+1+k))
 | 0,_=>by
   obtain ⟨_,_,h1,_,_⟩:=T.at_ q i c o hq ho
   grind [vb]
 | k+1,hk2=>by
   have ih:=Ki hI hs F T hEf hq ho hw hk hp R hfree k (by omega)
   have hlt:q+1+k<sch.length:=by omega
   obtain ⟨x,hx⟩:∃ x,sch[q+1+k]?=some x:=⟨sch[q+1+k],by simp⟩
   obtain ⟨j,c'⟩:=x
   obtain ⟨b,hb,_⟩:=F.one _ _ _ hx
   obtain ⟨_,hE1,h1,h2,hchk⟩:=T.at_ _ _ _ _ hx hb
   rw [<- Nat.add_assoc]
   cases hw2:W (q+1+k) with
   | false=>grind
   | true =>
     cases hkb:kz jl b.op with
     | pure=>grind [sX]
     | rd=>grind [sX]
     | yH =>
       obtain ⟨e1,e2,_⟩:=hEf _ _ _ _ hx hb hw2 hkb
       have e1:H (q+1+k+1)=(Ef (q+1+k)).on (H (q+1+k)):=e1
       have hext:=Uh (R.ok _ (by omega)).1 (R.ok _ (by omega)).2 e2
       grind [vb]
     | uA =>
       have hpr:=F.pair q (q+1+k) i c j c' o b (by omega) hq hx ho hb
       have hmem:i∈c':=(hpr.2.2.2.2.2.2 hk hkb).resolve_left (hfree _ _ _ _ (by omega) (by omega) hx hb hkb)
       have hag:=hchk i hmem
       unfold again at hag
       rw [Array.getElem?_toList,ho] at hag
       simp only at hag
       have hwq:jg ops.toList (E (q+1+k+1)) o=jg ops.toList (E q) o:=by
        unfold jg
        split
        ·rfl
        ·rename_i j2 want hg
         split
         ·rename_i o2 ho2
          split
          ·rename_i d2 hd2
           rw [Array.getElem?_toList] at ho2
           have:d2∈o.looksAt ops:=by
            grind [Oper.looksAt]
           have:=T.look F hq ho hk this (k+2) (by omega)
           grind
          ·rfl
         ·rfl
       rw [hwq,(T.at_ _ _ _ _ hq ho).1,hw] at hag
       simp only at hag
       split at hag
       ·cases hag
       ·rename_i d hd
        have hcong:jq o.op X (E (q+1+k+1)) (H (q+1+k+1)) (some d)=jq o.op X (E q) (H (q+1+k+1)) (some d):=by
         refine ze ?_
         intro x hx2
         cases x with
         | tmp t =>
           simp only [iP]
           have:t∈o.looksAt ops:=List.mem_append_left _ (List.mem_filterMap.2 ⟨.tmp t,by grind,rfl⟩)
           have:=T.look F hq ho hk this (k+2) (by omega)
           grind
         | _=>rfl
        rw [hcong] at hag
        unfold FD at hag
        split at hag
        ·rename_i v hh hop
         have hv:=oK _ _ _ hag
         have:=T.val F hq ho hd (k+1) (by omega)
         grind [vb]
        grind
end
end Go.Sx
namespace Go.Sx
open Go
variable [DD]
def filter_lt {p p':Nat->Bool} (h:∀ x,p' x=true->p x=true) {i:Nat}:∀ {l:List Nat},i∈l->p i=true->p' i=false->(l.filter p').length<(l.filter p).length
 | [],hi,_,_=>by cases hi
 | x::l,hi,h1,h2=>by
   have hle:∀ l:List Nat,(l.filter p').length<=(l.filter p).length:=by
    intro l
    induction l<;>grind
   simp only [List.filter_cons]
   rcases List.mem_cons.1 hi with rfl | hi
   ·grind
   ·have ih:=filter_lt h hi h1 h2
    grind
def Ec (U:List Nat) (e0 e:Env):Env:=U.map (λt=>(t,lE e0 t))++e
theorem sy (e0 e:Env) (t:Nat):∀ U:List Nat,lE (Ec U e0 e) t=if t∈U then lE e0 t else lE e t
 | []=>by rfl
 | x::U=>by
   have ih:=sy e0 e t U
   unfold Ec at ih ⊢
   simp only [List.map_cons,List.cons_append,lE,ih,List.mem_cons]
   cases hq:Nat.beq t x with
   | true=>rw [Nat.eq_of_beq_eq_true hq]; simp
   | false =>
     have:t≠x:=Nat.ne_of_beq_eq_false hq
     simp [this]
def rB (ops:Array Oper) (ji:Array Bool):List Nat:=(List.range ops.size).filterMap λj=>if ji.getD j false then none else (ops[j]?).bind (·.dst)
theorem oR {ops:Array Oper} {ji:Array Bool} {t:Nat}:t∈rB ops ji↔∃ (j:Nat) (b:Oper),ops[j]?=some b/\b.dst=some t/\ji.getD j false=false:=by
 grind [rB]
section
variable (P:Program) (N:Nat) (ops:Array Oper) (jl:List Nat) (sch:List (Nat×List Nat))
variable (E:Nat->Env) (H:Nat->aT) (V:Nat->AV) (W:Nat->Bool) (Ef:Nat->pA) (J:Ga->Act->Prop) (G0:Ga)
structure xN (p:Nat) (G:Ga) (ji:Array Bool) (a:Act):Prop where
 pn:p<=sch.length
 h:G.h=H p
 fr:Fr G0 G
 wr:WR G
 df:a.defers=[]
 sz:N<=a.tmps.size
 ls:ji.size=ops.size
 base:G0.h.size<=(H 0).size
 down:∀ i,ji.getD i false=true->∀ o,ops[i]?=some o->∀ j∈direct o,ji.getD j false=true
 HM:∀ (q i:Nat) c o,q<p->sch[q]?=some (i,c)->ops[i]?=some o->kz jl o.op=.uA->ji.getD i false=true
 er:ER G (Ec (rB ops ji) (E 0) (E sch.length)) a
 late:∀ (q i:Nat) c o,q<p->sch[q]?=some (i,c)->ops[i]?=some o->W q=true->kz jl o.op=.yH->ji.getD i false=false->oM G (H q).size (Ef q)
 pI:Cp H p
 jj:J G a
structure KU:Prop where
 step:∀ G G' a,J G a->Step G G'->J G' a
 put:∀ G a (o:Oper) u,o∈ops.toList->J G a->J G (a.put o.dst u)
 fill:∀ G G' a bs ds,J G a->s9 G G' bs ds->J G' a
def Stop (p:Nat) (ji:Array Bool):Prop:=∀ (i:Nat) c,sch[p]?=some (i,c)->ji.getD i false=false/\∀ o,ops[i]?=some o->kz jl o.op=.uA
end
section
variable {P:Program} {X:Ctx} {N:Nat} {ops:Array Oper} {jl:List Nat} {sch:List (Nat×List Nat)}
variable {E:Nat->Env} {H:Nat->aT} {V:Nat->AV} {W:Nat->Bool} {Ef:Nat->pA} {J:Ga->Act->Prop} {G0:Ga} {Q:Exit->Act->World->Prop}
def adv (hJ:KU ops J) (hI:oz X.call) (hs:X.fa.jl=jl) (F:tM jl ops sch) (T:Trace X ops sch E H V W) (hEf:El P jl ops sch E H V W Ef) :
  ∀ (m p:Nat) (G:Ga) (ji:Array Bool) (a:Act),sch.length - p=m->xN N ops jl sch E H W Ef J G0 p G ji a ->
  (∀ (q i:Nat) c,p<=q->sch[q]?=some (i,c)->ji.getD i false=false) ->
  ∃ p' G',xN N ops jl sch E H W Ef J G0 p' G' ji a/\Stop ops jl sch p' ji/\G'.w=G.w:=by
 intro m
 induction m with
 | zero =>
   intro p G ji a hm hP hun
   refine ⟨p,G,hP,?_,rfl⟩
   intro i c hp
   grind
 | succ m ih =>
   intro p G ji a hm hP hun
   have hlt:p<sch.length:=by omega
   obtain ⟨x,hx⟩:∃ x,sch[p]?=some x:=⟨sch[p],by simp⟩
   obtain ⟨i,c⟩:=x
   obtain ⟨o,ho,_⟩:=F.one _ _ _ hx
   by_cases he:kz jl o.op=.uA
   ·refine ⟨p,G,hP,?_,rfl⟩
    intro i' c' hp
    grind
   ·
    have key:∀ G1,Step G G1->WR G1->G1.h=H (p+1)->G1.w=G.w->(W p=true->kz jl o.op=.yH->oM G1 (H p).size (Ef p)) ->
      ∃ p' G',xN N ops jl sch E H W Ef J G0 p' G' ji a/\Stop ops jl sch p' ji/\G'.w=G.w:=by
     intro G1 S1 W1 h1 hw1 hl1
     have hP1:xN N ops jl sch E H W Ef J G0 (p+1) G1 ji a:=by
      refine ⟨hlt,h1,hP.fr.step S1,W1,hP.df,hP.sz,hP.ls,hP.base,hP.down,?_,?_,?_,hP.pI.next S1 W1 hP.h h1,hJ.step _ _ _ hP.jj S1⟩
      ·intro q i' c' o' hq k1 k2 k3
       by_cases e:q=p
       ·grind
       ·exact hP.HM q i' c' o' (by omega) k1 k2 k3
      ·exact hP.er.mono S1.ext
      ·intro q i' c' o' hq k1 k2 k3 k4 k5
       by_cases e:q=p
       ·grind
       ·exact (hP.late q i' c' o' (by omega) k1 k2 k3 k4 k5).step hP.wr S1
     grind
    cases hw:W p with
    | false=>exact key G (.refl G) hP.wr (by rw [hP.h,sX T hI hs hx ho (.inl hw)]) rfl (by grind)
    | true =>
      cases hk:kz jl o.op with
      | uA=>grind
      | pure=>exact key G (.refl G) hP.wr (by rw [hP.h,sX T hI hs hx ho (.inr (.inl hk))]) rfl (by grind)
      | rd=>exact key G (.refl G) hP.wr (by rw [hP.h,sX T hI hs hx ho (.inr (.inr hk))]) rfl (by grind)
      | yH =>
        obtain ⟨e1,e2,_⟩:=hEf _ _ _ _ hx ho hw hk
        have e1:H (p+1)=(Ef p).on (H p):=e1
        cases hE:Ef p with
        | obj ob =>
          rw [hE] at e1
          obtain ⟨s1,w1⟩:=D1 hP.wr ob
          refine key _ s1 w1 (by rw [e1,<- hP.h]; rfl) rfl (λ_ _=>?_)
          rw [hE,<- hP.h]
          refine ⟨?_,Ck hP.wr (Nat.le_refl _)⟩
          show (G.h.push ob).get G.h.size=some ob
          rw [aT.o5 _ _ _ hP.wr.lo,if_pos rfl]
        | loc d cs =>
          rw [hE] at e1
          have hd:=e2 d cs hE
          rw [<- hP.h] at hd
          obtain ⟨s1,w1⟩:=Uf hP.wr cs hd
          refine key _ s1 w1 (by rw [e1,<- hP.h]; rfl) rfl (λ_ _=>?_)
          rw [hE]
          refine ⟨by simp [jM],?_⟩
          cases hq:G.L d with
          | none=>rfl
          | some B=>have:=(hP.wr.lT d B hq).2; grind
        | none =>
          rw [hE] at e1
          exact key G (.refl G) hP.wr (by rw [hP.h,e1]; rfl) rfl (λ_ _=>by rw [hE]; trivial)
theorem Fr.fill {G G':Ga} {bs ds:Nat->Prop} (h:Fr G0 G) (k:s9 G G' bs ds) (hb:∀ b,bs b->G0.h.size<=b):Fr G0 G':=by
 have hL:∀ d B,G'.L d=some B->G0.w.heap.size<=B:=by
  intro d B hd
  rcases k.qf d B hd with h0 | hge
  ·exact h.L d B h0
  ·exact Nat.le_trans h.S.kT hge
 refine ⟨?_,hL⟩
 have kf:s9 (G.jI [] λ_=>none) (G'.jI [] λ_=>none) bs (λ_=>False) :=
  ⟨⟨k.ext.T,k.ext.keep,k.ext.size,k.ext.iH,k.ext.map,λd B hd=>by cases hd⟩,k.os,k.output,k.tape,k.kT,k.frame,k.mT,k.nz,k.T,
    (by show ({ G'.h with iq:=[] }:aT) = { G.h with iq:=[] }; rw [k.h]),λd B hd=>(by cases hd),λd B hd=>(by cases hd)⟩
 exact h.S.fill kf hb (λ_ h=>h.elim)
def tO {ji:Array Bool} (down:∀ i,ji.getD i false=true->∀ o,ops[i]?=some o->∀ j∈direct o,ji.getD j false=true) {i j:Nat} (h:wB ops i j):ji.getD i false=true->ji.getD j false=true:=by
 induction h<;>grind
theorem uW {ji:Array Bool} {i:Nat} (hi:i<ji.size) (j:Nat) (b:Bool):(ji.setIfInBounds i true).getD j b=if j=i then true else ji.getD j b:=by
 by_cases e:j=i
 ·simp_all
 ·rw [getD_set_ne b (Ne.symm e),if_neg e]
def xN.ji {p q i:Nat} {c:List Nat} {o:Oper} {G G':Ga} {ji:Array Bool} {a:Act} {u:Value} (F:tM jl ops sch) (T:Trace X ops sch E H V W)
  (hP:xN N ops jl sch E H W Ef J G0 p G ji a) (hq:sch[q]?=some (i,c)) (ho:ops[i]?=some o) (hdir:∀ j∈direct o,ji.getD j false=true) (hlt:q<p\/q=p)
  (hN:o6 N o=true) (hE:Ext G G') (hfr:Fr G0 G') (hwr:WR G') (hv:VR G' (V q) u) {p':Nat} (hp':p<=p') (hp2:p'<=p+1) (hpn:p'<=sch.length) (hh:G'.h=H p') (hrise:Cp H p')
  (hj:J G' (a.put o.dst u)) (hnew:p'≠p->q=p/\kz jl o.op=.uA)
  (hlate:∀ (r j:Nat) c' b,r<p->r≠q->sch[r]?=some (j,c')->ops[j]?=some b->W r=true->kz jl b.op=.yH->ji.getD j false=false->oM G' (H r).size (Ef r)) :
  xN N ops jl sch E H W Ef J G0 p' G' (ji.setIfInBounds i true) (a.put o.dst u):=by
 have hi:i<ji.size:=by rw [hP.ls]; grind
 have hqn:q<sch.length:=(List.getElem?_eq_some_iff.1 hq).1
 have huniq:∀ (r:Nat) c',sch[r]?=some (i,c')->r=q:=by
  intro r c' hr
  rcases Nat.lt_trichotomy r q with h | h | h
  ·exact absurd rfl (F.pair r q i c' i c o o h hr hq ho ho).1
  ·exact h
  ·exact absurd rfl (F.pair q r i c i c' o o h hq hr ho ho).1
 have hget:=λj b=>uW hi j b
 refine ⟨hpn,hh,hfr,hwr,by rw [Act.Fe]; exact hP.df,by rw [Act.AN]; exact hP.sz,by simp [hP.ls],hP.base,?_,?_,?_,?_,hrise,hj⟩
 ·intro j hj b hb k hk
  rw [hget] at hj ⊢
  by_cases e2:k=i
  ·grind
  ·rw [if_neg e2]
   by_cases e:j=i
   ·grind
   ·rw [if_neg e] at hj
    exact hP.down j hj b hb k hk
 ·intro r j c' b hr h1 h2 h3
  rw [hget]
  by_cases e:j=i
  ·grind
  ·rw [if_neg e]
   by_cases hrp:r<p
   ·exact hP.HM r j c' b hrp h1 h2 h3
   grind
 ·constructor
  intro t
  rw [sy]
  by_cases hd:o.dst=some t
  ·have hnu:t∉rB ops (ji.setIfInBounds i true):=by
    intro hm
    obtain ⟨j,b,hb,hbd,hl⟩:=oR.1 hm
    rw [hget] at hl
    by_cases e:j=i
    ·grind
    ·obtain ⟨r,c',hr⟩:=F.cover j (Array.getElem?_eq_some_iff.1 hb).1
     rcases Nat.lt_trichotomy r q with h | h | h
     ·exact (F.pair r q j c' i c b o h hr hq hb ho).2.2.2.1 t hbd hd
     ·grind
     ·exact (F.pair q r i c j c' o b h hq hr ho hb).2.2.2.1 t hd hbd
   rw [if_neg hnu]
   have hval:=T.val F hq ho hd (sch.length - (q+1)) (by omega)
   rw [show q+1+(sch.length - (q+1))=sch.length by omega] at hval
   rw [hval,hd,Act.E6 (Nat.lt_of_lt_of_le (xg hN hd) hP.sz),if_pos rfl]
   exact hv
  ·have h1:=hP.er.rel t
   rw [sy] at h1
   have hiff:t∈rB ops (ji.setIfInBounds i true)↔t∈rB ops ji:=by
    rw [oR,oR]
    constructor
    ·rintro ⟨j,b,hb,hbd,hl⟩
     rw [hget] at hl
     grind
    ·rintro ⟨j,b,hb,hbd,hl⟩
     refine ⟨j,b,hb,hbd,?_⟩
     rw [hget]
     grind
   have h2:(a.put o.dst u).eval (.tmp t)=a.eval (.tmp t):=by
    grind [Act.eval_put]
   rw [h2]
   by_cases hm:t∈rB ops ji
   ·rw [if_pos (hiff.2 hm)]
    rw [if_pos hm] at h1
    exact h1.mono hE
   ·rw [if_neg (λx=>hm (hiff.1 x))]
    rw [if_neg hm] at h1
    exact h1.mono hE
 ·intro r j c' b hr h1 h2 h3 h4 h5
  rw [hget] at h5
  grind
end
end Go.Sx
namespace Go.Sx
open Go
variable [DD]
section
variable {P:Program} {X:Ctx} {N:Nat} {ops:Array Oper} {jl:List Nat} {sch:List (Nat×List Nat)}
variable {E:Nat->Env} {H:Nat->aT} {V:Nat->AV} {W:Nat->Bool} {Ef:Nat->pA} {J:Ga->Act->Prop} {G0:Ga} {Q:Exit->Act->World->Prop}
def Kq {G G':Ga} {bs ds:Nat->Prop} (k:s9 G G' bs ds) {n:Nat} {E0:pA} (h:oM G n E0) (h1:∀ ob,E0=.obj ob->¬ bs n) (h2:∀ d cs,E0=.loc d cs->¬ ds d):oM G' n E0:=by
 cases E0 with
 | obj ob =>
   obtain ⟨k1,k2⟩:=h
   refine ⟨by rw [k.h]; exact k1,?_⟩
   cases hq:G'.pi n with
   | none=>rfl
   | some l =>
     rcases k.nz n l hq with h0 | h0<;>grind
 | loc d cs =>
   obtain ⟨k1,k2⟩:=h
   refine ⟨by rw [k.h]; exact k1,?_⟩
   cases hq:G'.L d with
   | none=>rfl
   | some B =>
     rcases k.rH d B hq with h0 | h0<;>grind
 | none=>trivial
def MO (hJ:KU ops J) (hC:jR P X.C) (hK:nL P X.call) (hI:oz X.call) (hs:X.fa.jl=jl) (F:tM jl ops sch) (T:Trace X ops sch E H V W) (hEf:El P jl ops sch E H V W Ef)
  (hN:ops.toList.all (o6 N)=true) {p:Nat} {G:Ga} {ji:Array Bool} {a:Act} (hP:xN N ops jl sch E H W Ef J G0 p G ji a) (hst:Stop ops jl sch p ji)
  {i:Nat} (hi:i∈Region.ready .any ops ji) {K:Act->World->Prop}
  (hQ:∀ p' G' a',xN N ops jl sch E H W Ef J G0 p' G' (ji.setIfInBounds i true) a'->Stop ops jl sch p' (ji.setIfInBounds i true)->K a' G'.w):wpOp P ops Q i K a G.w:=by
 obtain ⟨hun,o,ho,hall⟩:=mem_ready.1 hi
 have hilt:i<ops.size:=(Array.getElem?_eq_some_iff.1 ho).1
 have hil:i<ji.size:=by grind
 have hunf:ji.getD i false=false:=by
  grind
 have hdir:∀ j∈direct o,ji.getD j false=true:=by
  grind [direct]
 have hbef:∀ j,wB ops i j->ji.getD j false=true:=by
  intro j hj
  cases hj with
  | one hb hj2=>grind
  | more hb hk hj2=>rw [ho] at hb; cases hb; exact tO hP.down hj2 (hdir _ hk)
 have hoL:o∈ops.toList:=Array.mem_toList_iff.2 (Array.mem_of_getElem? ho)
 have hNo:o6 N o=true:=List.all_eq_true.1 hN o (Array.mem_toList_iff.2 (Array.mem_of_getElem? ho))
 obtain ⟨q,c,hq⟩:=F.cover i hilt
 have hqn:q<sch.length:=(List.getElem?_eq_some_iff.1 hq).1
 obtain ⟨o',ho',hself,hdr⟩:=F.one q i c hq
 rw [ho] at ho'; cases ho'
 have hqp:q<=p:=by
  rcases Nat.lt_or_ge p q with h | h
  ·have hpn:p<sch.length:=by omega
   obtain ⟨x,hx⟩:∃ x,sch[p]?=some x:=⟨sch[p],by simp⟩
   obtain ⟨i0,c0⟩:=x
   obtain ⟨b,hb,_⟩:=F.one _ _ _ hx
   obtain ⟨h1,h2⟩:=hst i0 c0 hx
   have:=(F.pair p q i0 c0 i c b o h hx hq hb ho).2.2.2.2.2.1 (h2 b hb)
   grind
  ·exact h
 have hER:=hP.er
 have hnow:∀ t∈o.looksAt ops,lE (Ec (rB ops ji) (E 0) (E sch.length)) t=lE (E q) t:=by
  intro t ht
  rw [sy]
  split
  ·rename_i hm
   obtain ⟨j,b,hb,hd,hl⟩:=oR.1 hm
   obtain ⟨r,c',hr⟩:=F.cover j (Array.getElem?_eq_some_iff.1 hb).1
   have hrq:q<=r:=by
    rcases Nat.lt_or_ge r q with h | h
    ·rw [hbef _ ((F.pair r q j c' i c b o h hr hq hb ho).2.2.1 t hd ht)] at hl
     cases hl
    ·exact h
   refine (T.keep F q (by omega) ?_).symm
   intro s2 j2 c2 b2 hs2 hsj hb2 hd2
   exact (F.pair s2 r j2 c2 j c' b2 b (by omega) hsj hr hb2 hb).2.2.2.1 t hd2 hd
  ·rename_i hm
   by_cases hex:∃ (j:Nat) (b:Oper),ops[j]?=some b/\b.dst=some t
   ·obtain ⟨j,b,hb,hd⟩:=hex
    have hl:ji.getD j false=true:=by
     grind [oR]
    obtain ⟨r,c',hr⟩:=F.cover j (Array.getElem?_eq_some_iff.1 hb).1
    have hrn:r<sch.length:=(List.getElem?_eq_some_iff.1 hr).1
    rcases Nat.lt_trichotomy r q with h | h | h
    ·have e1:=T.val F hr hb hd (sch.length - (r+1)) (by omega)
     have e2:=T.val F hr hb hd (q - (r+1)) (by omega)
     grind
    ·grind
    ·have:=tO hP.down ((F.pair q r i c j c' o b h hq hr ho hb).2.1 t hd ht).1 hl
     grind
   ·have hno:∀ (q2 j:Nat) c2 o',sch[q2]?=some (j,c2)->ops[j]?=some o'->o'.dst≠some t:=λq2 j c2 o' _ h1 h2=>hex ⟨j,o',h1,h2⟩
    rw [T.keep F _ (Nat.le_refl _) (λq2 j c2 o' _=>hno q2 j c2 o'),T.keep F q (by omega) (λq2 j c2 o' _=>hno q2 j c2 o')]
 have hlook:∀ t∈o.looksAt ops,VR G (lE (E q) t) (a.eval (.tmp t)):=by
  intro t ht
  rw [<- hnow t ht]
  exact hER.rel t
 have hops:∀ x∈o.op.operands,iP (Ec (rB ops ji) (E 0) (E sch.length)) x=iP (E q) x:=by
  intro x hx
  cases x with
  | tmp t =>
    simp only [iP]
    exact hnow t (List.mem_append_left _ (List.mem_filterMap.2 ⟨.tmp t,by grind,rfl⟩))
  | _=>rfl
 obtain ⟨hw,hE1,hop,hsk,_⟩:=T.at_ q i c o hq ho
 have hwanted:Region.wanted o (yielded ops a.tmps)=W q:=by
  refine uu (e:=E q) (G:=G) ?_ hw
  grind [Oper.looksAt]
 have hbehind:q=p->∀ (r j:Nat) c',p+1<=r->sch[r]?=some (j,c')->(ji.setIfInBounds i true).getD j false=false:=by
  intro e r j c' hr hj
  subst e
  obtain ⟨b,hb,_⟩:=F.one _ _ _ hj
  have hpr:=F.pair q r i c j c' o b (by omega) hq hj ho hb
  rw [uW hil,if_neg (λx=>hpr.1 x.symm)]
  cases hl:ji.getD j false with
  | false=>rfl
  | true =>
    have:=tO hP.down (hpr.2.2.2.2.2.1 ((hst i c hq).2 o ho)) hl
    grind
 have quiet:q<p->∀ (G':Ga) (u:Value),Step G G'->WR G'->G'.h=G.h->VR G' (V q) u->K (a.put o.dst u) G'.w:=by
  intro hlt G' u S' W' hh hv
  refine hQ p G' _ (hP.ji F T hq ho hdir (.inl hlt) hNo S'.ext (hP.fr.step S') W' hv (Nat.le_refl _) (Nat.le_succ _) hP.pn (hh.trans hP.h) hP.pI (hJ.put _ _ _ _ hoL (hJ.step _ _ _ hP.jj S')) (λh=>absurd rfl h) ?_) ?_
  ·intro r j c' b hr _ h1 h2 h3 h4 h5
   exact (hP.late r j c' b hr h1 h2 h3 h4 h5).step hP.wr S'
  ·intro j c' hj
   obtain ⟨h1,h2⟩:=hst j c' hj
   refine ⟨?_,h2⟩
   rw [uW hil,if_neg]
   ·exact h1
   ·rintro rfl
    obtain ⟨b,hb,_⟩:=F.one _ _ _ hj
    exact absurd rfl (F.pair q p j c j c' o b hlt hq hj ho hb).1
 have loud:q=p->∀ (G':Ga) (u:Value),Step G G'->WR G'->G'.h=H (p+1)->VR G' (V q) u->K (a.put o.dst u) G'.w:=by
  intro e G' u S' W' hh hv
  subst e
  have hP':=hP.ji F T hq ho hdir (.inr rfl) hNo S'.ext (hP.fr.step S') W' hv (Nat.le_succ _) (Nat.le_refl _) hqn hh (hP.pI.next S' W' hP.h hh) (hJ.put _ _ _ _ hoL (hJ.step _ _ _ hP.jj S')) (λ_=>⟨rfl,(hst i c hq).2 o ho⟩) (by
   intro r j c' b hr _ h1 h2 h3 h4 h5
   exact (hP.late r j c' b hr h1 h2 h3 h4 h5).step hP.wr S')
  obtain ⟨p2,G2,k1,k2,k3⟩:=adv hJ hI hs F T hEf _ _ G' _ _ rfl hP' (hbehind rfl)
  grind
 unfold wpOp
 simp only [ho,hwanted]
 cases hwq:W q with
 | false =>
   simp only [Bool.false_eq_true,if_false]
   obtain ⟨hv,hh⟩:=hsk hwq
   rcases Nat.lt_or_ge q p with h | h
   ·exact quiet h G undef (.refl G) hP.wr rfl (by grind [VR.J8])
   ·have e:q=p:=by omega
    exact loud e G undef (.refl G) hP.wr (by rw [hP.h,<- e]; grind) (by grind [VR.J8])
 | true =>
   simp only [if_true]
   left
   have hop:=hop hwq
   rcases Nat.lt_or_ge q p with h | h
   ·have hne:kz jl o.op≠.uA:=by
     intro hk
     have:=hP.HM q i c o h hq ho hk
     grind
    have value:∀ (hk:jq o.op X (E q) (H p) o.dst=some (V q,H p)),o.wp P a G.w K Q:=by
     intro hk
     rw [<- ze hops,<- hP.h] at hk
     exact xq hP.wr hC hER hK hk K Q (λu G' hh S' W' hv=>quiet h G' u S' W' hh hv)
    cases hk:kz jl o.op with
    | uA=>grind
    | pure=>grind [z7]
    | rd =>
      have:=Ki hI hs F T hEf hq ho hwq hk hP.pn hP.pI (by
       intro r j c' b hr1 hr2 h1 h2 h3 hb
       have:=tO hP.down hb (hP.HM r j c' b hr2 h1 h2 h3)
       grind) (p - (q+1)) (by omega)
      grind
    | yH =>
      have hA:=hEf q i c o hq ho hwq hk
      obtain ⟨e1,e2,s,hsx,hlate⟩:=hA
      have e1:H (q+1)=(Ef q).on (H q):=e1
      have hL:=hP.late q i c o h hq ho hwq hk hunf
      have L:=hlate G a _ hops hP.wr hER
      have fin:∀ (u:Value) (G':Ga) (bs ds:Nat->Prop),(s a).run P G.w=.ok u G'.w->s9 G G' bs ds->(∀ b,bs b->b=(H q).size/\∃ ob,Ef q=.obj ob)->(∀ d,ds d->∃ cs,Ef q=.loc d cs)->WR G'->VR G' (V q) u->o.wp P a G.w K Q:=by
       intro u G' bs ds hrun hF hbs hds W' hv
       have hnew:K (a.put o.dst u) G'.w:=by
        refine hQ p G' _ (hP.ji F T hq ho hdir (.inl h) hNo hF.ext (hP.fr.fill hF ?_) W' hv (Nat.le_refl _) (Nat.le_succ _) hP.pn (hF.h.trans hP.h) hP.pI (hJ.put _ _ _ _ hoL (hJ.fill _ _ _ _ _ hP.jj hF)) (λh=>absurd rfl h) ?_) ?_
        ·intro b hb
         rw [(hbs b hb).1]
         exact Nat.le_trans hP.base (hP.pI.size 0 q (Nat.zero_le _) (by omega))
        ·intro r j c' b hr hrq h1 h2 h3 h4 h5
         obtain ⟨f1,f2,_⟩:=hEf r j c' b h1 h2 h3 h4
         have f1:H (r+1)=(Ef r).on (H r):=f1
         refine Kq hF (hP.late r j c' b hr h1 h2 h3 h4 h5) ?_ ?_
         ·intro ob hob hb
          obtain ⟨g1,ob2,g2⟩:=hbs _ hb
          rw [hob] at f1
          rw [g2] at e1
          have z1:(H (r+1)).size=(H r).size+1:=by rw [f1]; exact aT.size_push _ _
          have z2:(H (q+1)).size=(H q).size+1:=by rw [e1]; exact aT.size_push _ _
          rcases Nat.lt_or_gt_of_ne hrq with hlt | hgt
          ·have:=hP.pI.size (r+1) q (by omega) (by omega)
           omega
          ·have:=hP.pI.size (q+1) r (by omega) (by omega)
           omega
         ·intro d cs hloc hb
          obtain ⟨cs2,g2⟩:=hds d hb
          rw [hloc] at f1
          rw [g2] at e1
          have n1:=f2 d cs hloc
          have n2:=e2 d cs2 g2
          rcases Nat.lt_or_gt_of_ne hrq with hlt | hgt
          ·have:=hP.pI.loc (r+1) q (by omega) (by omega) d (by rw [f1]; simp [pA.on,jM])
           grind
          ·have:=hP.pI.loc (q+1) r (by omega) (by omega) d (by rw [e1]; simp [pA.on,jM])
           grind
        ·intro j c' hj
         obtain ⟨h1,h2⟩:=hst j c' hj
         refine ⟨?_,h2⟩
         rw [uW hil,if_neg]<;>grind
       grind [Oper.wp,Sem.run_bind,Result.andThen_ok,Sem.run_pure,Oper.upon_value]
      cases hE:Ef q with
      | obj ob =>
        rw [hE] at L hL
        obtain ⟨u,G',k1,k2,k3,k4⟩:=L hL.1 hL.2
        grind
      | loc d cs =>
        rw [hE] at L hL
        obtain ⟨u,G',k1,k2,k3,k4⟩:=L hL.1 hL.2
        exact fin u G' _ _ k1 k2 (λ_ h=>h.elim) (λb hb=>⟨cs,by grind⟩) k3 k4
      | none =>
        rw [hE] at L
        obtain ⟨u,G',k1,k2,k3,k4,k5⟩:=L
        grind [Oper.wp,Sem.run_bind,Result.andThen_ok,Sem.run_pure,Oper.upon_value]
   ·have e:q=p:=by omega
    have hk:=hop
    rw [<- ze hops,e,<- hP.h] at hk
    exact xq hP.wr hC hER hK hk K Q (λu G' hh S' W' hv=>loud e G' u S' W' hh (by grind))
theorem K5 (hJ:KU ops J) (hC:jR P X.C) (hK:nL P X.call) (hI:oz X.call) (hs:X.fa.jl=jl) (F:tM jl ops sch) (T:Trace X ops sch E H V W) (hEf:El P jl ops sch E H V W Ef)
  (hN:ops.toList.all (o6 N)=true) (hQ:∀ G' a',G'.h=H sch.length->St N G0 G' (E sch.length) a'->J G' a'->Q .normal a' G'.w) :
  ∀ (fuel:Nat) (ji:Array Bool) (a:Act) (p:Nat) (G:Ga),((List.range ops.size).filter λi=>!ji.getD i true).length<=fuel ->
    xN N ops jl sch E H W Ef J G0 p G ji a->Stop ops jl sch p ji->wpAny P .any ops Q fuel ji a G.w:=by
 have key:∀ (ji:Array Bool) (a:Act) (p:Nat) (G:Ga),xN N ops jl sch E H W Ef J G0 p G ji a->Stop ops jl sch p ji->Region.ready .any ops ji=[]->Q .normal a G.w:=by
  intro ji a p G hP hst hr
  have hall:∀ (m q i:Nat) c,q<m->sch[q]?=some (i,c)->ji.getD i false=true:=by
   intro m
   induction m with
   | zero=>omega
   | succ m ih =>
     intro q i c hq hsq
     by_cases e:q<m
     ·grind
     ·have:q=m:=by omega
      subst this
      cases hl:ji.getD i false with
      | true=>rfl
      | false =>
        exfalso
        obtain ⟨o,ho,_,hdr⟩:=F.one _ _ _ hsq
        have hil:i<ji.size:=by rw [hP.ls]; grind
        have:i∈Region.ready .any ops ji:=by
         rw [mem_ready]
         refine ⟨?_,o,ho,?_⟩
         ·grind
         ·intro e he hb
          have hj:e.on∈direct o:=List.mem_map.2 ⟨e,List.mem_filter.2 ⟨Array.mem_toList_iff.2 he,hb⟩,rfl⟩
          obtain ⟨h1,h2⟩:=hdr _ hj
          obtain ⟨r,c',hr⟩:=F.cover _ h2
          obtain ⟨b,hb2,_⟩:=F.one _ _ _ hr
          rcases Nat.lt_trichotomy r q with h | h | h
          ·grind
          ·grind
          ·exact absurd hj (F.pair q r _ _ _ _ o b h hsq hr ho hb2).2.2.2.2.1
        grind
  have hp:p=sch.length:=by
   rcases Nat.lt_or_ge p sch.length with h | h
   ·obtain ⟨x,hx⟩:∃ x,sch[p]?=some x:=⟨sch[p],by simp [h]⟩
    obtain ⟨i,c⟩:=x
    have h1:=(hst i c hx).1
    grind
   ·exact Nat.le_antisymm hP.pn h
  refine hQ G a (by rw [hP.h,hp]) ⟨hP.fr,hP.wr,⟨λt=>?_⟩,hP.df,hP.sz⟩ hP.jj
  have h1:=hP.er.rel t
  rw [sy,if_neg] at h1
  ·exact h1
  ·intro hm
   obtain ⟨j,b,hb,_,hl⟩:=oR.1 hm
   obtain ⟨r,c,hr⟩:=F.cover j (Array.getElem?_eq_some_iff.1 hb).1
   grind
 intro fuel
 induction fuel with
 | zero =>
   intro ji a p G hf hP hst
   have hr:Region.ready .any ops ji=[]:=by
    rw [List.eq_nil_iff_forall_not_mem]
    intro i hi
    obtain ⟨hun,o,ho,_⟩:=mem_ready.1 hi
    have:i∈(List.range ops.size).filter λi=>!ji.getD i true:=by
     grind
    grind
   exact ⟨hr,key ji a p G hP hst hr⟩
 | succ fuel ih =>
   intro ji a p G hf hP hst
   refine ⟨λhr=>key ji a p G hP hst hr,λi hi=>?_⟩
   refine MO hJ hC hK hI hs F T hEf hN hP hst hi (λp' G' a' h1 h2=>ih _ a' p' G' ?_ h1 h2)
   obtain ⟨hun,o,ho,_⟩:=mem_ready.1 hi
   have hio:i<ops.size:=(Array.getElem?_eq_some_iff.1 ho).1
   have hil:i<ji.size:=by grind
   have:=filter_lt (p:=λi=>!ji.getD i true) (p':=λj=>!(ji.setIfInBounds i true).getD j true) (i:=i) (l:=List.range ops.size) (by
    intro x hx
    rw [uW hil] at hx
    grind) (List.mem_range.2 hio) (by grind) (by simp)
   omega
def yB (hJ:KU ops J) (hm:P.follows .mixedOrders=true) (hC:jR P X.C) (hK:nL P X.call) (hI:oz X.call) {id:Nat} (hreg:DR X.fa.jl ops sch=true) (hN:ops.toList.all (o6 N)=true)
  {e e':Env} {h h':aT} (hr:tg X ops.toList sch e h=some (e',h')) {G:Ga} {a:Act} (hG:G.h=h) (hS:St N G0 G e a) (hj:J G a)
  (hQ:∀ G' a',G'.h=h'->St N G0 G' e' a'->J G' a'->Q .normal a' G'.w):(Code.region id ops true).wp P Q a G.w:=by
 have F:=N1 hreg
 obtain ⟨E,H,V,W,hE0,hH0,hEn,hHn,T⟩:=Fs sch e h e' h' hr
 obtain ⟨Ef,hEf⟩:=aat (P:=P) hC T
 refine wp_region_any hm ?_
 let G1:Ga:=⟨{ G.w with drawn:=G.w.drawn+1 },G.T,G.h,G.pi,G.L⟩
 have hext:Ext G G1:=⟨λ_ _ h=>h,λ_ _ _=>rfl,Nat.le_refl _,λ_ _ g z xs h=>⟨g,z,xs,h,Nat.le_refl _,λ_=>⟨rfl,λ_ h=>h⟩⟩,λ_ _ es c h=>⟨es,c,h,λ_ h=>h⟩,λ_ _ h=>h⟩
 have S1:Step G G1:=⟨hext,rfl,rfl,⟨rfl,λ_=>Nat.le_succ _⟩,Nat.le_refl _,λ_ _ _ _=>rfl,λ_ l h=>.inl ⟨l,h,rfl⟩,λ_ _ h=>.inl (by grind),λ_ _ h=>.inl h,rfl,λ_ _ _=>rfl,λ_ _ h=>.inl h,λ_ _ h=>.inl (by grind),λ_ _ _ h=>h⟩
 have W1:WR G1:=by
  obtain ⟨k1,k2,k3⟩:=hS.wr.keep hext (λ_ _=>rfl)
  exact ⟨k1,k2,k3,hS.wr.kC,hS.wr.mL,hS.wr.p6,hS.wr.oh,hS.wr.LT,hS.wr.oO,hS.wr.lT,hS.wr.nb,hS.wr.lo,hS.wr.lt⟩
 have hfr1:Fr G0 G1:=hS.fr.step S1
 have hfalse:∀ j,(Array.replicate ops.size false).getD j false=false:=by
  intro j
  rw [Array.getD_eq_getD_getElem?,Array.getElem?_replicate]
  grind
 have hP0:xN N ops X.fa.jl sch E H W Ef J G0 0 G1 (Array.replicate ops.size false) a:=by
  refine ⟨Nat.zero_le _,hG.trans hH0.symm,hfr1,W1,hS.df,hS.sz,by simp,?_,?_,?_,?_,?_,?_,hJ.step _ _ _ hj S1⟩
  ·rw [hH0,<- hG]; exact hfr1.S.ext.size
  ·grind
  ·omega
  ·constructor
   intro t
   rw [sy]
   have h1:=(hS.er.rel t).mono hext
   rw [<- hE0] at h1
   split
   ·exact h1
   ·rename_i hm
    rw [T.keep F _ (Nat.le_refl _) (λq j c o' _ _ hb hd=>hm (oR.2 ⟨j,o',hb,hd,hfalse j⟩))]
    exact h1
  ·omega
  ·refine ⟨?_,?_,?_⟩
   ·intro q hq
    have:q=0:=by omega
    subst this
    rw [hH0,<- hG]
    exact ⟨W1.lo,W1.lt⟩
   ·grind
   grind
 obtain ⟨p',G',k1,k2,k3⟩:=adv hJ hI rfl F T hEf _ _ G1 _ _ rfl hP0 (λq i c _ _=>hfalse i)
 grind [K5]
def Gr (hm:P.follows .mixedOrders=true) (hC:jR P X.C) (hK:nL P X.call) (hI:oz X.call) {id:Nat} (hreg:DR X.fa.jl ops sch=true) (hN:ops.toList.all (o6 N)=true)
  {e e':Env} {h h':aT} (hr:tg X ops.toList sch e h=some (e',h')) {G:Ga} {a:Act} (hG:G.h=h) (hS:St N G0 G e a)
  (hQ:∀ G' a',G'.h=h'->St N G0 G' e' a'->Q .normal a' G'.w):(Code.region id ops true).wp P Q a G.w :=
 yB (J:=λ_ _=>True) ⟨λ_ _ _ _ _=>trivial,λ_ _ _ _ _ _=>trivial,λ_ _ _ _ _ _ _=>trivial⟩ hm hC hK hI hreg hN hr hG hS trivial (λG' a' h1 h2 _=>hQ G' a' h1 h2)
end
end Go.Sx
namespace Go.Sx
open Go
variable [DD]
def As:Ex->Exit
 | .j1=>.normal
 | .ext id=>.exit id
 | .ret=>.ret
def codeOk (N:Nat) (jl:List Nat):Code->lz->Bool
 | .region _ ops draw,an=>ops.toList.all (o6 N)&&match draw,an with
   | true,.pV sch=>DR jl ops sch
   | _,_=>true
 | .seq a b,.seq _ x y=>codeOk N jl a x&&codeOk N jl b y
 | .seq a b,.sq x y=>codeOk N jl a x&&codeOk N jl b y
 | .cond _ a b,.two x y=>codeOk N jl a x&&codeOk N jl b y
 | .block _ a,an=>codeOk N jl a an
 | .loop a,.loop _ x=>codeOk N jl a x
 | .scope a,an=>codeOk N jl a an
 | _,_=>true
section
variable {P:Program} {X:Ctx} {N:Nat} {G0:Ga} {Q:Exit->Act->World->Prop}
def AQ {c:Code} (J:Nat->Act->World->Prop) (round:∀ n a w,J n a w->c.wp P (Exit.then (λa' w'=>∃ m,m<n/\J m a' w') Q) a w) :
  ∀ (n:Nat) (a:Act) (w:World),J n a w->(Code.loop c).wp P Q a w:=by
 intro n a w h₀ b k cs
 have key:∀ n a w,J n a w->∃ e a' w',Q e a' w'/\Arrives P (lone (b.at a (.code c::.inLoop c::k)) cs w) b k cs e a' w':=by
  intro n
  induction n using Nat.strongRecOn with
  | _ n ih =>
    intro a w hI
    obtain ⟨e,a₁,w₁,hq,harr⟩:=round n a w hI b (.inLoop c::k) cs
    cases e with
    | normal =>
      obtain ⟨m,hlt,hI₁⟩:=hq
      obtain ⟨e₂,a₂,w₂,hq₂,harr₂⟩:=ih m hlt a₁ w₁ hI₁
      exact ⟨e₂,a₂,w₂,hq₂,.of_steps (Steps.trans harr (.one step_inLoop)) harr₂⟩
    | exit id=>exact ⟨_,a₁,w₁,hq,.pass (x:=.inLoop c) rfl (λ_ _=>.inl (by simp)) harr⟩
    | goto l=>exact ⟨_,a₁,w₁,hq,.pass (x:=.inLoop c) rfl (λ_ _=>.inl (by simp)) harr⟩
    | ret=>exact ⟨_,a₁,w₁,hq,.pass (x:=.inLoop c) rfl (λ_ _=>.inl (by simp)) harr⟩
    | panic ch=>exact ⟨_,a₁,w₁,hq,.pass (x:=.inLoop c) rfl (λ_ _=>.inl (by simp)) harr⟩
    | outgrown=>exact ⟨_,a₁,w₁,hq,.pass (x:=.inLoop c) rfl (λ_ _=>.inl (by simp)) harr⟩
 obtain ⟨e,a',w',hq,harr⟩:=key n a w h₀
 exact ⟨e,a',w',hq,.of_steps (.one step_loop) harr⟩
theorem Dz (e:Env) (t:Nat):∀ live:List Nat,lE (proj live e) t=if t∈live then keep t (lE e t) else .undef
 | []=>rfl
 | x::l=>by
   have ih:=Dz e t l
   unfold proj at ih ⊢
   simp only [List.map_cons,lE,List.mem_cons]
   cases hq:Nat.beq t x with
   | true =>
     have:=Nat.eq_of_beq_eq_true hq
     subst this
     simp
   | false =>
     have:t≠x:=Nat.ne_of_beq_eq_false hq
     simp only [ih,this,false_or]
theorem tH (m:kI) (d:Nat):∀ live:List Nat,d∈live->jM (kS live m) d=jM m d
 | [],h=>by cases h
 | x::l,h=>by
   simp only [kS]
   by_cases e:d=x
   ·subst e
    cases hq:jM m d with
    | some c=>simp [jM]
    | none =>
      simp only
      by_cases hl:d∈l
      ·rw [tH m d l hl,hq]
      ·have:∀ l:List Nat,d∉l->jM (kS l m) d=none:=by
        intro l
        induction l with
        | nil=>intro _; rfl
        | cons y l ih =>
          intro hn
          simp only [List.mem_cons,not_or] at hn
          simp only [kS]
          cases hy:jM m y with
          | none=>exact ih hn.2
          | some c =>
            simp only [jM]
            cases hq:Nat.beq d y with
            | true=>exact absurd (Nat.eq_of_beq_eq_true hq) hn.1
            | false=>exact ih hn.2
       exact this l hl
   ·have hl:d∈l:=(List.mem_cons.1 h).resolve_left e
    have hb:Nat.beq d x=false:=by
     cases hq:Nat.beq d x with
     | true=>exact absurd (Nat.eq_of_beq_eq_true hq) e
     | false=>rfl
    cases hq:jM m x with
    | some c=>simp only [jM,hb]; exact tH m d l hl
    | none=>exact tH m d l hl
def o3 (live:List Nat) (L:Nat->Option Nat):Nat->Option Nat:=λd=>if d∈live then L d else none
theorem St.lH {G:Ga} {e:Env} {a:Act} (h:St N G0 G e a) (live:List Nat):St N G0 (G.jI (kS live G.h.iq) (o3 live G.L)) (proj live e) a:=by
 have hL:∀ d B,o3 live G.L d=some B->d∈live/\G.L d=some B:=by
  grind [o3]
 refine ⟨h.fr.jI (λd B hd=>(hL d B hd).2),h.wr.D3 (λd B hd=>(hL d B hd).2) (λd B hd=>tH _ d live (hL d B hd).1),⟨?_⟩,h.df,h.sz⟩
 intro t
 rw [Dz]
 split
 ·rename_i ht
  have hv:=h.er.rel t
  unfold keep
  cases hg:(lE e t).wO t with
  | false=>exact .undef _
  | true =>
    simp only
    generalize lE e t=v at hv hg
    generalize a.eval (.tmp t)=u at hv
    cases v with
    | la d o =>
      simp only [AV.wO,Bool.and_eq_true,Nat.beq_eq] at hg
      obtain ⟨rfl,rfl⟩:=hg
      cases hv with
      | jm hp _=>simp [AV.kg] at hp
      | la _ _ B hd =>
        refine .la _ _ B ?_
        show o3 live G.L t=some B
        grind [o3]
    | je l=>simp [AV.wO] at hg
    | _=>exact hv.jI rfl
 ·exact .undef _
theorem og (live:List Nat) (k:Env->aT->RC) (e:Env) (h:aT):Sx.lH live k e h=k (proj live e) { h with iq:=kS live h.iq }:=by
 unfold Sx.lH
 simp
def vG (P:Program) (X:Ctx) (N:Nat) (G0:Ga) (lp:zO) (c:Code):Prop:=∀ (an:lz) (e:Env) (h:aT) (x:Ex) (e':Env) (h':aT),jN X lp c an e h=some (x,e',h')->codeOk N X.fa.jl c an=true ->
 ∀ (G:Ga) (a:Act) (Q:Exit->Act->World->Prop),G.h=h->St N G0 G e a->(∀ G' a',G'.h=h'->St N G0 G' e' a'->Q (As x) a' G'.w)->c.wp P Q a G.w
theorem IC {c:Code} {n0:Nat} (ih:vG P X N G0 (kA n0) c) {live:List Nat} {y:lz} (hok:codeOk N X.fa.jl c y=true) :
  ∀ (n:Nat) (e:Env) (h:aT) (x:Ex) (e':Env) (h':aT),kA n (lH live (jN X (kA n0) c y)) e h=some (x,e',h') ->
  ∀ (G:Ga) (a:Act) (Q:Exit->Act->World->Prop),G.h=h->St N G0 G e a->(∀ G' a',G'.h=h'->St N G0 G' e' a'->Q (As x) a' G'.w)->(Code.loop c).wp P Q a G.w:=by
 intro n e h x e' h' hr G a Q hG hS hQ
 refine AQ (λm a w=>∃ G e,G.w=w/\St N G0 G e a/\kA m (lH live (jN X (kA n0) c y)) e G.h=some (x,e',h')) ?_ n a G.w ⟨G,e,rfl,hS,by grind⟩
 rintro m a _ ⟨G,e,rfl,hS,hr⟩
 cases m with
 | zero=>cases hr
 | succ m =>
   simp only [kA] at hr
   have hj:=hS.lH live
   split at hr
   ·rename_i e1 h1 hb
    rw [og] at hb
    refine ih y _ _ _ _ _ hb hok (G.jI (kS live G.h.iq) (o3 live G.L)) a _ rfl hj ?_
    intro G' a' hG' hS'
    exact ⟨m,Nat.lt_succ_self _,G',e1,rfl,hS',by grind⟩
   ·rename_i hne
    rw [og] at hr
    refine ih y _ _ _ _ _ hr hok (G.jI (kS live G.h.iq) (o3 live G.L)) a _ rfl hj ?_
    intro G' a' hG' hS'
    cases x with
    | j1=>grind [og]
    | ext id=>exact hQ G' a' hG' hS'
    | ret=>exact hQ G' a' hG' hS'
def tC (hm:P.follows .mixedOrders=true) (hC:jR P X.C) (hK:nL P X.call) (hI:oz X.call) (n:Nat):∀ c:Code,vG P X N G0 (kA n) c:=by
 intro c
 induction c with
 | skip =>
   intro an e h x e' h' hr _ G a Q hG hS hQ
   simp only [jN,Option.some.injEq,Prod.mk.injEq] at hr
   obtain ⟨rfl,rfl,rfl⟩:=hr
   exact wp_skip (hQ G a hG hS)
 | label l =>
   intro an e h x e' h' hr _ G a Q hG hS hQ
   simp only [jN,Option.some.injEq,Prod.mk.injEq] at hr
   obtain ⟨rfl,rfl,rfl⟩:=hr
   exact wp_label (hQ G a hG hS)
 | exit id =>
   intro an e h x e' h' hr _ G a Q hG hS hQ
   simp only [jN,Option.some.injEq,Prod.mk.injEq] at hr
   obtain ⟨rfl,rfl,rfl⟩:=hr
   exact wp_exit (hQ G a hG hS)
 | ret =>
   intro an e h x e' h' hr _ G a Q hG hS hQ
   simp only [jN,Option.some.injEq,Prod.mk.injEq] at hr
   obtain ⟨rfl,rfl,rfl⟩:=hr
   exact wp_ret (hQ G a hG hS)
 | region id ops draw =>
   intro an e h x e' h' hr hok G a Q hG hS hQ
   have j1:∀ r:RE,xz r=some (x,e',h')->x=.j1/\r=some (e',h'):=by
    intro r hr
    unfold xz at hr
    grind
   cases draw with
   | false =>
     simp only [jN,wa,Ir] at hr
     obtain ⟨rfl,hr2⟩:=j1 _ hr
     clear hr
     simp only [codeOk,Bool.and_eq_true] at hok
     refine wp_region ?_
     have:=KS rfl hC hK hok.1 ops.toList 0 e h e' h' (by simp) hr2 G a Q hG hS (λG' a' h1 h2=>hQ G' a' h1 h2)
     rw [Nat.sub_zero,<- List.range_eq_range'] at this
     exact this
   | true =>
     simp only [jN,wa,ym] at hr
     split at hr
     ·rename_i sch
      obtain ⟨rfl,hr2⟩:=j1 _ hr
      simp only [codeOk,Bool.and_eq_true] at hok
      exact Gr hm hC hK hI hok.2 hok.1 hr2 hG hS (λG' a' h1 h2=>hQ G' a' h1 h2)
     grind
 | seq p q ihp ihq =>
   intro an e h x e' h' hr hok G a Q hG hS hQ
   simp only [jN,yV] at hr
   have key:∀ (y:lz) (k:Env->aT->RC),codeOk N X.fa.jl p y=true->andThen k (jN X (kA n) p y e h)=some (x,e',h') ->
     (∀ e1 h1,k e1 h1=some (x,e',h')->∀ G1 a1,G1.h=h1->St N G0 G1 e1 a1->q.wp P Q a1 G1.w)->(Code.seq p q).wp P Q a G.w:=by
    intro y k hoy hr hk
    unfold andThen at hr
    split at hr
    ·rename_i e1 h1 hb
     refine wp_seq (ihp y _ _ _ _ _ hb hoy G a _ hG hS ?_)
     intro G1 a1 hG1 hS1
     exact hk e1 h1 hr G1 a1 hG1 hS1
    ·rename_i hne
     refine wp_seq (ihp y _ _ _ _ _ hr hoy G a _ hG hS ?_)
     intro G1 a1 hG1 hS1
     cases x with
     | j1=>grind
     | ext id=>exact hQ G1 a1 hG1 hS1
     | ret=>exact hQ G1 a1 hG1 hS1
   split at hr
   ·rename_i live y z
    simp only [codeOk,Bool.and_eq_true] at hok
    refine key y _ hok.1 hr ?_
    intro e1 h1 hk G1 a1 hG1 hS1
    rw [og] at hk
    rw [<- hG1] at hk
    exact ihq z _ _ _ _ _ hk hok.2 (G1.jI (kS live G1.h.iq) (o3 live G1.L)) a1 Q rfl (hS1.lH live) hQ
   ·rename_i y z
    simp only [codeOk,Bool.and_eq_true] at hok
    refine key y _ hok.1 hr ?_
    intro e1 h1 hk G1 a1 hG1 hS1
    exact ihq z _ _ _ _ _ hk hok.2 G1 a1 Q hG1 hS1 hQ
   grind
 | cond c p q ihp ihq =>
   intro an e h x e' h' hr hok G a Q hG hS hQ
   simp only [jN,DY] at hr
   split at hr
   ·rename_i y z
    simp only [codeOk,Bool.and_eq_true] at hok
    unfold D5 at hr
    have hv:=jk hS.er c
    split at hr
    ·rename_i hb
     rw [bool?_eq hb] at hv
     exact wp_cond_true hv.of_bool (ihp y _ _ _ _ _ hr hok.1 G a Q hG hS hQ)
    ·rename_i hb
     rw [bool?_eq hb] at hv
     exact wp_cond_false hv.of_bool (ihq z _ _ _ _ _ hr hok.2 G a Q hG hS hQ)
    grind
   grind
 | block id p ih =>
   intro an e h x e' h' hr hok G a Q hG hS hQ
   simp only [jN,wR] at hr
   simp only [codeOk] at hok
   refine wp_block ?_
   unfold atEnd at hr
   split at hr
   ·rename_i id' e1 h1 hb
    split at hr
    ·rename_i hid
     have hid:=Nat.eq_of_beq_eq_true hid
     simp only [Option.some.injEq,Prod.mk.injEq] at hr
     obtain ⟨rfl,rfl,rfl⟩:=hr
     refine ih an _ _ _ _ _ hb hok G a _ hG hS ?_
     intro G1 a1 hG1 hS1
     show Exit.inBlock id Q (.exit id') a1 G1.w
     simp only [Exit.inBlock,hid,if_true]
     exact hQ G1 a1 hG1 hS1
    ·rename_i hid
     have hid:=Nat.ne_of_beq_eq_false hid
     simp only [Option.some.injEq,Prod.mk.injEq] at hr
     obtain ⟨rfl,rfl,rfl⟩:=hr
     refine ih an _ _ _ _ _ hb hok G a _ hG hS ?_
     intro G1 a1 hG1 hS1
     show Exit.inBlock id Q (.exit id') a1 G1.w
     simp only [Exit.inBlock,hid,if_false]
     exact hQ G1 a1 hG1 hS1
   ·rename_i hne
    refine ih an _ _ _ _ _ hr hok G a _ hG hS ?_
    intro G1 a1 hG1 hS1
    cases x with
    | j1=>exact hQ G1 a1 hG1 hS1
    | ext id'=>grind
    | ret=>exact hQ G1 a1 hG1 hS1
 | loop p ih =>
   intro an e h x e' h' hr hok G a Q hG hS hQ
   simp only [jN,PU] at hr
   grind [codeOk,IC]
 | scope p ih =>
   intro an e h x e' h' hr hok G a Q hG hS hQ
   simp only [jN] at hr
   simp only [codeOk] at hok
   refine wp_scope_straight (ih an _ _ _ _ _ hr hok G a _ hG hS ?_)
   intro G1 a1 hG1 hS1
   cases x with
   | j1=>exact hQ G1 a1 hG1 hS1
   | ext id=>exact hQ G1 a1 hG1 hS1
   | ret=>exact hQ G1 a1 hG1 hS1
 | _=>intro an e h x e' h' hr; cases hr
end
end Go.Sx
namespace Go.Sx
open Go
variable [DD]
theorem lr {f:AV->Option AV}:∀ {l l':List AV},js f l=some l'->l'.length=l.length/\∀ (i:Nat) x',l'[i]?=some x'->∃ x,l[i]?=some x/\f x=some x'
 | [],l',h=>by
   grind [js]
 | v::l,l',h=>by
   simp only [js] at h
   split at h
   ·cases h
   ·rename_i w hw
    split at h
    ·cases h
    ·rename_i l2 hl2
     simp only [Option.some.injEq] at h
     subst h
     obtain ⟨h1,h2⟩:=lr hl2
     refine ⟨by simp [h1],?_⟩
     intro i x' hx
     cases i with
     | zero =>
       simp only [List.getElem?_cons_zero,Option.some.injEq] at hx
       subst hx
       exact ⟨v,rfl,hw⟩
     | succ i =>
       rw [List.getElem?_cons_succ] at hx
       exact h2 i x' hx
def xO {f:AV->Option AV}:∀ {l l':List (List AV)},ns f l=some l'->l'.length=l.length/\∀ (i:Nat) x',l'[i]?=some x'->∃ x,l[i]?=some x/\js f x=some x'
 | [],l',h=>by
   grind [ns]
 | v::l,l',h=>by
   simp only [ns] at h
   split at h
   ·cases h
   ·rename_i w hw
    split at h
    ·cases h
    ·rename_i l2 hl2
     simp only [Option.some.injEq] at h
     subst h
     obtain ⟨h1,h2⟩:=xO hl2
     refine ⟨by simp [h1],?_⟩
     intro i x' hx
     cases i with
     | zero =>
       simp only [List.getElem?_cons_zero,Option.some.injEq] at hx
       subst hx
       exact ⟨v,rfl,hw⟩
     | succ i =>
       rw [List.getElem?_cons_succ] at hx
       exact h2 i x' hx
def yE {f:AV->Option AV}:∀ {l:List (AV×AV×Nat)} {l':List (AV×AV)},oE f l=some l'->l'.length=l.length/\∀ (i:Nat) p',l'[i]?=some p'->∃ p,l[i]?=some p/\p.1=p'.1/\f p.2.1=some p'.2
 | [],l',h=>by
   grind [oE]
 | (k,v,n)::l,l',h=>by
   simp only [oE] at h
   split at h
   ·cases h
   ·rename_i w hw
    split at h
    ·cases h
    ·rename_i l2 hl2
     simp only [Option.some.injEq] at h
     subst h
     obtain ⟨h1,h2⟩:=yE hl2
     refine ⟨by simp [h1],?_⟩
     intro i x' hx
     cases i with
     | zero =>
       simp only [List.getElem?_cons_zero,Option.some.injEq] at hx
       subst hx
       exact ⟨(k,v,n),rfl,rfl,hw⟩
     | succ i =>
       rw [List.getElem?_cons_succ] at hx
       exact h2 i x' hx
def AV.marked:AV->Bool
 | .ip _ _ s=>s
 | .fm _ s=>s
 | .sl _ c=>pr c
 | _=>false
theorem PR.at_ {w:World} {T:Bool->Nat->Prop} {m:Bool} {v:AV} {u:Value} (h:PR w T true v u) (hi:v.kg=true) (hm:v.marked=true->m=true):PR w T m v u:=by
 cases h with
 | undef _ v h=>simp [AV.kg] at hi
 | bool _ b=>exact .bool m b
 | int _ k n=>exact .int m k n
 | str _ s b h=>exact .str m s b h
 | jV _=>exact .jV m
 | ip _ cells off sn B base c e fr f _ hB hB' hc h1 hr=>exact .ip m cells off sn B base c e fr f hm hB hB' hc h1 hr
 | slnil _=>exact .slnil m
 | ng _ cap a c _ h=>exact .ng m cap a c hm h
 | sl _ xs cap B base c e fr cap' esz f _ hB hB' hcap hle hz hc h1 hr=>exact .sl m xs cap B base c e fr cap' esz f hm hB hB' hcap hle hz hc h1 hr
 | ka _=>exact .ka m
 | fm _ es sn r ents clk _ hB hB' hl hy hko hk hv=>exact .fm m es sn r ents clk hm hB hB' hl hy hko hk hv
 | kX _=>exact .kX m
 | jz _ g a c a' c' _ _ _ _=>simp [AV.kg] at hi
 | agg _ l vs _ _ _=>simp [AV.kg] at hi
def Oh (sn:Bool):pr (BT sn)=sn:=by cases sn<;>rfl
def Es (sn:Bool) {k c:Nat} (h:k<=c):nY (BT sn) k c:=by cases sn<;>exact h
section
variable {G:Ga} {T1:Bool->Nat->Prop} {sn:Bool}
def yf (hW:WR G) (hT:∀ s B,G.T s B->T1 s B) (hpi:∀ b l,G.pi b=some l->T1 sn l.B) :
  ∀ (n:Nat) (v v':AV) (u:Value),freeze sn G.h n v=some v'->v.mJ=true->VR G v u->PR G.w T1 sn v' u:=by
 intro n
 induction n with
 | zero=>grind [freeze]
 | succ n ih =>
   intro v v' u h hna hv
   have jm:v.kg=true->(v.marked=true->sn=true)->PR G.w T1 sn v u:=by
    intro hi hm
    cases hv with
    | jm _ h=>exact (h.at_ hi hm).mono hT (λ_ _ _=>rfl)
    | _=>simp [AV.kg] at hi
   have lst:∀ (l l':List AV) (vs:Array Value),js (freeze sn G.h n) l=some l'->(∀ x∈l,x.mJ=true)->(∀ (i:Nat) (x:AV) (y:Value),l[i]?=some x->vs[i]?=some y->VR G x y) ->
     ∀ (i:Nat) (x:AV) (y:Value),l'[i]?=some x->vs[i]?=some y->PR G.w T1 sn x y:=by
    grind [lr]
   cases v with
   | undef=>simp [freeze] at h
   | bool b=>simp only [freeze,Option.some.injEq] at h; subst h; exact jm rfl (by simp [AV.marked])
   | int k m=>simp only [freeze,Option.some.injEq] at h; subst h; exact jm rfl (by simp [AV.marked])
   | str s=>simp only [freeze,Option.some.injEq] at h; subst h; exact jm rfl (by simp [AV.marked])
   | jV=>simp only [freeze,Option.some.injEq] at h; subst h; exact jm rfl (by simp [AV.marked])
   | ka=>simp only [freeze,Option.some.injEq] at h; subst h; exact jm rfl (by simp [AV.marked])
   | kX=>simp only [freeze,Option.some.injEq] at h; subst h; exact jm rfl (by simp [AV.marked])
   | ip c o s =>
     simp only [freeze] at h
     split at h
     ·cases h
     ·rename_i hs
      simp only [Option.some.injEq] at h; subst h
      refine jm rfl ?_
      grind [AV.marked]
   | fm es s =>
     simp only [freeze] at h
     split at h
     ·cases h
     ·rename_i hs
      simp only [Option.some.injEq] at h; subst h
      refine jm rfl ?_
      grind [AV.marked]
   | sl xs c =>
     cases c with
     | lP =>
       simp only [freeze] at h
       split at h
       ·simp only [Option.some.injEq] at h; subst h
        exact jm rfl (λ_=>rfl)
       ·cases h
     | nil=>simp only [freeze,Option.some.injEq] at h; subst h; exact jm rfl (by simp [AV.marked,pr])
     | exact k=>simp only [freeze,Option.some.injEq] at h; subst h; exact jm rfl (by simp [AV.marked,pr])
     | j6=>simp only [freeze,Option.some.injEq] at h; subst h; exact jm rfl (by simp [AV.marked,pr])
   | la d o=>simp [freeze] at h
   | ptr b g i o =>
     simp only [freeze] at h
     split at h
     ·rename_i g' z xs hg
      split at h
      ·rename_i hgg
       have hgg:=Nat.eq_of_beq_eq_true hgg
       subst hgg
       split at h
       ·rename_i cs hcs
        split at h
        ·rename_i cs' hfr
         simp only [Option.some.injEq] at h; subst h
         cases hv with
         | jm hi _=>simp [AV.kg] at hi
         | ptr _ _ _ _ a hb hge hat =>
           obtain ⟨l,hl,rfl⟩:=hat z xs hg
           obtain ⟨c,e,hB,hcap,hsz,hz,hcell⟩:=hW.iH b l _ _ _ hl hg
           obtain ⟨hlen,hget⟩:=lr hfr
           refine .ip sn cs' o sn l.B (l.base+i*z) c e (0,0) (λj=>c.getD (l.base+i*z+j) undef) (λh=>h) hB (hpi b l hl) ?_ ?_ ?_
           ·intro j x hx
            obtain ⟨x0,k1,_⟩:=hget j x hx
            obtain ⟨w,k3,_⟩:=hcell i cs j x0 hcs k1
            simp_all
           ·intro j x hx
            obtain ⟨x0,k1,_⟩:=hget j x hx
            obtain ⟨w,k3,k4,_⟩:=hcell i cs j x0 hcs k1
            simp_all
           ·intro j x hx
            obtain ⟨x0,k1,k2⟩:=hget j x hx
            obtain ⟨w,k3,_,k5⟩:=hcell i cs j x0 hcs k1
            rw [Array.getD_eq_getD_getElem?,k3]
            exact ih x0 x w k2 k5.na k5.vr
        ·cases h
       ·cases h
      ·cases h
     ·cases h
   | hs b g off len =>
     simp only [freeze] at h
     split at h
     ·rename_i g' z xs hg
      split at h
      ·rename_i hgg
       simp only [Bool.and_eq_true,Nat.ble_eq] at hgg
       have hlen:=hgg.2
       have hgg:=Nat.eq_of_beq_eq_true hgg.1
       subst hgg
       split at h
       ·rename_i ys hfr
        simp only [Option.some.injEq] at h; subst h
        obtain ⟨hl1,hget⟩:=xO hfr
        have hlen2:ys.length=len:=by
         grind
        have hcapn:=Oh sn
        cases hv with
        | jm hi _=>simp [AV.kg] at hi
        | hs _ _ _ _ a cap' hb hge hle hat =>
          cases hys:ys with
          | nil =>
            have:len=0:=by grind
            subst this
            exact .ng sn _ a cap' (by grind) (Es sn (Nat.zero_le _))
          | cons y0 yr =>
            rw [<- hys]
            have hpos:0<len:=by grind
            obtain ⟨l,hl,hcapl,haddr⟩:=hat z xs hg
            have haddr:=haddr (by omega)
            subst haddr
            obtain ⟨c,e,hB,hcap,hsz,hz,hcell⟩:=hW.iH b l _ _ _ hl hg
            have hrow:∀ (i:Nat) cs',ys[i]?=some cs'->∃ cs,xs[off+i]?=some cs/\js (freeze sn G.h n) cs=some cs':=by
             grind
            have hpos2:∀ i j:Nat,l.base+off*z+i*z+j=l.base+(off+i)*z+j:=by
             grind
            rw [<- hlen2]
            refine .sl sn ys _ l.B (l.base+off*z) c e (0,0) cap' z (λi j=>c.getD (l.base+(off+i)*z+j) undef) (by grind) hB (by grind)
             (Es sn (by omega)) (by omega) ?_ ?_ ?_ ?_
            ·grind [lr]
            ·intro i cs' j x hi hj
             obtain ⟨cs,k1,k2⟩:=hrow i cs' hi
             obtain ⟨x0,k3,k4⟩:=(lr k2).2 j x hj
             obtain ⟨w,k5,_⟩:=hcell _ cs j x0 k1 k3
             rw [hpos2,Array.getD_eq_getD_getElem?,k5]; rfl
            ·intro i cs' j x hi hj
             obtain ⟨cs,k1,k2⟩:=hrow i cs' hi
             obtain ⟨x0,k3,k4⟩:=(lr k2).2 j x hj
             obtain ⟨w,k5,k6,_⟩:=hcell _ cs j x0 k1 k3
             rw [Array.getD_eq_getD_getElem?,k5]; exact k6
            ·intro i cs' j x hi hj
             obtain ⟨cs,k1,k2⟩:=hrow i cs' hi
             obtain ⟨x0,k3,k4⟩:=(lr k2).2 j x hj
             obtain ⟨w,k5,_,k7⟩:=hcell _ cs j x0 k1 k3
             rw [hcapn,Array.getD_eq_getD_getElem?,k5]
             exact ih x0 x w k4 k7.na k7.vr
       ·cases h
      ·cases h
     ·cases h
   | hm b =>
     simp only [freeze] at h
     split at h
     ·rename_i es c hg
      split at h
      ·rename_i es' hfr
       simp only [Option.some.injEq] at h; subst h
       cases hv with
       | jm hi _=>simp [AV.kg] at hi
       | hm _ r hb hat =>
         obtain ⟨l,hl,rfl⟩:=hat es c hg
         obtain ⟨ents,hB,hlen,hyo,hent⟩:=hW.map b l es c hl hg
         obtain ⟨hl1,hget⟩:=yE hfr
         have hent2:∀ (i:Nat) p,es[i]?=some p->∃ e,ents[i]?=some e:=by
          intro i p hp
          have:i<ents.size:=by grind
          exact ⟨ents[i],by simp⟩
         refine .fm sn es' sn l.B ents c (λh=>h) hB (hpi b l hl) (hl1.trans hlen) ?_ ?_ ?_ ?_
         ·exact hyo.UF hlen λi p e hp he=>(hent i p e hp he).2.2.2
         ·grind
         ·intro i p e hp he
          obtain ⟨p0,k1,k2,_⟩:=hget i p hp
          rw [<- k2]
          have:=(hent i p0 e k1 he).2.1.mono hT (λ_ _ _=>rfl)
          cases sn with
          | false=>exact this
          | true=>exact this.GZ
         ·intro i p e hp he
          obtain ⟨p0,k1,_,k3⟩:=hget i p hp
          have:=(hent i p0 e k1 he).2.2.1
          exact ih p0.2.1 p.2 e.val k3 this.na this.vr
      ·cases h
     ·cases h
   | jz f a c =>
     simp only [freeze] at h
     split at h
     ·rename_i a1 c1 ha hc
      simp only [Option.some.injEq] at h; subst h
      cases hv with
      | jm hi _=>simp [AV.kg] at hi
      | jz _ _ _ a' c' hal hcl hna1 hnc1 hra hrc =>
        exact .jz sn f a1 c1 a' c' ((lr ha).1.trans hal) ((lr hc).1.trans hcl) (lst a a1 a' ha hna1 hra) (lst c c1 c' hc hnc1 hrc)
     ·cases h
   | agg l =>
     simp only [freeze] at h
     split at h
     ·rename_i l1 hl
      simp only [Option.some.injEq] at h; subst h
      cases hv with
      | jm hi _=>simp [AV.kg] at hi
      | agg _ vs hll hn h1 hr=>exact .agg sn l1 vs ((lr hl).1.trans hll) h1 (lst l l1 vs hl hn hr)
     ·cases h
   | je l=>cases hna
theorem tV {h h2:aT} (E:∀ b o,h.get b=some o->h2.get b=some o):∀ (n:Nat) (v v':AV),freeze sn h n v=some v'->freeze sn h2 n v=some v':=by
 intro n
 induction n with
 | zero=>grind [freeze]
 | succ n ih =>
   have il:∀ l l',js (freeze sn h n) l=some l'->js (freeze sn h2 n) l=some l':=by
    intro l
    induction l<;>grind [js]
   have ill:∀ l l',ns (freeze sn h n) l=some l'->ns (freeze sn h2 n) l=some l':=by
    intro l
    induction l<;>grind [ns]
   have ilm:∀ l l',oE (freeze sn h n) l=some l'->oE (freeze sn h2 n) l=some l':=by
    intro l
    induction l<;>grind [oE]
   intro v v' k
   cases v with
   | ptr b g i o =>
     simp only [freeze] at k ⊢
     grind
   | hs b g off len =>
     grind [freeze]
   | hm b =>
     grind [freeze]
   | jz f a c =>
     grind [freeze]
   | agg l =>
     grind [freeze]
   | je l =>
     grind [freeze]
   | sl xs c=>cases c<;>exact k
   | _=>exact k
end
end Go.Sx
namespace Go.Sx
open Go
variable [DD]
def mh (G:Ga) (r:Nat) (i:It):Prop:=match i.k with
 | .nil=>G.w.heap[r]?=some (.mapIter none 0 #[] 0)
 | .fix last left=>∃ m ents clk s,G.T s m/\G.w.heap[m]?=some (.map ents clk) /\
   ((ents = #[]/\left=[]/\last=none/\G.w.heap[r]?=some (.mapIter (some m) clk #[] clk)) \/
    (∃ e0 x,ents = #[e0]/\e0.born<clk/\PR G.w G.T true x.1 e0.key/\PR G.w G.T true x.2 e0.val /\
      ((left=[x]/\last=none/\G.w.heap[r]?=some (.mapIter (some m) clk #[] clk)) \/
       (left=[]/\last=some x/\G.w.heap[r]?=some (.mapIter (some m) clk #[e0.born] clk)))))
 | .Cl b clk seen=>∃ m,VR G (.hm b) (.map (some m))/\G.w.heap[r]?=some (.mapIter (some m) clk (match seen with | none=>#[] | some n=>#[n]) clk)
structure rQ (G0 G:Ga) (a:Act) (i:It) (r:Nat):Prop where
 at_:a.eval (.tmp i.d)=.pointer (some ⟨r,0,none⟩)
 new:G0.w.heap.size<=r
 lt:r<G.w.heap.size
 T:∀ s,¬ G.T s r
 pi:∀ b l,G.pi b=some l->l.B≠r
 L:∀ d B,G.L d=some B->B≠r
 obj:mh G r i
def rZ (G0 G:Ga) (a:Act):Option It->Prop
 | none=>True
 | some i=>∃ r,rQ G0 G a i r
section
variable {P:Program} {X:Ctx} {N:Nat} {G0 G G':Ga} {a a':Act} {Q:Exit->Act->World->Prop}
def mh.ext {r:Nat} {i:It} (h:mh G r i) (E:Ext G G') (hr:G'.w.heap[r]?=G.w.heap[r]?):mh G' r i:=by
 unfold mh at h ⊢
 split at h
 ·grind
 ·obtain ⟨m,ents,clk,s,hT,hm,h⟩:=h
  refine ⟨m,ents,clk,s,E.T s m hT,(E.keep s m hT).trans hm,?_⟩
  rcases h with ⟨h1,h2,h3,h4⟩ | ⟨e0,x,h1,h2,h3,h4,h⟩
  ·grind
  ·refine .inr ⟨e0,x,h1,h2,h3.mono E.T E.keep,h4.mono E.T E.keep,?_⟩
   grind
 ·obtain ⟨m,h1,h2⟩:=h
  exact ⟨m,h1.mono E,hr.trans h2⟩
def rQ.step {i:It} {r:Nat} (h:rQ G0 G a i r) (S:Step G G') (ha:a'.eval (.tmp i.d)=a.eval (.tmp i.d)):rQ G0 G' a' i r:=by
 have hr:G'.w.heap[r]?=G.w.heap[r]?:=S.frame r h.lt h.pi h.L
 refine ⟨ha.trans h.at_,h.new,Nat.lt_of_lt_of_le h.lt S.kT,?_,?_,?_,h.obj.ext S.ext hr⟩
 ·intro s ht
  rcases S.rq s r ht with h0 | hge
  ·exact h.T s h0
  ·have:=h.lt; omega
 ·intro b l hl e
  rcases S.mT b l hl with ⟨l0,h0,e0⟩ | hge
  ·exact h.pi b l0 h0 (e0.trans e)
  ·have:=h.lt; omega
 ·intro d B hd e
  rcases S.qf d B hd with h0 | hge
  ·exact h.L d B h0 e
  ·have:=h.lt; omega
theorem rQ.fill {i:It} {r:Nat} {bs ds:Nat->Prop} (h:rQ G0 G a i r) (S:s9 G G' bs ds):rQ G0 G' a i r:=by
 have hr:G'.w.heap[r]?=G.w.heap[r]?:=S.frame r h.lt
 refine ⟨h.at_,h.new,Nat.lt_of_lt_of_le h.lt S.kT,?_,?_,?_,h.obj.ext S.ext hr⟩
 ·intro s ht
  rw [S.T] at ht
  exact h.T s ht
 ·intro b l hl e
  rcases S.mT b l hl with h0 | hge
  ·exact h.pi b l h0 e
  ·have:=h.lt; omega
 ·intro d B hd e
  rcases S.qf d B hd with h0 | hge
  ·exact h.L d B h0 e
  ·have:=h.lt; omega
def rZ.step {it:Option It} (h:rZ G0 G a it) (S:Step G G') (ha:∀ i,it=some i->a'.eval (.tmp i.d)=a.eval (.tmp i.d)):rZ G0 G' a' it:=by
 cases it with
 | none=>trivial
 | some i =>
   obtain ⟨r,h⟩:=h
   exact ⟨r,h.step S (ha i rfl)⟩
theorem mh.jI {r:Nat} {i:It} (h:mh G r i) {m:kI} {L:Nat->Option Nat}:mh (G.jI m L) r i:=by
 unfold mh at h ⊢
 split at h
 ·exact h
 ·exact h
 ·obtain ⟨m,h1,h2⟩:=h
  exact ⟨m,h1.jI rfl,h2⟩
theorem rZ.jI {it:Option It} (h:rZ G0 G a it) {m:kI} {L:Nat->Option Nat} (hL:∀ d B,L d=some B->G.L d=some B):rZ G0 (G.jI m L) a it:=by
 cases it with
 | none=>trivial
 | some i =>
   obtain ⟨r,h⟩:=h
   exact ⟨r,h.at_,h.new,h.lt,h.T,h.pi,λd B hd=>h.L d B (hL d B hd),h.obj.jI⟩
theorem uD {it:Option It} {o:Oper} {u:Value} (h:sk it o=true):∀ i,it=some i->(a.put o.dst u).eval (.tmp i.d)=a.eval (.tmp i.d):=by
 rintro i rfl
 refine Act.eval_put ?_
 intro d hd e
 cases e
 simp only [sk,hd,Bool.not_eq_true'] at h
 simp at h
def Cu (hW:WR G) (o:Obj):Step G ⟨G.w.alloc o,G.T,G.h,G.pi,G.L⟩/\WR ⟨G.w.alloc o,G.T,G.h,G.pi,G.L⟩:=by
 have hA:=kO.alloc G.w o
 have hold:∀ B,B<G.w.heap.size->(G.w.alloc o).heap[B]?=G.w.heap[B]?:=λB hB=>hA.rY (G:=G) hB
 have hsz:(G.w.alloc o).heap.size=G.w.heap.size+1:=hA.size (G:=G)
 have E:Ext G ⟨G.w.alloc o,G.T,G.h,G.pi,G.L⟩:=⟨λ_ _ h=>h,λs B t=>hold B (hW.nb s B t),Nat.le_refl _,λ_ _ g z xs h=>⟨g,z,xs,h,Nat.le_refl _,λ_=>⟨rfl,λ_ h=>h⟩⟩,λ_ _ es c h=>⟨es,c,h,λ_ h=>h⟩,λ_ _ h=>h⟩
 have hle:G.w.heap.size<=(G.w.alloc o).heap.size:=by omega
 refine ⟨⟨E,hA.os,hA.output,hA.tape,hle,λB hB _ _=>hold B hB,λ_ l h=>.inl ⟨l,h,rfl⟩,λ_ _ h=>.inl (by grind),λ_ _ h=>.inl h,rfl,λ_ _ _=>rfl,λ_ _ h=>.inl h,λ_ _ h=>.inl (by grind),λ_ _ _ h=>h⟩,?_⟩
 obtain ⟨k1,k2,k3⟩:=hW.keep E hold
 exact ⟨k1,k2,k3,λb l h=>⟨Nat.lt_of_lt_of_le (hW.kC b l h).1 hle,(hW.kC b l h).2⟩,hW.mL,hW.p6,hW.oh,hW.LT,hW.oO,λd B h=>⟨Nat.lt_of_lt_of_le (hW.lT d B h).1 hle,(hW.lT d B h).2⟩,λs B h=>Nat.lt_of_lt_of_le (hW.nb s B h) hle,hW.lo,hW.lt⟩
def Wc {r:Nat} {o:Obj} {w':World} (hF:Fr G0 G) (hW:WR G) (hh:w'.heap=G.w.heap.setIfInBounds r o) (hos:w'.os=G.w.os) (hou:w'.output=G.w.output) (hta:sC G.w w')
  (h0:G0.w.heap.size<=r) (hT:∀ s,¬ G.T s r) (hpi:∀ b l,G.pi b=some l->l.B≠r) (hL:∀ d B,G.L d=some B->B≠r) :
  Ext G ⟨w',G.T,G.h,G.pi,G.L⟩/\Fr G0 ⟨w',G.T,G.h,G.pi,G.L⟩/\WR ⟨w',G.T,G.h,G.pi,G.L⟩:=by
 have hne:∀ B,B≠r->w'.heap[B]?=G.w.heap[B]?:=by
  grind
 have hsz:w'.heap.size=G.w.heap.size:=by grind
 have E:Ext G ⟨w',G.T,G.h,G.pi,G.L⟩ :=
  ⟨λ_ _ h=>h,λs B t=>hne B (λe=>hT s (e▸t)),Nat.le_refl _,λ_ _ g z xs h=>⟨g,z,xs,h,Nat.le_refl _,λ_=>⟨rfl,λ_ h=>h⟩⟩,λ_ _ es c h=>⟨es,c,h,λ_ h=>h⟩,λ_ _ h=>h⟩
 refine ⟨E,⟨?_,λd B h=>hF.L d B h⟩,?_⟩
 ·have hS:=hF.S
  refine ⟨⟨hS.ext.T,?_,hS.ext.size,hS.ext.iH,hS.ext.map,hS.ext.iq⟩,hos.trans hS.os,hou.trans hS.output,hta.trans hS.tape,?_,?_,hS.mT,hS.nz,hS.rq,hS.lo,hS.out,hS.qf,hS.rH,hS.sp⟩
  ·intro s B t
   have:B≠r:=λe=>hT s (e▸hS.ext.T s B t)
   exact (hne B this).trans (hS.ext.keep s B t)
  ·show G0.w.heap.size<=w'.heap.size
   rw [hsz]; exact hS.kT
  ·intro B hB hp hl
   have:B≠r:=by omega
   exact (hne B this).trans (hS.frame B hB hp hl)
 ·constructor
  ·exact λb l g z xs hp hg=>(hW.iH b l g z xs hp hg).mono E (hne _ (hpi b l hp))
  ·exact λb l es c hp hg=>(hW.map b l es c hp hg).mono E (hne _ (hpi b l hp))
  ·exact λd B cs hd hcs=>(hW.loc d B cs hd hcs).mono E (hne _ (hL d B hd))
  ·exact λb l h=>⟨by show l.B<w'.heap.size; rw [hsz]; exact (hW.kC b l h).1,(hW.kC b l h).2⟩
  ·exact hW.mL
  ·exact hW.p6
  ·exact hW.oh
  ·exact hW.LT
  ·exact hW.oO
  ·exact λd B h=>⟨by show B<w'.heap.size; rw [hsz]; exact (hW.lT d B h).1,(hW.lT d B h).2⟩
  ·exact λs B h=>by show B<w'.heap.size; rw [hsz]; exact hW.nb s B h
  ·exact hW.lo
  ·exact hW.lt
def LD (es:Array MapEntry) (seen:Array Nat) (h:∀ x∈es.toList,x.born∈seen.toList):(leftOf es seen).toList=[]:=by
 simp_all [leftOf]
def J5 (e0:MapEntry):(leftOf #[e0] #[]).toList=[e0]:=by
 grind [leftOf]
theorem u5 {w:World} {ty r m since:Nat} {seen:Array Nat} {es:Array MapEntry} (hr:w.heap[r]?=some (.mapIter (some m) since seen since)) (hb:w.heap[m]?=some (.map es since))
  (hold:∀ x∈es.toList,x.born<since) (h:∀ x∈es.toList,x.born∈seen.toList):(Instr.next (.pointer (some ⟨r,0,none⟩)) false ty).run P w=.ok (.tuple #[.bool false]) w:=by
 have hl:=LD es seen h
 grind [run_next_at,seen]
def Er {w:World} {ty r m since:Nat} {e0:MapEntry} (hr:w.heap[r]?=some (.mapIter (some m) since #[] since)) (hb:w.heap[m]?=some (.map #[e0] since)) (hold:e0.born<since) :
  ∃ w',(Instr.next (.pointer (some ⟨r,0,none⟩)) false ty).run P w=.ok (.tuple #[.bool true,e0.key,e0.val]) w'/\w'.heap=w.heap.setIfInBounds r (.mapIter (some m) since #[e0.born] since)/\w'.os=w.os/\w'.output=w.output/\sC w w':=by
 have hl:=J5 e0
 rcases run_next_at (P:=P) w ty r m since since #[] #[e0] since hr hb (by grind) (Nat.le_refl _) with ⟨h0,_⟩ | ⟨e,he,w1,hw1,h1⟩
 ·grind
 ·rw [hl] at he
  have:=List.mem_singleton.1 he
  subst this
  refine ⟨_,h1,?_⟩
  rcases hw1 with rfl | rfl<;>first | exact ⟨rfl,rfl,rfl,.rfl _⟩ | exact ⟨rfl,rfl,rfl,rfl,λ_=>Nat.le_succ _⟩
def Ej {k v:AV} {ku vu:Value} (hk:VR G k ku) (hv:VR G v vu):VR G (zr (some (k,v))) (.tuple #[.bool true,ku,vu]):=by
 refine .je _ _ rfl ?_
 grind [VR.bool]
def HZ:VR G (zr none) (.tuple #[.bool false]):=by
 refine .je _ _ rfl ?_
 grind [VR.bool]
def rQ.QL {i:It} {r:Nat} {w':World} {o:Obj} {k':Aq} (hA:rQ G0 G a i r) (hh:w'.heap=G.w.heap.setIfInBounds r o) (hobj:mh ⟨w',G.T,G.h,G.pi,G.L⟩ r ⟨i.d,k'⟩):rQ G0 ⟨w',G.T,G.h,G.pi,G.L⟩ a ⟨i.d,k'⟩ r :=
 ⟨hA.at_,hA.new,by show r<w'.heap.size; rw [hh]; simpa using hA.lt,hA.T,hA.pi,hA.L,hobj⟩
def FR (hF:Fr G0 G) (hW:WR G) {i:It} {r:Nat} (hA:rQ G0 G a i r) {res:Option (AV×AV)} {k':Aq} (h:uJ G.h i.k=some (res,k')) (ty:Nat) :
  ∃ u G',(Instr.next (.pointer (some ⟨r,0,none⟩)) false ty).run P G.w=.ok u G'.w/\G'.h=G.h/\Ext G G'/\Fr G0 G'/\WR G'/\VR G' (zr res) u/\rQ G0 G' a ⟨i.d,k'⟩ r:=by
 have hobj:=hA.obj
 unfold mh at hobj
 have yF:(Instr.next (.pointer (some ⟨r,0,none⟩)) false ty).run P G.w=.ok (.tuple #[.bool false]) G.w->res=none->mh G r ⟨i.d,k'⟩ ->
   ∃ u G',(Instr.next (.pointer (some ⟨r,0,none⟩)) false ty).run P G.w=.ok u G'.w/\G'.h=G.h/\Ext G G'/\Fr G0 G'/\WR G'/\VR G' (zr res) u/\rQ G0 G' a ⟨i.d,k'⟩ r:=by
  intro hrun hres ho
  subst hres
  exact ⟨_,G,hrun,rfl,.refl G,hF,hW,HZ,⟨hA.at_,hA.new,hA.lt,hA.T,hA.pi,hA.L,ho⟩⟩
 split at hobj
 ·rename_i hk
  rw [hk] at h
  simp only [uJ,Option.some.injEq,Prod.mk.injEq] at h
  obtain ⟨rfl,rfl⟩:=h
  refine yF ?_ rfl ?_
  ·simp [Instr.next,getObj,Sem.run,hobj]
  grind [mh]
 ·rename_i last left hk
  rw [hk] at h
  obtain ⟨m,ents,clk,s,hT,hm,ho⟩:=hobj
  rcases ho with ⟨rfl,rfl,rfl,hr⟩ | ⟨e0,x,rfl,hlt,hpk,hpv,ho⟩
  ·grind [uJ,u5,mh]
  ·rcases ho with ⟨rfl,rfl,hr⟩ | ⟨rfl,rfl,hr⟩
   ·simp only [uJ,Option.some.injEq,Prod.mk.injEq] at h
    obtain ⟨rfl,rfl⟩:=h
    obtain ⟨w',h1,h2,h3,h4,h5⟩:=Er (P:=P) (ty:=ty) hr hm hlt
    obtain ⟨E,F',W'⟩:=Wc hF hW h2 h3 h4 h5 hA.new hA.T hA.pi hA.L
    have hmr:m≠r:=λe=>hA.T s (e▸hT)
    refine ⟨_,⟨w',G.T,G.h,G.pi,G.L⟩,h1,rfl,E,F',W',Ej (PR.ye (hpk.mono E.T E.keep)) (PR.ye (hpv.mono E.T E.keep)),hA.QL h2 ?_⟩
    unfold mh
    refine ⟨m,#[e0],clk,s,hT,?_,.inr ⟨e0,x,rfl,hlt,hpk.mono E.T E.keep,hpv.mono E.T E.keep,.inr ⟨rfl,rfl,?_⟩⟩⟩<;>grind
   grind [uJ,u5,mh]
 ·rename_i b clk seen hk
  rw [hk] at h
  obtain ⟨m,hv,hr⟩:=hobj
  simp only [uJ] at h
  split at h
  ·rename_i es c hget
   obtain ⟨l,ents,hpi,hml,hB,hent,hyo⟩:=rW hW hv hget
   simp only [Value.map.injEq,Option.some.injEq] at hml
   subst hml
   have hold:∀ x∈ents.toList,x.born<c:=by
    intro x hx
    obtain ⟨j,hj⟩:=List.getElem?_of_mem hx
    have hjl:j<es.length:=by rw [hent.1]; grind
    have he:es[j]?=some es[j]:=by simp
    rw [<- (hent.2 j es[j] x he hj).2.2.2]
    exact hyo.1 _ (List.getElem_mem hjl)
   generalize hbq:Nat.beq c clk=bq at h
   split at h
   ·rename_i sn
    have:=Nat.eq_of_beq_eq_true hbq
    subst this
    simp only [Option.some.injEq,Prod.mk.injEq] at h
    obtain ⟨rfl,rfl⟩:=h
    have he:ents.toList=[]:=List.eq_nil_of_length_eq_zero (by rw [<- hent.1]; rfl)
    grind [u5,mh]
   ·rename_i k v n
    have:=Nat.eq_of_beq_eq_true hbq
    subst this
    simp only [Option.some.injEq,Prod.mk.injEq] at h
    obtain ⟨rfl,rfl⟩:=h
    obtain ⟨e0,he0⟩:∃ e0,ents.toList=[e0]:=List.length_eq_one_iff.1 (by rw [<- hent.1]; rfl)
    have hents:ents = #[e0]:=by grind
    subst hents
    obtain ⟨_,hpk,hvv,hn⟩:=hent.2 0 (k,v,n) e0 rfl rfl
    have hn:n=e0.born:=hn
    obtain ⟨w',h1,h2,h3,h4,h5⟩:=Er (P:=P) (ty:=ty) hr hB (hold e0 (by simp))
    obtain ⟨E,F',W'⟩:=Wc hF hW h2 h3 h4 h5 hA.new hA.T hA.pi hA.L
    refine ⟨_,⟨w',G.T,G.h,G.pi,G.L⟩,h1,rfl,E,F',W',Ej (PR.ye (hpk.mono E.T E.keep)) (hvv.vr.mono E),hA.QL h2 ?_⟩
    unfold mh
    refine ⟨_,hv.mono E,?_⟩
    grind
   ·rename_i k v n n'
    have:=Nat.eq_of_beq_eq_true hbq
    subst this
    split at h
    ·rename_i hnn
     have:=Nat.eq_of_beq_eq_true hnn
     subst this
     simp only [Option.some.injEq,Prod.mk.injEq] at h
     obtain ⟨rfl,rfl⟩:=h
     obtain ⟨e0,he0⟩:∃ e0,ents.toList=[e0]:=List.length_eq_one_iff.1 (by rw [<- hent.1]; rfl)
     obtain ⟨_,_,_,hn⟩:=hent.2 0 (k,v,n) e0 rfl (by grind)
     grind [u5,mh]
    ·cases h
   ·cases h
  ·cases h
def DC (hW:WR G) {i:It} {r:Nat} (hA:rQ G0 G a i r) {x:AV×AV} (h:zU G.h i.k=some x) :
  ∃ u,(Instr.entry (.pointer (some ⟨r,0,none⟩))).run P G.w=.ok u G.w/\VR G (.je [x.1,x.2]) u:=by
 have hobj:=hA.obj
 unfold mh at hobj
 have pair:∀ {k v:AV} {ku vu:Value},VR G k ku->VR G v vu->VR G (.je [k,v]) (.tuple #[ku,vu]):=by
  intro k v ku vu hk hv
  refine .je _ _ rfl ?_
  grind
 split at hobj
 ·rename_i hk; rw [hk] at h; cases h
 ·rename_i last left hk
  rw [hk] at h
  obtain ⟨m,ents,clk,s,hT,hm,ho⟩:=hobj
  rcases ho with ⟨rfl,rfl,rfl,hr⟩ | ⟨e0,y,rfl,hlt,hpk,hpv,ho⟩
  ·cases h
  ·rcases ho with ⟨rfl,rfl,hr⟩ | ⟨rfl,rfl,hr⟩
   ·cases h
   ·simp only [zU,Option.some.injEq] at h
    subst h
    refine ⟨_,run_entry_at G.w r m clk #[] #[e0] clk e0 hr hm (by simp) (by simp),pair (PR.ye hpk) (PR.ye hpv)⟩
 ·rename_i b clk seen hk
  rw [hk] at h
  obtain ⟨m,hv,hr⟩:=hobj
  cases seen with
  | none=>cases h
  | some n =>
    simp only [zU] at h
    split at h
    ·rename_i k v n' c hget
     split at h
     ·rename_i hb
      simp only [Bool.and_eq_true] at hb
      have e1:=Nat.eq_of_beq_eq_true hb.1
      have e2:=Nat.eq_of_beq_eq_true hb.2
      subst e1; subst e2
      simp only [Option.some.injEq] at h
      subst h
      obtain ⟨l,ents,hpi,hml,hB,hent,hyo⟩:=rW hW hv hget
      simp only [Value.map.injEq,Option.some.injEq] at hml
      subst hml
      obtain ⟨e0,he0⟩:∃ e0,ents.toList=[e0]:=List.length_eq_one_iff.1 (by rw [<- hent.1]; rfl)
      have hents:ents = #[e0]:=by rw [<- Array.toArray_toList (xs:=ents),he0]
      subst hents
      obtain ⟨_,hpk,hvv,hn⟩:=hent.2 0 (k,v,n') e0 rfl rfl
      have hn:n'=e0.born:=hn
      refine ⟨_,run_entry_at G.w r l.B c #[] #[e0] c e0 (by grind) hB (by simp) (by simp),pair (PR.ye hpk) hvv.vr⟩
     ·cases h
    ·cases h
def EX (hW:WR G) (hC:jR P X.C) {t:Nat} {x:AV} {x':Value} (hx:VR G x x') {k:Aq} (h:FG X.C G.h t x=some k) {d:Nat} :
  ∃ o,(Instr.range t x').run P G.w=.ok (.pointer (some ⟨G.w.heap.size,0,none⟩)) (G.w.alloc o)/\mh ⟨G.w.alloc o,G.T,G.h,G.pi,G.L⟩ G.w.heap.size ⟨d,k⟩:=by
 unfold FG at h
 split at h
 ·rename_i ti hti
  split at h
  ·rename_i kt el hkind
   have hd:=xr hC hti hkind
   have hnew:∀ o:Obj,(G.w.alloc o).heap[G.w.heap.size]?=some o:=λo=>(kO.alloc G.w o).new (G:=G)
   have hold:∀ (o:Obj) B,B<G.w.heap.size->(G.w.alloc o).heap[B]?=G.w.heap[B]?:=λo B hB=>(kO.alloc G.w o).rY (G:=G) hB
   have hE:∀ o:Obj,Ext G ⟨G.w.alloc o,G.T,G.h,G.pi,G.L⟩:=λo=>(Cu hW o).1.ext
   unfold HA at h
   split at h
   ·cases h
    cases hx with
    | jm _ hx =>
      cases hx
      simp_all [Instr.range,run_underlying,newObj,Sem.run,mh]
   ·cases h
    cases hx with
    | jm _ hx =>
      cases hx<;>grind [run_range_map,mh]
   ·rename_i y _
    cases h
    cases hx with
    | jm _ hx =>
      cases hx with
      | fm _ _ sn m ents clk _ hB hI hl hy hko hkk hvv =>
        obtain ⟨e0,he0⟩:∃ e0,ents.toList=[e0]:=List.length_eq_one_iff.1 (by grind)
        have hents:ents = #[e0]:=by grind
        subst hents
        refine ⟨.mapIter (some m) clk #[] clk,run_range_map G.w t kt el m #[e0] clk hd hB,?_⟩
        unfold mh
        have E:=hE (.mapIter (some m) clk #[] clk)
        exact ⟨m,#[e0],clk,_,hI,(hold _ m (hW.nb _ m hI)).trans hB,.inr ⟨e0,y,rfl,hy.1 0 e0 rfl,((hkk 0 y e0 rfl rfl).GZ).mono E.T E.keep,((hvv 0 y e0 rfl rfl).GZ).mono E.T E.keep,.inl ⟨rfl,rfl,hnew _⟩⟩⟩
   ·rename_i b
    have key:∀ es c,G.h.get b=some (.map es c)->∃ o,(Instr.range t x').run P G.w=.ok (.pointer (some ⟨G.w.heap.size,0,none⟩)) (G.w.alloc o)/\mh ⟨G.w.alloc o,G.T,G.h,G.pi,G.L⟩ G.w.heap.size ⟨d,.Cl b c none⟩:=by
     intro es c hget
     obtain ⟨l,ents,hpi,rfl,hB,hent,hyo⟩:=rW hW hx hget
     refine ⟨.mapIter (some l.B) c #[] c,run_range_map G.w t kt el l.B ents c hd hB,?_⟩
     unfold mh
     exact ⟨l.B,hx.mono (hE _),hnew _⟩
    grind
   ·cases h
  ·cases h
 ·cases h
end
end Go.Sx
namespace Go.Sx
open Go
variable [DD]
section
variable {P:Program} {X:Ctx} {N:Nat} {G0 G G':Ga} {a a':Act} {Q:Exit->Act->World->Prop}
def LM {o:Op} {t:Nat} {x:Operand} (h:F9 o=.range t x):o=.range t x:=by
 unfold F9 at h
 grind
def Ml {o:Op} {t:Nat} (h:F9 o=.next t):o=.next (.tmp t) false:=by
 unfold F9 at h
 grind
def Li {o:Op} {t:Nat} (h:F9 o=.entry t):o=.entry (.tmp t):=by
 unfold F9 at h
 grind
theorem uQ {o:Oper} (h:wN o=true) (ops:Array Oper) (a:Act):Region.wanted o (yielded ops a.tmps)=true:=by
 grind [wN,Region.wanted]
def Ih (hC:jR P X.C) (hK:nL P X.call) {ops:Array Oper} (hN:ops.toList.all (o6 N)=true) :
  ∀ (l:List Oper) (i:Nat) (it:Option It) (e:Env) (h:aT) (it':Option It) (e':Env) (h':aT),ops.toList.drop i=l->yk X ops.toList l it e h=some (it',e',h') ->
  ∀ (G:Ga) (a:Act) (Q:Exit->Act->World->Prop),G.h=h->St N G0 G e a->rZ G0 G a it->(∀ G' a',G'.h=h'->St N G0 G' e' a'->rZ G0 G' a' it'->Q .normal a' G'.w)->wpOps P ops Q (List.range' i (ops.size - i)) a G.w:=by
 intro l
 induction l with
 | nil =>
   intro i it e h it' e' h' hd hr G a Q hG hS hI hQ
   simp only [yk,Option.some.injEq,Prod.mk.injEq] at hr
   obtain ⟨rfl,rfl,rfl⟩:=hr
   have:ops.size - i=0:=by
    simp_all
   rw [this]
   exact hQ G a hG hS hI
 | cons o l ih =>
   intro i it e h it' e' h' hd hr G a Q hG hS hI hQ
   have hoi:ops[i]?=some o:=by
    have h1:(ops.toList.drop i)[0]?=some o:=by grind
    grind
   have hlt:i<ops.size:=(Array.getElem?_eq_some_iff.1 hoi).1
   have hd':ops.toList.drop (i+1)=l:=by
    rw [<- List.tail_drop,hd]; rfl
   have hon:o6 N o=true:=List.all_eq_true.1 hN o (by grind)
   have hrange:List.range' i (ops.size - i)=i::List.range' (i+1) (ops.size - (i+1)):=by
    have:ops.size - i=(ops.size - (i+1))+1:=by omega
    rw [this,List.range'_succ]
   rw [hrange]
   simp only [wpOps,hoi]
   simp only [yk] at hr
   have next:=ih (i+1)
   split at hr
   ·
    rename_i t x hk
    have hop:=LM hk
    unfold Hx at hr
    split at hr
    ·rename_i k d hrt hdst hng
     subst hG
     obtain ⟨ob,hrun,hobj⟩:=EX (P:=P) (d:=d) hS.wr hC (jk hS.er x) hrt
     obtain ⟨S1,W1⟩:=Cu hS.wr ob
     rw [uQ hng]
     simp only [if_true]
     left
     unfold Oper.wp
     simp only [execOp,hop,Sem.run_bind,hrun,Result.andThen_ok,Sem.run_pure,Oper.upon_value]
     have hS1:=hS.put (o:=o) (v:=.undef) (u:=.pointer (some ⟨G.w.heap.size,0,none⟩)) S1 W1 hon (.undef _)
     have hes:iW e o .undef=FI e d .undef:=by grind [iW]
     rw [hes] at hS1
     refine next _ _ _ it' e' h' hd' hr ⟨G.w.alloc ob,G.T,G.h,G.pi,G.L⟩ _ Q rfl hS1 ⟨G.w.heap.size,?_,hS.fr.S.kT,?_,?_,?_,?_,hobj⟩ hQ
     ·rw [hdst,Act.E6 (Nat.lt_of_lt_of_le (xg hon hdst) hS.sz),if_pos rfl]
     ·simp
     ·intro s ht
      exact Nat.lt_irrefl _ (hS.wr.nb s _ ht)
     ·intro b l hl e
      have:=(hS.wr.kC b l hl).1
      omega
     ·intro d2 B hB e
      have:=(hS.wr.lT d2 B hB).1
      omega
    grind
   ·
    rename_i t hk
    have hop:=Ml hk
    unfold Kj at hr
    split at hr
    ·rename_i it0
     split at hr
     ·rename_i hb
      simp only [Bool.and_eq_true] at hb
      have hdt:=Nat.eq_of_beq_eq_true hb.1.1
      split at hr
      ·rename_i res k' hnx
       obtain ⟨r,hA⟩:=hI
       subst hG
       obtain ⟨u,G1,hrun,hh,E1,F1,W1,hv,hA1⟩:=FR (P:=P) hS.fr hS.wr hA hnx o.type
       rw [uQ hb.2]
       simp only [if_true]
       left
       unfold Oper.wp
       have hat:a.eval (.tmp t)=.pointer (some ⟨r,0,none⟩):=by rw [<- hdt]; exact hA.at_
       simp only [execOp,hop,hat,Sem.run_bind,hrun,Result.andThen_ok,Sem.run_pure,Oper.upon_value]
       have hS1:St N G0 G1 (iW e o (zr res)) (a.put o.dst u) :=
        ⟨F1,W1,(hS.er.mono E1).put hS.sz hon hv,by rw [Act.Fe]; exact hS.df,by rw [Act.AN]; exact hS.sz⟩
       refine next _ _ _ it' e' h' hd' hr G1 _ Q hh hS1 ⟨r,?_,hA1.new,hA1.lt,hA1.T,hA1.pi,hA1.L,hA1.obj⟩ hQ
       grind [uD]
      grind
     grind
    grind
   ·
    rename_i t hk
    have hop:=Li hk
    unfold G9 at hr
    split at hr
    ·rename_i it0
     split at hr
     ·rename_i hb
      simp only [Bool.and_eq_true] at hb
      have hdt:=Nat.eq_of_beq_eq_true hb.1.1
      split at hr
      ·rename_i x hnx
       obtain ⟨r,hA⟩:=hI
       subst hG
       obtain ⟨u,hrun,hv⟩:=DC (P:=P) hS.wr hA hnx
       rw [uQ hb.2]
       simp only [if_true]
       left
       unfold Oper.wp
       have hat:a.eval (.tmp t)=.pointer (some ⟨r,0,none⟩):=by rw [<- hdt]; exact hA.at_
       simp only [execOp,hop,hat,Sem.run_bind,hrun,Result.andThen_ok,Sem.run_pure,Oper.upon_value]
       refine next _ _ _ it' e' h' hd' hr G _ Q rfl (hS.put (.refl G) hS.wr hon hv) ⟨r,hA.step (.refl G) (uD hb.1.2 it0 rfl)⟩ hQ
      grind
     grind
    grind
   ·
    split at hr
    ·rename_i haw
     cases hw:jg ops.toList e o with
     | none=>rw [hw] at hr; cases hr
     | some b =>
       rw [hw] at hr
       rw [uu (λ_ _ d _ _ _ _ _=>hS.er.rel d) hw]
       cases b with
       | false =>
         simp only [Bool.false_eq_true,if_false]
         simp only [Fj] at hr
         exact next _ _ _ it' e' h' hd' hr G _ Q hG (hS.put (.refl G) hS.wr hon (VR.J8 G)) (hI.step (.refl G) (uD haw)) hQ
       | true =>
         simp only [if_true]
         simp only [Fj] at hr
         split at hr
         ·rename_i v h1 hop
          simp only [zn] at hr
          subst hG
          have:=xq hS.wr hC hS.er hK hop
          left
          refine this _ Q (λu G' hh hst hwr hv=>?_)
          exact next _ _ _ it' e' h' hd' hr G' _ Q hh (hS.put hst hwr hon hv) (hI.step hst (uD haw)) hQ
         grind
    grind
   grind
theorem vE (live:List Nat) (k:Env->aT->uG) (e:Env) (h:aT):wi live k e h=k (proj live e) { h with iq:=kS live h.iq }:=by
 unfold wi
 simp
theorem rZ.lH {it:Option It} (h:rZ G0 G a it) (live:List Nat):rZ G0 (G.jI (kS live G.h.iq) (o3 live G.L)) a it:=by
 refine h.jI ?_
 grind [o3]
def Bf (P:Program) (X:Ctx) (N:Nat) (G0:Ga) (n:Nat) (c:Code):Prop:=∀ (an:lz) (it:Option It) (e:Env) (h:aT) (x:Ex) (it':Option It) (e':Env) (h':aT),mN X n c an it e h=some (x,it',e',h')->codeOk N X.fa.jl c an=true ->
 ∀ (G:Ga) (a:Act) (Q:Exit->Act->World->Prop),G.h=h->St N G0 G e a->rZ G0 G a it->(∀ G' a',G'.h=h'->St N G0 G' e' a'->rZ G0 G' a' it'->Q (As x) a' G'.w)->c.wp P Q a G.w
def Gp {c:Code} {n0:Nat} (ih:Bf P X N G0 n0 c) {live:List Nat} {y:lz} (hok:codeOk N X.fa.jl c y=true) :
  ∀ (n:Nat) (it:Option It) (e:Env) (h:aT) (x:Ex) (it':Option It) (e':Env) (h':aT),Cc n (λit e h=>wi live (mN X n0 c y it) e h) it e h=some (x,it',e',h') ->
  ∀ (G:Ga) (a:Act) (Q:Exit->Act->World->Prop),G.h=h->St N G0 G e a->rZ G0 G a it->(∀ G' a',G'.h=h'->St N G0 G' e' a'->rZ G0 G' a' it'->Q (As x) a' G'.w)->(Code.loop c).wp P Q a G.w:=by
 intro n it e h x it' e' h' hr G a Q hG hS hI hQ
 refine AQ (λm a w=>∃ G it e,G.w=w/\St N G0 G e a/\rZ G0 G a it/\Cc m (λit e h=>wi live (mN X n0 c y it) e h) it e G.h=some (x,it',e',h')) ?_ n a G.w ⟨G,it,e,rfl,hS,hI,by grind⟩
 rintro m a _ ⟨G,it,e,rfl,hS,hI,hr⟩
 cases m with
 | zero=>cases hr
 | succ m =>
   simp only [Cc] at hr
   have hj:=hS.lH live
   have hji:=hI.lH live
   split at hr
   ·rename_i it1 e1 h1 hb
    rw [vE] at hb
    refine ih y _ _ _ _ _ _ _ hb hok (G.jI (kS live G.h.iq) (o3 live G.L)) a _ rfl hj hji ?_
    intro G' a' hG' hS' hI'
    exact ⟨m,Nat.lt_succ_self _,G',it1,e1,rfl,hS',hI',by grind⟩
   ·rename_i hne
    rw [vE] at hr
    refine ih y _ _ _ _ _ _ _ hr hok (G.jI (kS live G.h.iq) (o3 live G.L)) a _ rfl hj hji ?_
    intro G' a' hG' hS' hI'
    cases x with
    | j1=>grind [vE]
    | ext id=>exact hQ G' a' hG' hS' hI'
    | ret=>exact hQ G' a' hG' hS' hI'
def Gq (hm:P.follows .mixedOrders=true) (hC:jR P X.C) (hK:nL P X.call) (hIso:oz X.call) (n:Nat):∀ c:Code,Bf P X N G0 n c:=by
 intro c
 induction c with
 | skip =>
   intro an it e h x it' e' h' hr _ G a Q hG hS hI hQ
   simp only [mN,Option.some.injEq,Prod.mk.injEq] at hr
   obtain ⟨rfl,rfl,rfl,rfl⟩:=hr
   exact wp_skip (hQ G a hG hS hI)
 | label l =>
   intro an it e h x it' e' h' hr _ G a Q hG hS hI hQ
   simp only [mN,Option.some.injEq,Prod.mk.injEq] at hr
   obtain ⟨rfl,rfl,rfl,rfl⟩:=hr
   exact wp_label (hQ G a hG hS hI)
 | exit id =>
   intro an it e h x it' e' h' hr _ G a Q hG hS hI hQ
   simp only [mN,Option.some.injEq,Prod.mk.injEq] at hr
   obtain ⟨rfl,rfl,rfl,rfl⟩:=hr
   exact wp_exit (hQ G a hG hS hI)
 | ret =>
   intro an it e h x it' e' h' hr _ G a Q hG hS hI hQ
   simp only [mN,Option.some.injEq,Prod.mk.injEq] at hr
   obtain ⟨rfl,rfl,rfl,rfl⟩:=hr
   exact wp_ret (hQ G a hG hS hI)
 | region id ops draw =>
   intro an it e h x it' e' h' hr hok G a Q hG hS hI hQ
   cases draw with
   | true =>
     simp only [mN] at hr
     split at hr
     ·rename_i haw
      unfold K8 at hr
      split at hr
      ·rename_i x1 e1 h1 hb
       simp only [Option.some.injEq,Prod.mk.injEq] at hr
       obtain ⟨rfl,rfl,rfl,rfl⟩:=hr
       simp only [ym] at hb
       split at hb
       ·rename_i sch
        unfold xz at hb
        split at hb
        ·rename_i e2 h2 hb2
         simp only [Option.some.injEq,Prod.mk.injEq] at hb
         obtain ⟨rfl,rfl,rfl⟩:=hb
         simp only [codeOk,Bool.and_eq_true] at hok
         have hJ:KU ops (λG a=>rZ G0 G a it):=by
          refine ⟨λG G' a h S=>h.step S (λ_ _=>rfl),?_,?_⟩
          ·intro G a o u ho h
           exact h.step (.refl G) (uD (List.all_eq_true.1 haw o ho))
          ·intro G G' a bs ds h S
           cases it with
           | none=>trivial
           | some i =>
             obtain ⟨r,h⟩:=h
             exact ⟨r,h.fill S⟩
         exact yB hJ hm hC hK hIso hok.2 hok.1 hb2 hG hS hI (λG' a' k1 k2 k3=>hQ G' a' k1 k2 k3)
        grind
       grind
      grind
     grind
   | false =>
     simp only [mN] at hr
     simp only [codeOk,Bool.and_eq_true] at hok
     unfold VK at hr
     split at hr
     ·rename_i it1 e1 h1 hb
      simp only [Option.some.injEq,Prod.mk.injEq] at hr
      obtain ⟨rfl,rfl,rfl,rfl⟩:=hr
      refine wp_region ?_
      have:=Ih hC hK hok.1 ops.toList 0 it e h it1 e1 h1 (by simp) hb G a Q hG hS hI (λG' a' k1 k2 k3=>hQ G' a' k1 k2 k3)
      rw [Nat.sub_zero,<- List.range_eq_range'] at this
      exact this
     grind
 | seq p q ihp ihq =>
   intro an it e h x it' e' h' hr hok G a Q hG hS hI hQ
   simp only [mN,Uj] at hr
   have key:∀ (y:lz) (k:Option It->Env->aT->uG),codeOk N X.fa.jl p y=true->D6 k (mN X n p y it e h)=some (x,it',e',h') ->
     (∀ it1 e1 h1,k it1 e1 h1=some (x,it',e',h')->∀ G1 a1,G1.h=h1->St N G0 G1 e1 a1->rZ G0 G1 a1 it1->q.wp P Q a1 G1.w)->(Code.seq p q).wp P Q a G.w:=by
    intro y k hoy hr hk
    unfold D6 at hr
    split at hr
    ·rename_i it1 e1 h1 hb
     refine wp_seq (ihp y _ _ _ _ _ _ _ hb hoy G a _ hG hS hI ?_)
     intro G1 a1 hG1 hS1 hI1
     exact hk it1 e1 h1 hr G1 a1 hG1 hS1 hI1
    ·rename_i hne
     refine wp_seq (ihp y _ _ _ _ _ _ _ hr hoy G a _ hG hS hI ?_)
     intro G1 a1 hG1 hS1 hI1
     cases x with
     | j1=>grind
     | ext id=>exact hQ G1 a1 hG1 hS1 hI1
     | ret=>exact hQ G1 a1 hG1 hS1 hI1
   split at hr
   ·rename_i live y z
    simp only [codeOk,Bool.and_eq_true] at hok
    refine key y _ hok.1 hr ?_
    intro it1 e1 h1 hk G1 a1 hG1 hS1 hI1
    rw [vE] at hk
    rw [<- hG1] at hk
    exact ihq z _ _ _ _ _ _ _ hk hok.2 (G1.jI (kS live G1.h.iq) (o3 live G1.L)) a1 Q rfl (hS1.lH live) (hI1.lH live) hQ
   ·rename_i y z
    simp only [codeOk,Bool.and_eq_true] at hok
    refine key y _ hok.1 hr ?_
    intro it1 e1 h1 hk G1 a1 hG1 hS1 hI1
    exact ihq z _ _ _ _ _ _ _ hk hok.2 G1 a1 Q hG1 hS1 hI1 hQ
   grind
 | cond c p q ihp ihq =>
   intro an it e h x it' e' h' hr hok G a Q hG hS hI hQ
   simp only [mN,PW] at hr
   split at hr
   ·rename_i y z
    simp only [codeOk,Bool.and_eq_true] at hok
    have hv:=jk hS.er c
    split at hr
    ·rename_i hb
     rw [bool?_eq hb] at hv
     exact wp_cond_true hv.of_bool (ihp y _ _ _ _ _ _ _ hr hok.1 G a Q hG hS hI hQ)
    ·rename_i hb
     rw [bool?_eq hb] at hv
     exact wp_cond_false hv.of_bool (ihq z _ _ _ _ _ _ _ hr hok.2 G a Q hG hS hI hQ)
    grind
   grind
 | block id p ih =>
   intro an it e h x it' e' h' hr hok G a Q hG hS hI hQ
   simp only [mN] at hr
   simp only [codeOk] at hok
   refine wp_block ?_
   unfold Wf at hr
   split at hr
   ·rename_i id' it1 e1 h1 hb
    split at hr
    ·rename_i hid
     have hid:=Nat.eq_of_beq_eq_true hid
     simp only [Option.some.injEq,Prod.mk.injEq] at hr
     obtain ⟨rfl,rfl,rfl,rfl⟩:=hr
     refine ih an _ _ _ _ _ _ _ hb hok G a _ hG hS hI ?_
     intro G1 a1 hG1 hS1 hI1
     show Exit.inBlock id Q (.exit id') a1 G1.w
     simp only [Exit.inBlock,hid,if_true]
     exact hQ G1 a1 hG1 hS1 hI1
    ·rename_i hid
     have hid:=Nat.ne_of_beq_eq_false hid
     simp only [Option.some.injEq,Prod.mk.injEq] at hr
     obtain ⟨rfl,rfl,rfl,rfl⟩:=hr
     refine ih an _ _ _ _ _ _ _ hb hok G a _ hG hS hI ?_
     intro G1 a1 hG1 hS1 hI1
     show Exit.inBlock id Q (.exit id') a1 G1.w
     simp only [Exit.inBlock,hid,if_false]
     exact hQ G1 a1 hG1 hS1 hI1
   ·rename_i hne
    refine ih an _ _ _ _ _ _ _ hr hok G a _ hG hS hI ?_
    intro G1 a1 hG1 hS1 hI1
    cases x with
    | j1=>exact hQ G1 a1 hG1 hS1 hI1
    | ext id'=>grind
    | ret=>exact hQ G1 a1 hG1 hS1 hI1
 | loop p ih =>
   intro an it e h x it' e' h' hr hok G a Q hG hS hI hQ
   simp only [mN] at hr
   split at hr
   ·rename_i live y
    simp only [codeOk] at hok
    exact Gp ih hok n it e h x it' e' h' hr G a Q hG hS hI hQ
   grind
 | scope p ih =>
   intro an it e h x it' e' h' hr hok G a Q hG hS hI hQ
   simp only [mN] at hr
   simp only [codeOk] at hok
   refine wp_scope_straight (ih an _ _ _ _ _ _ _ hr hok G a _ hG hS hI ?_)
   intro G1 a1 hG1 hS1 hI1
   cases x with
   | j1=>exact hQ G1 a1 hG1 hS1 hI1
   | ext id=>exact hQ G1 a1 hG1 hS1 hI1
   | ret=>exact hQ G1 a1 hG1 hS1 hI1
 | _=>intro an it e h x it' e' h' hr; cases hr
def Gx (hm:P.follows .mixedOrders=true) (hC:jR P X.C) (hK:nL P X.call) (hI:oz X.call) {n:Nat} {c:Code} {an:lz} {b:Bool} {e:Env} {h:aT} {x:Ex} {e':Env} {h':aT} (hr:A8 X n c an e h b=some (x,e',h')) (hok:codeOk N X.fa.jl c an=true)
  {G:Ga} {a:Act} {Q:Exit->Act->World->Prop} (hG:G.h=h) (hS:St N G0 G e a) (hQ:∀ G' a',G'.h=h'->St N G0 G' e' a'->Q (As x) a' G'.w):c.wp P Q a G.w:=by
 cases b with
 | false=>exact tC hm hC hK hI n c an e h x e' h' hr hok G a Q hG hS hQ
 | true =>
   simp only [A8] at hr
   unfold L5 at hr
   split at hr
   ·rename_i x1 it1 e1 h1 hb
    simp only [Option.some.injEq,Prod.mk.injEq] at hr
    obtain ⟨rfl,rfl,rfl⟩:=hr
    exact Gq hm hC hK hI n c an none e h x1 it1 e1 h1 hb hok G a Q hG hS trivial (λG' a' k1 k2 _=>hQ G' a' k1 k2)
   grind
end
end Go.Sx
namespace Go.Sx
open Go
variable [DD]
def xw (G:Ga) (v:AV) (u:Value):Prop :=
 VC G v u\/∃ l vs,v=.je l/\u=.tuple vs/\l.length=vs.size/\∀ (i:Nat) (x:AV) (y:Value),l[i]?=some x->vs[i]?=some y->VC G x y
theorem xw.jI {G:Ga} {m:kI} {L:Nat->Option Nat} {v:AV} {u:Value} (h:xw G v u):xw (G.jI m L) v u:=by
 rcases h with h | ⟨l,vs,rfl,rfl,h1,h2⟩
 ·exact .inl h.jI
 ·exact .inr ⟨l,vs,rfl,rfl,h1,λi x y a b=>(h2 i x y a b).jI⟩
def xw.vr {G:Ga} {v:AV} {u:Value} (h:xw G v u):VR G v u:=by
 rcases h with h | ⟨l,vs,rfl,rfl,h1,h2⟩
 ·exact h.vr
 ·exact .je l vs h1 (λi x y a b=>(h2 i x y a b).vr)
def Fz (tmps:Array Value):ResultVar->Sem Value
 | .tmp t=>pure (tmps.getD t undef)
 | .cell a t=>do loadVar t (<- asAddr (tmps.getD a undef))
section
variable {P:Program} {C:jE} {G:Ga} {e:Env} {a:Act}
def Ip (hW:WR G) (hC:jR P C) (hE:ER G e a) {r:ResultVar} {v:AV} (h:IS C e G.h r=some v):∃ u,(Fz a.tmps r).run P G.w=.ok u G.w/\VR G v u:=by
 cases r with
 | tmp t =>
   simp only [IS,Option.some.injEq] at h
   subst h
   exact ⟨a.tmps.getD t undef,by rfl,hE.rel t⟩
 | cell b t =>
   simp only [IS] at h
   split at h
   ·rename_i ti hti
    obtain ⟨u,hu,hv,_⟩:=B7 hW (hC.ty t ti hti) (hE.rel b) h
    refine ⟨u,?_,hv⟩
    have hx:a.eval (.tmp b)=a.tmps.getD b undef:=rfl
    rw [hx] at hu
    show (do loadVar t (<- asAddr (a.tmps.getD b undef)):Sem Value).run P G.w = _
    generalize a.tmps.getD b undef=x at hu ⊢
    cases x with
    | pointer p =>
      cases p with
      | some ad=>grind [Instr.loadAt,Instr.sureAddr,asAddr]
      | none=>simp [Instr.loadAt,Instr.sureAddr,Sem.run_bind,Result.andThen] at hu
    | _=>simp [Instr.loadAt,Instr.sureAddr,Sem.run_bind,Result.andThen] at hu
   ·cases h
def Bz (hW:WR G) (hC:jR P C) (hE:ER G e a):∀ (l:List ResultVar) (vs:List AV),CL C e G.h l=some vs ->
  ∃ us:List Value,(l.mapM (Fz a.tmps)).run P G.w=.ok us G.w/\vs.length=us.length/\∀ (i:Nat) (x:AV) (y:Value),vs[i]?=some x->us[i]?=some y->VR G x y
 | [],vs,h=>by
   simp_all [CL]
 | r::l,vs,h=>by
   simp only [CL] at h
   split at h
   ·cases h
   ·rename_i v hv
    split at h
    ·cases h
    ·rename_i vs' hvs
     simp only [Option.some.injEq] at h
     subst h
     obtain ⟨u,h1,h2⟩:=Ip hW hC hE hv
     obtain ⟨us,k1,k2,k3⟩:=Bz hW hC hE l vs' hvs
     refine ⟨u::us,?_,by simp [k2],?_⟩
     ·simp only [List.mapM_cons,Sem.run_bind,h1,Result.andThen_ok,k1,Sem.run_pure]
     ·intro i x y hx hy
      cases i with
      | zero =>
        simp only [List.getElem?_cons_zero,Option.some.injEq] at hx hy
        subst hx; subst hy
        exact h2
      | succ i =>
        rw [List.getElem?_cons_succ] at hx hy
        exact k3 i x y hx hy
def yo (hW:WR G) (hC:jR P C) (hE:ER G e a) {fn:Func} {v:AV} {h':aT} (h:leave.leave1 C fn.results.toList e G.h=some (v,h')) :
  h'=G.h/\∃ u,(results fn a.tmps).run P G.w=.ok u G.w/\xw G v u:=by
 unfold leave.leave1 at h
 split at h
 ·rename_i vs hvs
  split at h
  ·rename_i hok
   simp only [Option.some.injEq,Prod.mk.injEq] at h
   obtain ⟨rfl,rfl⟩:=h
   refine ⟨rfl,?_⟩
   obtain ⟨us,k1,k2,k3⟩:=Bz hW hC hE _ _ hvs
   have hna:∀ x∈vs,x.mJ=true:=λx hx=>E9 (List.all_eq_true.1 hok x hx)
   have hrun:(results fn a.tmps).run P G.w=.ok (if h:us.toArray.size=1 then us.toArray[0] else .tuple us.toArray) G.w:=by
    have:results fn a.tmps=(do let vs <- fn.results.mapM (Fz a.tmps); pure (if h:vs.size=1 then vs[0] else .tuple vs)):=by
     rfl
    rw [this,Array.mapM_eq_mapM_toList]
    simp_all
   rcases vs with _ | ⟨x,_ | ⟨x2,vs⟩⟩
   ·have:us=[]:=List.eq_nil_of_length_eq_zero (by grind)
    subst this
    exact ⟨_,hrun,.inr ⟨[],#[],rfl,rfl,rfl,by simp⟩⟩
   ·obtain ⟨y,rfl⟩:∃ y,us=[y]:=List.length_eq_one_iff.1 (by grind)
    refine ⟨y,by grind,.inl ⟨k3 0 x y rfl rfl,hna x List.mem_cons_self⟩⟩
   ·have hsz:us.toArray.size≠1:=by grind
    rw [dif_neg hsz] at hrun
    refine ⟨_,hrun,.inr ⟨_,_,rfl,rfl,by omega,?_⟩⟩
    intro i p q hp hq
    exact ⟨k3 i p q hp (by grind),hna p (List.mem_of_getElem? hp)⟩
  ·cases h
 ·cases h
theorem z8:∀ (l:List AV) (k t:Nat),lE (params k l) t=if t<k then .undef else (l[t - k]?).getD .undef
 | [],k,t=>by simp [params,lE]
 | v::l,k,t=>by
   simp only [params,lE]
   cases hq:Nat.beq t k with
   | true =>
     have:=Nat.eq_of_beq_eq_true hq
     subst this
     simp
   | false =>
     have hne:=Nat.ne_of_beq_eq_false hq
     simp only [z8 l (k+1) t]
     by_cases h:t<k
     ·rw [if_pos (by omega),if_pos h]
     ·rw [if_neg (by omega),if_neg h]
      rw [show t - k=(t - (k+1))+1 by omega,List.getElem?_cons_succ]
def Dp {args:List AV} {args':Array Value} (hl:args.length=args'.size) (hr:∀ (i:Nat) (x:AV) (y:Value),args[i]?=some x->args'[i]?=some y->VC G x y) (k:Nat) :
  ER G (params 0 args) { tmps:=args'++Array.replicate k undef,defers:=[] }:=by
 constructor
 intro t
 rw [z8]
 simp only [Nat.not_lt_zero,if_false,Nat.sub_zero]
 simp only [Act.eval,Array.getD_eq_getD_getElem?]
 by_cases h:t<args.length
 ·have h1:args[t]?=some args[t]:=by simp [h]
  have h2:t<args'.size:=by omega
  have h3:args'[t]?=some args'[t]:=by simp [h2]
  rw [Array.getElem?_append_left h2,h1,h3]
  exact (hr t _ _ h1 h3).vr
 ·have h1:args[t]?=none:=by grind
  rw [h1]
  exact .undef _
structure iy (P:Program) (f:Nat) (fa:iC):Prop where
 ex : ∃ fn : Func, P.funcs[f]? = some fn ∧ fn.body = some fa.body ∧ fn.results.toList = fa.res ∧ (fn.name == "runtime.NumGoroutine") = false ∧ codeOk fn.ntmps fa.jl fa.body fa.mv = true
def A7 (hm:P.follows .mixedOrders=true) (hC:jR P C) {call:qA} (hK:nL P call) (hI:oz call) {n f:Nat} {fa:iC} (hF:iy P f fa) {args:List AV} {v:AV} {h':aT}
  (h:tJ C fa call n args G.h=some (v,h')) (hlo:G.h.iq=[]) (hL:∀ d,G.L d=none) (hW:WR G) {args':Array Value} (hl:args.length=args'.size)
  (hr:∀ (i:Nat) (x:AV) (y:Value),args[i]?=some x->args'[i]?=some y->VC G x y) {R:Ending->World->Prop}
  (hR:∀ u G',Step G G'->WR G'->(∀ d,G'.L d=none)->G'.h = { h' with iq:=[] }->xw G' v u->R (.returned u) G'.w):Calls P f args' G.w R:=by
 obtain ⟨fn,hfn,hbody,hres,_,hcode⟩:=hF.ex
 unfold tJ at h
 generalize hc:A8 ⟨C,fa,call⟩ n fa.body fa.mv (params 0 args) G.h fa.iter=rc at h
 have main:∀ (x:Ex) (e':Env) (h1:aT),rc=some (x,e',h1)->(x=.j1\/x=.ret)->leave.leave1 C fa.res e' h1=some (v,h')->Calls P f args' G.w R:=by
  intro x e' h1 hrc hx hlv
  subst hrc
  refine calls_of_wp hfn hbody ?_
  have hfr:Fr G G:=by
   refine ⟨⟨⟨λ_ _ h=>h,λ_ _ _=>rfl,Nat.le_refl _,λ_ _ g z xs h=>⟨g,z,xs,h,Nat.le_refl _,λ_=>⟨rfl,λ_ h=>h⟩⟩,λ_ _ es c h=>⟨es,c,h,λ_ h=>h⟩,λd B h=>by grind⟩,rfl,rfl,.rfl _,Nat.le_refl _,λ_ _ _ _=>rfl,
    λ_ l h=>.inl ⟨l,h,rfl⟩,λ_ _ h=>.inl (by rw [show G.pi _ = _ from h]; rfl),λ_ _ h=>.inl h,rfl,λ_ _ _=>rfl,λ_ _ h=>(by cases h),λ_ _ h=>(by cases h),?_⟩,λd B h=>by grind⟩
   intro d c _ hd
   rw [hlo] at hd
   cases hd
  have hSt:St fn.ntmps G G (params 0 args) { tmps:=args'++Array.replicate (fn.ntmps - args'.size) undef,defers:=[] } :=
   ⟨hfr,hW,Dp hl hr _,rfl,by grind⟩
  refine Gx (X:=⟨C,fa,call⟩) (N:=fn.ntmps) (G0:=G) hm hC hK hI hc hcode rfl hSt ?_
  intro G1 a1 hG1 hS1
  have hpost:∃ u,(results fn a1.tmps).run P G1.w=.ok u G1.w/\R (.returned u) G1.w:=by
   rw [<- hG1,<- hres] at hlv
   obtain ⟨e1,u,e2,e3⟩:=yo hS1.wr hC hS1.er hlv
   refine ⟨u,e2,?_⟩
   exact hR u (G1.jI [] λ_=>none) hS1.fr.S (hS1.wr.D3 (λd B h=>by cases h) (λd B h=>by cases h)) (λ_=>rfl) (by rw [e1]; rfl) e3.jI
  rcases hx with rfl | rfl
  ·exact ⟨hS1.df,hpost⟩
  ·exact ⟨hS1.df,hpost⟩
 cases rc with
 | none=>cases h
 | some p =>
   obtain ⟨x,e',h1⟩:=p
   cases x with
   | j1=>exact main .j1 e' h1 rfl (.inl rfl) h
   | ret=>exact main .ret e' h1 rfl (.inr rfl) h
   | ext id=>cases h
end
end Go.Sx
namespace Go.Sx
open Go
variable [DD]
def PR.HR {w:World} {T T':Bool->Nat->Prop} {m:Bool} {v:AV} {u:Value} (h:PR w T m v u) (hm:m=false) (hT:∀ B,T false B->T' false B):PR w T' m v u:=by
 induction h with
 | undef m v h=>exact .undef m v h
 | bool m b=>exact .bool m b
 | int m k n=>exact .int m k n
 | str m s b h=>exact .str m s b h
 | jV m=>exact .jV m
 | ip m cells off sn B base c e fr f hm' hB hB' hc h1 hr ih =>
   have hs:sn=false:=by
    grind
   subst hs
   exact .ip m cells off false B base c e fr f hm' hB (hT B hB') hc h1 (λi x hx=>ih i x hx rfl)
 | slnil m=>exact .slnil m
 | ng m cap a c hm' h=>exact .ng m cap a c hm' h
 | sl m xs cap B base c e fr cap' esz f hm' hB hB' hcap hle hz hc h1 hr ih =>
   have hs:pr cap=false:=by
    grind
   refine .sl m xs cap B base c e fr cap' esz f hm' hB (by grind) hcap hle hz hc h1 ?_
   grind
 | ka m=>exact .ka m
 | fm m es sn r ents clk hm' hB hB' hl hy hko hk hv ihk ihv =>
   have hs:sn=false:=by
    grind
   subst hs
   exact .fm m es false r ents clk hm' hB (hT r hB') hl hy hko (λi p e h1 h2=>ihk i p e h1 h2 rfl) (λi p e h1 h2=>ihv i p e h1 h2 rfl)
 | kX m=>exact .kX m
 | jz m g a c a' c' ha hc hra hrc iha ihc=>exact .jz m g a c a' c' ha hc (λi x y h1 h2=>iha i x y h1 h2 hm) (λi x y h1 h2=>ihc i x y h1 h2 hm)
 | agg m l vs hl h1 hr ih=>exact .agg m l vs hl h1 (λi x y h1 h2=>ih i x y h1 h2 hm)
section
variable {P:Program} {C:jE} {G:Ga}
def Wm (G:Ga):Bool->Nat->Prop:=λs B=>G.T s B\/(s=true/\∃ b l,G.pi b=some l/\l.B=B)
def pq (G:Ga):Ga:=⟨G.w,Wm G,aT.empty,λ_=>none,λ_=>none⟩
theorem Dq (b:Nat):aT.empty.get b=none:=by
 rfl
def Hp (hW:WR G):WR (pq G) where
 iH:=λ_ _ _ _ _ h=>by cases h
 map:=λ_ _ _ _ h=>by cases h
 loc:=λ_ _ _ h=>by cases h
 kC:=λ_ _ h=>by cases h
 mL:=λ_ _ _ _ h=>by cases h
 p6:=λ_ _ _ h=>by cases h
 oh:=λ_ _ _ h=>by cases h
 LT:=λ_ _ _ h=>by cases h
 oO:=λ_ _ _ _ h=>by cases h
 lT:=λ_ _ h=>by cases h
 nb:=by
  intro s B h
  rcases h with h | ⟨_,b,l,h1,rfl⟩
  ·exact hW.nb s B h
  ·exact (hW.kC b l h1).1
 lo:=Nat.le_refl _
 lt:=λb o h=>by grind [pq,aT.empty,Dq]
def WT {x:AV} {u:Value} (h:VR G x u) (hx:x.qL=false) (hn:x.mJ=true):VR (pq G) x u:=by
 have jm:∀ (x:AV) (u:Value),VR G x u->x.kg=true->VR (pq G) x u:=by
  intro x u h hi
  cases h with
  | jm _ h=>exact .jm hi (h.mono (λs B t=>.inl t) (λ_ _ _=>rfl))
  | _=>simp [AV.kg] at hi
 have hp:∀ x:AV,x.lG=true->x.kg=true:=by
  intro x hx
  cases x<;>simp_all [AV.lG,AV.kg]
 have jz:∀ (g:Nat) (a c:List AV) (u:Value),VR G (.jz g a c) u->(a.all AV.lG&&c.all AV.lG)=true->VR (pq G) (.jz g a c) u:=by
  intro g a c u h hx
  simp only [Bool.and_eq_true,List.all_eq_true] at hx
  cases h with
  | jm hi _=>simp [AV.kg] at hi
  | jz _ _ _ a' c' ha hc hna hnc hra hrc =>
    exact .jz g a c a' c' ha hc hna hnc (λi x y h1 h2=>jm x y (hra i x y h1 h2) (hp x (hx.1 x (List.mem_of_getElem? h1)))) (λi x y h1 h2=>jm x y (hrc i x y h1 h2) (hp x (hx.2 x (List.mem_of_getElem? h1))))
 cases x with
 | undef=>exact .undef _
 | bool b=>exact jm _ _ h rfl
 | int k n=>exact jm _ _ h rfl
 | str s=>exact jm _ _ h rfl
 | jV=>exact jm _ _ h rfl
 | ip c o s=>exact jm _ _ h rfl
 | la d o=>cases hn
 | ptr b g i o=>simp [AV.qL] at hx
 | sl xs c=>exact jm _ _ h rfl
 | hs b g o l=>simp [AV.qL] at hx
 | ka=>exact jm _ _ h rfl
 | fm es s=>exact jm _ _ h rfl
 | hm b=>simp [AV.qL] at hx
 | jz g a c =>
   grind [AV.qL]
 | kX=>exact jm _ _ h rfl
 | agg l =>
   simp only [AV.qL] at hx
   rw [List.any_eq_false] at hx
   cases h with
   | jm hi _=>simp [AV.kg] at hi
   | agg _ vs hl hna h1 hr =>
     refine .agg l vs hl hna h1 ?_
     intro i x y hi hy
     have hv:=hr i x y hi hy
     have hxx:=hx x (List.mem_of_getElem? hi)
     have hxn:=hna x (List.mem_of_getElem? hi)
     cases x with
     | undef=>exact .undef _
     | bool b=>exact jm _ _ hv rfl
     | int k n=>exact jm _ _ hv rfl
     | str s=>exact jm _ _ hv rfl
     | jV=>exact jm _ _ hv rfl
     | ip c o s=>exact jm _ _ hv rfl
     | la d o=>cases hxn
     | ptr b g i o=>grind
     | sl xs c=>exact jm _ _ hv rfl
     | hs b g o l=>grind
     | ka=>exact jm _ _ hv rfl
     | fm es s=>exact jm _ _ hv rfl
     | hm b=>grind
     | jz g a c =>
       grind
     | kX=>exact jm _ _ hv rfl
     | agg l2 =>
       cases hv<;>grind [AV.kg,Value.oneCell']
     | je l2=>cases hxn
 | je l=>cases hn
def xQ (hW:WR G) {args nR:List AV} (h:kR G.h args=some nR) {args':Array Value} (hl:args.length=args'.size)
  (hr:∀ (i:Nat) (x:AV) (y:Value),args[i]?=some x->args'[i]?=some y->VC G x y) :
  nR.length=args'.size/\∀ (i:Nat) (x:AV) (y:Value),nR[i]?=some x->args'[i]?=some y->VC (pq G) x y:=by
 unfold kR at h
 split at h
 ·obtain ⟨h1,h2⟩:=lr h
  refine ⟨h1.trans hl,?_⟩
  intro i x y hx hy
  obtain ⟨x0,k1,k2⟩:=h2 i x hx
  have hv:=hr i x0 y k1 hy
  have:PR G.w (Wm G) true x y:=yf hW (λs B t=>.inl t) (λb l hp=>.inr ⟨rfl,b,l,hp,rfl⟩) 8 x0 x y k2 hv.na hv.vr
  exact PR.vR (G:=pq G) this
 ·rename_i hany
  simp only [Option.some.injEq] at h
  subst h
  refine ⟨hl,?_⟩
  intro i x y hx hy
  have hv:=hr i x y hx hy
  rw [List.any_eq_false] at hany
  exact ⟨WT hv.vr (by grind) hv.na,hv.na⟩
def UP (G G2:Ga):Bool->Nat->Prop:=λs B=>G.T s B\/(s=false/\G.w.heap.size<=B/\(G2.T false B\/∃ b l,G2.pi b=some l/\l.B=B))
def tb (G G2:Ga):Ga:=⟨G2.w,UP G G2,G.h,G.pi,G.L⟩
def Dc (hW:WR G) (hL:∀ d,G.L d=none) {G2:Ga} (S:Step (pq G) G2) (W2:WR G2):Step G (tb G G2)/\WR (tb G G2):=by
 have hpi2:∀ b l,G2.pi b=some l->G.w.heap.size<=l.B:=by
  intro b l h
  rcases S.mT b l h with ⟨l0,h0,_⟩ | hge
  ·cases h0
  ·exact hge
 have E:Ext G (tb G G2):=by
  refine ⟨λs B t=>.inl t,?_,Nat.le_refl _,λ_ _ g z xs h=>⟨g,z,xs,h,Nat.le_refl _,λ_=>⟨rfl,λ_ h=>h⟩⟩,λ_ _ es c h=>⟨es,c,h,λ_ h=>h⟩,λ_ _ h=>h⟩
  intro s B t
  exact S.ext.keep s B (.inl t)
 have hkeep:∀ b l,G.pi b=some l->(tb G G2).w.heap[l.B]?=G.w.heap[l.B]?:=λb l h=>S.ext.keep true l.B (.inr ⟨rfl,b,l,h,rfl⟩)
 refine ⟨⟨E,S.os,S.output,S.tape,S.kT,?_,λ_ l h=>.inl ⟨l,h,rfl⟩,λ_ _ h=>.inl (by rw [show G.pi _ = _ from h]; rfl),?_,rfl,λ_ _ _=>rfl,λ_ _ h=>.inl h,λ_ _ h=>.inl (by rw [show G.L _ = _ from h]; rfl),λ_ _ _ h=>h⟩,?_⟩
 ·intro B hB _ _
  exact S.frame B hB (λb l h=>by cases h) (λd B' h=>by cases h)
 ·intro s B h
  rcases h with h | ⟨_,h,_⟩<;>grind
 ·constructor
  ·exact λb l g z xs hp hg=>(hW.iH b l g z xs hp hg).mono E (hkeep b l hp)
  ·exact λb l es c hp hg=>(hW.map b l es c hp hg).mono E (hkeep b l hp)
  ·simp_all [tb]
  ·exact λb l h=>⟨Nat.lt_of_lt_of_le (hW.kC b l h).1 S.kT,(hW.kC b l h).2⟩
  ·exact hW.mL
  ·intro s b l h ht
   rcases ht with ht | ⟨_,hge,_⟩
   ·exact hW.p6 s b l h ht
   ·have:=(hW.kC b l h).1
    omega
  ·exact hW.oh
  ·simp_all [tb]
  ·exact hW.oO
  ·simp_all [tb]
  ·intro s B h
   rcases h with h | ⟨_,_,h | ⟨b,l,h,rfl⟩⟩
   ·exact Nat.lt_of_lt_of_le (hW.nb s B h) S.kT
   ·exact W2.nb false B h
   ·exact (W2.kC b l h).1
  ·exact hW.lo
  ·exact hW.lt
theorem A4 {G2:Ga} (S:Step (pq G) G2) (W2:WR G2) {v v':AV} {u:Value} {n:Nat} (h:freeze false G2.h n v=some v') (hv:VC G2 v u):VC (tb G G2) v' u:=by
 have k:PR G2.w (λs B=>G2.T s B\/(s=false/\∃ b l,G2.pi b=some l/\l.B=B)) false v' u :=
  yf W2 (λs B t=>.inl t) (λb l hp=>.inr ⟨rfl,b,l,hp,rfl⟩) n v v' u h hv.na hv.vr
 have k2:=k.HR (T':=UP G G2) rfl (by
  intro B hB
  rcases hB with hB | ⟨_,b,l,hp,rfl⟩
  ·rcases S.rq false B hB with h0 | hge
   ·rcases h0 with h0 | ⟨h0,_⟩
    ·exact .inl h0
    grind
   ·exact .inr ⟨rfl,hge,.inl hB⟩
  ·refine .inr ⟨rfl,?_,.inr ⟨b,l,hp,rfl⟩⟩
   rcases S.mT b l hp with ⟨l0,h0,_⟩ | hge
   ·cases h0
   ·exact hge)
 exact PR.vR (G:=tb G G2) k2
def Bm {G2:Ga} (S:Step (pq G) G2) (W2:WR G2) {v v':AV} {u:Value} {n:Nat} (h:freeze false G2.h n v=some v') (hv:xw G2 v u):xw (tb G G2) v' u:=by
 rcases hv with hv | ⟨l,vs,rfl,rfl,h1,h2⟩
 ·exact .inl (A4 S W2 h hv)
 ·cases n with
  | zero=>simp [freeze] at h
  | succ n =>
    simp only [freeze] at h
    split at h
    ·rename_i l' hl
     simp only [Option.some.injEq] at h
     subst h
     obtain ⟨k1,k2⟩:=lr hl
     refine .inr ⟨l',vs,rfl,rfl,k1.trans h1,?_⟩
     grind [A4]
    ·cases h
def zp (P:Program) (f:Nat) (args:List AV) (h:aT) (v:AV) (h':aT):Prop :=
 ∀ (G:Ga) (args':Array Value),G.h=h->h.iq=[]->(∀ d,G.L d=none)->WR G->args.length=args'.size->(∀ (i:Nat) (x:AV) (y:Value),args[i]?=some x->args'[i]?=some y->VC G x y) ->
 (∃ fn, P.funcs[f]? = some fn ∧ fn.body.isNone = false ∧ (fn.name == "runtime.NumGoroutine") = false) ∧
 ∀ R:Ending->World->Prop,(∀ u G',Step G G'->WR G'->(∀ m:kI,{ G'.h with iq:=m } = { h' with iq:=m })->(∀ m L,VR (G'.jI m L) v u)->R (.returned u) G'.w)->Calls P f args' G.w R
structure mq (P:Program) (f:Nat) (p:Bool->List AV->aT->Option (AV×aT)):Prop where
 call:∀ shd args h v h',p shd args h=some (v,h')->zp P f args h v h'
 wU:∀ (args:List AV) (h:aT) (v:AV) (h':aT),p false args h=some (v,h')->h'=h/\∀ h2:aT,(∀ b o,h.get b=some o->h2.get b=some o)->p false args h2=some (v,h2)
structure pf (P:Program) (C:jE) (F:kJ) (Pr:ko):Prop where
 mixed:P.follows .mixedOrders=true
 cfg:jR P C
 fns:∀ f fa,F f=some fa->iy P f fa
 DO:∀ f p,Pr f=some p->mq P f p
theorem Dv {fa:iC} {call:qA} {lp:Nat} {args:List AV} {h:aT} {v:AV} {h':aT} (hc:sE C fa call lp false args h=some (v,h')) :
  h'=h/\∀ h2:aT,(∀ b o,h.get b=some o->h2.get b=some o)->sE C fa call lp false args h2=some (v,h2):=by
 simp only [sE] at hc
 split at hc
 ·cases hc
 ·rename_i nR ha
  generalize hb:tJ C fa call lp nR aT.empty=r at hc
  unfold frozen at hc
  split at hc
  ·rename_i v0 h0
   split at hc
   ·cases hc
   ·rename_i v1 hv1
    simp only [Option.some.injEq,Prod.mk.injEq] at hc
    obtain ⟨rfl,rfl⟩:=hc
    refine ⟨rfl,?_⟩
    intro h2 E
    have ha2:kR h2 args=some nR:=by
     unfold kR at ha ⊢
     split at ha
     ·obtain ⟨e1,e2⟩:=lr ha
      have:∀ (l l':List AV),js (freeze true h 8) l=some l'->js (freeze true h2 8) l=some l':=by
       intro l
       induction l<;>grind [js,tV]
      grind
     omega
    grind [sE,frozen]
  grind
def pP {F:kJ} {Pr:ko} (T:pf P C F Pr) (n:Nat):oz (mg C F Pr n):=by
 intro f args h v h' hc
 cases n with
 | zero=>cases hc
 | succ n =>
   simp only [mg] at hc
   cases hp:Pr f with
   | some p =>
     rw [hp] at hc
     obtain ⟨k1,k2⟩:=(T.DO f p hp).wU _ _ _ _ hc
     grind [mg]
   | none =>
     grind [Dv,mg]
def nG {F:kJ} {Pr:ko} (T:pf P C F Pr):∀ n:Nat,nL P (mg C F Pr n):=by
 intro n
 induction n with
 | zero=>intro shd f args h v h' hc; cases hc
 | succ n ih =>
   intro shd f args h v h' hc
   simp only [mg] at hc
   cases hp:Pr f with
   | some p =>
     rw [hp] at hc
     exact (T.DO f p hp).call _ _ _ _ _ hc
   | none =>
     rw [hp] at hc
     simp only at hc
     split at hc
     ·cases hc
     ·rename_i fa hfa
      intro G args' hG hlo hL hW hl hr
      have hF:=T.fns f fa hfa
      obtain ⟨fn,hfn,hbody,_,hname,_⟩:=hF.ex
      refine ⟨⟨fn,hfn,by grind,hname⟩,?_⟩
      intro R hR
      subst hG
      cases shd with
      | true =>
        simp only [sE] at hc
        refine A7 T.mixed T.cfg ih (pP T n) hF hc hlo hL hW hl hr ?_
        intro u G' S' W' _ hh hv
        exact hR u G' S' W' (λm=>by rw [hh]) (λm L=>(hv.jI).vr)
      | false =>
        simp only [sE] at hc
        split at hc
        ·cases hc
        ·rename_i nR ha
         generalize hb:tJ C fa (mg C F Pr n) n nR aT.empty=r at hc
         unfold frozen at hc
         split at hc
         ·rename_i v0 h0
          split at hc
          ·cases hc
          ·rename_i v1 hv1
           simp only [Option.some.injEq,Prod.mk.injEq] at hc
           obtain ⟨rfl,rfl⟩:=hc
           obtain ⟨k1,k2⟩:=xQ hW ha hl hr
           refine A7 (G:=pq G) T.mixed T.cfg ih (pP T n) hF hb rfl (λ_=>rfl) (Hp hW) k1 k2 ?_
           intro u G2 S2 W2 _ hh hv
           obtain ⟨S3,W3⟩:=Dc hW hL S2 W2
           have hfz:freeze false G2.h 8 v0=some v1:=by
            rw [hh]
            exact tV (λb o h=>h) _ _ _ hv1
           exact hR u (tb G G2) S3 W3 (λm=>rfl) (λm L=>(Bm S2 W2 hfz hv).jI.vr)
         grind
end
end Go.Sx
namespace Go.Sx
def rO (shd:Bool) (args:List AV) (h:aT):R2:=match args with
 | [.ka]=>some (.ka,h)
 | [.fm es s]=>some (.fm es s,h)
 | [.hm b]=>match shd with
   | true=>match h.get b with
     | some (.map es c)=>some (.hm h.size,h.push (.map es c))
     | _=>none
   | false=>none
 | _=>none
def Uy (f:Func):Code:=match f.body with
 | some c=>c
 | none=>.skip
end Go.Sx
