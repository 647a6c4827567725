/- Proves rules for the walks and their soundness. -/
import Derived.Test.YtmajcicmbclkhaaGreatHag
set_option linter.all false
namespace Go.Sx
open Go
def lD (P:Program) (N:Nat) (G0:Ga) (c:Code) (e:Env) (h:au) (x:Ex) (e':Env) (h':au):Prop :=
 ∀ (G:Ga) (a:Act) (Q:Exit->Act->World->Prop),G.h=h->St N G0 G e a->(∀ G' a',G'.h=h'->St N G0 G' e' a'->Q (Af x) a' G'.w)->c.wp P Q a G.w
def Cy:Tr jM->(Nat->Nat)->au->Bool
 | .leaf,_,_=>true
 | .node l v r,f,h=>(match v with
   | some (.fc g z xs)=>match h.get (f 0) with
     | some (.fc g' z' xs')=>Nat.beq g g'&&Nat.beq z z'&&lK (lK (iR 12)) xs xs'
     | _=>false
   | some (.map es c)=>match h.get (f 0) with
     | some (.map es' c')=>Nat.beq c c'&&lK (λp q=>iR 12 p.1 q.1&&iR 12 p.2.1 q.2.1&&Nat.beq p.2.2 q.2.2) es es'
     | _=>false
   | none=>true)&&Cy l (λn=>f (2*n+1)) h&&Cy r (λn=>f (2*n+2)) h
def Da (h2 h1:au):Bool:=Nat.beq h2.size h1.size&&Nat.beq h2.lo h1.lo&&Nat.beq h2.lo 0&&lK (λp q=>Nat.beq p.1 q.1&&lK (iR 12) p.2 q.2) h2.aT h1.aT&&Cy h2.tr id h1
structure Sub (h2 h1:au):Prop where
 size:h2.size=h1.size
 lo:h2.lo=h1.lo
 aT:h2.aT=h1.aT
 get:∀ b o,h2.get b=some o->h1.get b=some o
theorem Ab:∀ (t:Tr jM) (f:Nat->Nat) (h:au),Cy t f h=true->∀ (n:Nat) (o:jM),t.get n=some o->h.get (f n)=some o
 | .leaf,_,_,_,n,o,h=>by simp [Tr.get] at h
 | .node l v r,f,h,ha,n,o,hg=>by
   simp only [Cy,Bool.and_eq_true] at ha
   obtain ⟨⟨h1,h2⟩,h3⟩:=ha
   cases n with
   | zero =>
     simp only [Tr.get] at hg
     subst hg
     cases o with
     | fc g z xs =>
       simp only at h1
       split at h1
       ·rename_i g' z' xs' hget
        simp only [Bool.and_eq_true] at h1
        rw [hget,Nat.eq_of_beq_eq_true h1.1.1,Nat.eq_of_beq_eq_true h1.1.2,lX (λ_ _=>lX (oe 12) _ _) _ _ h1.2]
       ·cases h1
     | map es c =>
       simp only at h1
       split at h1
       ·rename_i es' c' hget
        simp only [Bool.and_eq_true] at h1
        have:es=es':=lX (λp q hpq=>by
         simp only [Bool.and_eq_true] at hpq
         exact Prod.ext (oe 12 _ _ hpq.1.1) (Prod.ext (oe 12 _ _ hpq.1.2) (Nat.eq_of_beq_eq_true hpq.2))) _ _ h1.2
        rw [hget,Nat.eq_of_beq_eq_true h1.1,this]
       ·cases h1
   | succ m =>
     simp only [Tr.get] at hg
     split at hg
     ·rename_i hm
      have hm:=Nat.eq_of_beq_eq_true hm
      have:=Ab l _ h h2 (m / 2) o hg
      rw [show 2*(m / 2)+1=m+1 by omega] at this
      exact this
     ·rename_i hm
      have hm:m % 2≠0:=Nat.ne_of_beq_eq_false hm
      have:=Ab r _ h h3 (m / 2) o hg
      rw [show 2*(m / 2)+2=m+1 by omega] at this
      exact this
def Jd {h2 h1:au} (h:Da h2 h1=true):Sub h2 h1:=by
 simp only [Da,Bool.and_eq_true] at h
 obtain ⟨⟨⟨⟨a1,a2⟩,a3⟩,a4⟩,a5⟩:=h
 refine ⟨Nat.eq_of_beq_eq_true a1,Nat.eq_of_beq_eq_true a2,lX (λp q hpq=>by
  simp only [Bool.and_eq_true] at hpq
  exact Prod.ext (Nat.eq_of_beq_eq_true hpq.1) (lX (oe 12) _ _ hpq.2)) _ _ a4,?_⟩
 grind [au.get,Ab]
section
variable {P:Program} {X:Ctx} {N:Nat} {G0:Ga}
theorem St.drop {G:Ga} {e:Env} {a:Act} {h2:au} (hS:St N G0 G e a) (hs:Sub h2 G.h) (h0:G0.h.size=0):St N G0 ⟨G.w,G.T,h2,G.pi,G.L⟩ e a:=by
 have E:Ext G ⟨G.w,G.T,h2,G.pi,G.L⟩:=⟨λ_ _ h=>h,λ_ _ _=>rfl,by rw [hs.size]; omega,λb _ g z xs h=>⟨g,z,xs,hs.get b _ h,Nat.le_refl _,λ_=>⟨rfl,λ_ h=>h⟩⟩,λb _ es c h=>⟨es,c,hs.get b _ h,λ_ h=>h⟩,λ_ _ h=>h⟩
 refine ⟨⟨?_,hS.fr.L⟩,?_,hS.er.mono E,hS.df,hS.sz⟩
 ·have S:=hS.fr.S
  refine ⟨⟨S.ext.T,S.ext.keep,by omega,λb hb=>by omega,λb hb=>by omega,S.ext.aT⟩,S.os,S.output,S.tape,S.jd,S.frame,S.lI,S.mQ,S.qG,?_,λb hb=>by omega,S.o7,S.rk,S.rX⟩
  exact hs.lo.trans S.lo
 ·have W:=hS.wr
  refine ⟨λb l g z xs hp hg=>(W.fc b l g z xs hp (hs.get b _ hg)).mono E rfl,λb l es c hp hg=>(W.map b l es c hp (hs.get b _ hg)).mono E rfl,?_,?_,W.ma,W.qf,W.ou,W.LT,W.oT,?_,W.mv,?_,?_⟩
  ·intro d B cs hd hcs
   have hcs:gM h2.aT d=some cs:=hcs
   rw [hs.aT] at hcs
   exact (W.loc d B cs hd hcs).mono E rfl
  ·intro b l h
   refine ⟨(W.iU b l h).1,?_⟩
   show b<h2.size
   rw [hs.size]; exact (W.iU b l h).2
  ·intro d B h
   refine ⟨(W.kN d B h).1,?_⟩
   show (gM h2.aT d).isSome=true
   rw [hs.aT]; exact (W.kN d B h).2
  ·show h2.lo<=h2.size
   rw [hs.lo,hs.size]; exact W.lo
  ·intro b o h
   show b<h2.size
   rw [hs.size]; exact W.lt b o (hs.get b o h)
def vN (hm:P.follows .mixedOrders=true) (hC:gR P X.C) (hK:lh P X.call) (hI:mr X.call) {n:Nat} {c:Code} {an:ga} {e:Env} {h:au} {x:Ex} {e':Env} {h':au} (hr:gF X (iC n) c an e h=some (x,e',h')) (hok:codeOk N X.fa.fY c an=true) :
  lD P N G0 c e h x e' h':=λG a Q hG hS hQ=>yu hm hC hK hI n c an e h x e' h' hr hok G a Q hG hS hQ
inductive vZ (f:Env->au->RC):Env->au->Ex->Env->au->Prop
 | last {e h x e' h'} (k:Nat):rE k f e h=some (x,e',h')->x≠.gH->vZ f e h x e' h'
 | step {e h e1 h1 h2 x e' h'} (k:Nat):rE (k+1) f e h=some (.gH,e1,h1)->Sub h2 h1->vZ f e1 h2 x e' h'->vZ f e h x e' h'
def Ji (n:Nat) (a b:AV):Bool:=match a with
 | .fG []=>(match b with
   | .fG []=>true
   | _=>false)
 | a=>iR n a b
def L8 {n:Nat} {a b:AV} (h:Ji n a b=true):a=b:=by
 unfold Ji at h
 split at h
 ·split at h
  ·rfl
  ·cases h
 ·exact oe n _ _ h
def qa (k:Nat) (f:Env->au->RC) (e:Env) (h:au) (e1:Env) (h2:au):Bool:=match rE (k+1) f e h with
 | some (.gH,e',h')=>lK (λp q=>Nat.beq p.1 q.1&&Ji 12 p.2 q.2) e1 e'&&Da h2 h'
 | _=>false
def vZ.piece {f:Env->au->RC} {e:Env} {h:au} {e1:Env} {h2:au} {x:Ex} {e':Env} {h':au} (k:Nat) (hp:qa k f e h e1 h2=true) (hc:vZ f e1 h2 x e' h'):vZ f e h x e' h':=by
 unfold qa at hp
 split at hp
 ·rename_i e0 h0 hi
  simp only [Bool.and_eq_true] at hp
  have:e1=e0:=lX (λp q hpq=>by
   simp only [Bool.and_eq_true] at hpq
   exact Prod.ext (Nat.eq_of_beq_eq_true hpq.1) (L8 hpq.2)) _ _ hp.1
  subst this
  exact .step k hi (Jd hp.2) hc
 grind
def Hu {c:Code} {n0:Nat} (ih:wc P X N G0 (iC n0) c) {live:List Nat} {y:ga} (hok:codeOk N X.fa.fY c y=true) {J:Nat->Act->World->Prop} {Q:Exit->Act->World->Prop} {n:Nat}
  {e:Env} {h:au} {x:Ex} {e':Env} {h':au} (hr:jo live (gF X (iC n0) c y) e h=some (x,e',h')) {G:Ga} {a:Act} (hG:G.h=h) (hS:St N G0 G e a)
  (hQ:∀ G' a',G'.h=h'->St N G0 G' e' a'->Exit.then (λa' w'=>∃ m,m<n/\J m a' w') Q (Af x) a' G'.w):c.wp P (Exit.then (λa' w'=>∃ m,m<n/\J m a' w') Q) a G.w:=by
 rw [nQ] at hr
 subst hG
 exact ih y _ _ _ _ _ hr hok (G.gK (iu live G.h.aT) (mC live G.L)) a _ rfl (hS.jo live) hQ
def HH {c:Code} {n0:Nat} (ih:wc P X N G0 (iC n0) c) {live:List Nat} {y:ga} (hok:codeOk N X.fa.fY c y=true) (h0:G0.h.size=0) {e:Env} {h:au} {x:Ex} {e':Env} {h':au}
  (hc:vZ (jo live (gF X (iC n0) c y)) e h x e' h'):lD P N G0 (.loop c) e h x e' h':=by
 have count:∃ t,∃ R:Nat->Env->au->Prop,R t e h/\∀ n e h,R n e h->∃ x1 e1 h1,jo live (gF X (iC n0) c y) e h=some (x1,e1,h1) /\
   ((x1=.gH/\∃ m h2,m<n/\Sub h2 h1/\R m e1 h2)\/(x1≠.gH/\x1=x/\e1=e'/\h1=h')):=by
  have subrefl:∀ h:au,Sub h h:=λh=>⟨rfl,rfl,rfl,λ_ _ h=>h⟩
  induction hc with
  | @last e h x e' h' k hi hx =>
    refine ⟨k,λn e h=>rE n (jo live (gF X (iC n0) c y)) e h=some (x,e',h'),hi,?_⟩
    intro n e h hn
    cases n with
    | zero =>
      grind [rE]
    | succ n =>
      simp only [rE] at hn
      split at hn
      ·rename_i e2 h2 hf
       exact ⟨.gH,e2,h2,hf,.inl ⟨rfl,n,h2,Nat.lt_succ_self _,subrefl _,hn⟩⟩
      grind
  | @step e h e1 h1 h2 x e' h' k hi hs hc ihc =>
    obtain ⟨t,R,hR,hstep⟩:=ihc
    refine ⟨t+(k+1),λn e h=>R n e h\/∃ j,n=t+j/\0<j/\rE j (jo live (gF X (iC n0) c y)) e h=some (.gH,e1,h1),?_,?_⟩
    ·grind
    ·intro n e h hn
     rcases hn with hn | ⟨j,rfl,hj,hn⟩
     ·obtain ⟨x1,e2,h3,a1,a2⟩:=hstep n e h hn
      refine ⟨x1,e2,h3,a1,?_⟩
      rcases a2 with ⟨b1,m,h4,b2,b3,b4⟩ | b
      ·exact .inl ⟨b1,m,h4,b2,b3,.inl b4⟩
      grind
     ·cases j with
      | zero=>omega
      | succ j =>
        simp only [rE] at hn
        split at hn
        ·rename_i e2 h3 hf
         refine ⟨.gH,e2,h3,hf,.inl ⟨rfl,?_⟩⟩
         cases j with
         | zero =>
           simp only [rE,Option.some.injEq,Prod.mk.injEq,true_and] at hn
           obtain ⟨rfl,rfl⟩:=hn
           exact ⟨t,h2,by omega,hs,.inl hR⟩
         | succ j=>exact ⟨t+(j+1),h3,by omega,subrefl _,.inr ⟨j+1,rfl,Nat.succ_pos _,hn⟩⟩
        grind
 obtain ⟨t,R,hR,hstep⟩:=count
 intro G a Q hG hS hQ
 refine xP (λm a w=>∃ G e,G.w=w/\St N G0 G e a/\R m e G.h) ?_ t a G.w ⟨G,e,rfl,hS,by grind⟩
 rintro n a _ ⟨G,e,rfl,hS,hR⟩
 obtain ⟨x1,e1,h1,hf,hor⟩:=hstep n e G.h hR
 refine Hu ih hok hf rfl hS ?_
 intro G' a' hG' hS'
 rcases hor with ⟨rfl,m,h2,hlt,hs,hR2⟩ | ⟨hne,rfl,rfl,rfl⟩
 ·subst hG'
  exact ⟨m,hlt,⟨G'.w,G'.T,h2,G'.pi,G'.L⟩,e1,rfl,hS'.drop hs h0,hR2⟩
 ·cases x1 with
  | gH=>grind
  | ext id=>exact hQ G' a' hG' hS'
  | ret=>exact hQ G' a' hG' hS'
end
section
variable {P:Program} {X:Ctx} {N:Nat} {G0:Ga}
def Ib {a b:Code} {e e1 e':Env} {h h1 h':au} {x:Ex} (ha:lD P N G0 a e h .gH e1 h1) (hb:lD P N G0 b e1 h1 x e' h'):lD P N G0 (.seq a b) e h x e' h' :=
 λG act _ hG hS hQ=>wp_seq (ha G act _ hG hS λG1 a1 hG1 hS1=>hb G1 a1 _ hG1 hS1 hQ)
def G7 {a b:Code} {live:List Nat} {e e1 e':Env} {h h1 h':au} {x:Ex} (ha:lD P N G0 a e h .gH e1 h1) (hb:lD P N G0 b (proj live e1) { h1 with aT:=iu live h1.aT } x e' h'):lD P N G0 (.seq a b) e h x e' h':=by
 intro G act Q hG hS hQ
 refine wp_seq (ha G act _ hG hS λG1 a1 hG1 hS1=>?_)
 subst hG1
 exact hb (G1.gK (iu live G1.h.aT) (mC live G1.L)) a1 Q rfl (hS1.jo live) hQ
def Gt {a b:Code} {e e':Env} {h h':au} {x:Ex} (ha:lD P N G0 a e h x e' h') (hx:x≠.gH):lD P N G0 (.seq a b) e h x e' h':=by
 intro G act Q hG hS hQ
 refine wp_seq (ha G act _ hG hS λG1 a1 hG1 hS1=>?_)
 cases x with
 | gH=>grind
 | ext id=>exact hQ G1 a1 hG1 hS1
 | ret=>exact hQ G1 a1 hG1 hS1
def I9 {a:Code} {id:Nat} {e e1 e':Env} {h h1 h':au} {x x1:Ex} (ha:lD P N G0 a e h x1 e1 h1) (he:atEnd id (some (x1,e1,h1))=some (x,e',h')):lD P N G0 (.block id a) e h x e' h':=by
 intro G act Q hG hS hQ
 refine wp_block (ha G act _ hG hS λG1 a1 hG1 hS1=>?_)
 cases x1 with
 | gH=>cases he; exact hQ G1 a1 hG1 hS1
 | ret=>cases he; exact hQ G1 a1 hG1 hS1
 | ext i =>
   simp only [atEnd] at he
   show Exit.inBlock id Q (.exit i) a1 G1.w
   simp only [Exit.inBlock]
   split at he
   ·rename_i hi
    have hi:=Nat.eq_of_beq_eq_true hi
    cases he
    rw [if_pos hi]
    exact hQ G1 a1 hG1 hS1
   ·rename_i hi
    have hi:=Nat.ne_of_beq_eq_false hi
    cases he
    rw [if_neg hi]
    exact hQ G1 a1 hG1 hS1
def J2 {a:Code} {e e1:Env} {h h1:au} {x1:Ex} (ha:lD P N G0 a e h x1 e1 h1):lD P N G0 (.scope a) e h x1 e1 h1:=by
 intro G act Q hG hS hQ
 refine wp_scope_straight (ha G act _ hG hS λG1 a1 hG1 hS1=>?_)
 cases x1 with
 | gH=>exact hQ G1 a1 hG1 hS1
 | ext i=>exact hQ G1 a1 hG1 hS1
 | ret=>exact hQ G1 a1 hG1 hS1
def yX {k:Env->au->RC} {r:RC} {x:Ex} {e':Env} {h':au} (h:andThen k r=some (x,e',h')) :
  (∃ e1 h1,r=some (.gH,e1,h1)/\k e1 h1=some (x,e',h'))\/(r=some (x,e',h')/\x≠.gH):=by
 unfold andThen at h
 grind
def nI (hm:P.follows .mixedOrders=true) (hC:gR P X.C) (hK:lh P X.call) (hI:mr X.call) {n:Nat}:∀ (p:List Bool) (c:Code) (an:ga) (e:Env) (h:au) (e0:Env) (h0:au) (x1:Ex) (e1:Env) (h1:au) (x:Ex) (e':Env) (h':au),
  codeOk N X.fa.fY c an=true->qA X (iC n) p c an e h=some (.gH,e0,h0)->lD P N G0 (p6 p c an).1 e0 h0 x1 e1 h1->behind X (iC n) p c an (some (x1,e1,h1))=some (x,e',h')->lD P N G0 c e h x e' h'
 | [],c,an,e,h,e0,h0,x1,e1,h1,x,e',h',_,hu,hr,hb=>by
   simp only [qA,Option.some.injEq,Prod.mk.injEq,true_and] at hu
   obtain ⟨rfl,rfl⟩:=hu
   simp only [behind,Option.some.injEq,Prod.mk.injEq] at hb
   obtain ⟨rfl,rfl,rfl⟩:=hb
   exact hr
 | true::p,c,an,e,h,e0,h0,x1,e1,h1,x,e',h',hok,hu,hr,hb=>by
   cases c<;>try (cases hu; done)
   rename_i a b
   cases an<;>try (cases hu; done)
   ·rename_i live y z
    simp only [qA] at hu
    obtain ⟨e2,h2,k1,k2⟩:=A7 hu
    rw [nQ] at k2
    simp only [codeOk,Bool.and_eq_true] at hok
    exact G7 (vN hm hC hK hI k1 hok.1) (nI hm hC hK hI p b z _ _ e0 h0 x1 e1 h1 x e' h' hok.2 k2 hr hb)
   ·rename_i y z
    simp only [qA] at hu
    obtain ⟨e2,h2,k1,k2⟩:=A7 hu
    simp only [codeOk,Bool.and_eq_true] at hok
    exact Ib (vN hm hC hK hI k1 hok.1) (nI hm hC hK hI p b z _ _ e0 h0 x1 e1 h1 x e' h' hok.2 k2 hr hb)
 | false::p,c,an,e,h,e0,h0,x1,e1,h1,x,e',h',hok,hu,hr,hb=>by
   cases c<;>try (cases hu; done)
   ·rename_i a b
    cases an<;>try (cases hu; done)
    ·rename_i live y z
     simp only [qA] at hu
     simp only [codeOk,Bool.and_eq_true] at hok
     simp only [behind] at hb
     rcases yX hb with ⟨e2,h2,k1,k2⟩ | ⟨k1,k2⟩
     ·rw [nQ] at k2
      exact G7 (nI hm hC hK hI p a y e h e0 h0 x1 e1 h1 _ _ _ hok.1 hu hr k1) (vN hm hC hK hI k2 hok.2)
     ·exact Gt (nI hm hC hK hI p a y e h e0 h0 x1 e1 h1 _ _ _ hok.1 hu hr k1) k2
    ·rename_i y z
     simp only [qA] at hu
     simp only [codeOk,Bool.and_eq_true] at hok
     simp only [behind] at hb
     rcases yX hb with ⟨e2,h2,k1,k2⟩ | ⟨k1,k2⟩
     ·exact Ib (nI hm hC hK hI p a y e h e0 h0 x1 e1 h1 _ _ _ hok.1 hu hr k1) (vN hm hC hK hI k2 hok.2)
     ·exact Gt (nI hm hC hK hI p a y e h e0 h0 x1 e1 h1 _ _ _ hok.1 hu hr k1) k2
   ·rename_i id a
    have hu:qA X (iC n) p a an e h=some (.gH,e0,h0):=by cases an<;>exact hu
    have hb:atEnd id (behind X (iC n) p a an (some (x1,e1,h1)))=some (x,e',h'):=by cases an<;>exact hb
    have hok:codeOk N X.fa.fY a an=true:=by cases an<;>exact hok
    have hr:lD P N G0 (p6 p a an).1 e0 h0 x1 e1 h1:=by cases an<;>exact hr
    cases hbb:behind X (iC n) p a an (some (x1,e1,h1)) with
    | none=>rw [hbb] at hb; cases hb
    | some z =>
      obtain ⟨x2,e2,h2⟩:=z
      rw [hbb] at hb
      exact I9 (nI hm hC hK hI p a an e h e0 h0 x1 e1 h1 _ _ _ hok hu hr hbb) hb
   ·rename_i a
    have hu:qA X (iC n) p a an e h=some (.gH,e0,h0):=by cases an<;>exact hu
    have hb:behind X (iC n) p a an (some (x1,e1,h1))=some (x,e',h'):=by cases an<;>exact hb
    have hok:codeOk N X.fa.fY a an=true:=by cases an<;>exact hok
    have hr:lD P N G0 (p6 p a an).1 e0 h0 x1 e1 h1:=by cases an<;>exact hr
    exact J2 (nI hm hC hK hI p a an e h e0 h0 x1 e1 h1 _ _ _ hok hu hr hb)
end
def xF {α:Type} {p : α->Prop} {l:List α} {k:Nat} {x : α} (h:∀ y∈l.take k,p y) (hk:k<l.length) (hx:l[k]=x) (hp:p x):∀ y∈l.take (k+1),p y:=by
 intro y hy
 rw [List.take_succ_eq_append_getElem hk] at hy
 rcases List.mem_append.1 hy with h1 | h1
 ·exact h y h1
 ·rw [List.mem_singleton.1 h1,hx]; exact hp
def vY {α:Type} {p : α->Prop} {l:List α} {k:Nat} (h:∀ y∈l.take k,p y) (hk:l.length<=k):∀ y∈l,p y:=by
 rw [List.take_of_length_le hk] at h; exact h
def NW {l:List iD} {i:Int} {x:eU} (h:tq l i=some x):0<=i/\i<(l.length:Int):=by
 grind [Fs]
def ta (B:lZ) (x r:Int):Prop:=(r = -1/\∀ p∈B.s,x∉p.2)\/∃ p∈B.s,x∈p.2/\r=p.1
def EY (B:lZ) (x r:Int):Prop:=(r=0/\∀ y∈B.qN,y.elem≠x)\/(r≠0/\∃ y∈B.qN,y.elem=x/\y.pos=r)
theorem ta.none {B:lZ} {x r:Int} (hB:mn B) (h:ta B x r) (hr:r<0):∀ p∈B.s,x∉p.2:=by
 rcases h with ⟨_,h⟩ | ⟨p,hp,_,rfl⟩
 ·exact h
 ·have:=(hB.s.2 p hp).1; omega
def EY.qN {B:lZ} {x r:Int} (h:EY B x r) {y:bm} (hy:y∈B.qN) (hyx:y.elem=x) {f:Int->Int} (hf:∀ x∈B.qN,x.pos=f x.elem):r=y.pos:=by
 rcases h with ⟨_,h⟩ | ⟨_,z,hz,hzx,rfl⟩
 ·exact absurd hyx (h y hy)
 ·rw [hf z hz,hf y hy,hzx,hyx]
structure BS (l:List Int) (m:List (Int×Bool)):Prop where
 nd:l.Nodup
 all:∀ x∈l,look x m≠none
 tt:∀ p∈m,p.2=true
def BS.nil:BS [] []:=⟨.nil,by simp,by simp⟩
def KH {L:List fi} {k:Nat} {m:List (Int×Bool)} {x:fi} (h:BS ((L.take k).map fi.elem) m) (hk:k<L.length) (hq:L[k]=x) (hn:look x.elem m=none):BS ((L.take (k+1)).map fi.elem) (put x.elem true m):=by
 rw [List.take_succ_eq_append_getElem hk,hq,List.map_append]
 refine ⟨List.nodup_append.2 ⟨h.nd,by simp,?_⟩,?_,?_⟩
 ·intro a ha b hb hab
  simp only [List.map_cons,List.map_nil,List.mem_singleton] at hb
  subst hb; subst hab
  exact h.all _ ha hn
 ·intro y hy
  rw [j6]
  split
  ·simp
  ·rename_i hne
   rcases List.mem_append.1 hy with h1 | h1
   ·exact h.all y h1
   ·simp only [List.map_cons,List.map_nil,List.mem_singleton] at h1; exact absurd h1 hne
 ·exact qL (P:=λb:Bool=>b=true) h.tt rfl
def tw (P:bm->Prop) (m:List (Int×Int)):Prop:=∀ y,P y->look y.elem m=some y.pos/\(y.pos=1\/y.pos=2)
def tw.mono {P Q:bm->Prop} {m:List (Int×Int)} (h:tw P m) (hq:∀ y,Q y->P y):tw Q m:=λy hy=>h y (hq y hy)
def TL {A:bm->Prop} {L:List bm} {m:List (Int×Int)} (h:tw A m):tw (λy=>A y\/y∈L.take 0) m:=h.mono λ_ h=>h.elim id λh=>by simp at h
def QH {A:bm->Prop} {L:List bm} {k:Nat} {m:List (Int×Int)} {x:bm} (h:tw (λy=>A y\/y∈L.take k) m) (hk:k<L.length) (hq:L[k]=x) (hl:∀ p,look x.elem m=some p->p=x.pos) (hp:x.pos=1\/x.pos=2):tw (λy=>A y\/y∈L.take (k+1)) (put x.elem x.pos m):=by
 intro y hy
 rw [List.take_succ_eq_append_getElem hk,hq,List.mem_append,<- or_assoc] at hy
 rcases hy with hy | hy
 ·obtain ⟨h1,h2⟩:=h y hy
  refine ⟨?_,h2⟩
  rw [j6]
  split
  ·rename_i he
   rw [he] at h1
   rw [hl _ h1]
  ·exact h1
 ·rw [List.mem_singleton.1 hy]
  exact ⟨by rw [j6,if_pos rfl],hp⟩
def M1 {ls:List (Row bm)} {k k':Nat} {m:List (Int×Int)} {x:Row bm} (h:tw (λy=>(∃ r∈ls.take k,y∈r.l)\/y∈x.l.take k') m) (hk:k<ls.length) (hq:ls[k]=x) (hk':x.l.length<=k'):tw (λy=>∃ r∈ls.take (k+1),y∈r.l) m:=by
 refine h.mono λy hy=>?_
 obtain ⟨r,hr,hy⟩:=hy
 rw [List.take_succ_eq_append_getElem hk,hq] at hr
 rcases List.mem_append.1 hr with h1 | h1
 ·exact .inl ⟨r,h1,hy⟩
 ·rw [List.mem_singleton.1 h1] at hy
  rw [List.take_of_length_le hk']; exact .inr hy
def uH (n:Int) (r:fe):Prop:=(r.steps.l.length≠0/\(r.steps.l.map fi.elem).Nodup)/\(∀ s∈r.steps.l,0<=s.elem/\s.elem<n)/\(∀ e∈r.gB.l,0<=e/\e<n)/\∃ g:Int->Int,∀ x∈r.fX.l++r.guards.l,x.pos=g x.elem/\(x.pos=1\/x.pos=2)
def Nv {n:Int} {r:fe} {k0 k1 k2:Nat} {m:List (Int×Bool)} {m2:List (Int×Int)} (h0:r.steps.l.length≠0) (h1:BS ((r.steps.l.take k0).map fi.elem) m) (h2:∀ s∈r.steps.l.take k0,0<=s.elem/\s.elem<n) (e0:r.steps.l.length<=k0) (h3:∀ s∈r.gB.l.take k1,0<=s/\s<n) (e1:r.gB.l.length<=k1)
  (h4:tw (λy=>∃ q∈([r.fX,r.guards]:List (Row bm)).take k2,y∈q.l) m2) (e2:2<=k2):uH n r:=by
 rw [List.take_of_length_le e0] at h1
 refine ⟨⟨h0,h1.nd⟩,vY h2 e0,vY h3 e1,λe=>(look e m2).getD 0,λx hx=>?_⟩
 have:x.pos=(look x.elem m2).getD 0/\(x.pos=1\/x.pos=2):=by
  obtain ⟨h5,h6⟩:=h4 x (by
   rw [List.take_of_length_le (by simpa using e2)]
   rcases List.mem_append.1 hx with h | h
   ·exact ⟨_,by simp,h⟩
   ·exact ⟨r.guards,by simp,h⟩)
  rw [h5]; exact ⟨rfl,h6⟩
 exact this
def EJ (B:lZ) (x:bm):Prop:=∀ y∈B.qN,y.elem=x.elem->y.pos=x.pos
def Md {B:lZ} {x:bm} {r:Int} (hB:mn B) (h:EY B x.elem r) (hr:r=0\/r=x.pos):EJ B x:=by
 obtain ⟨f,hf⟩:=hB.pos
 intro y hy hyx
 have h1:=h.qN hy hyx λx hx=>(hf x hx).1
 have h2:=(hf y hy).2
 omega
def yw (B:lZ) (P:bm->Prop):Prop:=∀ y,P y->EJ B y
def Uu {B:lZ} {A:bm->Prop} {L:List bm} (h:yw B A):yw B λy=>A y\/y∈L.take 0:=λy hy=>h y (hy.elim id λh=>by simp at h)
def Re {B:lZ} {A:bm->Prop} {L:List bm} {k:Nat} {x:bm} (h:yw B λy=>A y\/y∈L.take k) (hk:k<L.length) (hq:L[k]=x) (hx:EJ B x):yw B λy=>A y\/y∈L.take (k+1):=by
 intro y hy
 rw [List.take_succ_eq_append_getElem hk,hq,List.mem_append,<- or_assoc] at hy
 rcases hy with hy | hy
 ·exact h y hy
 ·rw [List.mem_singleton.1 hy]; exact hx
def Nl {B:lZ} {ls:List (Row bm)} {k k':Nat} {x:Row bm} (h:yw B λy=>(∃ r∈ls.take k,y∈r.l)\/y∈x.l.take k') (hk:k<ls.length) (hq:ls[k]=x) (hk':x.l.length<=k'):yw B λy=>∃ r∈ls.take (k+1),y∈r.l:=by
 rintro y ⟨r,hr,hy⟩
 rw [List.take_succ_eq_append_getElem hk,hq] at hr
 refine h y ?_
 rcases List.mem_append.1 hr with h1 | h1
 ·exact .inl ⟨r,h1,hy⟩
 ·rw [List.mem_singleton.1 h1] at hy
  rw [List.take_of_length_le hk']; exact .inr hy
def By (B:lZ) (n:Int) (r:fe):Prop:=uH n r/\(∀ s∈r.steps.l,∀ p∈B.s,s.elem∉p.2)/\∀ x∈r.fX.l++r.guards.l,EJ B x
def Q8 {B:lZ} {n:Int} {r:fe} {k0 k2:Nat} (h:uH n r) (h0:∀ s∈r.steps.l.take k0,∀ p∈B.s,s.elem∉p.2) (e0:r.steps.l.length<=k0) (h2:yw B λy=>∃ q∈([r.fX,r.guards]:List (Row bm)).take k2,y∈q.l) (e2:2<=k2):By B n r:=by
 refine ⟨h,vY h0 e0,λx hx=>h2 x ?_⟩
 rw [List.take_of_length_le (by simpa using e2)]
 rcases List.mem_append.1 hx with h | h
 ·exact ⟨_,by simp,h⟩
 ·exact ⟨r.guards,by simp,h⟩
def sN (L:List fC) (i:Int):Prop:=∀ x,L[i.toNat]?=some x->x.state=0
def Lz {L:List fC} {i j:Int} (h:sN L i) (e:j=i):sN L j:=e▸h
def I1 {L:List fC} {i:Int} (h:(L.length:Int)<=i):sN L i:=by
 intro x hx
 have:=(List.getElem?_eq_some_iff.1 hx).1
 omega
def LB {L:List fC} {k:Nat} {i:Int} {y:fC} {hk:k<L.length} (e:i.toNat=k) (hq:L[k]=y) (hy:y.state=0):sN L i:=by
 intro x hx
 rw [e,List.getElem?_eq_getElem hk,hq] at hx
 cases hx; exact hy
def TT (c:fz) (L:List fC) (B:lZ) (n x:Int):Prop:=0<=x/\∃ r,c.roads.l[x.toNat]?=some r/\sN L x/\By B n r
def QX {c:fz} {L:List fC} {B:lZ} {n x:Int} {r:fe} {hk:x.toNat<c.roads.l.length} (h0:0<=x) (hq:c.roads.l[x.toNat]=r) (hI:sN L x) (hM:By B n r):TT c L B n x:=⟨h0,r,by rw [List.getElem?_eq_getElem hk,hq],hI,hM⟩
section
variable {X:Ctx} {e:Env} {h:au} {d:Option Nat} {t n el k dd:Nat} {x y:Operand} {ti te:TI} {l:List Int} {b:Int}
def Hc (hT:X.C.T t=some ti) (ha:ti.agg=false) (hx:fg e x=.la dd k) (hl:gM h.aT dd=some (List.map iK l)) (hk:k<l.length) (hq:l[k]=b):gd (.load t x) X e h d=some (.int .i64 b,h):=by
 simp only [gd,yK,vw,hT,hx,rz,IW,hl,part,ha,iJ]
 rw [List.getElem?_map,List.getElem?_eq_getElem hk,hq]
 rfl
def LG (hT:X.C.T t=some ti) (ha:ti.agg=false) (hz:ti.size=1) (hx:fg e x=.la dd k) (hy:fg e y=.int .i64 b) (hl:gM h.aT dd=some (List.map iK l)) (hk:k<l.length):gd (.store t x y) X e h d=some (.undef,{ h with aT:=tu h.aT dd (List.map iK (l.set k b)) }):=by
 have hc:cellsOf ti (.int .i64 b)=some [.int .i64 b]:=by simp only [cellsOf,ha,hz]; rfl
 refine pf hT hx hy hc rfl hl ?_
 have h1:Nat.ble (k+1) l.length=true:=Nat.ble_eq.mpr hk
 simp only [lS,List.length_map,List.length_cons,List.length_nil,Nat.zero_add,h1,pv]
 congr 1
 rw [List.set_eq_take_append_cons_drop,if_pos hk,List.map_append,List.map_cons,List.map_take,List.map_drop]
 simp [iK]
end
def take_set {p:Int->Prop} {l:List Int} {k:Nat} {v:Int} (h:∀ x∈l.take k,p x) (hk:k<l.length) (hv:p v):∀ x∈(l.set k v).take (k+1),p x:=by
 intro x hx
 rw [List.take_succ_eq_append_getElem (by simpa using hk)] at hx
 rcases List.mem_append.1 hx with h1 | h1
 ·rw [List.take_set_of_le (Nat.le_refl _)] at h1; exact h x h1
 ·rw [List.mem_singleton.1 h1]; simpa using hv
def ML {p:Int->Prop} {l:List Int} {k:Nat} {v:Int} (h:∀ x∈l,p x) (hv:p v):∀ x∈l.set k v,p x:=by
 intro x hx
 rcases List.mem_or_eq_of_mem_set hx with h1 | rfl
 ·exact h x h1
 ·exact hv
def kx (p:AV×List Int):AV:=p.1
def lP (y:List (Int×(AV×List Int))) (F:List gh):Prop:=∀ p∈y,gh.sl true true p.2.1 1 (p.2.2.map cI)∈F/\p.2.2.length<=1000
section
variable {y:List (Int×(AV×List Int))} {F N:List gh} {r:gh}
def lP.cons (h:lP y F):lP y (r::F):=λp hp=>⟨.tail _ (h p hp).1,(h p hp).2⟩
def lP.app (h:lP y F):lP y (N++F):=λp hp=>⟨List.mem_append_right _ (h p hp).1,(h p hp).2⟩
def lP.nil:lP [] F:=λp hp=>by cases hp
end
def rL (y:List (Int×(AV×List Int))) (z:List (Int×Row Int)) (d g:List (Int×Row bm)):lZ:=⟨y.map λp=>(p.1,p.2.2),z.map λp=>(p.1,p.2.l),d.map λp=>(p.1,p.2.l),g.map λp=>(p.1,p.2.l)⟩
def qU {H:au} {L:List gh} {i:Nat} {v:AV} {y:List (Int×(AV×List Int))} (hS:Sep H L) (hi:L[i]?=some (.map v (cA iK kx y))) (hf:lP y L):∃ S:List (Int×ff Int),(S.map λp=>(p.1,p.2.l))=(y.map λp=>(p.1,p.2.2))/\∀ m,freeze true { H with aT:=[] } (m+3) v=some (.fm (cA iK (ff.av cI) S) true):=by
 obtain ⟨b,es',c,hb,rfl,hg,hu,hst⟩:=hS.at hi
 have key:∀ (y:List (Int×(AV×List Int))) (es:List (AV×AV×Nat)),lP y L->kX es=cA iK kx y->∃ S:List (Int×ff Int),(S.map λp=>(p.1,p.2.l))=(y.map λp=>(p.1,p.2.2))/\∀ m,nb (freeze true { H with aT:=[] } (m+2)) es=some (cA iK (ff.av cI) S):=by
  intro y
  induction y with
  | nil =>
    intro es _ he
    cases es with
    | nil=>exact ⟨[],rfl,λ_=>rfl⟩
    | cons x es=>cases he
  | cons p y ih =>
    intro es hf he
    cases es with
    | nil=>cases he
    | cons x es =>
      simp only [kX,cA,List.map_cons,List.cons.injEq,Prod.mk.injEq] at he
      obtain ⟨⟨h1,h2⟩,h3⟩:=he
      obtain ⟨S,hS1,hS2⟩:=ih es (λq hq=>hf q (.tail _ hq)) h3
      obtain ⟨hm,hl⟩:=hf p (.head _)
      obtain ⟨j,hj⟩:=List.getElem?_of_mem hm
      obtain ⟨c,_,hc2,hc3⟩:=Ds (sn:=true) hS hj
      refine ⟨(p.1,⟨p.2.2,c,by simp only [rI]; omega,λh=>List.map_eq_nil_iff.1 (hc2 h)⟩)::S,by simp only [List.map_cons,hS1],λm=>?_⟩
      have hfz:=hc3 [] (m+1) (λx hx=>by
       obtain ⟨n,_,rfl⟩:=List.mem_map.1 hx
       simp only [cI,fU,qM])
      obtain ⟨k,w,q⟩:=x
      simp only at h1 h2
      subst h1
      have h2:w=p.2.1:=h2
      subst h2
      simp only [nb,hfz,hS2 m]
      rfl
 obtain ⟨S,h1,h2⟩:=key y es' hf hu
 refine ⟨S,h1,λm=>?_⟩
 have h:=h2 m
 generalize hk:m+2=k at h
 rw [show m+3=k+1 by omega]
 simp only [freeze,au.iG,hg,h]
theorem sx {ke:Int} {S:List (Int×ff Int)} {y:List (Int×(AV×List Int))} {z:List (Int×Row Int)} {d g:List (Int×Row bm)} (h:(S.map λp=>(p.1,p.2.l))=(y.map λp=>(p.1,p.2.2))):(⟨ke,S,z,d,g⟩:fq).pl=rL y z d g:=by
 simp only [fq.pl,rL,h]
theorem xv {β γ:Type} {f : β->γ} {k:Int} {x : β} {l:List (Int×β)}:(put k x l).map (λp=>(p.1,f p.2))=put k (f x) (l.map λp=>(p.1,f p.2)):=by
 induction l with
 | nil=>rfl
 | cons p l ih =>
   simp only [put,List.map_cons]
   split
   ·rfl
   ·simp only [List.map_cons,ih]
def R6 {β:Type} {k:Int} {x : β} {l:List (Int×β)} (h:(l.map Prod.fst).Nodup):((put k x l).map Prod.fst).Nodup:=by
 induction l with
 | nil=>simp [put]
 | cons p l ih =>
   simp only [List.map_cons,List.nodup_cons] at h
   simp only [put]
   split
   ·rename_i he
    simp only [List.map_cons,List.nodup_cons,he]
    exact h
   ·rename_i he
    simp only [List.map_cons,List.nodup_cons]
    refine ⟨λhm=>?_,ih h.2⟩
    obtain ⟨q,hq,hqe⟩:=List.mem_map.1 hm
    rcases qK hq with rfl | hq
    ·exact he hqe
    ·exact h.1 (hqe▸List.mem_map_of_mem hq)
theorem Bb.put {α:Type} {l:List (Int×List α)} {k:Int} {x:List α} (h:Bb l) (h0:0<=k) (h1:k<64) (hx:x.length<=1000):Bb (put k x l):=by
 refine ⟨R6 h.1,λp hp=>?_⟩
 rcases qK hp with rfl | hp
 ·exact ⟨h0,h1,hx⟩
 ·exact h.2 p hp
theorem Ku {α:Type} {k k':Int} {x:List α} {l:List (Int×List α)}:xr k (put k' x l)=if k=k' then x else xr k l:=by
 simp only [xr,j6]
 split<;>rfl
def Dc {B:lZ} {o:Int} {n g:List bm} {s z:List (Int×List Int)} {x:bm} (h:x∈(⟨s,z,put o n B.d,put o g B.g⟩:lZ).qN):x∈B.qN\/x∈n++g:=by
 obtain ⟨p,hp,hx⟩:=List.mem_flatMap.1 h
 simp only [Ku] at hx
 rcases qK hp with rfl | hp
 ·right; simpa using hx
 ·by_cases he:p.1=o
  ·right; simpa [he] using hx
  ·left
   simp only [if_neg he] at hx
   exact List.mem_flatMap.2 ⟨p,hp,hx⟩
def LD {B:lZ} {n o:Int} {r:fe} (hB:mn B) (hM:By B n r) (h0:0<=o) (h1:o<64) (hs:r.steps.l.length<=1000) (hz:r.gB.l.length<=1000) (hn:r.fX.l.length<=1000) (hg:r.guards.l.length<=1000) :
  mn ⟨put o (r.steps.l.map fi.elem) B.s,put o r.gB.l B.z,put o r.fX.l B.d,put o r.guards.l B.g⟩:=by
 obtain ⟨⟨_,_,_,g,hg2⟩,hM1,hM2⟩:=hM
 obtain ⟨f,hf⟩:=hB.pos
 have hno:∀ x∈r.steps.l.map fi.elem,∀ p∈B.s,x∉p.2:=λx hx=>by
  obtain ⟨s,hs,rfl⟩:=List.mem_map.1 hx
  exact hM1 s hs
 refine ⟨hB.s.put h0 h1 (by simpa using hs),hB.z.put h0 h1 hz,hB.d.put h0 h1 hn,hB.g.put h0 h1 hg,?_,λe=>if e∈(r.fX.l++r.guards.l).map bm.elem then g e else f e,λx hx=>?_⟩
 ·intro p hp q hq x hxp hxq
  rcases qK hp with rfl | hp<;>rcases qK hq with rfl | hq
  ·rfl
  ·exact absurd hxq (hno x hxp q hq)
  ·exact absurd hxp (hno x hxq p hp)
  ·exact hB.one p hp q hq x hxp hxq
 ·have hpos:=hg2 x
  by_cases he:x.elem∈(r.fX.l++r.guards.l).map bm.elem
  ·obtain ⟨w,hw,hwe⟩:=List.mem_map.1 he
   have hw2:=hg2 w hw
   refine ⟨?_,?_⟩
   ·simp only [if_pos he]
    rcases Dc hx with h | h
    ·rw [hM2 w hw x h hwe.symm,hw2.1,hwe]
    ·exact (hg2 x h).1
   ·rcases Dc hx with h | h
    ·exact (hf x h).2
    ·exact (hg2 x h).2
  ·simp only [if_neg he]
   rcases Dc hx with h | h
   ·exact hf x h
   ·exact absurd (List.mem_map_of_mem h) he
def zX {C:gv} {F0:gX} {Pr:gQ} {f:Nat} (hp:Pr f=some oz) {H:au} {v:AV} {es:List (AV×AV)} {F:List gh} (hS:Sep H (.map v es::F)):∃ u H',fh C F0 Pr true f [v] { H with aT:=[] } u H'/\Sep H' (.map u es::.map v es::F):=by
 obtain ⟨b,es',c,hb,rfl,hg,rfl,hst⟩:=hS.at (i:=0) rfl
 have hlo:=hS.lo
 refine ⟨.hm H.size,{ H with aT:=[] }.push (.map es' c),⟨1,λk hk=>?_⟩,?_⟩
 ·cases k with
  | zero=>omega
  | succ k=>simp only [gP,hp,oz,au.iG,hg]
 ·have hS:=hS.aT []
  refine hS.new (by simp; omega) (by simp) ⟨H.size,es',c,by simp,rfl,?_,rfl,hst⟩ ?_ ?_<;>grind [au.nU,jD,gh.v]
theorem Sep.val {H:au} {L:List gh} (h:Sep H L) {i:Nat} {r:gh} (hi:L[i]?=some r):AV.ye r.v=true:=by
 have:=h.at hi
 cases r with
 | sl w t v n xs=>obtain ⟨hl,⟨_,rfl⟩ | ⟨_,rfl⟩ | ⟨b,g,j,hb,rfl,hq,ht⟩⟩:=this<;>rfl
 | map v es=>obtain ⟨b,es',c,hb,rfl,hq,he,hst⟩:=this; rfl
 | obj v cs=>obtain ⟨b,z,hb,rfl,hq⟩:=this; rfl
def AB (y:List (Int×(AV×List Int))) (o:Int) (r:fe) (y1:List (Int×(AV×List Int))) (z1:List (Int×Row Int)) (d1 g1:List (Int×Row bm)) (N:List gh):Prop :=
 (∀ p∈y1,p∈y\/(p.1=o/\p.2.2=r.steps.l.map fi.elem/\gh.sl true true p.2.1 1 (p.2.2.map cI)∈N/\p.2.2.length<=1000))/\mn (rL y1 z1 d1 g1)
def My {y:List (Int×(AV×List Int))} {z:List (Int×Row Int)} {d g:List (Int×Row bm)} {o:Int} {r:fe} (hB:mn (rL y z d g)):AB y o r y z d g []:=⟨λ_ hp=>.inl hp,hB⟩
def Mj {y:List (Int×(AV×List Int))} {z:List (Int×Row Int)} {d g:List (Int×Row bm)} {n o:Int} {r:fe} {v:AV} {l:List Int} {k:Nat} {zr:Row Int} {nr gr:Row bm} (hB:mn (rL y z d g)) (hM:By (rL y z d g) n r) (h0:0<=o/\o<64) (hq:r.steps.l.length<=12/\r.fX.l.length<=12/\r.guards.l.length<=1000/\r.gB.l.length<=12)
  (hl:l=(r.steps.l.take k).map fi.elem) (hk:r.steps.l.length<=k) (hz:zr.l=r.gB.l) (hn:nr.l=r.fX.l) (hg:gr.l=r.guards.l):AB y o r (put o (v,l) y) (put o zr z) (put o nr d) (put o gr g) [.sl true true v 1 (l.map cI)]:=by
 rw [List.take_of_length_le hk] at hl
 subst hl
 refine ⟨λp hp=>?_,?_⟩
 ·rcases qK hp with rfl | hp
  ·exact .inr ⟨rfl,rfl,.head _,by simp only [List.length_map]; omega⟩
  ·exact .inl hp
 ·have:=LD hB hM h0.1 h0.2 (by omega) (by omega) (by omega) (by omega)
  simp only [rL] at this ⊢
  rw [xv (f:=λp:AV×List Int=>p.2),xv (f:=λp:Row Int=>p.l),xv (f:=λp:Row bm=>p.l),xv (f:=λp:Row bm=>p.l),hz,hn,hg]
  exact this
def AB.fam {y:List (Int×(AV×List Int))} {o:Int} {r:fe} {y1:List (Int×(AV×List Int))} {z1:List (Int×Row Int)} {d1 g1:List (Int×Row bm)} {N F:List gh} (h:AB y o r y1 z1 d1 g1 N) (hF:lP y F):lP y1 (N++F):=by
 intro p hp
 rcases h.1 p hp with h | ⟨_,_,h1,h2⟩
 ·exact hF.app p h
 ·exact ⟨List.mem_append_left _ h1,h2⟩
def Sep.PU {H:au} {A B N F:List gh} (h:Sep H (A++(N++(B++F)))):Sep H (A++(B++(N++F))):=by
 refine ⟨h.lo,λr hr=>h.ok r ?_,?_⟩
 ·simp only [List.mem_append] at hr ⊢
  grind
 ·have hp:(A++(N++(B++F))).Perm (A++(B++(N++F))):=by
   refine List.Perm.append_left A ?_
   rw [<- List.append_assoc,<- List.append_assoc]
   exact List.Perm.append_right F List.perm_append_comm
  exact hp.pairwise h.AX λh=>h.symm
def I2 {L:List fi} {k:Nat} {l:List Int} {x:fi} (h:l=(L.take k).map fi.elem) (hk:k<L.length) (hq:L[k]=x):l++[x.elem]=(L.take (k+1)).map fi.elem:=by
 rw [List.take_succ_eq_append_getElem hk,hq,List.map_append,h]; rfl
def Qg {X:Ctx} {e:Env} {h h':au} {t d:Nat} {x:Operand} {ti:TI} {v:AV} {cs:List AV} (hT:X.C.T t=some ti) (hc:cellsOf ti (fg e x)=some cs) (hok:cs.all AV.gY=true) (hn:newVar X.fa d h cs=some (v,h')):gd (.box t x) X e h (some d)=some (v,h'):=by
 simp only [gd,J8,GU,hT,hc,hok,hn]
def mh (L:List fC) (i:Int):Prop:=∃ x,L[i.toNat]?=some x/\x.state≠0
def vS (c:fz) (L:List fC) (n:Int) (y:List (Int×(AV×List Int))):Prop :=
 (∀ p∈y,0<=p.1/\mh L p.1/\∃ r,c.roads.l[p.1.toNat]?=some r/\p.2.2=r.steps.l.map fi.elem)/\∀ (i:Nat) (x:fC),L[i]?=some x->x.state≠0->∃ r,c.roads.l[i]?=some r/\uH n r
def Qt {c:fz} {L:List fC} {n:Int} (h:∀ x∈L,x.state=0):vS c L n []:=⟨λp hp=>(by cases hp),λi x hx hn=>absurd (h x (List.mem_of_getElem? hx)) hn⟩
def Jw {c:fz} {L:List fC} {n o:Int} {y y1:List (Int×(AV×List Int))} {z1:List (Int×Row Int)} {d1 g1:List (Int×Row bm)} {N:List gh} {r r':fe} {x:fC} {B:lZ} (h:vS c L n y) (ht:AB y o r' y1 z1 d1 g1 N) (h0:0<=o) (hL:o.toNat<L.length) (hr:c.roads.l[o.toNat]?=some r) (he:r'=r) (hM:By B n r) (hx:x.state≠0):vS c (L.set o.toNat x) n y1:=by
 subst he
 have hset:mh (L.set o.toNat x) o:=⟨x,by rw [List.getElem?_set_self hL],hx⟩
 refine ⟨λp hp=>?_,λi w hw hn=>?_⟩
 ·rcases ht.1 p hp with hp | ⟨h1,h2,_⟩
  ·obtain ⟨h1,⟨w,hw,hn⟩,h3⟩:=h.1 p hp
   refine ⟨h1,?_,h3⟩
   by_cases he:o.toNat=p.1.toNat
   ·exact ⟨x,by rw [<- he,List.getElem?_set_self hL],hx⟩
   ·exact ⟨w,by rw [List.getElem?_set_ne he]; exact hw,hn⟩
  ·rw [h1]
   exact ⟨h0,hset,r',hr,h2⟩
 ·by_cases he:o.toNat=i
  ·subst he; exact ⟨r',hr,hM.1⟩
  ·rw [List.getElem?_set_ne he] at hw
   exact h.2 i w hw hn
section
variable {C:gv} {F:gX} {Pr:gQ} {fa:eY} {e:Env} {h:au} {all rest:List Oper} {o:Oper} {q:Env->au->Prop}
def Hf {f:Nat} {args args':List AV} {v:AV} {spec:List AV->Option AV} (hP:Pr f=some (mR spec)) (h1:gT h args=some args') (h2:gT au.empty args'=some args') (hc:fh C F Pr false f args' au.empty v au.empty):fh C F Pr false f args h v h:=by
 obtain ⟨m,hm⟩:=hc
 have:=hm (m+1) (Nat.le_succ m)
 simp only [gP,hP,mR,h2] at this
 refine ⟨1,λk hk=>?_⟩
 cases k with
 | zero=>omega
 | succ k =>
   simp only [gP,hP,mR,h1]
   split at this
   ·rename_i w hw
    simp only [Option.some.injEq,Prod.mk.injEq,and_true] at this
    simp only [hw,this]
   ·cases this
def y7 {f:Nat} {g:Operand} {c:Call} {args p r args':List AV} {R:AV->Prop} {spec:List AV->Option AV} (ho:o.op=.call c) (hw:fE all e o=some true) (hf:c.callee=.value g) (hg:fg e g=.gx f p r) (ha:c.args.toList.map (fg e)=args) (hok:(p++args++r).all AV.kK=true) (hs:fa.fY.elem f=false)
  (hP:Pr f=some (mR spec)) (h1:gT { h with aT:=[] } (p++args++r)=some args') (h2:gT au.empty args'=some args')
  (w:∀ h:au,∃ v,fh C F Pr false f args' h v h/\R v) (next:∀ v,R v->ic C F Pr fa all rest q (fp e o v) h):ic C F Pr fa all (o::rest) q e h:=by
 obtain ⟨v,hc,hR⟩:=w au.empty
 refine wX hw ?_ (next v hR)
 rw [ho]
 exact vP hf hg ha hok hs (Hf hP h1 h2 hc)
def K8 {j:Nat} {sch:List (Nat×List Nat)} {f:Nat} {g:Operand} {c:Call} {args p r args':List AV} {R:AV->Prop} {spec:List AV->Option AV} (hj:all[j]?=some o) (ho:o.op=.call c) (hw:fE all e o=some true) (hf:c.callee=.value g) (hg:fg e g=.gx f p r) (ha:c.args.toList.map (fg e)=args) (hok:(p++args++r).all AV.kK=true) (hs:fa.fY.elem f=false)
  (hP:Pr f=some (mR spec)) (h1:gT { h with aT:=[] } (p++args++r)=some args') (h2:gT au.empty args'=some args')
  (w:∀ h:au,∃ v,fh C F Pr false f args' h v h/\R v) (next:∀ v,R v->gZ C F Pr fa all sch q (fp e o v) h):gZ C F Pr fa all ((j,[])::sch) q e h:=by
 obtain ⟨v,hc,hR⟩:=w au.empty
 refine wP hj hw ?_ (next v hR)
 rw [ho]
 exact vP hf hg ha hok hs (Hf hP h1 h2 hc)
end
def sk {H:au} {L:List gh} {i n:Nat} {v:AV} {es:List (AV×AV)} (h:Sep H L) (hi:L[i]?=some (.map v es)):iR (n+1) v v=true:=by
 obtain ⟨b,es',c,hb,rfl,hg,hu,hst⟩:=h.at hi
 simp [iR]
def Sh {n:Nat} (x:jl):∀ y∈jl.ai x,iR (n+1) y y=true:=by
 intro y hy
 simp only [jl.ai,List.mem_cons,List.not_mem_nil,or_false] at hy
 rcases hy with rfl | rfl | rfl<;>simp [iR,oE,oo]
def Sd {n:Nat} (x:ig):∀ y∈ig.ai x,iR (n+1) y y=true:=by
 intro y hy
 simp only [ig.ai,List.mem_cons,List.not_mem_nil,or_false] at hy
 rcases hy with rfl | rfl | rfl | rfl<;>exact jm _ _ _
def Rm {n:Nat} (x:iD):∀ y∈iD.ai x,iR (n+1) y y=true:=by
 intro y hy
 simp only [iD.ai,List.mem_cons,List.not_mem_nil,or_false] at hy
 rcases hy with rfl | rfl | rfl | rfl
 ·exact Iu _ _
 ·exact jm _ _ _
 ·exact jm _ _ _
 ·exact Bq _ _
def R8 {n:Nat} (x:gp):∀ y∈gp.ai x,iR (n+2) y y=true:=by
 intro y hy
 simp only [gp.ai,List.mem_cons,List.not_mem_nil,or_false] at hy
 rcases hy with rfl | rfl
 ·exact Iu _ _
 ·exact lf CE
def DS {c:fz}:iR 8 (.agg (fz.ai c)) (.agg (fz.ai c))=true:=by
 refine Qq _ _ λy hy=>?_
 simp only [fz.ai,bY.ai,List.cons_append,List.nil_append,List.mem_cons,List.not_mem_nil,or_false] at hy
 rcases hy with rfl | rfl | rfl | rfl | rfl | rfl | rfl | rfl | rfl | rfl
 ·exact lf Sh
 ·exact lf Sd
 ·exact lf Rm
 ·exact lf R8
 ·exact jm _ _ _
 ·exact jm _ _ _
 ·exact jm _ _ _
 ·exact jm _ _ _
 ·exact Bq _ _
 ·exact lf Fh
def Ow (C:gv) (ti:TI) (i:Nat):Option (Nat×Nat):=match ti.kind with
 | .struct fs=>fs[i]?
 | .array n el=>match C.T el with
   | some t=>if i<n then some (i*t.size,el) else none
   | none=>none
 | _=>none
theorem MG {C:gv} {ti:TI} {i:Nat} {v:AV} {rest:List (Nat×AV)} {cs:List AV}:sG C ti ((i,v)::rest) cs=match Ow C ti i with
  | none=>none
  | some (off,ft)=>match C.T ft with
    | none=>none
    | some t=>match cellsOf t v with
      | none=>none
      | some new=>if new.all AV.gY then match lS cs off new with
        | none=>none
        | some cs=>sG C ti rest cs else none:=rfl
def nH {C:gv} {ti t:TI} {i off ft:Nat} {v:AV} {rest:List (Nat×AV)} {cs new cs' R:List AV} (hf:Ow C ti i=some (off,ft)) (ht:C.T ft=some t) (hc:cellsOf t v=some new) (hok:new.all AV.gY=true) (hs:lS cs off new=some cs') (hr:sG C ti rest cs'=some R):sG C ti ((i,v)::rest) cs=some R:=by
 rw [MG]
 simp only [hf,ht,hc,hok,hs,hr,if_true]
def IV {X:Ctx} {e:Env} {h:au} {t:Nat} {ps:Array (Nat×Operand)} {d:Option Nat} {ti:TI} {l:List (Nat×AV)} {cs:List AV} (hT:X.C.T t=some ti) (hb:buildable X.C ti.kind=true) (he:oc e ps=l) (hf:sG X.C ti l ti.zero=some cs):gd (.build t ps) X e h d=some (.agg cs,h):=by
 simp only [gd,Ci,zH,hT,hb,he,hf]
structure oL (a:iQ):Prop where
 bk:mn a.book.pl
 own:∀ p∈a.book.pl.s,0<=p.1/\mh a.kn.l p.1/\∃ r,a.c.roads.l[p.1.toNat]?=some r/\p.2=r.steps.l.map fi.elem
 rt:∀ (i:Nat) (x:fC),a.kn.l[i]?=some x->x.state≠0->∃ r,a.c.roads.l[i]?=some r/\uH a.c.cB.elems.l.length r
 len:a.kn.l.length=a.c.roads.l.length
 Cz:a.c.roads.l.length<=64
 seen:∀ x∈a.kn.l,x.seen.l.length<=12
 rd:∀ r∈a.c.roads.l,r.steps.l.length<=12/\r.gB.l.length<=12/\(∀ s∈r.steps.l,ky s.elem)/\∀ e∈r.gB.l,ky e
 el:a.c.cB.elems.l.length<=60
def zZ (B:lZ) (road e:Int):Prop:=∃ p∈B.s,p.1=road/\e∈p.2
theorem ta.iff {B:lZ} {road e v:Int} (hB:mn B) (h:ta B e v) (h0:0<=road):v=road↔zZ B road e:=by
 constructor
 ·rintro rfl
  rcases h with ⟨h1,_⟩ | ⟨p,hp,hx,rfl⟩
  ·omega
  ·exact ⟨p,hp,rfl,hx⟩
 ·rintro ⟨p,hp,rfl,hx⟩
  rcases h with ⟨_,h1⟩ | ⟨q,hq,hxq,rfl⟩
  ·exact absurd hx (h1 p hp)
  ·exact hB.one q hq p hp e hxq hx
open Classical in
noncomputable def mI (B:lZ) (road:Int) (l:List Int):List Int:=l.filter λe=>decide (zZ B road e)
theorem yd {B:lZ} {road e:Int} {l:List Int}:e∈mI B road l↔e∈l/\zZ B road e:=by simp [mI]
theorem xu {B:lZ} {road:Int} {l m:List Int}:mI B road (l++m)=mI B road l++mI B road m:=List.filter_append ..
def GM {B:lZ} {road e v:Int} (hB:mn B) (h:ta B e v) (h0:0<=road) (hv:v=road):mI B road [e]=[e]:=by
 simp [mI,(h.iff hB h0).1 hv]
def IJ {B:lZ} {road e v:Int} (hB:mn B) (h:ta B e v) (h0:0<=road) (hv:¬ v=road):mI B road [e]=[]:=by
 have:¬ zZ B road e:=λh1=>hv ((h.iff hB h0).2 h1)
 simp [mI,this]
def Nk {B:lZ} {road v:Int} {L:List fi} {k:Nat} {l:List Int} {x:fi} (hl:l=mI B road ((L.take k).map fi.elem)) (hB:mn B) (h:ta B x.elem v) (h0:0<=road) (hv:v=road) (hk:k<L.length) (hq:L[k]=x):l++[x.elem]=mI B road ((L.take (k+1)).map fi.elem):=by
 rw [List.take_succ_eq_append_getElem hk,hq,List.map_append,xu,hl]
 exact congrArg _ (GM hB h h0 hv).symm
def QK {B:lZ} {road v:Int} {L:List fi} {k:Nat} {l:List Int} {x:fi} (hl:l=mI B road ((L.take k).map fi.elem)) (hB:mn B) (h:ta B x.elem v) (h0:0<=road) (hv:¬ v=road) (hk:k<L.length) (hq:L[k]=x):l=mI B road ((L.take (k+1)).map fi.elem):=by
 rw [List.take_succ_eq_append_getElem hk,hq,List.map_append,xu,hl]
 rw [show List.map fi.elem [x]=[x.elem] from rfl,IJ hB h h0 hv,List.append_nil]
def NB {B:lZ} {road v:Int} {k:Nat} {l:List Int} (hl:l=mI B road ((List.range k).map λn:Nat=>(n:Int))) (hB:mn B) (h:ta B k v) (h0:0<=road) (hv:v=road):l++[(k:Int)]=mI B road ((List.range (k+1)).map λn:Nat=>(n:Int)):=by
 rw [List.range_succ,List.map_append,xu,hl]
 exact congrArg _ (GM hB h h0 hv).symm
def QM {B:lZ} {road v:Int} {k:Nat} {l:List Int} (hl:l=mI B road ((List.range k).map λn:Nat=>(n:Int))) (hB:mn B) (h:ta B k v) (h0:0<=road) (hv:¬ v=road):l=mI B road ((List.range (k+1)).map λn:Nat=>(n:Int)):=by
 rw [List.range_succ,List.map_append,xu,hl]
 rw [show List.map (λn:Nat=>(n:Int)) [k]=[(k:Int)] from rfl,IJ hB h h0 hv,List.append_nil]
def Ah (a:iQ) (road:Int) (l:List Int):Prop:=xY l/\∀ e,e∈l↔zZ a.book.pl road e
def yR (a:iQ) (road:Int) (l:List Int):Prop:=xY l/\∀ e,e∈l↔0<=road/\mh a.kn.l road/\∃ r,a.c.roads.l[road.toNat]?=some r/\e∈r.gB.l
def xo {a:iQ} {road e:Int} (h:oL a) (ho:zZ a.book.pl road e):0<=road/\mh a.kn.l road/\∃ r,a.c.roads.l[road.toNat]?=some r/\e∈r.steps.l.map fi.elem/\uH a.c.cB.elems.l.length r:=by
 obtain ⟨p,hp,rfl,he⟩:=ho
 obtain ⟨h1,h2,r,hr,h3⟩:=h.own p hp
 obtain ⟨x,hx,hn⟩:=h2
 obtain ⟨r',hr',h4⟩:=h.rt _ x hx hn
 rw [hr] at hr'
 cases hr'
 exact ⟨h1,⟨x,hx,hn⟩,r,hr,h3▸he,h4⟩
def xV {L:List fC} {i:Int} (h:mh L i):i.toNat<L.length:=by
 obtain ⟨x,hx,_⟩:=h
 exact (List.getElem?_eq_some_iff.1 hx).1
def zu {e:Int} (h:e∈([]:List Int)):False:=nomatch h
def GB {a:iQ} {road:Int} (h:oL a) (hr:road<0\/(a.c.roads.l.length:Int)<=road):Ah a road []/\yR a road []:=by
 refine ⟨⟨.nil,λe=>⟨λh1=>(zu h1).elim,λho=>?_⟩⟩,⟨.nil,λe=>⟨λh1=>(zu h1).elim,λho=>?_⟩⟩⟩
 ·obtain ⟨h1,h2,_⟩:=xo h ho
  have:=xV h2
  have:=h.len
  omega
 ·have:=xV ho.2.1
  have:=h.len
  have:=ho.1
  omega
def Qr {a:iQ} {road:Int} (h:oL a) (hr:¬ mh a.kn.l road):Ah a road []/\yR a road [] :=
 ⟨⟨.nil,λe=>⟨λh1=>(zu h1).elim,λho=>absurd (xo h ho).2.1 hr⟩⟩,⟨.nil,λe=>⟨λh1=>(zu h1).elim,λho=>absurd ho.2.1 hr⟩⟩⟩
def S4 {a:iQ} {road:Int} (h:oL a) (hr:¬ (0<=road/\mh a.kn.l road)):Ah a road []/\yR a road []:=by
 by_cases h0:0<=road
 ·exact Qr h λh1=>hr ⟨h0,h1⟩
 ·exact GB h (.inl (by omega))
def Sl {a:iQ} {road:Int} {r:fe} {k:Nat} {l m:List Int} {hk0:road.toNat<a.c.roads.l.length} (h:oL a) (hq:a.c.roads.l[road.toNat]=r) (hl:l=mI a.book.pl road ((r.steps.l.take k).map fi.elem)) (hk:r.steps.l.length<=k) (hm:m=iY l):Ah a road m:=by
 have hr:a.c.roads.l[road.toNat]?=some r:=by rw [List.getElem?_eq_getElem hk0,hq]
 rw [List.take_of_length_le hk] at hl
 have hnd:l.Nodup:=by
  by_cases ho:∃ e,zZ a.book.pl road e
  ·obtain ⟨e,ho⟩:=ho
   obtain ⟨_,_,r',hr',_,hR⟩:=xo h ho
   rw [hr] at hr'
   cases hr'
   rw [hl]
   exact hR.1.2.sublist List.filter_sublist
  ·have:l=[]:=by
    rw [hl]
    exact List.eq_nil_iff_forall_not_mem.2 λe he=>ho ⟨e,(yd.1 he).2⟩
   rw [this]; exact .nil
 rw [hm]
 refine ⟨LR hnd,λe=>?_⟩
 rw [(kF l).mem_iff,hl,yd]
 refine ⟨λh=>h.2,λho=>⟨?_,ho⟩⟩
 obtain ⟨_,_,r',hr',he,_⟩:=xo h ho
 rw [hr] at hr'
 cases hr'
 exact he
def tS {L M:List fC} {i:Int} {x:fC} {hk:i.toNat<L.length} (h:L.map fC.state=M.map fC.state) (hq:L[i.toNat]=x):x.state≠0↔mh M i:=by
 have h1:(L.map fC.state)[i.toNat]?=some x.state:=by rw [List.getElem?_map,List.getElem?_eq_getElem hk,hq]; rfl
 rw [h,List.getElem?_map] at h1
 constructor
 ·intro hx
  cases hM:M[i.toNat]? with
  | none=>rw [hM] at h1; cases h1
  | some y =>
    rw [hM] at h1
    simp only [Option.map_some,Option.some.injEq] at h1
    exact ⟨y,hM,h1▸hx⟩
 ·rintro ⟨y,hy,hn⟩
  rw [hy] at h1
  simp only [Option.map_some,Option.some.injEq] at h1
  exact h1▸hn
def Su {a:iQ} {road:Int} {r:fe} {l m o:List Int} {hk0:road.toNat<a.c.roads.l.length} (hq:a.c.roads.l[road.toNat]=r) (h0:0<=road) (hn:mh a.kn.l road) (hl:l=r.gB.l) (hm:m=iY l) (ho:o=Lib.compact m):yR a road o:=by
 have hr:a.c.roads.l[road.toNat]?=some r:=by rw [List.getElem?_eq_getElem hk0,hq]
 obtain ⟨h1,h2⟩:=AZ (oZ l)
 rw [ho,hm]
 refine ⟨h1,λe=>?_⟩
 rw [h2,(kF l).mem_iff,hl]
 constructor
 ·exact λhe=>⟨h0,hn,r,hr,he⟩
 ·rintro ⟨_,_,r',hr',he⟩
  rw [hr] at hr'
  cases hr'
  exact he
def Qy {a:iQ} {road:Int} {m o:List Int} (hn:¬ mh a.kn.l road) (hm:m=iY []) (ho:o=Lib.compact m):yR a road o:=by
 obtain ⟨h1,h2⟩:=AZ (oZ [])
 rw [ho,hm]
 refine ⟨h1,λe=>?_⟩
 rw [h2,(kF []).mem_iff]
 exact ⟨λh1=>(zu h1).elim,λh=>absurd h.2.1 hn⟩
def QG {a:iQ} {road:Int} {k:Nat} {l:List Int} (h:oL a) (hl:l=mI a.book.pl road ((List.range k).map λn:Nat=>(n:Int))) (hk:a.c.cB.elems.l.length<=k):Ah a road l:=by
 refine ⟨?_,λe=>?_⟩
 ·rw [hl]
  refine List.Pairwise.filter _ ?_
  rw [List.pairwise_map]
  exact (List.pairwise_lt_range (n:=k)).imp λh=>by omega
 ·rw [hl,yd]
  refine ⟨λh=>h.2,λho=>⟨?_,ho⟩⟩
  obtain ⟨_,_,r,_,he,hR⟩:=xo h ho
  obtain ⟨s,hs,rfl⟩:=List.mem_map.1 he
  have:=hR.2.1 s hs
  exact List.mem_map.2 ⟨s.elem.toNat,List.mem_range.2 (by omega),by omega⟩
open Classical in
noncomputable def th (Z:List Int) (l:List Int):List Int:=l.filter λe=>decide (e∈Z)
def M5 {Z:List Int} {k:Nat} {l:List Int} (hl:l=th Z ((List.range k).map λn:Nat=>(n:Int))) (h:(k:Int)∈Z):l++[(k:Int)]=th Z ((List.range (k+1)).map λn:Nat=>(n:Int)):=by
 rw [List.range_succ,List.map_append,th,List.filter_append,hl]
 simp [th,h]
def Qz {Z:List Int} {k:Nat} {l:List Int} (hl:l=th Z ((List.range k).map λn:Nat=>(n:Int))) (h:(k:Int)∉Z):l=th Z ((List.range (k+1)).map λn:Nat=>(n:Int)):=by
 rw [List.range_succ,List.map_append,th,List.filter_append,hl]
 simp [th,h]
def QP {a:iQ} {road:Int} {r:fe} {k:Nat} {l:List Int} {hk0:road.toNat<a.c.roads.l.length} (h:oL a) (hq:a.c.roads.l[road.toNat]=r) (h0:0<=road) (hn:mh a.kn.l road) (hl:l=th r.gB.l ((List.range k).map λn:Nat=>(n:Int))) (hk:a.c.cB.elems.l.length<=k):yR a road l:=by
 have hr:a.c.roads.l[road.toNat]?=some r:=by rw [List.getElem?_eq_getElem hk0,hq]
 refine ⟨?_,λe=>?_⟩
 ·rw [hl]
  refine List.Pairwise.filter _ ?_
  rw [List.pairwise_map]
  exact (List.pairwise_lt_range (n:=k)).imp λh=>by omega
 ·rw [hl]
  simp only [th,List.mem_filter,decide_eq_true_eq]
  constructor
  ·exact λhe=>⟨h0,hn,r,hr,he.2⟩
  ·rintro ⟨_,⟨x,hx,hxn⟩,r',hr',he⟩
   rw [hr] at hr'
   cases hr'
   obtain ⟨r',hr',hR⟩:=h.rt _ x hx hxn
   rw [hr] at hr'
   cases hr'
   have:=hR.2.2.1 e he
   exact ⟨List.mem_map.2 ⟨e.toNat,List.mem_range.2 (by omega),by omega⟩,he⟩
def J1 {L:List fC} {k:Nat} {x y:fC} {hk:k<L.length} (hq:L[k]=x) (h:y.state=x.state):(L.set k y).map fC.state=L.map fC.state:=by
 rw [List.map_set,h,<- hq]
 refine List.ext_getElem (by simp) λi h1 h2=>?_
 rw [List.getElem_set]
 split
 ·rename_i he; subst he; simp
 ·rfl
def Rp {a:iQ} {c:fz} {road:Int} {r:fe} {x:fC} {L:List fC} {k:Nat} {l lo z zo zc R0 R1:List Int} {hk0:road.toNat<c.roads.l.length} {hk1:road.toNat<L.length} (h:oL a) (hc:c=a.c) (h0:0<=road) (hq:c.roads.l[road.toNat]=r) (hl:l=mI a.book.pl road ((r.steps.l.take k).map fi.elem)) (hk:r.steps.l.length<=k)
  (hr0:R0=lo) (hm:lo=iY l) (hLv:L.map fC.state=a.kn.l.map fC.state) (hx:L[road.toNat]=x) (hz:(x.state≠0/\z=r.gB.l)\/(x.state=0/\z=[])) (hr1:R1=zc) (hzc:zc=Lib.compact zo) (hzo:zo=iY z):Ah a road R0/\yR a road R1:=by
 subst hc
 refine ⟨Sl h hq hl hk (hr0.trans hm),?_⟩
 rcases hz with ⟨hn,hz⟩ | ⟨hn,hz⟩
 ·exact Su hq h0 ((tS hLv hx).1 hn) hz hzo (hr1.trans hzc)
 ·subst hz
  exact Qy (λh2=>(tS hLv hx).2 h2 hn) hzo (hr1.trans hzc)
def yp {B:lZ} {road:Int} {L:List fi} {k:Nat} {l:List Int} (hl:l=mI B road ((L.take k).map fi.elem)) (hs:∀ s∈L,ky s.elem) (hL:L.length<=12):(∀ x∈l,ky x)/\l.length<=12:=by
 rw [hl]
 refine ⟨λx hx=>?_,?_⟩
 ·obtain ⟨s,hs',rfl⟩:=List.mem_map.1 (yd.1 hx).1
  exact hs s (List.mem_of_mem_take hs')
 ·have h1:(mI B road ((L.take k).map fi.elem)).length<=((L.take k).map fi.elem).length:=List.length_filter_le _ _
  simp only [List.length_map,List.length_take] at h1
  omega
def Ri {a:iQ} {c:fz} {road:Int} {r:fe} {k:Nat} {l z R0 R1:List Int} (h:oL a) (hc:c=a.c) (h0:0<=road) (hn:mh a.kn.l road) (hq:c.roads.l[road.toNat]?=some r) (hl:l=mI a.book.pl road ((List.range k).map λn:Nat=>(n:Int))) (hz:z=th r.gB.l ((List.range k).map λn:Nat=>(n:Int))) (hk:a.c.cB.elems.l.length<=k) (hr0:R0=l) (hr1:R1=z):Ah a road R0/\yR a road R1:=by
 subst hc
 subst hr0 hr1
 exact ⟨QG h hl hk,QP h (List.getElem?_eq_some_iff.1 hq).2 h0 hn hz hk⟩
def VI:mn (rL [] [] [] []):=by
 have k0:∀ α:Type,Bb ([]:List (Int×List α)):=λα=>⟨.nil,λp hp=>by cases hp⟩
 exact ⟨k0 _,k0 _,k0 _,k0 _,λp hp=>(by cases hp),⟨λ_=>0,λx hx=>(by cases hx)⟩⟩
def GC {c:fz} {lv:ff fC} {bk:fq} {tk:iy} {ap:ff Int} {y:List (Int×(AV×List Int))} {z:List (Int×Row Int)} {d g:List (Int×Row bm)} {L:List fC} {ke:Int} {p:bY} (hpl:bk.pl=rL y z d g) (hlv:lv.l=L) (hB:mn (rL y z d g)) (hT:vS c L ke y) (hke:ke<=(c.cB.elems.l.length:Int)) (hL:L.length=c.roads.l.length) (h64:c.roads.l.length<=64) (hs:∀ x∈L,x.seen.l.length<=12) (hr:∀ r∈c.roads.l,0<r.steps.l.length/\r.steps.l.length<=12/\r.fX.l.length<=12/\ns p r) (he:c.cB.elems.l.length<=60):oL ⟨c,lv,bk,tk,ap⟩:=by
 subst hlv
 refine ⟨by rw [hpl]; exact hB,λq hq=>?_,λi x hx hn=>?_,hL,h64,hs,λr h=>?_,he⟩
 ·have hq:q∈bk.pl.s:=hq
  rw [hpl] at hq
  obtain ⟨p,hp,rfl⟩:=List.mem_map.1 hq
  exact hT.1 p hp
 ·obtain ⟨r,h1,h2,h3,h4,h5⟩:=hT.2 i x hx hn
  exact ⟨r,h1,h2,λs hs=>⟨(h3 s hs).1,Int.lt_of_lt_of_le (h3 s hs).2 hke⟩,λe he=>⟨(h4 e he).1,Int.lt_of_lt_of_le (h4 e he).2 hke⟩,h5⟩
 ·obtain ⟨h1,h2,_,hG⟩:=hr r h
  exact ⟨h2,hG.2.1,λs hs=>(hG.1 s hs).1.ky,λe he=>(hG.2.2.1 e he).ky⟩
def Rv {a b:iQ} {B:lZ} {road:Int} {l m:List Int} (h1:Ah a road l) (h2:Ah b road m) (ea:a.book.pl=B) (eb:b.book.pl=B):l=m :=
 h1.1.ext h2.1 λe=>by rw [h1.2,h2.2,ea,eb]
def Tp {a b:iQ} {L:List fC} {road:Int} {l m:List Int} (h1:yR a road l) (h2:yR b road m) (ea:a.kn.l=L) (eb:b.kn.l=L) (ec:a.c=b.c):l=m :=
 h1.1.ext h2.1 λe=>by rw [h1.2,h2.2,ea,eb,ec]
def QW {a:iQ} {B C:lZ} {road x r:Int} (hB:mn C) (h:ta B x r) (ho:zZ a.book.pl road x) (ea:a.book.pl=C) (eb:B=C):r=road:=by
 subst eb
 rw [ea] at ho
 have h0:0<=road:=by
  obtain ⟨p,hp,rfl,_⟩:=ho
  exact (hB.s.2 p hp).1
 exact (h.iff hB h0).2 ho
def Zm {c:fz} {p:bY} (hr:∀ r∈c.roads.l,0<r.steps.l.length/\r.steps.l.length<=12/\r.fX.l.length<=12/\ns p r):∀ r∈c.roads.l,(1<=r.steps.l.length/\r.steps.l.length<=12)/\r.fX.l.length<=12/\r.guards.l.length<=1000/\r.gB.l.length<=12:=λr h=>by
 obtain ⟨h1,h2,h3,hG⟩:=hr r h
 exact ⟨⟨h1,h2⟩,h3,hG.2.2.2.1,hG.2.1⟩
end Go.Sx
namespace Go.Sx
open Go
section
variable {P:Program} {X:Ctx} {N:Nat} {G0:Ga}
theorem Fy {C : gv} {f : Nat} {fa : eY} (hC : gR P C) {fn : Func} (hfn : P.funcs[f]? = some fn) (hbody : fn.body = some fa.body) (hres : fn.results.toList = fa.res) (hname : (fn.name == "runtime.NumGoroutine") = false) {args args0 : List AV} {x : Ex} {e' : Env} {h' : au} {v : AV} {h : au}
  (hr:∀ G0:Ga,G0.h=au.empty->lD P fn.ntmps G0 fa.body (params 0 args0) au.empty x e' h') (hv:frozen h (leave C fa.res (some (x,e',h')))=some (v,h)) (hargs:gT h args=some args0):BY P f args h v h:=by
 intro G args' hG hlo hL hW hl hrel
 refine ⟨⟨fn,hfn,by grind,hname⟩,?_⟩
 intro R hR
 subst hG
 obtain ⟨k1,k2⟩:=qn hW hargs hl hrel
 have hW1:=AD hW
 have main:∀ v0 h1,leave.leave1 C fa.res e' h'=some (v0,h1)->freeze false h1 8 v0=some v->(x=.gH\/x=.ret)->Calls P f args' G.w R:=by
  intro v0 h1 hlv hfz hx
  refine calls_of_wp (w:=(od G).w) hfn hbody ?_
  have hfr:Fr (od G) (od G):=by
   refine ⟨⟨⟨λ_ _ h=>h,λ_ _ _=>rfl,Nat.le_refl _,λ_ _ g z xs h=>⟨g,z,xs,h,Nat.le_refl _,λ_=>⟨rfl,λ_ h=>h⟩⟩,λ_ _ es c h=>⟨es,c,h,λ_ h=>h⟩,λd B h=>(by cases h)⟩,rfl,rfl,.rfl _,Nat.le_refl _,λ_ _ _ _=>rfl,
    λ_ l h=>.inl ⟨l,h,rfl⟩,λ_ _ h=>(by cases h),λ_ _ h=>.inl h,rfl,λ_ _ _=>rfl,λ_ _ h=>(by cases h),λ_ _ h=>(by cases h),λd c _ hd=>(by cases hd)⟩,λd B h=>(by cases h)⟩
  have hSt:St fn.ntmps (od G) (od G) (params 0 args0) { tmps:=args'++Array.replicate (fn.ntmps - args'.size) undef,defers:=[] } :=
   ⟨hfr,hW1,zY k1 k2 _,rfl,by grind⟩
  refine hr (od G) rfl (od G) _ _ rfl hSt ?_
  intro G1 a1 hG1 hS1
  have hpost:∃ u,(results fn a1.tmps).run P G1.w=.ok u G1.w/\R (.returned u) G1.w:=by
   rw [<- hG1,<- hres] at hlv
   obtain ⟨e1,u,e2,e3⟩:=uN hS1.wr hC hS1.er hlv
   refine ⟨u,e2,?_⟩
   have S2:=hS1.fr.S
   have W2:WR (G1.gK [] λ_=>none):=hS1.wr.Cb (λd B h=>by cases h) (λd B h=>by cases h)
   obtain ⟨S3,W3⟩:=vW hW hL S2 W2
   have hfz2:freeze false (G1.gK [] λ_=>none).h 8 v0=some v:=by
    refine nM (h:=h1) ?_ _ _ _ hfz
    intro b o hb
    rw [e1] at hb
    exact hb
   exact hR u (re G (G1.gK [] λ_=>none)) S3 W3 (λm=>rfl) (λm L=>(tZ S2 W2 hfz2 e3.gK).gK.vr)
  rcases hx with rfl | rfl
  ·exact ⟨hS1.df,hpost⟩
  ·exact ⟨hS1.df,hpost⟩
 have fin:∀ v0 h1,leave C fa.res (some (x,e',h'))=some (v0,h1)->freeze false h1 8 v0=some v:=by
  grind [frozen]
 cases x with
 | gH =>
   cases hq:leave C fa.res (some (.gH,e',h')) with
   | none=>rw [hq] at hv; cases hv
   | some y =>
     obtain ⟨v0,h1⟩:=y
     exact main v0 h1 hq (fin v0 h1 hq) (.inl rfl)
 | ret =>
   cases hq:leave C fa.res (some (.ret,e',h')) with
   | none=>rw [hq] at hv; cases hv
   | some y =>
     obtain ⟨v0,h1⟩:=y
     exact main v0 h1 hq (fin v0 h1 hq) (.inr rfl)
 | ext id=>cases hv
theorem A8 {h h2:au} {args kU:List AV} (ha:gT h args=some kU) (E:∀ b o,h.get b=some o->h2.get b=some o):gT h2 args=some kU:=by
 unfold gT at ha ⊢
 split at ha
 ·have:∀ (l l':List AV),fU (freeze true h 8) l=some l'->fU (freeze true h2 8) l=some l':=by
   intro l
   induction l<;>grind [fU,nM]
  grind
 ·grind
def HW (a0:List AV) (v0:AV) (a1:List AV) (v1:AV) (shd:Bool) (args:List AV) (h:au):R2:=match shd with
 | true=>none
 | false=>match gT h args with
   | some a=>match lK (iR 12) a0 a with
     | true=>some (v0,h)
     | false=>match lK (iR 12) a1 a with
       | true=>some (v1,h)
       | false=>none
   | none=>none
def Q5 {f:Nat} {a0 a1:List AV} {v0 v1:AV} (h0:∀ args h1,gT h1 args=some a0->BY P f args h1 v0 h1) (h1:∀ args h2,gT h2 args=some a1->BY P f args h2 v1 h2):lg P f (HW a0 v0 a1 v1) where
 call:=by
  intro shd args h v h' hc
  unfold HW at hc
  split at hc
  ·cases hc
  ·split at hc
   ·rename_i a ha
    split at hc
    ·rename_i hq
     cases hc
     have:=lX (oe 12) _ _ hq
     subst this
     exact h0 args h ha
    ·split at hc
     ·rename_i hq
      cases hc
      have:=lX (oe 12) _ _ hq
      subst this
      exact h1 args h ha
     ·cases hc
   ·cases hc
 Ce:=by
  intro args h v h' hc
  unfold HW at hc
  split at hc
  ·rename_i hh; cases hh
  ·split at hc
   ·rename_i a ha
    split at hc
    ·rename_i hq
     cases hc
     refine ⟨rfl,λh2 E=>?_⟩
     unfold HW
     simp only [A8 ha E,hq]
    ·split at hc
     ·cases hc
      refine ⟨rfl,λh2 E=>?_⟩
      unfold HW
      rw [A8 ha E]
      simp_all
     ·cases hc
   ·cases hc
end
end Go.Sx
