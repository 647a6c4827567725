/- Proves rules for the walks and their soundness. -/
import Derived.Test.YtlhainfgnlmhfaaGreatTae
set_option linter.all false
namespace Go.Sx
open Go
section
variable (X:Ctx) (lp:rR)
def mG:List Bool→Code→g8→Env→bY→RC
 | [],_,_,e,h=>some (.gf,e,h)
 | true::p,.seq a b,.sq x y,e,h=>andThen (mG p b y) (fT X lp a x e h)
 | true::p,.seq a b,.seq live x y,e,h=>andThen (hZ live (mG p b y)) (fT X lp a x e h)
 | false::p,.seq a _,.sq x _,e,h=>mG p a x e h
 | false::p,.seq a _,.seq _ x _,e,h=>mG p a x e h
 | false::p,.block _ a,an,e,h=>mG p a an e h
 | _,_,_,_,_=>none
def behind:List Bool→Code→g8→RC→RC
 | [],_,_,r=>r
 | true::p,.seq _ b,.sq _ y,r=>behind p b y r
 | true::p,.seq _ b,.seq _ _ y,r=>behind p b y r
 | false::p,.seq a b,.sq x y,r=>andThen (fT X lp b y) (behind p a x r)
 | false::p,.seq a b,.seq live x y,r=>andThen (hZ live (fT X lp b y)) (behind p a x r)
 | false::p,.block id a,an,r=>atEnd id (behind p a an r)
 | _,_,_,r=>r
end
def m6:List Bool→Code→g8→Code×g8
 | [],c,an=>(c,an)
 | true::p,.seq _ b,.sq _ y=>m6 p b y
 | true::p,.seq _ b,.seq _ _ y=>m6 p b y
 | false::p,.seq a _,.sq x _=>m6 p a x
 | false::p,.seq a _,.seq _ x _=>m6 p a x
 | false::p,.block _ a,an=>m6 p a an
 | _,c,an=>(c,an)
section
variable {X:Ctx} {lp:rR}
theorem sJ {k:Env→bY→RC} {r:RC} {e0:Env} {h0:bY} (h:andThen k r=some (.gf,e0,h0)):∃ e h,r=some (.gf,e,h)∧k e h=some (.gf,e0,h0):=by
 unfold andThen at h
 split at h
 ·exact ⟨_,_,rfl,h⟩
 ·rename_i hne
  subst h
  exact (hne e0 h0 rfl).elim
def l8:Nat→(Env→bY→RC)→Env→bY→RC
 | 0,_,e,h=>some (.gf,e,h)
 | n+1,f,e,h=>match f e h with
   | some (.gf,e,h)=>l8 n f e h
   | r=>r
end
def mc (args0:List AV) (v0:AV) (shd:Bool) (args:List AV) (h:bY):R2:=match shd,jX (jP 12) args0 args with
 | false,true=>some (v0,h)
 | _,_=>none
theorem sH {P:Program} {C:fP} {F:iI} {Pr:iw} (T:pz P C F Pr) {f n:Nat} {args0:List AV} {v0:AV} {h0:bY} (h:ja C F Pr n false f args0 bY.empty=some (v0,h0)):ru P f (mc args0 v0) where
 call:=by
  intro shd args h1 v h' hc
  unfold mc at hc
  split at hc
  ·rename_i _ ha
   cases hc
   have:=iP (kh 12) _ _ ha
   subst this
   obtain ⟨_,k⟩:=mW T n f args0 bY.empty v0 h0 h
   exact mI T n false f args0 h1 v0 h1 (k h1 (fun b o hb=>by rw [uO] at hb; cases hb))
  ·cases hc
 Eo:=by
  intro args h1 v h' hc
  unfold mc at hc
  split at hc
  ·rename_i _ ha
   cases hc
   exact ⟨rfl,fun h2 _=>by simp only [mc,ha]⟩
  ·cases hc
end Go.Sx
namespace Go.Sx
open Go
def iZ (P:Program) (N:Nat) (G0:Ga) (c:Code) (e:Env) (h:bY) (x:Ex) (e':Env) (h':bY):Prop :=
 ∀ (G:Ga) (a:Act) (Q:Exit→Act→World→Prop),G.h=h→St N G0 G e a→(∀ G' a',G'.h=h'→St N G0 G' e' a'→Q (sZ x) a' G'.w)→c.wp P Q a G.w
def tu:Tr ij→(Nat→Nat)→bY→Bool
 | .leaf,_,_=>true
 | .node l v r,f,h=>(match v with
   | some (.eL g z xs)=>match h.get (f 0) with
     | some (.eL g' z' xs')=>Nat.beq g g'&&Nat.beq z z'&&jX (jX (jP 12)) xs xs'
     | _=>false
   | some (.map es c)=>match h.get (f 0) with
     | some (.map es' c')=>Nat.beq c c'&&jX (fun p q=>jP 12 p.1 q.1&&jP 12 p.2.1 q.2.1&&Nat.beq p.2.2 q.2.2) es es'
     | _=>false
   | none=>true)&&tu l (fun n=>f (2*n+1)) h&&tu r (fun n=>f (2*n+2)) h
def ux (h2 h1:bY):Bool:=Nat.beq h2.size h1.size&&Nat.beq h2.lo h1.lo&&Nat.beq h2.lo 0&&jX (fun p q=>Nat.beq p.1 q.1&&jX (jP 12) p.2 q.2) h2.dO h1.dO&&tu h2.tr id h1
structure Sub (h2 h1:bY):Prop where
 size:h2.size=h1.size
 lo:h2.lo=h1.lo
 dO:h2.dO=h1.dO
 get:∀ b o,h2.get b=some o→h1.get b=some o
theorem rD:∀ (t:Tr ij) (f:Nat→Nat) (h:bY),tu t f h=true→∀ (n:Nat) (o:ij),t.get n=some o→h.get (f n)=some o
 | .leaf,_,_,_,n,o,h=>by simp [Tr.get] at h
 | .node l v r,f,h,ha,n,o,hg=>by
   simp only [tu,Bool.and_eq_true] at ha
   obtain ⟨⟨h1,h2⟩,h3⟩:=ha
   cases n with
   | zero =>
     simp only [Tr.get] at hg
     subst hg
     cases o with
     | eL g z xs =>
       simp only at h1
       split at h1
       ·rename_i g' z' xs' hget
        simp only [Bool.and_eq_true] at h1
        rw [hget,Nat.eq_of_beq_eq_true h1.1.1,Nat.eq_of_beq_eq_true h1.1.2,iP (fun _ _=>iP (kh 12) _ _) _ _ h1.2]
       ·cases h1
     | map es c =>
       simp only at h1
       split at h1
       ·rename_i es' c' hget
        simp only [Bool.and_eq_true] at h1
        have:es=es':=iP (fun p q hpq=>by
         simp only [Bool.and_eq_true] at hpq
         exact Prod.ext (kh 12 _ _ hpq.1.1) (Prod.ext (kh 12 _ _ hpq.1.2) (Nat.eq_of_beq_eq_true hpq.2))) _ _ h1.2
        rw [hget,Nat.eq_of_beq_eq_true h1.1,this]
       ·cases h1
   | succ m =>
     simp only [Tr.get] at hg
     split at hg
     ·rename_i hm
      have hm:=Nat.eq_of_beq_eq_true hm
      have:=rD l _ h h2 (m / 2) o hg
      rw [show 2*(m / 2)+1=m+1 by omega] at this
      exact this
     ·rename_i hm
      have hm:m % 2≠0:=Nat.ne_of_beq_eq_false hm
      have:=rD r _ h h3 (m / 2) o hg
      rw [show 2*(m / 2)+2=m+1 by omega] at this
      exact this
theorem zb {h2 h1:bY} (h:ux h2 h1=true):Sub h2 h1:=by
 simp only [ux,Bool.and_eq_true] at h
 obtain ⟨⟨⟨⟨a1,a2⟩,a3⟩,a4⟩,a5⟩:=h
 refine ⟨Nat.eq_of_beq_eq_true a1,Nat.eq_of_beq_eq_true a2,iP (fun p q hpq=>by
  simp only [Bool.and_eq_true] at hpq
  exact Prod.ext (Nat.eq_of_beq_eq_true hpq.1) (iP (kh 12) _ _ hpq.2)) _ _ a4,?_⟩
 intro b o hg
 have hlo:=Nat.eq_of_beq_eq_true a3
 simp only [bY.get,hlo] at hg
 rw [Nat.ble_eq_true_of_le (Nat.zero_le b)] at hg
 exact rD h2.tr id h1 a5 b o hg
section
variable {P:Program} {X:Ctx} {N:Nat} {G0:Ga}
theorem St.drop {G:Ga} {e:Env} {a:Act} {h2:bY} (hS:St N G0 G e a) (hs:Sub h2 G.h) (h0:G0.h.size=0):St N G0 ⟨G.w,G.T,h2,G.pi,G.L⟩ e a:=by
 have E:Ext G ⟨G.w,G.T,h2,G.pi,G.L⟩:=⟨fun _ _ h=>h,fun _ _ _=>rfl,by rw [hs.size]; exact Nat.le_refl _,fun b _ g z xs h=>⟨g,z,xs,hs.get b _ h,Nat.le_refl _,fun _=>⟨rfl,fun _ h=>h⟩⟩,fun b _ es c h=>⟨es,c,hs.get b _ h,fun _ h=>h⟩,fun _ _ h=>h⟩
 refine ⟨⟨?_,hS.fr.L⟩,?_,hS.er.mono E,hS.df,hS.sz⟩
 ·have S:=hS.fr.S
  refine ⟨⟨S.ext.T,S.ext.eB,by rw [h0]; exact Nat.zero_le _,fun b hb=>by omega,fun b hb=>by omega,S.ext.dO⟩,S.os,S.output,S.tape,S.gG,S.frame,S.iN,S.ji,S.l3,?_,fun b hb=>by omega,S.kZ,S.mf,S.mH⟩
  exact hs.lo.trans S.lo
 ·have W:=hS.wr
  refine ⟨fun b l g z xs hp hg=>(W.eL b l g z xs hp (hs.get b _ hg)).mono E rfl,fun b l es c hp hg=>(W.map b l es c hp (hs.get b _ hg)).mono E rfl,?_,?_,W.iU,W.ll,W.jZ,W.LT,W.kp,?_,W.jn,?_,?_⟩
  ·intro d B cs hd hcs
   have hcs:fJ h2.dO d=some cs:=hcs
   rw [hs.dO] at hcs
   exact (W.loc d B cs hd hcs).mono E rfl
  ·intro b l h
   refine ⟨(W.gE b l h).1,?_⟩
   show b<h2.size
   rw [hs.size]; exact (W.gE b l h).2
  ·intro d B h
   refine ⟨(W.iE d B h).1,?_⟩
   show (fJ h2.dO d).isSome=true
   rw [hs.dO]; exact (W.iE d B h).2
  ·show h2.lo≤h2.size
   rw [hs.lo,hs.size]; exact W.lo
  ·intro b o h
   show b<h2.size
   rw [hs.size]; exact W.lt b o (hs.get b o h)
theorem oh (hm:P.follows .mixedOrders=true) (hC:fV P X.C) (hK:js P X.call) (hI:j4 X.call) {n:Nat} {c:Code} {an:g8} {e:Env} {h:bY} {x:Ex} {e':Env} {h':bY} (hr:fT X (gA n) c an e h=some (x,e',h')) (hok:codeOk N X.fa.fw c an=true) :
  iZ P N G0 c e h x e' h':=fun G a Q hG hS hQ=>p8 hm hC hK hI n c an e h x e' h' hr hok G a Q hG hS hQ
inductive oz (f:Env→bY→RC):Env→bY→Ex→Env→bY→Prop
 | last {e h x e' h'} (k:Nat):l8 k f e h=some (x,e',h')→x≠.gf→oz f e h x e' h'
 | step {e h e1 h1 h2 x e' h'} (k:Nat):l8 (k+1) f e h=some (.gf,e1,h1)→Sub h2 h1→oz f e1 h2 x e' h'→oz f e h x e' h'
def lg (k:Nat) (f:Env→bY→RC) (e:Env) (h:bY) (e1:Env) (h2:bY):Bool:=match l8 (k+1) f e h with
 | some (.gf,e',h')=>jX (fun p q=>Nat.beq p.1 q.1&&jP 12 p.2 q.2) e1 e'&&ux h2 h'
 | _=>false
theorem oz.piece {f:Env→bY→RC} {e:Env} {h:bY} {e1:Env} {h2:bY} {x:Ex} {e':Env} {h':bY} (k:Nat) (hp:lg k f e h e1 h2=true) (hc:oz f e1 h2 x e' h'):oz f e h x e' h':=by
 unfold lg at hp
 split at hp
 ·rename_i e0 h0 hi
  simp only [Bool.and_eq_true] at hp
  have:e1=e0:=iP (fun p q hpq=>by
   simp only [Bool.and_eq_true] at hpq
   exact Prod.ext (Nat.eq_of_beq_eq_true hpq.1) (kh 12 _ _ hpq.2)) _ _ hp.1
  subst this
  exact .step k hi (zb hp.2) hc
 ·cases hp
theorem xH {c:Code} {n0:Nat} (ih:om P X N G0 (gA n0) c) {live:List Nat} {y:g8} (hok:codeOk N X.fa.fw c y=true) {J:Nat→Act→World→Prop} {Q:Exit→Act→World→Prop} {n:Nat}
  {e:Env} {h:bY} {x:Ex} {e':Env} {h':bY} (hr:hZ live (fT X (gA n0) c y) e h=some (x,e',h')) {G:Ga} {a:Act} (hG:G.h=h) (hS:St N G0 G e a)
  (hQ:∀ G' a',G'.h=h'→St N G0 G' e' a'→Exit.then (fun a' w'=>∃ m,m<n∧J m a' w') Q (sZ x) a' G'.w):c.wp P (Exit.then (fun a' w'=>∃ m,m<n∧J m a' w') Q) a G.w:=by
 rw [jI] at hr
 subst hG
 exact ih y _ _ _ _ _ hr hok (G.fR (eV live G.h.dO) (ka live G.L)) a _ rfl (hS.hZ live) hQ
theorem xY {c:Code} {n0:Nat} (ih:om P X N G0 (gA n0) c) {live:List Nat} {y:g8} (hok:codeOk N X.fa.fw c y=true) (h0:G0.h.size=0) {e:Env} {h:bY} {x:Ex} {e':Env} {h':bY}
  (hc:oz (hZ live (fT X (gA n0) c y)) e h x e' h'):iZ P N G0 (.loop c) e h x e' h':=by
 have count:∃ t,∃ R:Nat→Env→bY→Prop,R t e h∧∀ n e h,R n e h→∃ x1 e1 h1,hZ live (fT X (gA n0) c y) e h=some (x1,e1,h1) ∧
   ((x1=.gf∧∃ m h2,m<n∧Sub h2 h1∧R m e1 h2)∨(x1≠.gf∧x1=x∧e1=e'∧h1=h')):=by
  have subrefl:∀ h:bY,Sub h h:=fun h=>⟨rfl,rfl,rfl,fun _ _ h=>h⟩
  induction hc with
  | @last e h x e' h' k hi hx =>
    refine ⟨k,fun n e h=>l8 n (hZ live (fT X (gA n0) c y)) e h=some (x,e',h'),hi,?_⟩
    intro n e h hn
    cases n with
    | zero =>
      simp only [l8,Option.some.injEq,Prod.mk.injEq] at hn
      exact absurd hn.1.symm hx
    | succ n =>
      simp only [l8] at hn
      split at hn
      ·rename_i e2 h2 hf
       exact ⟨.gf,e2,h2,hf,.inl ⟨rfl,n,h2,Nat.lt_succ_self _,subrefl _,hn⟩⟩
      ·rename_i hne
       refine ⟨x,e',h',hn,.inr ⟨hx,rfl,rfl,rfl⟩⟩
  | @step e h e1 h1 h2 x e' h' k hi hs hc ihc =>
    obtain ⟨t,R,hR,hstep⟩:=ihc
    refine ⟨t+(k+1),fun n e h=>R n e h∨∃ j,n=t+j∧0<j∧l8 j (hZ live (fT X (gA n0) c y)) e h=some (.gf,e1,h1),?_,?_⟩
    ·exact .inr ⟨k+1,rfl,Nat.succ_pos _,hi⟩
    ·intro n e h hn
     rcases hn with hn | ⟨j,rfl,hj,hn⟩
     ·obtain ⟨x1,e2,h3,a1,a2⟩:=hstep n e h hn
      refine ⟨x1,e2,h3,a1,?_⟩
      rcases a2 with ⟨b1,m,h4,b2,b3,b4⟩ | b
      ·exact .inl ⟨b1,m,h4,b2,b3,.inl b4⟩
      ·exact .inr b
     ·cases j with
      | zero=>omega
      | succ j =>
        simp only [l8] at hn
        split at hn
        ·rename_i e2 h3 hf
         refine ⟨.gf,e2,h3,hf,.inl ⟨rfl,?_⟩⟩
         cases j with
         | zero =>
           simp only [l8,Option.some.injEq,Prod.mk.injEq,true_and] at hn
           obtain ⟨rfl,rfl⟩:=hn
           exact ⟨t,h2,by omega,hs,.inl hR⟩
         | succ j=>exact ⟨t+(j+1),h3,by omega,subrefl _,.inr ⟨j+1,rfl,Nat.succ_pos _,hn⟩⟩
        ·rename_i hne
         exact (hne _ _ hn).elim
 obtain ⟨t,R,hR,hstep⟩:=count
 intro G a Q hG hS hQ
 refine sS (fun m a w=>∃ G e,G.w=w∧St N G0 G e a∧R m e G.h) ?_ t a G.w ⟨G,e,rfl,hS,by rw [hG]; exact hR⟩
 rintro n a _ ⟨G,e,rfl,hS,hR⟩
 obtain ⟨x1,e1,h1,hf,hor⟩:=hstep n e G.h hR
 refine xH ih hok hf rfl hS ?_
 intro G' a' hG' hS'
 rcases hor with ⟨rfl,m,h2,hlt,hs,hR2⟩ | ⟨hne,rfl,rfl,rfl⟩
 ·subst hG'
  exact ⟨m,hlt,⟨G'.w,G'.T,h2,G'.pi,G'.L⟩,e1,rfl,hS'.drop hs h0,hR2⟩
 ·cases x1 with
  | gf=>exact absurd rfl hne
  | ext id=>exact hQ G' a' hG' hS'
  | ret=>exact hQ G' a' hG' hS'
end
end Go.Sx
namespace Go.Sx
open Go
section
variable {P:Program} {X:Ctx} {N:Nat} {G0:Ga}
theorem yv {a b:Code} {e e1 e':Env} {h h1 h':bY} {x:Ex} (ha:iZ P N G0 a e h .gf e1 h1) (hb:iZ P N G0 b e1 h1 x e' h'):iZ P N G0 (.seq a b) e h x e' h' :=
 fun G act _ hG hS hQ=>wp_seq (ha G act _ hG hS fun G1 a1 hG1 hS1=>hb G1 a1 _ hG1 hS1 hQ)
theorem vP {a b:Code} {live:List Nat} {e e1 e':Env} {h h1 h':bY} {x:Ex} (ha:iZ P N G0 a e h .gf e1 h1) (hb:iZ P N G0 b (proj live e1) { h1 with dO:=eV live h1.dO } x e' h'):iZ P N G0 (.seq a b) e h x e' h':=by
 intro G act Q hG hS hQ
 refine wp_seq (ha G act _ hG hS fun G1 a1 hG1 hS1=>?_)
 subst hG1
 exact hb (G1.fR (eV live G1.h.dO) (ka live G1.L)) a1 Q rfl (hS1.hZ live) hQ
theorem wQ {a b:Code} {e e':Env} {h h':bY} {x:Ex} (ha:iZ P N G0 a e h x e' h') (hx:x≠.gf):iZ P N G0 (.seq a b) e h x e' h':=by
 intro G act Q hG hS hQ
 refine wp_seq (ha G act _ hG hS fun G1 a1 hG1 hS1=>?_)
 cases x with
 | gf=>exact absurd rfl hx
 | ext id=>exact hQ G1 a1 hG1 hS1
 | ret=>exact hQ G1 a1 hG1 hS1
theorem z5 {a:Code} {id:Nat} {e e1 e':Env} {h h1 h':bY} {x x1:Ex} (ha:iZ P N G0 a e h x1 e1 h1) (he:atEnd id (some (x1,e1,h1))=some (x,e',h')):iZ P N G0 (.block id a) e h x e' h':=by
 intro G act Q hG hS hQ
 refine wp_block (ha G act _ hG hS fun G1 a1 hG1 hS1=>?_)
 cases x1 with
 | gf=>cases he; exact hQ G1 a1 hG1 hS1
 | ret=>cases he; exact hQ G1 a1 hG1 hS1
 | ext i =>
   simp only [atEnd] at he
   show Exit.inBlock id Q (.exit i) a1 G1.w
   simp only [Exit.inBlock]
   split at he
   ·rename_i hi
    have hi:=Nat.eq_of_beq_eq_true hi
    cases he
    rw [if_pos hi]
    exact hQ G1 a1 hG1 hS1
   ·rename_i hi
    have hi:=Nat.ne_of_beq_eq_false hi
    cases he
    rw [if_neg hi]
    exact hQ G1 a1 hG1 hS1
theorem qy {k:Env→bY→RC} {r:RC} {x:Ex} {e':Env} {h':bY} (h:andThen k r=some (x,e',h')) :
  (∃ e1 h1,r=some (.gf,e1,h1)∧k e1 h1=some (x,e',h'))∨(r=some (x,e',h')∧x≠.gf):=by
 unfold andThen at h
 split at h
 ·exact .inl ⟨_,_,rfl,h⟩
 ·rename_i hne
  refine .inr ⟨h,?_⟩
  rintro rfl
  exact hne e' h' h
theorem jU (hm:P.follows .mixedOrders=true) (hC:fV P X.C) (hK:js P X.call) (hI:j4 X.call) {n:Nat}:∀ (p:List Bool) (c:Code) (an:g8) (e:Env) (h:bY) (e0:Env) (h0:bY) (x1:Ex) (e1:Env) (h1:bY) (x:Ex) (e':Env) (h':bY),
  codeOk N X.fa.fw c an=true→mG X (gA n) p c an e h=some (.gf,e0,h0)→iZ P N G0 (m6 p c an).1 e0 h0 x1 e1 h1→behind X (gA n) p c an (some (x1,e1,h1))=some (x,e',h')→iZ P N G0 c e h x e' h'
 | [],c,an,e,h,e0,h0,x1,e1,h1,x,e',h',_,hu,hr,hb=>by
   simp only [mG,Option.some.injEq,Prod.mk.injEq,true_and] at hu
   obtain ⟨rfl,rfl⟩:=hu
   simp only [behind,Option.some.injEq,Prod.mk.injEq] at hb
   obtain ⟨rfl,rfl,rfl⟩:=hb
   exact hr
 | true::p,c,an,e,h,e0,h0,x1,e1,h1,x,e',h',hok,hu,hr,hb=>by
   cases c<;>try (cases hu; done)
   rename_i a b
   cases an<;>try (cases hu; done)
   ·rename_i live y z
    simp only [mG] at hu
    obtain ⟨e2,h2,k1,k2⟩:=sJ hu
    rw [jI] at k2
    simp only [codeOk,Bool.and_eq_true] at hok
    exact vP (oh hm hC hK hI k1 hok.1) (jU hm hC hK hI p b z _ _ e0 h0 x1 e1 h1 x e' h' hok.2 k2 hr hb)
   ·rename_i y z
    simp only [mG] at hu
    obtain ⟨e2,h2,k1,k2⟩:=sJ hu
    simp only [codeOk,Bool.and_eq_true] at hok
    exact yv (oh hm hC hK hI k1 hok.1) (jU hm hC hK hI p b z _ _ e0 h0 x1 e1 h1 x e' h' hok.2 k2 hr hb)
 | false::p,c,an,e,h,e0,h0,x1,e1,h1,x,e',h',hok,hu,hr,hb=>by
   cases c<;>try (cases hu; done)
   ·rename_i a b
    cases an<;>try (cases hu; done)
    ·rename_i live y z
     simp only [mG] at hu
     simp only [codeOk,Bool.and_eq_true] at hok
     simp only [behind] at hb
     rcases qy hb with ⟨e2,h2,k1,k2⟩ | ⟨k1,k2⟩
     ·rw [jI] at k2
      exact vP (jU hm hC hK hI p a y e h e0 h0 x1 e1 h1 _ _ _ hok.1 hu hr k1) (oh hm hC hK hI k2 hok.2)
     ·exact wQ (jU hm hC hK hI p a y e h e0 h0 x1 e1 h1 _ _ _ hok.1 hu hr k1) k2
    ·rename_i y z
     simp only [mG] at hu
     simp only [codeOk,Bool.and_eq_true] at hok
     simp only [behind] at hb
     rcases qy hb with ⟨e2,h2,k1,k2⟩ | ⟨k1,k2⟩
     ·exact yv (jU hm hC hK hI p a y e h e0 h0 x1 e1 h1 _ _ _ hok.1 hu hr k1) (oh hm hC hK hI k2 hok.2)
     ·exact wQ (jU hm hC hK hI p a y e h e0 h0 x1 e1 h1 _ _ _ hok.1 hu hr k1) k2
   ·rename_i id a
    have hu:mG X (gA n) p a an e h=some (.gf,e0,h0):=by cases an<;>exact hu
    have hb:atEnd id (behind X (gA n) p a an (some (x1,e1,h1)))=some (x,e',h'):=by cases an<;>exact hb
    have hok:codeOk N X.fa.fw a an=true:=by cases an<;>exact hok
    have hr:iZ P N G0 (m6 p a an).1 e0 h0 x1 e1 h1:=by cases an<;>exact hr
    cases hbb:behind X (gA n) p a an (some (x1,e1,h1)) with
    | none=>rw [hbb] at hb; cases hb
    | some z =>
      obtain ⟨x2,e2,h2⟩:=z
      rw [hbb] at hb
      exact z5 (jU hm hC hK hI p a an e h e0 h0 x1 e1 h1 _ _ _ hok hu hr hbb) hb
theorem xU {C : fP} {f : Nat} {fa : eC} (hC : fV P C) {fn : Func} (hfn : P.funcs[f]? = some fn) (hbody : fn.body = some fa.body) (hres : fn.results.toList = fa.res) (hname : (fn.name == "runtime.NumGoroutine") = false) {args : List AV} {x : Ex} {e' : Env} {h' : bY} {v : AV} {h : bY}
  (hr:∀ G0:Ga,G0.h=bY.empty→iZ P fn.ntmps G0 fa.body (params 0 args) bY.empty x e' h') (hv:frozen h (leave C fa.res (some (x,e',h')))=some (v,h)) (hargs:∀ h:bY,iS h args=some args):vM P f args h v h:=by
 intro G args' hG hlo hL hW hl hrel
 refine ⟨⟨fn,hfn,by rw [hbody]; rfl,hname⟩,?_⟩
 intro R hR
 subst hG
 obtain ⟨k1,k2⟩:=qG hW (hargs G.h) hl hrel
 have hW1:=yB hW
 have main:∀ v0 h1,leave.leave1 C fa.res e' h'=some (v0,h1)→freeze false h1 8 v0=some v→(x=.gf∨x=.ret)→Calls P f args' G.w R:=by
  intro v0 h1 hlv hfz hx
  refine calls_of_wp (w:=(ko G).w) hfn hbody ?_
  have hfr:Fr (ko G) (ko G):=by
   refine ⟨⟨⟨fun _ _ h=>h,fun _ _ _=>rfl,Nat.le_refl _,fun _ _ g z xs h=>⟨g,z,xs,h,Nat.le_refl _,fun _=>⟨rfl,fun _ h=>h⟩⟩,fun _ _ es c h=>⟨es,c,h,fun _ h=>h⟩,fun d B h=>(by cases h)⟩,rfl,rfl,rfl,Nat.le_refl _,fun _ _ _ _=>rfl,
    fun _ l h=>.inl ⟨l,h,rfl⟩,fun _ _ h=>(by cases h),fun _ _ h=>.inl h,rfl,fun _ _ _=>rfl,fun _ _ h=>(by cases h),fun _ _ h=>(by cases h),fun d c _ hd=>(by cases hd)⟩,fun d B h=>(by cases h)⟩
  have hSt:St fn.ntmps (ko G) (ko G) (params 0 args) { tmps:=args'++Array.replicate (fn.ntmps - args'.size) undef,defers:=[] } :=
   ⟨hfr,hW1,uL k1 k2 _,rfl,by simp; omega⟩
  refine hr (ko G) rfl (ko G) _ _ rfl hSt ?_
  intro G1 a1 hG1 hS1
  have hpost:∃ u,(results fn a1.tmps).run P G1.w=.ok u G1.w∧R (.returned u) G1.w:=by
   rw [← hG1,← hres] at hlv
   obtain ⟨e1,u,e2,e3⟩:=rb hS1.wr hC hS1.er hlv
   refine ⟨u,e2,?_⟩
   have S2:=hS1.fr.S
   have W2:WR (G1.fR [] fun _=>none):=hS1.wr.vI (fun d B h=>by cases h) (fun d B h=>by cases h)
   obtain ⟨S3,W3⟩:=uR hW hL S2 W2
   have hfz2:freeze false (G1.fR [] fun _=>none).h 8 v0=some v:=by
    refine pL (h:=h1) ?_ _ _ _ hfz
    intro b o hb
    rw [e1] at hb
    exact hb
   exact hR u (m4 G (G1.fR [] fun _=>none)) S3 W3 (fun m=>rfl) (fun m L=>(tl S2 W2 hfz2 e3.fR).fR.vr)
  rcases hx with rfl | rfl
  ·exact ⟨hS1.df,hpost⟩
  ·exact ⟨hS1.df,hpost⟩
 have fin:∀ v0 h1,leave C fa.res (some (x,e',h'))=some (v0,h1)→freeze false h1 8 v0=some v:=by
  intro v0 h1 hlv
  rw [hlv] at hv
  simp only [frozen] at hv
  split at hv
  ·cases hv
  ·rename_i v1 hv1
   cases hv
   exact hv1
 cases x with
 | gf =>
   cases hq:leave C fa.res (some (.gf,e',h')) with
   | none=>rw [hq] at hv; cases hv
   | some y =>
     obtain ⟨v0,h1⟩:=y
     exact main v0 h1 hq (fin v0 h1 hq) (.inl rfl)
 | ret =>
   cases hq:leave C fa.res (some (.ret,e',h')) with
   | none=>rw [hq] at hv; cases hv
   | some y =>
     obtain ⟨v0,h1⟩:=y
     exact main v0 h1 hq (fin v0 h1 hq) (.inr rfl)
 | ext id=>cases hv
theorem Cj {f:Nat} {args0:List AV} {v0:AV} (h:∀ h1,h1.dO=[]→vM P f args0 h1 v0 h1):ru P f (mc args0 v0) where
 call:=by
  intro shd args h1 v h' hc
  unfold mc at hc
  split at hc
  ·rename_i _ ha
   cases hc
   have:=iP (kh 12) _ _ ha
   subst this
   intro G args' hG hlo
   exact h h1 hlo G args' hG hlo
  ·cases hc
 Eo:=by
  intro args h1 v h' hc
  unfold mc at hc
  split at hc
  ·rename_i _ ha
   cases hc
   exact ⟨rfl,fun h2 _=>by simp only [mc,ha]⟩
  ·cases hc
end
end Go.Sx
