/- Proves a closed fact by the kernel. -/
import Derived.Test.YtmnmenklbegmeaaGreatHas
import Derived.Test.YtmnmenklbegmeaaGreatHau
import Derived.Test.YtmnmenklbegmeaaGreatHav
import Derived.Test.YtmnmenklbegmeaaGreatHaw
import Derived.Test.YtmnmenklbegmeaaGreatHax
import Derived.Test.YtmnmenklbegmeaaGreatHay
import Derived.Test.YtmnmenklbegmeaaGreatHaz
import Derived.Test.YtmnmenklbegmeaaGreatHba
import Derived.Test.YtmnmenklbegmeaaGreatHbb
import Derived.Test.YtmnmenklbegmeaaGreatHbc
import Derived.Test.YtmnmenklbegmeaaGreatHbd
import Derived.Test.YtmnmenklbegmeaaGreatHbe
import Derived.Test.YtmnmenklbegmeaaGreatHbf
import Derived.Test.YtmnmenklbegmeaaGreatHbg
import Derived.Test.YtmnmenklbegmeaaGreatHbh
import Derived.Test.YtmnmenklbegmeaaGreatHbi
import Derived.Test.YtmnmenklbegmeaaGreatHbj
import Derived.Test.YtmnmenklbegmeaaGreatHbk
import Derived.Test.YtmnmenklbegmeaaGreatHbl
import Derived.Test.YtmnmenklbegmeaaGreatHbm
import Derived.Test.YtmnmenklbegmeaaGreatHbn
import Derived.Test.YtmnmenklbegmeaaGreatHbo
import Derived.Test.YtmnmenklbegmeaaGreatHbp
set_option linter.all false
set_option maxRecDepth 100000
namespace Go.Sx
open Go Go.Proofs
def ux{N:Nat}{mP:List Nat}:∀(p:List Bool)(c:Code) (an:mS),codeOk N mP c an=true->codeOk N mP (xH p c an).1 (xH p c an).2=true
 |[],_,_,h=>h
 |true::p,c,an,h=>by
  cases c<;>try exact h
  cases an<;>try exact h
  ·simp only[codeOk,Bool.and_eq_true]at h;exact ux p _ _ h.2
  ·simp only[codeOk,Bool.and_eq_true]at h;exact ux p _ _ h.2
 |false::p,c,an,h=>by
  cases c<;>try exact h
  ·(cases an<;>try exact h);·simp only[codeOk,Bool.and_eq_true]at h;exact ux p _ _ h.1
   ·simp only[codeOk,Bool.and_eq_true]at h;exact ux p _ _ h.1
  ·rename_i id a;have h:codeOk N mP a an=true:=by cases an<;>exact h
   have:=ux p a an h;cases an<;>exact this
  ·rename_i a;have h:codeOk N mP a an=true:=by cases an<;>exact h
   have:=ux p a an h;cases an<;>exact this
def QF:∀f,(f=317\/f=318)->qD Tryz.prog f yk:=by
 rintro f(rfl|rfl);·exact Fb ⟨Tryz.f317,Tryz.func317,by kernel_rfl,by kernel_rfl⟩ (λb es clock w hb=>clone_a b es clock w hb) clone_a0
 ·exact Fb ⟨Tryz.f318,Tryz.func318,by kernel_rfl,by kernel_rfl⟩ (λb es clock w hb=>clone_b b es clock w hb) clone_b0
def SD{f a b:Nat}(h:(Nat.beq f a||Nat.beq f b)=true):f=a\/f=b:=by simp only[Bool.or_eq_true]at h;exact h.imp acl acl
def ZX:∀f p,A5 f=some p->qD Tryz.prog f p:=by
 intro f p hp;unfold A5 at hp;split at hp;·rename_i hb;cases hp;exact QF f (SD hb)
 ·split at hp;·rename_i hb;cases hp;have:=acl hb;subst this;exact risingOk
  ·split at hp;·rename_i hb;cases hp;have:=acl hb;subst this;exact sortOk
   ·split at hp;·rename_i hb;cases hp;have:=acl hb;subst this;exact compOk
    ·cases hp
def AI:vC Tryz.prog cfg Cs.get A5:=⟨vb,yu,Io,ZX⟩
def M7:Code×mS->Bool
 |(.loop _,.loop _ _)=>true
 |_=>false
def KE{z:Code×mS}(h:M7 z=true):∃c live y,z=(.loop c,.loop live y):=by
 unfold M7 at h;split at h;·exact⟨_,_,_,rfl⟩
 ·cases h
def XQ:M7 (xH FR sY.body sY.qC)=true:=by kernel_rfl
theorem abS(args:List AV)(h1:aT)(ha:pb h1 args=some RF):GF Tryz.prog 20 args h1 HV h1:=by
 have hK:=afP;unfold LB at hK;split at hK
 ·rename_i id e h Iz;split at hK
  ·rename_i r hb;obtain⟨x,e',h'⟩:=r;obtain⟨fn,hfn,hbody,hres,hname,hok⟩:=(Io 20 sY (by kernel_rfl)).ex;obtain⟨c,live,y,hz⟩:=KE XQ;have hF:w3=qm live (nP EC (oU 2998) c y):=by unfold w3;rw[hz]
   (have hch:Ax (qm live (nP EC (oU 2998) c y)) Ju I8 (.ext id) e h:=by rw[<- hF];exact .piece 1 afd (.piece 1 adZ (.piece 1 afo (.piece 1 adT (.piece 1 adI (.piece 1 abh (.piece 1 aa7 (.piece 1 aa1 (.last 3 Iz (by simp))))))))));have hcs:codeOk fn.ntmps EC.fa.mP c y=true:=by have:=ux FR _ _ hok;rw[hz]at this;exact this
   refine E6 (args0:=RF) (C:=cfg) yu hfn hbody hres hname (x:=x) (e':=e') (h':=h') ?_ ?_ ?_
   ·intro G0 hG0;have hr:ri Tryz.prog fn.ntmps G0 (xH FR sY.body sY.qC).1 Ju I8 (.ext id) e h:=by rw[hz];exact GO (AQ vb yu (tF AI 2998) (wD AI 2998) 2998 c) hcs (by rw[hG0];rfl) hch
    exact tD (X:=EC) vb yu (tF AI 2998) (wD AI 2998) FR sY.body sY.qC _ _ Ju I8 (.ext id) e h x e' h' hok aje hr hb
   ·cases hq:leave cfg sY.res (some (x,e',h'))with
    |none=>rw[hq]at hK;cases hK
    |some v0=>
     obtain⟨v0,h0⟩:=v0;rw[hq]at hK;simp only[frozen]at hK ⊢;split at hK;·cases hK
     ·rename_i v1 hv1;cases hK;rfl
   ·exact ha
  ·cases hK
 ·cases hK
theorem abi(args:List AV)(h1:aT)(ha:pb h1 args=some Rz):GF Tryz.prog 20 args h1 HT h1:=by
 have hK:=ae8;unfold LB at hK;split at hK
 ·rename_i id e h Iz;split at hK
  ·rename_i r hb;obtain⟨x,e',h'⟩:=r;obtain⟨fn,hfn,hbody,hres,hname,hok⟩:=(Io 20 sY (by kernel_rfl)).ex;obtain⟨c,live,y,hz⟩:=KE XQ;have hF:w3=qm live (nP EC (oU 2998) c y):=by unfold w3;rw[hz]
   (have hch:Ax (qm live (nP EC (oU 2998) c y)) IG Iw (.ext id) e h:=by rw[<- hF];exact .piece 1 afx (.piece 1 afm (.piece 1 af2 (.piece 1 adx (.piece 1 adm (.piece 1 abP (.piece 1 aby (.piece 1 abr (.last 3 Iz (by simp))))))))));have hcs:codeOk fn.ntmps EC.fa.mP c y=true:=by have:=ux FR _ _ hok;rw[hz]at this;exact this
   refine E6 (args0:=Rz) (C:=cfg) yu hfn hbody hres hname (x:=x) (e':=e') (h':=h') ?_ ?_ ?_
   ·intro G0 hG0;have hr:ri Tryz.prog fn.ntmps G0 (xH FR sY.body sY.qC).1 IG Iw (.ext id) e h:=by rw[hz];exact GO (AQ vb yu (tF AI 2998) (wD AI 2998) 2998 c) hcs (by rw[hG0];rfl) hch
    exact tD (X:=EC) vb yu (tF AI 2998) (wD AI 2998) FR sY.body sY.qC _ _ IG Iw (.ext id) e h x e' h' hok agq hr hb
   ·cases hq:leave cfg sY.res (some (x,e',h'))with
    |none=>rw[hq]at hK;cases hK
    |some v0=>
     obtain⟨v0,h0⟩:=v0;rw[hq]at hK;simp only[frozen]at hK ⊢;split at hK;·cases hK
     ·rename_i v1 hv1;cases hK;rfl
   ·exact ha
  ·cases hK
 ·cases hK
def agH:vC Tryz.prog cfg Cs.get D7:=by
 refine⟨vb,yu,Io,?_⟩;intro f p hp;unfold D7 at hp;split at hp;·rename_i hb;cases hp;have:=acl hb;subst this;exact abm abS abi
 ·split at hp;·rename_i hb;cases hp;have:=acl hb;subst this;exact G9 AI afp
  ·exact ZX f p hp
def RN:∃h,qi cfg Cs.get D7 3000 false 5 [] aT.empty=some (.bool true,h):=by
 have h:=afL;unfold Qt at h;split at h;·rename_i b h2 hq;subst h;exact⟨h2,hq⟩
 ·cases h
def ab2:qD Tryz.prog 5 (AH [] (.bool true)):=by obtain⟨h2,hk⟩:=RN;exact G9 agH hk
end Go.Sx
