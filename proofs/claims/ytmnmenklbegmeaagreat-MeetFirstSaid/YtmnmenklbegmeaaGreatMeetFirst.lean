/- Proves the statement MeetFirst. -/
import Derived.Test.YtmnmenklbegmeaaGreatHbr
import Derived.Test.YtmnmenklbegmeaaGreatHbs
set_option linter.all false
set_option maxRecDepth 100000
namespace Go.Sx
open Go Go.Proofs
def VU{w:World}{e:Ty}{v:Value}(h:Reads w (.slice e) v.cells.toList)(hv:∀cs,v≠.agg cs):∃x,Fit (.slice e) [x]/\PR w (TW w) false x v:=by
 obtain⟨a,b,c,d,f⟩:=h;have g:a.length=1:=by rw[b,c];rfl
 match a,g with
 |[x],_=>
  refine⟨x,d,?_⟩;cases v with
  |agg cs=>exact absurd rfl (hv cs)
  |_=>exact(f 0 x _ rfl (by simp[Value.cells])).1
def ok_slice{P:Program}{w:World}{b:Nat}{t e:TypeId}{v:Value}(ht:P.underlying t=some (.slice e))(h:Value.okWide P w .any b t v):∀cs,v≠.agg cs:=by rintro cs rfl;unfold Value.okWide at h;rw[ht]at h;simp[Cell.okWide,ht,Cell.ok]at h
theorem aa5{G:Ga}{b:Bool}{u:Value}(h:VR G (.bool b) u):u=.bool b:=by
 cases h with
 |mR hp h=>cases h;rfl
def B0{α:Type}(r:Row α):Cx r r:=⟨rfl,Iff.rfl⟩
theorem UJ(p:be):RM p p:=⟨B0 _,B0 _,B0 _,Iff.rfl,rfl,λ_ _ _=>⟨rfl,B0 _⟩,rfl,rfl,rfl,rfl,rfl⟩
def Xl{x:be}(h:JG x):JG x.canon:=by refine⟨h.1,?_⟩;intro y a;simp only[be.canon,Row.canon,Row.DY,List.mem_map]at a;obtain⟨z,b,rfl⟩:=a;exact h.2 z b
def Jk:Ty:=.struct [.slice Rp,.slice .int,.slice (.slice .int),.slice (.slice .int),.int]
def ME{cs:List AV}(h:Fit (.slice .int) cs):∃r:Row Int,cs=nI mD r:=(uk (λ_=>uo) h).imp λ_ h=>h
def Td{cs:List AV}(h:Fit Jk cs):∃x:mj,cs=x.ay:=by unfold Jk Fit at h;simp only[we]at h;obtain⟨_,_,rfl,f,_,_,rfl,g,_,_,rfl,i,_,_,rfl,j,_,_,rfl,k,rfl⟩:=h;obtain⟨a,rfl⟩:=uk (λ_=>Vb) f;obtain⟨b,rfl⟩:=uk (λ_=>uo) g;obtain⟨c,rfl⟩:=uk (λ_=>ME) i;obtain⟨d,rfl⟩:=uk (λ_=>ME) j;obtain⟨e,rfl⟩:=uo k;exact⟨⟨a,b,c,d,e⟩,rfl⟩
def TC{W:World}{v0 v1 v2:Value}{x0:be}{x1:cB}{x2:Row mj}(hJ:JG x0) (h0:PR W (TW W) false (.agg x0.ay) v0)(h1:PR W (TW W) false (.agg x1.ay) v1)(h2:PR W (TW W) false (x2.av mj.ay) v2) :
  Calls Tryz.prog 4 #[v0,v1,v2] W (λe W'=>e=.returned (.bool true)/\Go.RowKit.Below W.heap.size W W'):=by
 have h0:PR W (TW W) false (.agg x0.canon.ay) v0:=by rw[<- QE (UJ x0)];exact h0.wk
 obtain⟨v,⟨p,q⟩,C,r,rfl⟩:=t4 x0.canon x1 x2 x0.Di (Xl hJ) aT.empty;subst r;have t:=q p (abs _)
 have w:WR (⟨W,TW W,aT.empty,λ_=>none,λ_=>none⟩:Ga):=by
  constructor;·intro b l g z D h;cases h
  ·intro b l E c h;cases h
  ·intro d B F h;cases h
  ·intro b l h;cases h
  ·intro b b' l l' h;cases h
  ·intro s b l h;cases h
  ·intro d d' B h;cases h
  ·intro s d B h;cases h
  ·intro d B b l h;cases h
  ·intro d B h;cases h
  ·intro s B h;exact h
  ·exact abs _
  ·intro b o h;have:aT.empty.get b=none:=by unfold aT.get aT.empty;cases Nat.ble 0 b<;>rfl
   rw[show(⟨W,TW W,aT.empty,λ_=>none,λ_=>none⟩:Ga).h=aT.empty from rfl,this]at h;cases h
 have m:=tF ah0 p false 4 _ _ _ _ t ⟨W,TW W,aT.empty,λ_=>none,λ_=>none⟩ #[v0,v1,v2] rfl rfl (λ_=>rfl) w rfl (by
  intro i x y a f
  match i,a,f with
  |0,a,f=>simp at a f;subst a f;exact h0.CL
  |1,a,f=>simp at a f;subst a f;exact h1.CL
  |2,a,f=>simp at a f;subst a f;exact h2.CL
  |n+3,a,f=>simp at a)
 refine m.2 _ ?_;intro u G' j _ _ A;refine⟨by rw[aa5 (A [] (λ_=>none))],j.os,j.tape.1,j.output,j.py,λk m=>j.frame k m (λb l h=>by cases h) (λd B h=>by cases h)⟩
end Go.Sx
namespace Go.Proofs.YtmnmenklbegmeaaGreat
open Go.ChangeShapes Go.WideShapes Go.ChangeAt Go.RowKit
open Go.Sx
def own:ownKnob Tryz.prog.godebug=none:=by kernel_rfl
def laidOut:laidOutB Tryz.prog=true:=by kernel_rfl
theorem params3:Tryz.f4.params = #[27,31,50]:=by kernel_rfl
def u4:Tryz.prog.underlying 4=some .bool:=by kernel_rfl
def aez:Ac Tryz.prog Ls 27=true:=by kernel_rfl
def ack:Ac Tryz.prog LS 31=true:=by kernel_rfl
def uT:Tryz.prog.underlying 50=some (.slice 74):=by kernel_rfl
def tyT:Ac Tryz.prog (.slice Jk) 50=true:=by kernel_rfl
def lifted(os:Os)(started:os.Started)(H:Type)(enc:TypeId×Value->H) :
  ReturnsInHanded {} Tryz.checked os 4 .any (Rows.meetFirstSpec.pre6 enc Tryz.prog Tryz.f4 Rows.meetFirstRow.domain false) (Rows.meetFirstSpec.post enc Tryz.prog Tryz.f4 false true false false):=by
 refine returnsInHanded_of_change (C:=Tryz.checked) own started (by kernel_rfl) Tryz.func4
  (ChangeSpec.witness6 (enc:=enc) (C:=Tryz.checked) false ⟨#[],#[.agg #[.slice none 0 0,.slice none 0 0,.slice none 0 0,.slice none 0 0,.int .i64 0,.int .i64 0,.int .i64 0,.int .i64 0,.bool false],.agg #[.int .i64 0,.slice none 0 0,.slice none 0 0],.slice none 0 0],[]⟩ 8 (by kernel_rfl) (by kernel_rfl) (by kernel_rfl) (by kernel_rfl)) ?_
 intro W m c Q gs z f K L _;have i:∀(j:Nat) t v,Tryz.f4.params[j]?=some t->c[j]?=some v->Value.okWide Tryz.prog W .any m t v:=f;have o:=K;obtain⟨p,q,s,R,rfl,S,T⟩:=K;have k:DataW.TrodAll enc Tryz.prog W 0 (λ_=>true) true Tryz.f4.params.toList c.toList Q p:=s;rw[params3]at k i;obtain⟨v0,vs,d0,U,p0,q0,A,rfl,rfl,M,k⟩:=trodAll_cons k;obtain⟨v1,V,X,Y,B,q1,rfl,rfl,rfl,N,k⟩:=trodAll_cons k;obtain⟨v2,Z,d2,ds2,D,q2,rfl,rfl,rfl,O,k⟩:=trodAll_cons k;obtain⟨rfl,rfl,rfl⟩:=trodAll_nil k;have g:c = #[v0,v1,v2]:=by cases c;simp_all
 subst g;obtain⟨rfl,rfl⟩:=trodVars_none R;have r0:∃x:be,JG x/\PR W (TW W) false (.agg x.ay) v0:=by obtain⟨a,u⟩:=M;obtain⟨xs,d,w⟩:=KX (Eg a Ls 27 _ _ aez u) (by decide);obtain⟨x,rfl,E⟩:=Vr d;exact⟨x,E,w⟩
 have r1:∃x:cB,PR W (TW W) false (.agg x.ay) v1:=by obtain⟨a,u⟩:=N;obtain⟨xs,d,w⟩:=KX (Eg a LS 31 _ _ ack u) (by decide);obtain⟨x,rfl⟩:=VY d;exact⟨x,w⟩
 have r2:∃r:Row mj,PR W (TW W) false (r.av mj.ay) v2:=by obtain⟨a,u⟩:=O;obtain⟨x,d,w⟩:=VU (Eg a (.slice Jk) 50 _ _ tyT u) (ok_slice uT (i 2 50 v2 rfl rfl));obtain⟨r,hr⟩:=uk (λ_=>Td) d;cases hr;exact⟨r,w⟩
 obtain⟨x0,E,F⟩:=r0;obtain⟨x1,G⟩:=r1;obtain⟨x2,J⟩:=r2;clear s f
 have rg:∀n:Int,(Lit.int .i64 n).wf=true->pg n:=λn P=>by
  have e1:IntKind.i64.min = -9223372036854775808:=by decide
  have e2:IntKind.i64.max=9223372036854775807:=by decide
  simp only[Lit.wf,e1,e2,Bool.and_eq_true,decide_eq_true_eq]at P;exact P
 refine(TC E  F G J).mono λe W' ⟨he,hw⟩=>?_;subst he;have l:∀x∈p0++(B++(D)),x.block<W.heap.size:=λx d=>by have:=o.lt x (by simpa using d);simpa using this
 have c0:=Below.trod laidOut (by kernel_rfl) (of_decide_eq_true (by kernel_rfl)) M hw (λx d=>l x (anN _ d));have c1:=Below.trod laidOut (by kernel_rfl) (of_decide_eq_true (by kernel_rfl)) N hw (λx d=>l x (anX _ (anN _ d)));have c2:=Below.trod laidOut (by kernel_rfl) (of_decide_eq_true (by kernel_rfl)) O hw (λx d=>l x (anX _ (anX _ (d))))
 have y:DataW.TrodAll enc Tryz.prog W' 0 (λb=>decide (b<W.heap.size)) true [27,31,50] [v0,v1,v2] [d0,X,d2] (p0++(B++(D++([])))) :=
  ⟨p0,_,c0,⟨B,_,c1,⟨D,[],c2,rfl,rfl⟩,rfl⟩,rfl⟩
 refine⟨_,rfl,_,_,_,[],_,[],o,trodAll_mk1 (shut_bool u4 true),y,rfl,hw.frame _,λh=>?_⟩;cases h
def ame:Tryz.pinned.checked.prog.funcNamed Rows.meetFirstRow.func=some 4:=by kernel_rfl
def adA:Tryz.f4.isInstance Tryz.pinned.checked.prog Rows.meetFirstRow.origin Rows.meetFirstRow.targs:=of_decide_eq_true (by kernel_rfl)
def afS:Tryz.f4.isWrapper Tryz.pinned.checked.prog Rows.meetFirstRow.wrapper Rows.meetFirstRow.mainSum:=by
 unfold Func.isWrapper;first
 |(rw[if_pos (by decide +kernel)];kernel_rfl)
 |(rw[if_neg (by decide +kernel)];exact⟨rfl,rfl⟩)
theorem meetFirst_holds:Rows.MeetFirstSaid :=
 OpenClaim.holds_of_wide 4 Tryz.f4 rfl rfl rfl rfl rfl rfl rfl ⟨rfl,rfl,rfl,rfl,rfl⟩ rfl rfl rfl rfl rfl ame Tryz.func4 adM adA afS
  (λos started H enc _=>lifted os started H enc)
end Go.Proofs.YtmnmenklbegmeaaGreat
