/- Proves rules for the walks and their soundness. -/
import Derived.Maps.RangeRun
import Derived.Test.YtmnmenklbegmeaaGreatHac
set_option linter.all false
namespace Go.Sx
open Go
variable [DD]
theorem pS{f:AV->Option AV}:∀{l l':List AV},nd f l=some l'->l'.length=l.length/\∀(i:Nat) x',l'[i]?=some x'->∃x,l[i]?=some x/\f x=some x'
 |[],l',h=>by grind[nd]
 |v::l,l',h=>by
  simp only[nd]at h;split at h;·cases h
  ·rename_i w c;split at h;·cases h
   ·rename_i g b;simp only[Option.some.injEq]at h;subst h;obtain⟨d,e⟩:=pS b;refine⟨by simp[d],?_⟩;intro i x' a;cases i with
    |zero=>simp only[List.getElem?_cons_zero,Option.some.injEq]at a;subst a;exact⟨v,rfl,c⟩
    |succ i=>rw[List.getElem?_cons_succ]at a;exact e i x' a
def Ey{f:AV->Option AV}:∀{l l':List (List AV)},sZ f l=some l'->l'.length=l.length/\∀(i:Nat) x',l'[i]?=some x'->∃x,l[i]?=some x/\nd f x=some x'
 |[],l',h=>by grind[sZ]
 |v::l,l',h=>by
  simp only[sZ]at h;split at h;·cases h
  ·rename_i w c;split at h;·cases h
   ·rename_i g b;simp only[Option.some.injEq]at h;subst h;obtain⟨d,e⟩:=Ey b;refine⟨by simp[d],?_⟩;intro i x' a;cases i with
    |zero=>simp only[List.getElem?_cons_zero,Option.some.injEq]at a;subst a;exact⟨v,rfl,c⟩
    |succ i=>rw[List.getElem?_cons_succ]at a;exact e i x' a
def Fm{f:AV->Option AV}:∀{l:List (AV×AV×Nat)} {l':List (AV×AV)},uY f l=some l'->l'.length=l.length/\∀(i:Nat) p',l'[i]?=some p'->∃p,l[i]?=some p/\p.1=p'.1/\f p.2.1=some p'.2
 |[],l',h=>by grind[uY]
 |(k,v,n)::l,l',h=>by
  simp only[uY]at h;split at h;·cases h
  ·rename_i w c;split at h;·cases h
   ·rename_i g b;simp only[Option.some.injEq]at h;subst h;obtain⟨d,e⟩:=Fm b;refine⟨by simp[d],?_⟩;intro i x' a;cases i with
    |zero=>simp only[List.getElem?_cons_zero,Option.some.injEq]at a;subst a;exact⟨(k,v,n),rfl,rfl,c⟩
    |succ i=>rw[List.getElem?_cons_succ]at a;exact e i x' a
def AV.marked:AV->Bool
 |.ip _ _ s=>s
 |.fm _ s=>s
 |.sl _ c=>vK c
 |_=>false
theorem PR.at_{w:World}{T:Bool->Nat->Prop}{m:Bool}{v:AV}{u:Value}(h:PR w T true v u)(hi:v.oI=true)(hm:v.marked=true->m=true):PR w T m v u:=by
 cases h with
 |undef _ v h=>simp[AV.oI]at hi
 |bool _ b=>exact .bool m b
 |int _ k n=>exact .int m k n
 |str _ s b h=>exact .str m s b h
 |oh _=>exact .oh m
 |ip _ cells off sn B base c e fr f _ hB hB' hc h1 hr=>exact .ip m cells off sn B base c e fr f hm hB hB' hc h1 hr
 |slnil _=>exact .slnil m
 |sy _ cap a c _ h=>exact .sy m cap a c hm h
 |sl _ xs cap B base c e fr cap' esz f _ hB hB' hcap hle hz hc h1 hr=>exact .sl m xs cap B base c e fr cap' esz f hm hB hB' hcap hle hz hc h1 hr
 |ow _=>exact .ow m
 |fm _ es sn r ents clk _ hB hB' hl hy hko hk hv=>exact .fm m es sn r ents clk hm hB hB' hl hy hko hk hv
 |pC _=>exact .pC m
 |mH _ g a c a' c' _ _ _ _=>simp[AV.oI]at hi
 |agg _ l vs _ _ _=>simp[AV.oI]at hi
def Xq(sn:Bool):vK (Ix sn)=sn:=by cases sn<;>rfl
def Nj(sn:Bool){k c:Nat}(h:k<=c):uu (Ix sn) k c:=by cases sn<;>exact h
section
variable {G:Ga}{T1:Bool->Nat->Prop}{sn:Bool}
def Fh(hW:WR G)(hT:∀s B,G.T s B->T1 s B)(hpi:∀b l,G.pi b=some l->T1 sn l.B) :
  ∀(n:Nat) (v v':AV) (u:Value),freeze sn G.h n v=some v'->v.rX=true->VR G v u->PR G.w T1 sn v' u:=by
 intro n;induction n with
 |zero=>grind[freeze]
 |succ n ih=>
  intro v v' u h hna W
  have mR:v.oI=true->(v.marked=true->sn=true)->PR G.w T1 sn v u:=by
   intro D hm;cases W with
   |mR _ h=>exact(h.at_ D hm).mono hT (λ_ _ _=>rfl)
   |_=>simp[AV.oI]at D
  have Q:∀(l l':List AV) (vs:Array Value),nd (freeze sn G.h n) l=some l'->(∀x∈l,x.rX=true)->(∀(i:Nat) (x:AV) (y:Value),l[i]?=some x->vs[i]?=some y->VR G x y) ->
    ∀(i:Nat) (x:AV) (y:Value),l'[i]?=some x->vs[i]?=some y->PR G.w T1 sn x y:=by
   grind[pS]
  cases v with
  |undef=>simp[freeze]at h
  |bool b=>simp only[freeze,Option.some.injEq]at h;subst h;exact mR rfl (by simp[AV.marked])
  |int k m=>simp only[freeze,Option.some.injEq]at h;subst h;exact mR rfl (by simp[AV.marked])
  |str s=>simp only[freeze,Option.some.injEq]at h;subst h;exact mR rfl (by simp[AV.marked])
  |oh=>simp only[freeze,Option.some.injEq]at h;subst h;exact mR rfl (by simp[AV.marked])
  |ow=>simp only[freeze,Option.some.injEq]at h;subst h;exact mR rfl (by simp[AV.marked])
  |pC=>simp only[freeze,Option.some.injEq]at h;subst h;exact mR rfl (by simp[AV.marked])
  |ip c o s=>
   simp only[freeze]at h;split at h;·cases h
   ·rename_i hs;simp only[Option.some.injEq]at h;subst h;refine mR rfl ?_;grind[AV.marked]
  |fm es s=>
   simp only[freeze]at h;split at h;·cases h
   ·rename_i hs;simp only[Option.some.injEq]at h;subst h;refine mR rfl ?_;grind[AV.marked]
  |sl Y c=>
   cases c with
   |qJ=>
    simp only[freeze]at h;split at h;·simp only[Option.some.injEq]at h;subst h;exact mR rfl (λ_=>rfl)
    ·cases h
   |nil=>simp only[freeze,Option.some.injEq]at h;subst h;exact mR rfl (by simp[AV.marked,vK])
   |exact k=>simp only[freeze,Option.some.injEq]at h;subst h;exact mR rfl (by simp[AV.marked,vK])
   |oo=>simp only[freeze,Option.some.injEq]at h;subst h;exact mR rfl (by simp[AV.marked,vK])
  |la d o=>simp[freeze]at h
  |ptr b g i o=>
   simp only[freeze]at h;split at h
   ·rename_i g' z Y P;split at h
    ·rename_i C;have C:=acl C;subst C;split at h
     ·rename_i K R;split at h
      ·rename_i A L;simp only[Option.some.injEq]at h;subst h;cases W with
       |mR D _=>simp[AV.oI]at D
       |ptr _ _ _ _ a hb hge hat=>
        obtain⟨l,O,rfl⟩:=hat z Y P;obtain⟨c,e,Z,hcap,hsz,hz,q⟩:=hW.lU b l _ _ _ O P;obtain⟨F,t⟩:=pS L;refine .ip sn A o sn l.B (l.base+i*z) c e (0,0) (λj=>c.getD (l.base+i*z+j) undef) (λh=>h) Z (hpi b l O) ?_ ?_ ?_;·intro j x hx;obtain⟨J,k1,_⟩:=t j x hx;obtain⟨w,k3,_⟩:=q i K j J R k1;simp_all
        ·intro j x hx;obtain⟨J,k1,_⟩:=t j x hx;obtain⟨w,k3,k4,_⟩:=q i K j J R k1;simp_all
        ·intro j x hx;obtain⟨J,k1,k2⟩:=t j x hx;obtain⟨w,k3,_,k5⟩:=q i K j J R k1;rw[Array.getD_eq_getD_getElem?,k3];exact ih J x w k2 k5.na k5.vr
      ·cases h
     ·cases h
    ·cases h
   ·cases h
  |hs b g off len=>
   simp only[freeze]at h;split at h
   ·rename_i g' z Y P;split at h
    ·rename_i C;simp only[Bool.and_eq_true,Nat.ble_eq]at C;have F:=C.2;have C:=acl C.1;subst C;split at h
     ·rename_i ys L;simp only[Option.some.injEq]at h;subst h;obtain⟨hl1,t⟩:=Ey L;have S:ys.length=len:=by grind
      have U:=Xq sn;cases W with
      |mR D _=>simp[AV.oI]at D
      |hs _ _ _ _ a cap' hb hge hle hat=>
       cases hys:ys with
       |nil=>(have:len=0:=by grind);subst this;exact .sy sn _ a cap' (by grind) (Nj sn (ang _))
       |cons y0 yr=>
        rw[<- hys];have hpos:0<len:=by grind
        (obtain⟨l,O,hcapl,E⟩:=hat z Y P;have E:=E (by omega);subst E;obtain⟨c,e,Z,hcap,hsz,hz,q⟩:=hW.lU b l _ _ _ O P;have M:∀(i:Nat) A,ys[i]?=some A->∃K,Y[off+i]?=some K/\nd (freeze sn G.h n) K=some A:=by grind);have V:∀i j:Nat,l.base+off*z+i*z+j=l.base+(off+i)*z+j:=by grind
        rw[<- S]
        refine .sl sn ys _ l.B (l.base+off*z) c e (0,0) cap' z (λi j=>c.getD (l.base+(off+i)*z+j) undef) (by grind) Z (by grind)
         (Nj sn (by omega)) (by omega) ?_ ?_ ?_ ?_
        ·grind[pS]
        ·intro i A j x D hj;obtain⟨K,k1,k2⟩:=M i A D;obtain⟨J,k3,k4⟩:=(pS k2).2 j x hj;obtain⟨w,k5,_⟩:=q _ K j J k1 k3;rw[V,Array.getD_eq_getD_getElem?,k5];rfl
        ·intro i A j x D hj;obtain⟨K,k1,k2⟩:=M i A D;obtain⟨J,k3,k4⟩:=(pS k2).2 j x hj;obtain⟨w,k5,k6,_⟩:=q _ K j J k1 k3;rw[Array.getD_eq_getD_getElem?,k5];exact k6
        ·intro i A j x D hj;obtain⟨K,k1,k2⟩:=M i A D;obtain⟨J,k3,k4⟩:=(pS k2).2 j x hj;obtain⟨w,k5,_,k7⟩:=q _ K j J k1 k3;rw[U,Array.getD_eq_getD_getElem?,k5];exact ih J x w k4 k7.na k7.vr
     ·cases h
    ·cases h
   ·cases h
  |hm b=>
   simp only[freeze]at h;split at h
   ·rename_i es c P;split at h
    ·rename_i es' L;simp only[Option.some.injEq]at h;subst h;cases W with
     |mR D _=>simp[AV.oI]at D
     |hm _ r hb hat=>
      obtain⟨l,O,rfl⟩:=hat es c P;obtain⟨H,Z,F,hyo,N⟩:=hW.map b l es c O P;obtain⟨hl1,t⟩:=Fm L
      have hent2:∀(i:Nat) p,es[i]?=some p->∃e,H[i]?=some e:=by
       intro i p X;have:i<H.size:=by grind
       exact⟨H[i],by simp⟩
      refine .fm sn es' sn l.B H c (λh=>h) Z (hpi b l O) (hl1.trans F) ?_ ?_ ?_ ?_;·exact hyo.ach F λi p e X he=>(N i p e X he).2.2.2
      ·grind
      ·intro i p e X he;obtain⟨p0,k1,k2,_⟩:=t i p X;rw[<- k2];have:=(N i p0 e k1 he).2.1.mono hT (λ_ _ _=>rfl);cases sn with
       |false=>exact this
       |true=>exact this.QP
      ·intro i p e X he;obtain⟨p0,k1,_,k3⟩:=t i p X;have:=(N i p0 e k1 he).2.2.1;exact ih p0.2.1 p.2 e.val k3 this.na this.vr
    ·cases h
   ·cases h
  |mH f a c=>
   simp only[freeze]at h;split at h
   ·rename_i a1 c1 ha hc;simp only[Option.some.injEq]at h;subst h;cases W with
    |mR D _=>simp[AV.oI]at D
    |mH _ _ _ a' c' hal hcl hna1 hnc1 hra hrc=>exact .mH sn f a1 c1 a' c' ((pS ha).1.trans hal) ((pS hc).1.trans hcl) (Q a a1 a' ha hna1 hra) (Q c c1 c' hc hnc1 hrc)
   ·cases h
  |agg l=>
   simp only[freeze]at h;split at h
   ·rename_i l1 O;simp only[Option.some.injEq]at h;subst h;cases W with
    |mR D _=>simp[AV.oI]at D
    |agg _ vs hll hn h1 hr=>exact .agg sn l1 vs ((pS O).1.trans hll) h1 (Q l l1 vs O hn hr)
   ·cases h
  |mw l=>cases hna
theorem AE{h h2:aT}(E:∀b o,h.get b=some o->h2.get b=some o):∀(n:Nat)(v v':AV),freeze sn h n v=some v'->freeze sn h2 n v=some v':=by
 intro n;induction n with
 |zero=>grind[freeze]
 |succ n ih=>
  have j:∀l l',nd (freeze sn h n) l=some l'->nd (freeze sn h2 n) l=some l':=by intro l;induction l<;>grind[nd]
  have d:∀l l',sZ (freeze sn h n) l=some l'->sZ (freeze sn h2 n) l=some l':=by intro l;induction l<;>grind[sZ]
  have e:∀l l',uY (freeze sn h n) l=some l'->uY (freeze sn h2 n) l=some l':=by intro l;induction l<;>grind[uY]
  intro v v' k;cases v with
  |ptr b g i o=>simp only[freeze]at k ⊢;grind
  |hs b g off len=>grind[freeze]
  |hm b=>grind[freeze]
  |mH f a c=>grind[freeze]
  |agg l=>grind[freeze]
  |mw l=>grind[freeze]
  |sl xs c=>cases c<;>exact k
  |_=>exact k
end
end Go.Sx
namespace Go.Sx
open Go
variable [DD]
def qY(G:Ga)(r:Nat)(i:It):Prop:=match i.k with
 |.nil=>G.w.heap[r]?=some (.mapIter none 0 #[] 0)
 |.fix last left=>∃m ents clk s,G.T s m/\G.w.heap[m]?=some (.map ents clk) /\
  ((ents = #[]/\left=[]/\last=none/\G.w.heap[r]?=some (.mapIter (some m) clk #[] clk)) \/
   (∃e0 x,ents = #[e0]/\e0.born<clk/\PR G.w G.T true x.1 e0.key/\PR G.w G.T true x.2 e0.val /\
     ((left=[x]/\last=none/\G.w.heap[r]?=some (.mapIter (some m) clk #[] clk)) \/
      (left=[]/\last=some x/\G.w.heap[r]?=some (.mapIter (some m) clk #[e0.born] clk)))))
 |.Is b clk seen=>∃m,VR G (.hm b) (.map (some m))/\G.w.heap[r]?=some (.mapIter (some m) clk (match seen with|none=>#[]|some n=>#[n]) clk)
structure yR(G0 G:Ga)(a:Act)(i:It)(r:Nat):Prop where
 at_:a.eval (.tmp i.d)=.pointer (some ⟨r,0,none⟩)
 new:G0.w.heap.size<=r
 lt:r<G.w.heap.size
 T:∀s,¬G.T s r
 pi:∀b l,G.pi b=some l->l.B≠r
 L:∀d B,G.L d=some B->B≠r
 obj:qY G r i
def yY(G0 G:Ga)(a:Act):Option It->Prop
 |none=>True
 |some i=>∃r,yR G0 G a i r
section
variable {P:Program}{X:Ctx}{N:Nat}{G0 G G':Ga}{a a':Act}{Q:Exit->Act->World->Prop}
def qY.ext{r:Nat}{i:It}(h:qY G r i)(E:Ext G G')(hr:G'.w.heap[r]?=G.w.heap[r]?):qY G' r i:=by
 unfold qY at h ⊢;split at h;·grind
 ·obtain⟨m,a,d,s,e,j,h⟩:=h;refine⟨m,a,d,s,E.T s m e,(E.keep s m e).trans j,?_⟩;rcases h with⟨b,c,f,g⟩|⟨k,x,b,c,f,g,h⟩
  ·grind
  ·refine .inr ⟨k,x,b,c,f.mono E.T E.keep,g.mono E.T E.keep,?_⟩;grind
 ·obtain⟨m,b,c⟩:=h;exact⟨m,b.mono E,hr.trans c⟩
def yR.step{i:It}{r:Nat}(h:yR G0 G a i r)(S:Step G G')(ha:a'.eval (.tmp i.d)=a.eval (.tmp i.d)):yR G0 G' a' i r:=by
 have g:G'.w.heap[r]?=G.w.heap[r]?:=S.frame r h.lt h.pi h.L;refine⟨ha.trans h.at_,h.new,ane h.lt S.py,?_,?_,?_,h.obj.ext S.ext g⟩
 ·intro s j;rcases S.yK s r j with c|f
  ·exact h.T s c
  ·have:=h.lt;omega
 ·intro b l k e;rcases S.si b l k with⟨m,c,n⟩|f
  ·exact h.pi b m c (n.trans e)
  ·have:=h.lt;omega
 ·intro d B o e;rcases S.w7 d B o with c|f
  ·exact h.L d B c e
  ·have:=h.lt;omega
theorem yR.fill{i:It}{r:Nat}{bs ds:Nat->Prop}(h:yR G0 G a i r)(S:z7 G G' bs ds):yR G0 G' a i r:=by
 have j:G'.w.heap[r]?=G.w.heap[r]?:=S.frame r h.lt;refine⟨h.at_,h.new,ane h.lt S.py,?_,?_,?_,h.obj.ext S.ext j⟩;·intro s g;rw[S.T]at g;exact h.T s g
 ·intro b l k e;rcases S.si b l k with c|f
  ·exact h.pi b l c e
  ·have:=h.lt;omega
 ·intro d B m e;rcases S.w7 d B m with c|f
  ·exact h.L d B c e
  ·have:=h.lt;omega
def yY.step{it:Option It}(h:yY G0 G a it)(S:Step G G')(ha:∀i,it=some i->a'.eval (.tmp i.d)=a.eval (.tmp i.d)):yY G0 G' a' it:=by
 cases it with
 |none=>trivial
 |some i=>obtain⟨r,h⟩:=h;exact⟨r,h.step S (ha i rfl)⟩
theorem qY.nB{r:Nat}{i:It}(h:qY G r i){m:o1}{L:Nat->Option Nat}:qY (G.nB m L) r i:=by
 unfold qY at h ⊢;split at h;·exact h
 ·exact h
 ·obtain⟨m,a,b⟩:=h;exact⟨m,a.nB rfl,b⟩
theorem yY.nB{it:Option It}(h:yY G0 G a it){m:o1}{L:Nat->Option Nat}(hL:∀d B,L d=some B->G.L d=some B):yY G0 (G.nB m L) a it:=by
 cases it with
 |none=>trivial
 |some i=>obtain⟨r,h⟩:=h;exact⟨r,h.at_,h.new,h.lt,h.T,h.pi,λd B b=>h.L d B (hL d B b),h.obj.nB⟩
theorem A8{it:Option It}{o:Oper}{u:Value}(h:y7 it o=true):∀i,it=some i->(a.put o.dst u).eval (.tmp i.d)=a.eval (.tmp i.d):=by rintro i rfl;refine Act.eval_put ?_;intro d b e;cases e;simp only[y7,b,Bool.not_eq_true']at h;simp at h
def JY(hW:WR G)(o:Obj):Step G ⟨G.w.alloc o,G.T,G.h,G.pi,G.L⟩/\WR ⟨G.w.alloc o,G.T,G.h,G.pi,G.L⟩:=by
 have f:=pe.alloc G.w o;have a:∀B,B<G.w.heap.size->(G.w.alloc o).heap[B]?=G.w.heap[B]?:=λB i=>f.yT (G:=G) i;have j:(G.w.alloc o).heap.size=G.w.heap.size+1:=f.size (G:=G);have E:Ext G ⟨G.w.alloc o,G.T,G.h,G.pi,G.L⟩:=⟨λ_ _ h=>h,λs B t=>a B (hW.sB s B t),abs _,λ_ _ g z k h=>⟨g,z,k,h,abs _,λ_=>⟨rfl,λ_ h=>h⟩⟩,λ_ _ m c h=>⟨m,c,h,λ_ h=>h⟩,λ_ _ h=>h⟩;have e:G.w.heap.size<=(G.w.alloc o).heap.size:=by omega
 refine⟨⟨E,f.os,f.output,f.tape,e,λB i _ _=>a B i,λ_ l h=>.inl ⟨l,h,rfl⟩,λ_ _ h=>.inl (by grind),λ_ _ h=>.inl h,rfl,λ_ _ _=>rfl,λ_ _ h=>.inl h,λ_ _ h=>.inl (by grind),λ_ _ _ h=>h⟩,?_⟩;obtain⟨k1,k2,k3⟩:=hW.keep E a;exact⟨k1,k2,k3,λb l h=>⟨ane (hW.oW b l h).1 e,(hW.oW b l h).2⟩,hW.rY,hW.w0,hW.uI,hW.LT,hW.u7,λd B h=>⟨ane (hW.qL d B h).1 e,(hW.qL d B h).2⟩,λs B h=>ane (hW.sB s B h) e,hW.lo,hW.lt⟩
def ad4{r:Nat}{o:Obj}{w':World}(hF:Fr G0 G)(hW:WR G)(hh:w'.heap=G.w.heap.setIfInBounds r o)(hos:w'.os=G.w.os)(hou:w'.output=G.w.output)(hta:y5 G.w w')
  (h0:G0.w.heap.size<=r) (hT:∀s,¬G.T s r) (hpi:∀b l,G.pi b=some l->l.B≠r) (hL:∀d B,G.L d=some B->B≠r) :
  Ext G ⟨w',G.T,G.h,G.pi,G.L⟩/\Fr G0 ⟨w',G.T,G.h,G.pi,G.L⟩/\WR ⟨w',G.T,G.h,G.pi,G.L⟩:=by
 have f:∀B,B≠r->w'.heap[B]?=G.w.heap[B]?:=by grind
 have i:w'.heap.size=G.w.heap.size:=by grind
 have E:Ext G ⟨w',G.T,G.h,G.pi,G.L⟩ :=
  ⟨λ_ _ h=>h,λs B t=>f B (λe=>hT s (e▸t)),abs _,λ_ _ g z k h=>⟨g,z,k,h,abs _,λ_=>⟨rfl,λ_ h=>h⟩⟩,λ_ _ m c h=>⟨m,c,h,λ_ h=>h⟩,λ_ _ h=>h⟩
 refine⟨E,⟨?_,λd B h=>hF.L d B h⟩,?_⟩
 ·have a:=hF.S;refine⟨⟨a.ext.T,?_,a.ext.size,a.ext.lU,a.ext.map,a.ext.ca⟩,hos.trans a.os,hou.trans a.output,hta.trans a.tape,?_,?_,a.si,a.tC,a.yK,a.lo,a.out,a.w7,a.yL,a.y3⟩;·intro s B t;have:B≠r:=λe=>hT s (e▸a.ext.T s B t);exact(f B this).trans (a.ext.keep s B t)
  ·show G0.w.heap.size<=w'.heap.size;rw[i];exact a.py
  ·intro B u j x;have:B≠r:=by omega
   exact(f B this).trans (a.frame B u j x)
 ·constructor;·exactλb l g z k j n=>(hW.lU b l g z k j n).mono E (f _ (hpi b l j))
  ·exactλb l m c j n=>(hW.map b l m c j n).mono E (f _ (hpi b l j))
  ·exactλd B y q p=>(hW.loc d B y q p).mono E (f _ (hL d B q))
  ·exactλb l h=>⟨by show l.B<w'.heap.size;rw[i];exact(hW.oW b l h).1,(hW.oW b l h).2⟩
  ·exact hW.rY
  ·exact hW.w0
  ·exact hW.uI
  ·exact hW.LT
  ·exact hW.u7
  ·exactλd B h=>⟨by show B<w'.heap.size;rw[i];exact(hW.qL d B h).1,(hW.qL d B h).2⟩
  ·exactλs B h=>by show B<w'.heap.size;rw[i];exact hW.sB s B h
  ·exact hW.lo
  ·exact hW.lt
def UP(es:Array MapEntry)(seen:Array Nat)(h:∀x∈es.toList,x.born∈seen.toList):(leftOf es seen).toList=[]:=by simp_all[leftOf]
def R1(e0:MapEntry):(leftOf #[e0] #[]).toList=[e0]:=by grind[leftOf]
theorem BO{w:World}{ty r m since:Nat}{seen:Array Nat}{es:Array MapEntry}(hr:w.heap[r]?=some (.mapIter (some m) since seen since))(hb:w.heap[m]?=some (.map es since))
  (hold:∀x∈es.toList,x.born<since) (h:∀x∈es.toList,x.born∈seen.toList):(Instr.next (.pointer (some ⟨r,0,none⟩)) false ty).run P w=.ok (.tuple #[.bool false]) w:=by
 have a:=UP es seen h;grind[run_next_at,seen]
def Oc{w:World}{ty r m since:Nat}{e0:MapEntry}(hr:w.heap[r]?=some (.mapIter (some m) since #[] since))(hb:w.heap[m]?=some (.map #[e0] since))(hold:e0.born<since) :
  ∃w',(Instr.next (.pointer (some ⟨r,0,none⟩)) false ty).run P w=.ok (.tuple #[.bool true,e0.key,e0.val]) w'/\w'.heap=w.heap.setIfInBounds r (.mapIter (some m) since #[e0.born] since)/\w'.os=w.os/\w'.output=w.output/\y5 w w':=by
 have c:=R1 e0;rcases run_next_at (P:=P) w ty r m since since #[] #[e0] since hr hb (by grind) (abs _)with⟨f,_⟩|⟨e,b,g,a,d⟩
 ·grind
 ·rw[c]at b;have:=List.mem_singleton.1 b;subst this;refine⟨_,d,?_⟩;rcases a with rfl|rfl<;>first|exact⟨rfl,rfl,rfl,.rfl _⟩|exact⟨rfl,rfl,rfl,rfl,λ_=>anF _⟩
def NX{k v:AV}{ku vu:Value}(hk:VR G k ku)(hv:VR G v vu):VR G (Gy (some (k,v))) (.tuple #[.bool true,ku,vu]):=by refine .mw _ _ rfl ?_;grind[VR.bool]
def RZ:VR G (Gy none) (.tuple #[.bool false]):=by refine .mw _ _ rfl ?_;grind[VR.bool]
def yR.Zu{i:It}{r:Nat}{w':World}{o:Obj}{k':GV}(hA:yR G0 G a i r)(hh:w'.heap=G.w.heap.setIfInBounds r o)(hobj:qY ⟨w',G.T,G.h,G.pi,G.L⟩ r ⟨i.d,k'⟩):yR G0 ⟨w',G.T,G.h,G.pi,G.L⟩ a ⟨i.d,k'⟩ r :=
 ⟨hA.at_,hA.new,by show r<w'.heap.size;rw[hh];simpa using hA.lt,hA.T,hA.pi,hA.L,hobj⟩
def N7(hF:Fr G0 G)(hW:WR G){i:It}{r:Nat}(hA:yR G0 G a i r){res:Option (AV×AV)}{k':GV}(h:Bh G.h i.k=some (res,k'))(ty:Nat) :
  ∃u G',(Instr.next (.pointer (some ⟨r,0,none⟩)) false ty).run P G.w=.ok u G'.w/\G'.h=G.h/\Ext G G'/\Fr G0 G'/\WR G'/\VR G' (Gy res) u/\yR G0 G' a ⟨i.d,k'⟩ r:=by
 have o:=hA.obj;unfold qY at o
 have qN:(Instr.next (.pointer (some ⟨r,0,none⟩)) false ty).run P G.w=.ok (.tuple #[.bool false]) G.w->res=none->qY G r ⟨i.d,k'⟩ ->
   ∃u G',(Instr.next (.pointer (some ⟨r,0,none⟩)) false ty).run P G.w=.ok u G'.w/\G'.h=G.h/\Ext G G'/\Fr G0 G'/\WR G'/\VR G' (Gy res) u/\yR G0 G' a ⟨i.d,k'⟩ r:=by
  intro A B C;subst B;exact⟨_,G,A,rfl,.refl G,hF,hW,RZ,⟨hA.at_,hA.new,hA.lt,hA.T,hA.pi,hA.L,C⟩⟩
 split at o
 ·rename_i D;rw[D]at h;simp only[Bh,Option.some.injEq,Prod.mk.injEq]at h;obtain⟨rfl,rfl⟩:=h;refine qN ?_ rfl ?_;·simp[Instr.next,getObj,Sem.run,o]
  grind[qY]
 ·rename_i last left D;rw[D]at h;obtain⟨m,g,t,s,hT,hm,C⟩:=o;rcases C with⟨rfl,rfl,rfl,F⟩|⟨p,x,rfl,H,q,J,C⟩
  ·grind[Bh,BO,qY]
  ·rcases C with⟨rfl,rfl,F⟩|⟨rfl,rfl,F⟩
   ·simp only[Bh,Option.some.injEq,Prod.mk.injEq]at h;obtain⟨rfl,rfl⟩:=h;obtain⟨w',R,K,S,U,V⟩:=Oc (P:=P) (ty:=ty) F hm H;obtain⟨E,F',W'⟩:=ad4 hF hW K S U V hA.new hA.T hA.pi hA.L;have hmr:m≠r:=λe=>hA.T s (e▸hT);refine⟨_,⟨w',G.T,G.h,G.pi,G.L⟩,R,rfl,E,F',W',NX (PR.Fe (q.mono E.T E.keep)) (PR.Fe (J.mono E.T E.keep)),hA.Zu K ?_⟩;unfold qY;refine⟨m,#[p],t,s,hT,?_,.inr ⟨p,x,rfl,H,q.mono E.T E.keep,J.mono E.T E.keep,.inr ⟨rfl,rfl,?_⟩⟩⟩<;>grind
   grind[Bh,BO,qY]
 ·rename_i b t seen D;rw[D]at h;obtain⟨m,hv,F⟩:=o;simp only[Bh]at h;split at h
  ·rename_i Q c M;obtain⟨l,g,hpi,N,hB,f,W⟩:=yp hW hv M;simp only[Value.map.injEq,Option.some.injEq]at N;subst N
   have O:∀x∈g.toList,x.born<c:=by
    intro x hx;obtain⟨j,hj⟩:=anq hx;have X:j<Q.length:=by rw[f.1];grind
    (have he:Q[j]?=some Q[j]:=by simp);rw[<- (f.2 j Q[j] x he hj).2.2.2];exact W.1 _ (adc X)
   generalize y:Nat.beq c t=bq at h;split at h;·rename_i sn;have:=acl y;subst this;simp only[Option.some.injEq,Prod.mk.injEq]at h;obtain⟨rfl,rfl⟩:=h;have he:g.toList=[]:=ann (by rw[<- f.1];rfl);grind[BO,qY]
   ·rename_i k v n;have:=acl y;subst this;simp only[Option.some.injEq,Prod.mk.injEq]at h;obtain⟨rfl,rfl⟩:=h;obtain⟨p,Y⟩:∃p,g.toList=[p]:=anG.1 (by rw[<- f.1];rfl);have z:g = #[p]:=by grind
    subst z;obtain⟨_,q,Z,hn⟩:=f.2 0 (k,v,n) p rfl rfl;have hn:n=p.born:=hn;obtain⟨w',R,K,S,U,V⟩:=Oc (P:=P) (ty:=ty) F hB (O p (by simp));obtain⟨E,F',W'⟩:=ad4 hF hW K S U V hA.new hA.T hA.pi hA.L;refine⟨_,⟨w',G.T,G.h,G.pi,G.L⟩,R,rfl,E,F',W',NX (PR.Fe (q.mono E.T E.keep)) (Z.vr.mono E),hA.Zu K ?_⟩;unfold qY;refine⟨_,hv.mono E,?_⟩;grind
   ·rename_i k v n n';have:=acl y;subst this;split at h;·rename_i hnn;have:=acl hnn;subst this;simp only[Option.some.injEq,Prod.mk.injEq]at h;obtain⟨rfl,rfl⟩:=h;obtain⟨p,Y⟩:∃p,g.toList=[p]:=anG.1 (by rw[<- f.1];rfl);obtain⟨_,_,_,hn⟩:=f.2 0 (k,v,n) p rfl (by grind);grind[BO,qY]
    ·cases h
   ·cases h
  ·cases h
def Lj(hW:WR G){i:It}{r:Nat}(hA:yR G0 G a i r){x:AV×AV}(h:Ge G.h i.k=some x) :
  ∃u,(Instr.entry (.pointer (some ⟨r,0,none⟩))).run P G.w=.ok u G.w/\VR G (.mw [x.1,x.2]) u:=by
 have d:=hA.obj;unfold qY at d;have g:∀{k v:AV} {E F:Value},VR G k E->VR G v F->VR G (.mw [k,v]) (.tuple #[E,F]):=by intro k v E F t N;refine .mw _ _ rfl ?_;grind
 split at d;·rename_i t;rw[t]at h;cases h
 ·rename_i O Q t;rw[t]at h;obtain⟨m,e,o,s,Z,S,H⟩:=d;rcases H with⟨rfl,rfl,rfl,D⟩|⟨f,y,rfl,T,p,J,H⟩
  ·cases h
  ·rcases H with⟨rfl,rfl,D⟩|⟨rfl,rfl,D⟩
   ·cases h
   ·simp only[Ge,Option.some.injEq]at h;subst h;refine⟨_,run_entry_at G.w r m o #[] #[f] o f D S (by simp) (by simp),g (PR.Fe p) (PR.Fe J)⟩
 ·rename_i b o z t;rw[t]at h;obtain⟨m,N,D⟩:=d;cases z with
  |none=>cases h
  |some n=>
   simp only[Ge]at h;split at h
   ·rename_i k v n' c A;split at h
    ·rename_i K;simp only[Bool.and_eq_true]at K;have U:=acl K.1;have V:=acl K.2;subst U;subst V;simp only[Option.some.injEq]at h;subst h;obtain⟨l,e,W,C,X,j,Y⟩:=yp hW N A;simp only[Value.map.injEq,Option.some.injEq]at C;subst C;obtain⟨f,L⟩:∃f,e.toList=[f]:=anG.1 (by rw[<- j.1];rfl);have q:e = #[f]:=by rw[<- Array.toArray_toList (xs:=e),L]
     subst q;obtain⟨_,p,M,R⟩:=j.2 0 (k,v,n') f rfl rfl;have R:n'=f.born:=R;refine⟨_,run_entry_at G.w r l.B c #[] #[f] c f (by grind) X (by simp) (by simp),g (PR.Fe p) M.vr⟩
    ·cases h
   ·cases h
def N5(hW:WR G)(hC:nV P X.C){t:Nat}{x:AV}{x':Value}(hx:VR G x x'){k:GV}(h:Ny X.C G.h t x=some k){d:Nat} :
  ∃o,(Instr.range t x').run P G.w=.ok (.pointer (some ⟨G.w.heap.size,0,none⟩)) (G.w.alloc o)/\qY ⟨G.w.alloc o,G.T,G.h,G.pi,G.L⟩ G.w.heap.size ⟨d,k⟩:=by
 unfold Ny at h;split at h
 ·rename_i M q;split at h
  ·rename_i r s g;have u:=D1 hC q g;have f:∀o:Obj,(G.w.alloc o).heap[G.w.heap.size]?=some o:=λo=>(pe.alloc G.w o).new (G:=G);have n:∀(o:Obj) B,B<G.w.heap.size->(G.w.alloc o).heap[B]?=G.w.heap[B]?:=λo B j=>(pe.alloc G.w o).yT (G:=G) j;have z:∀o:Obj,Ext G ⟨G.w.alloc o,G.T,G.h,G.pi,G.L⟩:=λo=>(JY hW o).1.ext;unfold PZ at h;split at h
   ·cases h;cases hx with
    |mR _ hx=>cases hx;simp_all[Instr.range,run_underlying,newObj,Sem.run,qY]
   ·cases h;cases hx with
    |mR _ hx=>cases hx<;>grind[run_range_map,qY]
   ·rename_i y _;cases h;cases hx with
    |mR _ hx=>
     cases hx with
     |fm _ _ sn m a clk _ j hI hl hy hko hkk hvv=>(obtain⟨e,F⟩:∃e,a.toList=[e]:=anG.1 (by grind);have i:a = #[e]:=by grind);subst i;refine⟨.mapIter (some m) clk #[] clk,run_range_map G.w t r s m #[e] clk u j,?_⟩;unfold qY;have E:=z (.mapIter (some m) clk #[] clk);exact⟨m,#[e],clk,_,hI,(n _ m (hW.sB _ m hI)).trans j,.inr ⟨e,y,rfl,hy.1 0 e rfl,((hkk 0 y e rfl rfl).QP).mono E.T E.keep,((hvv 0 y e rfl rfl).QP).mono E.T E.keep,.inl ⟨rfl,rfl,f _⟩⟩⟩
   ·rename_i b;have H:∀A c,G.h.get b=some (.map A c)->∃o,(Instr.range t x').run P G.w=.ok (.pointer (some ⟨G.w.heap.size,0,none⟩)) (G.w.alloc o)/\qY ⟨G.w.alloc o,G.T,G.h,G.pi,G.L⟩ G.w.heap.size ⟨d,.Is b c none⟩:=by intro A c p;obtain⟨l,a,J,rfl,j,D,K⟩:=yp hW hx p;refine⟨.mapIter (some l.B) c #[] c,run_range_map G.w t r s l.B a c u j,?_⟩;unfold qY;exact⟨l.B,hx.mono (z _),f _⟩
    grind
   ·cases h
  ·cases h
 ·cases h
end
end Go.Sx
namespace Go.Sx
open Go
variable [DD]
section
variable {P:Program}{X:Ctx}{N:Nat}{G0 G G':Ga}{a a':Act}{Q:Exit->Act->World->Prop}
def Th{o:Op}{t:Nat}{x:Operand}(h:Nb o=.range t x):o=.range t x:=by unfold Nb at h;grind
def Vg{o:Op}{t:Nat}(h:Nb o=.next t):o=.next (.tmp t) false:=by unfold Nb at h;grind
def Uh{o:Op}{t:Nat}(h:Nb o=.entry t):o=.entry (.tmp t):=by unfold Nb at h;grind
theorem BA{o:Oper}(h:C8 o=true)(ops:Array Oper)(a:Act):Region.wanted o (yielded ops a.tmps)=true:=by grind[C8,Region.wanted]
def Ry(hC:nV P X.C)(hK:tS P X.call){ops:Array Oper}(hN:ops.toList.all (vx N)=true) :
  ∀(l:List Oper) (i:Nat) (it:Option It) (e:Env) (h:aT) (it':Option It) (e':Env) (h':aT),ops.toList.drop i=l->EO X ops.toList l it e h=some (it',e',h') ->
  ∀(G:Ga) (a:Act) (Q:Exit->Act->World->Prop),G.h=h->St N G0 G e a->yY G0 G a it->(∀G' a',G'.h=h'->St N G0 G' e' a'->yY G0 G' a' it'->Q .normal a' G'.w)->wpOps P ops Q (List.range' i (ops.size - i)) a G.w:=by
 intro l;induction l with
 |nil=>
  intro i it e h it' e' h' hd c G a Q D f K E;simp only[EO,Option.some.injEq,Prod.mk.injEq]at c;obtain⟨rfl,rfl,rfl⟩:=c;have:ops.size - i=0:=by simp_all
  rw[this];exact E G a D f K
 |cons o l ih=>
  intro i it e h it' e' h' hd c G a Q D f K E;have O:ops[i]?=some o:=by (have h1:(ops.toList.drop i)[0]?=some o:=by grind);grind
  have hlt:i<ops.size:=(ano.1 O).1;have p:ops.toList.drop (i+1)=l:=by rw[<- List.tail_drop,hd];rfl
  have m:vx N o=true:=anD.1 hN o (by grind);have q:List.range' i (ops.size - i)=i::List.range' (i+1) (ops.size - (i+1)):=by (have:ops.size - i=(ops.size - (i+1))+1:=by omega);rw[this,List.range'_succ]
  rw[q];simp only[wpOps,O];simp only[EO]at c;have next:=ih (i+1)
  split at c
  ·
   rename_i t x R;have j:=Th R;unfold Qy at c;split at c
   ·rename_i k d hrt z hng;subst D;obtain⟨ob,g,U⟩:=N5 (P:=P) (d:=d) f.wr hC (mQ f.er x) hrt;obtain⟨S1,W1⟩:=JY f.wr ob;rw[BA hng];simp only[if_true];left;unfold Oper.wp;simp only[execOp,j,Sem.run_bind,g,Result.andThen_ok,Sem.run_pure,Oper.upon_value];have y:=f.put (o:=o) (v:=.undef) (u:=.pointer (some ⟨G.w.heap.size,0,none⟩)) S1 W1 m (.undef _);have hes:my e o .undef=OI e d .undef:=by grind[my]
    rw[hes]at y;refine next _ _ _ it' e' h' p c ⟨G.w.alloc ob,G.T,G.h,G.pi,G.L⟩ _ Q rfl y ⟨G.w.heap.size,?_,f.fr.S.py,?_,?_,?_,?_,U⟩ E
    ·rw[z,Act.NW (Nat.lt_of_lt_of_le (DK m z) f.sz),if_pos rfl]
    ·simp
    ·intro s ht;exact Nat.lt_irrefl _ (f.wr.sB s _ ht)
    ·intro b l hl e;have:=(f.wr.oW b l hl).1;omega
    ·intro d2 B hB e;have:=(f.wr.qL d2 B hB).1;omega
   grind
  ·
   rename_i t R;have j:=Vg R;unfold S5 at c;split at c
   ·rename_i V;split at c
    ·rename_i A;simp only[Bool.and_eq_true]at A;have F:=acl A.1.1;split at c
     ·rename_i res k' H;obtain⟨r,M⟩:=K;subst D;obtain⟨u,G1,g,hh,E1,F1,W1,W,n⟩:=N7 (P:=P) f.fr f.wr M H o.type;rw[BA A.2];simp only[if_true];left;unfold Oper.wp;have J:a.eval (.tmp t)=.pointer (some ⟨r,0,none⟩):=by rw[<- F];exact M.at_
      simp only[execOp,j,J,Sem.run_bind,g,Result.andThen_ok,Sem.run_pure,Oper.upon_value]
      have y:St N G0 G1 (my e o (Gy res)) (a.put o.dst u) :=
       ⟨F1,W1,(f.er.mono E1).put f.sz m W,by rw[Act.MX];exact f.df,by rw[Act.HK];exact f.sz⟩
      (refine next _ _ _ it' e' h' p c G1 _ Q hh y ⟨r,?_,n.new,n.lt,n.T,n.pi,n.L,n.obj⟩ E);grind[A8]
     grind
    grind
   grind
  ·
   rename_i t R;have j:=Uh R;unfold Po at c;split at c
   ·rename_i V;split at c
    ·rename_i A;simp only[Bool.and_eq_true]at A;have F:=acl A.1.1;split at c
     ·rename_i x H;obtain⟨r,M⟩:=K;subst D;obtain⟨u,g,W⟩:=Lj (P:=P) f.wr M H;rw[BA A.2];simp only[if_true];left;unfold Oper.wp;have J:a.eval (.tmp t)=.pointer (some ⟨r,0,none⟩):=by rw[<- F];exact M.at_
      simp only[execOp,j,J,Sem.run_bind,g,Result.andThen_ok,Sem.run_pure,Oper.upon_value];refine next _ _ _ it' e' h' p c G _ Q rfl (f.put (.refl G) f.wr m W) ⟨r,M.step (.refl G) (A8 A.1.2 V rfl)⟩ E
     grind
    grind
   grind
  ·
   split at c
   ·rename_i Y;cases hw:mF ops.toList e o with
    |none=>rw[hw]at c;cases c
    |some b=>
     rw[hw]at c;rw[BD (λ_ _ d _ _ _ _ _=>f.er.rel d) hw];cases b with
     |false=>simp only[Bool.false_eq_true,if_false];simp only[L8]at c;exact next _ _ _ it' e' h' p c G _ Q D (f.put (.refl G) f.wr m (VR.R3 G)) (K.step (.refl G) (A8 Y)) E
     |true=>
      simp only[if_true];simp only[L8]at c;split at c;·rename_i v h1 j;simp only[F6]at c;subst D;have:=El f.wr hC f.er hK j;left;refine this _ Q (λu G' hh Z hwr W=>?_);exact next _ _ _ it' e' h' p c G' _ Q hh (f.put Z hwr m W) (K.step Z (A8 Y)) E
      grind
   grind
  grind
theorem B5(live:List Nat)(k:Env->aT->Bw)(e:Env)(h:aT):CP live k e h=k (proj live e) { h with ca:=pt live h.ca }:=by unfold CP;simp
theorem yY.qm{it:Option It}(h:yY G0 G a it)(live:List Nat):yY G0 (G.nB (pt live G.h.ca) (vv live G.L)) a it:=by refine h.nB ?_;grind[vv]
def I5(P:Program)(X:Ctx)(N:Nat)(G0:Ga)(n:Nat)(c:Code):Prop:=∀(an:mS)(it:Option It) (e:Env) (h:aT) (x:Ex) (it':Option It) (e':Env) (h':aT),rR X n c an it e h=some (x,it',e',h')->codeOk N X.fa.mP c an=true ->
 ∀(G:Ga) (a:Act) (Q:Exit->Act->World->Prop),G.h=h->St N G0 G e a->yY G0 G a it->(∀G' a',G'.h=h'->St N G0 G' e' a'->yY G0 G' a' it'->Q (HA x) a' G'.w)->c.wp P Q a G.w
def O6{c:Code}{n0:Nat}(ih:I5 P X N G0 n0 c){live:List Nat}{y:mS}(hok:codeOk N X.fa.mP c y=true) :
  ∀(n:Nat) (it:Option It) (e:Env) (h:aT) (x:Ex) (it':Option It) (e':Env) (h':aT),Ji n (λit e h=>CP live (rR X n0 c y it) e h) it e h=some (x,it',e',h') ->
  ∀(G:Ga) (a:Act) (Q:Exit->Act->World->Prop),G.h=h->St N G0 G e a->yY G0 G a it->(∀G' a',G'.h=h'->St N G0 G' e' a'->yY G0 G' a' it'->Q (HA x) a' G'.w)->(Code.loop c).wp P Q a G.w:=by
 intro n it e h x it' e' h' g G a Q t j k o;refine HO (λm a w=>∃G it e,G.w=w/\St N G0 G e a/\yY G0 G a it/\Ji m (λit e h=>CP live (rR X n0 c y it) e h) it e G.h=some (x,it',e',h')) ?_ n a G.w ⟨G,it,e,rfl,j,k,by grind⟩;rintro m a _⟨G,it,e,rfl,j,k,g⟩;cases m with
 |zero=>cases g
 |succ m=>
  simp only[Ji]at g;have p:=j.qm live;have i:=k.qm live;split at g;·rename_i l r u q;rw[B5]at q;refine ih y _ _ _ _ _ _ _ q hok (G.nB (pt live G.h.ca) (vv live G.L)) a _ rfl p i ?_;intro G' a' f b d;exact⟨m,anT _,G',l,r,rfl,b,d,by grind⟩
  ·rename_i s;rw[B5]at g;refine ih y _ _ _ _ _ _ _ g hok (G.nB (pt live G.h.ca) (vv live G.L)) a _ rfl p i ?_;intro G' a' f b d;cases x with
   |oa=>grind[B5]
   |ext id=>exact o G' a' f b d
   |ret=>exact o G' a' f b d
def OP(hm:P.follows .mixedOrders=true)(hC:nV P X.C)(hK:tS P X.call)(hIso:uP X.call)(n:Nat):∀c:Code,I5 P X N G0 n c:=by
 intro c;induction c with
 |skip=>intro M J e h x s e' h' b _ G a Q B t D m;simp only[rR,Option.some.injEq,Prod.mk.injEq]at b;obtain⟨rfl,rfl,rfl,rfl⟩:=b;exact wp_skip (m G a B t D)
 |label l=>intro M J e h x s e' h' b _ G a Q B t D m;simp only[rR,Option.some.injEq,Prod.mk.injEq]at b;obtain⟨rfl,rfl,rfl,rfl⟩:=b;exact wp_label (m G a B t D)
 |exit id=>intro M J e h x s e' h' b _ G a Q B t D m;simp only[rR,Option.some.injEq,Prod.mk.injEq]at b;obtain⟨rfl,rfl,rfl,rfl⟩:=b;exact wp_exit (m G a B t D)
 |ret=>intro M J e h x s e' h' b _ G a Q B t D m;simp only[rR,Option.some.injEq,Prod.mk.injEq]at b;obtain⟨rfl,rfl,rfl,rfl⟩:=b;exact wp_ret (m G a B t D)
 |region id ops draw=>
  intro M J e h x s e' h' b d G a Q B t D m;cases draw with
  |true=>
   simp only[rR]at b;split at b
   ·rename_i Z;unfold Tl at b;split at b
    ·rename_i x1 O R F;simp only[Option.some.injEq,Prod.mk.injEq]at b;obtain⟨rfl,rfl,rfl,rfl⟩:=b;simp only[FP]at F;split at F
     ·rename_i sch;unfold D2 at F;split at F
      ·rename_i e2 h2 hb2;simp only[Option.some.injEq,Prod.mk.injEq]at F;obtain⟨rfl,rfl,rfl⟩:=F;simp only[codeOk,Bool.and_eq_true]at d
       have hJ:Un ops (λG a=>yY G0 G a J):=by
        refine⟨λG G' a h S=>h.step S (λ_ _=>rfl),?_,?_⟩;·intro G a o u ho h;exact h.step (.refl G) (A8 (anD.1 Z o ho))
        ·intro G G' a bs ds h S;cases J with
         |none=>trivial
         |some i=>obtain⟨r,h⟩:=h;exact⟨r,h.fill S⟩
       exact F2 hJ hm hC hK hIso d.2 d.1 hb2 B t D (λG' a' k1 k2 k3=>m G' a' k1 k2 k3)
      grind
     grind
    grind
   grind
  |false=>
   simp only[rR]at b;simp only[codeOk,Bool.and_eq_true]at d;unfold aeV at b;split at b;·rename_i E O R F;simp only[Option.some.injEq,Prod.mk.injEq]at b;obtain⟨rfl,rfl,rfl,rfl⟩:=b;refine wp_region ?_;have:=Ry hC hK d.1 ops.toList 0 J e h E O R (by simp) F G a Q B t D (λG' a' k1 k2 k3=>m G' a' k1 k2 k3);rw[Nat.sub_zero,<- List.range_eq_range']at this;exact this
   grind
 |seq p q ihp ihq=>
  intro M J e h x s e' h' b d G a Q B t D m;simp only[rR,acS]at b
  have V:∀(y:mS) (k:Option It->Env->aT->Bw),codeOk N X.fa.mP p y=true->LH k (rR X n p y J e h)=some (x,s,e',h') ->
    (∀E O R,k E O R=some (x,s,e',h')->∀G1 A,G1.h=R->St N G0 G1 O A->yY G0 G1 A E->q.wp P Q A G1.w)->(Code.seq p q).wp P Q a G.w:=by
   intro y k W b T;unfold LH at b;split at b;·rename_i E O R F;refine wp_seq (ihp y _ _ _ _ _ _ _ F W G a _ B t D ?_);intro G1 A f g j;exact T E O R b G1 A f g j
   ·rename_i hne;refine wp_seq (ihp y _ _ _ _ _ _ _ b W G a _ B t D ?_);intro G1 A f g j;cases x with
    |oa=>grind
    |ext id=>exact m G1 A f g j
    |ret=>exact m G1 A f g j
  split at b;·rename_i H y z;simp only[codeOk,Bool.and_eq_true]at d;refine V y _ d.1 b ?_;intro E O R T G1 A f g j;rw[B5]at T;rw[<- f]at T;exact ihq z _ _ _ _ _ _ _ T d.2 (G1.nB (pt H G1.h.ca) (vv H G1.L)) A Q rfl (g.qm H) (j.qm H) m
  ·rename_i y z;simp only[codeOk,Bool.and_eq_true]at d;refine V y _ d.1 b ?_;intro E O R T G1 A f g j;exact ihq z _ _ _ _ _ _ _ T d.2 G1 A Q f g j m
  grind
 |cond c p q ihp ihq=>
  intro M J e h x s e' h' b d G a Q B t D m;simp only[rR,Yj]at b;split at b
  ·rename_i y z;simp only[codeOk,Bool.and_eq_true]at d;have Y:=mQ t.er c;split at b;·rename_i F;rw[bool?_eq F]at Y;exact wp_cond_true Y.of_bool (ihp y _ _ _ _ _ _ _ b d.1 G a Q B t D m)
   ·rename_i F;rw[bool?_eq F]at Y;exact wp_cond_false Y.of_bool (ihq z _ _ _ _ _ _ _ b d.2 G a Q B t D m)
   grind
  grind
 |block id p ih=>
  intro M J e h x s e' h' b d G a Q B t D m;simp only[rR]at b;simp only[codeOk]at d;refine wp_block ?_;unfold acj at b;split at b
  ·rename_i U E O R F;split at b;·rename_i K;have K:=acl K;simp only[Option.some.injEq,Prod.mk.injEq]at b;obtain⟨rfl,rfl,rfl,rfl⟩:=b;refine ih M _ _ _ _ _ _ _ F d G a _ B t D ?_;intro G1 A f g j;show Exit.inBlock id Q (.exit U) A G1.w;simp only[Exit.inBlock,K,if_true];exact m G1 A f g j
   ·rename_i K;have K:=anv K;simp only[Option.some.injEq,Prod.mk.injEq]at b;obtain⟨rfl,rfl,rfl,rfl⟩:=b;refine ih M _ _ _ _ _ _ _ F d G a _ B t D ?_;intro G1 A f g j;show Exit.inBlock id Q (.exit U) A G1.w;simp only[Exit.inBlock,K,if_false];exact m G1 A f g j
  ·rename_i hne;refine ih M _ _ _ _ _ _ _ b d G a _ B t D ?_;intro G1 A f g j;cases x with
   |oa=>exact m G1 A f g j
   |ext U=>grind
   |ret=>exact m G1 A f g j
 |loop p ih=>
  intro M J e h x s e' h' b d G a Q B t D m;simp only[rR]at b;split at b;·rename_i H y;simp only[codeOk]at d;exact O6 ih d n J e h x s e' h' b G a Q B t D m
  grind
 |scope p ih=>
  intro M J e h x s e' h' b d G a Q B t D m;simp only[rR]at b;simp only[codeOk]at d;refine wp_scope_straight (ih M _ _ _ _ _ _ _ b d G a _ B t D ?_);intro G1 A f g j;cases x with
  |oa=>exact m G1 A f g j
  |ext id=>exact m G1 A f g j
  |ret=>exact m G1 A f g j
 |_=>intro M J e h x s e' h' b;cases b
def O3(hm:P.follows .mixedOrders=true)(hC:nV P X.C)(hK:tS P X.call)(hI:uP X.call){n:Nat}{c:Code}{an:mS}{b:Bool}{e:Env}{h:aT}{x:Ex}{e':Env}{h':aT}(hr:I2 X n c an e h b=some (x,e',h'))(hok:codeOk N X.fa.mP c an=true)
  {G:Ga} {a:Act} {Q:Exit->Act->World->Prop} (hG:G.h=h) (hS:St N G0 G e a) (hQ:∀G' a',G'.h=h'->St N G0 G' e' a'->Q (HA x) a' G'.w):c.wp P Q a G.w:=by
 cases b with
 |false=>exact AQ hm hC hK hI n c an e h x e' h' hr hok G a Q hG hS hQ
 |true=>
  simp only[I2]at hr;unfold UY at hr;split at hr;·rename_i f d g i j;simp only[Option.some.injEq,Prod.mk.injEq]at hr;obtain⟨rfl,rfl,rfl⟩:=hr;exact OP hm hC hK hI n c an none e h f d g i j hok G a Q hG hS trivial (λG' a' k1 k2 _=>hQ G' a' k1 k2)
  grind
end
end Go.Sx
namespace Go.Sx
open Go
variable [DD]
def DG(G:Ga)(v:AV)(u:Value):Prop :=
 VC G v u\/∃l vs,v=.mw l/\u=.tuple vs/\l.length=vs.size/\∀(i:Nat) (x:AV) (y:Value),l[i]?=some x->vs[i]?=some y->VC G x y
theorem DG.nB{G:Ga}{m:o1}{L:Nat->Option Nat}{v:AV}{u:Value}(h:DG G v u):DG (G.nB m L) v u:=by
 rcases h with h|⟨l,c,rfl,rfl,d,e⟩
 ·exact .inl h.nB
 ·exact .inr ⟨l,c,rfl,rfl,d,λi x y a b=>(e i x y a b).nB⟩
def DG.vr{G:Ga}{v:AV}{u:Value}(h:DG G v u):VR G v u:=by
 rcases h with h|⟨l,c,rfl,rfl,d,e⟩
 ·exact h.vr
 ·exact .mw l c d (λi x y a b=>(e i x y a b).vr)
def N0(tmps:Array Value):ResultVar->Sem Value
 |.tmp t=>pure (tmps.getD t undef)
 |.cell a t=>do loadVar t (<- asAddr (tmps.getD a undef))
section
variable {P:Program}{C:nu}{G:Ga}{e:Env}{a:Act}
def RH(hW:WR G)(hC:nV P C)(hE:ER G e a){r:ResultVar}{v:AV}(h:RU C e G.h r=some v):∃u,(N0 a.tmps r).run P G.w=.ok u G.w/\VR G v u:=by
 cases r with
 |tmp t=>simp only[RU,Option.some.injEq]at h;subst h;exact⟨a.tmps.getD t undef,by rfl,hE.rel t⟩
 |cell b t=>
  simp only[RU]at h;split at h
  ·rename_i f d;obtain⟨u,c,g,_⟩:=IA hW (hC.ty t f d) (hE.rel b) h;refine⟨u,?_,g⟩;have i:a.eval (.tmp b)=a.tmps.getD b undef:=rfl;rw[i]at c;show(do loadVar t (<- asAddr (a.tmps.getD b undef)):Sem Value).run P G.w = _;generalize a.tmps.getD b undef=x at c ⊢;cases x with
   |pointer p=>
    cases p with
    |some ad=>grind[Instr.loadAt,Instr.sureAddr,asAddr]
    |none=>simp[Instr.loadAt,Instr.sureAddr,Sem.run_bind,Result.andThen]at c
   |_=>simp[Instr.loadAt,Instr.sureAddr,Sem.run_bind,Result.andThen]at c
  ·cases h
def IY(hW:WR G)(hC:nV P C)(hE:ER G e a):∀(l:List ResultVar)(vs:List AV),J6 C e G.h l=some vs ->
  ∃us:List Value,(l.mapM (N0 a.tmps)).run P G.w=.ok us G.w/\vs.length=us.length/\∀(i:Nat) (x:AV) (y:Value),vs[i]?=some x->us[i]?=some y->VR G x y
 |[],vs,h=>by simp_all[J6]
 |r::l,vs,h=>by
  simp only[J6]at h;split at h;·cases h
  ·rename_i v g;split at h;·cases h
   ·rename_i d f;simp only[Option.some.injEq]at h;subst h;obtain⟨u,j,k⟩:=RH hW hC hE g;obtain⟨us,k1,k2,k3⟩:=IY hW hC hE l d f;refine⟨u::us,?_,by simp[k2],?_⟩;·simp only[List.mapM_cons,Sem.run_bind,j,Result.andThen_ok,k1,Sem.run_pure]
    ·intro i x y b c;cases i with
     |zero=>simp only[List.getElem?_cons_zero,Option.some.injEq]at b c;subst b;subst c;exact k
     |succ i=>rw[List.getElem?_cons_succ]at b c;exact k3 i x y b c
def EM(hW:WR G)(hC:nV P C)(hE:ER G e a){fn:Func}{v:AV}{h':aT}(h:leave.leave1 C fn.results.toList e G.h=some (v,h')) :
  h'=G.h/\∃u,(results fn a.tmps).run P G.w=.ok u G.w/\DG G v u:=by
 unfold leave.leave1 at h;split at h
 ·rename_i c g;split at h
  ·rename_i j;simp only[Option.some.injEq,Prod.mk.injEq]at h;obtain⟨rfl,rfl⟩:=h;refine⟨rfl,?_⟩;obtain⟨d,k1,k2,k3⟩:=IY hW hC hE _ _ g;have f:∀x∈c,x.rX=true:=λx m=>Ni (anD.1 j x m);have b:(results fn a.tmps).run P G.w=.ok (if h:d.toArray.size=1 then d.toArray[0]else .tuple d.toArray) G.w:=by (have:results fn a.tmps=(do let c <- fn.results.mapM (N0 a.tmps);pure (if h:c.size=1 then c[0]else .tuple c)):=by rfl);rw[this,Array.mapM_eq_mapM_toList];simp_all
   (rcases c with _|⟨x,_|⟨n,c⟩⟩);·have:d=[]:=ann (by grind);subst this;exact⟨_,b,.inr ⟨[],#[],rfl,rfl,rfl,by simp⟩⟩
   ·obtain⟨y,rfl⟩:∃y,d=[y]:=anG.1 (by grind);refine⟨y,by grind,.inl ⟨k3 0 x y rfl rfl,f x anC⟩⟩
   ·(have k:d.toArray.size≠1:=by grind);rw[dif_neg k]at b;refine⟨_,b,.inr ⟨_,_,rfl,rfl,by omega,?_⟩⟩;intro i p q l o;exact⟨k3 i p q l (by grind),f p (alc l)⟩
  ·cases h
 ·cases h
theorem Hf:∀(l:List AV)(k t:Nat),p3 (params k l) t=if t<k then .undef else(l[t - k]?).getD .undef
 |[],k,t=>by simp[params,p3]
 |v::l,k,t=>by
  simp only[params,p3];cases a:Nat.beq t k with
  |true=>have:=acl a;subst this;simp
  |false=>
   have b:=anv a;simp only[Hf l (k+1) t];by_cases h:t<k;·rw[if_pos (by omega),if_pos h]
   ·rw[if_neg (by omega),if_neg h];rw[show t - k=(t - (k+1))+1 by omega,List.getElem?_cons_succ]
def K6{args:List AV}{args':Array Value}(hl:args.length=args'.size)(hr:∀(i:Nat)(x:AV) (y:Value),args[i]?=some x->args'[i]?=some y->VC G x y)(k:Nat) :
  ER G (params 0 args) { tmps:=args'++Array.replicate k undef,defers:=[] }:=by
 constructor;intro t;rw[Hf];simp only[Nat.not_lt_zero,if_false,Nat.sub_zero];simp only[Act.eval,Array.getD_eq_getD_getElem?];by_cases h:t<args.length
 ·have a:args[t]?=some args[t]:=by simp[h]
  have b:t<args'.size:=by omega
  have c:args'[t]?=some args'[t]:=by simp[b]
  rw[Array.getElem?_append_left b,a,c];exact(hr t _ _ a c).vr
 ·have a:args[t]?=none:=by grind
  rw[a];exact .undef _
structure uD(P:Program)(f:Nat)(fa:lg):Prop where
 ex : ∃ fn : Func, P.funcs[f]? = some fn ∧ fn.body = some fa.body ∧ fn.results.toList = fa.res ∧ (fn.name == "runtime.NumGoroutine") = false ∧ codeOk fn.ntmps fa.mP fa.body fa.qC = true
def Iq(hm:P.follows .mixedOrders=true)(hC:nV P C){call:xC}(hK:tS P call)(hI:uP call){n f:Nat}{fa:lg}(hF:uD P f fa){args:List AV}{v:AV}{h':aT}
  (h:Aw C fa call n args G.h=some (v,h')) (hlo:G.h.ca=[]) (hL:∀d,G.L d=none) (hW:WR G) {args':Array Value} (hl:args.length=args'.size)
  (hr:∀(i:Nat) (x:AV) (y:Value),args[i]?=some x->args'[i]?=some y->VC G x y) {R:Ending->World->Prop}
  (hR:∀u G',Step G G'->WR G'->(∀d,G'.L d=none)->G'.h = { h' with ca:=[] }->DG G' v u->R (.returned u) G'.w):Calls P f args' G.w R:=by
 obtain⟨r,s,j,o,_,k⟩:=hF.ex;unfold Aw at h;generalize H:I2 ⟨C,fa,call⟩ n fa.body fa.qC (params 0 args) G.h fa.iter=rc at h
 have e:∀(x:Ex) (e':Env) (m:aT),rc=some (x,e',m)->(x=.oa\/x=.ret)->leave.leave1 C fa.res e' m=some (v,h')->Calls P f args' G.w R:=by
  intro x e' m t J q;subst t;refine calls_of_wp s j ?_
  have A:Fr G G:=by
   refine⟨⟨⟨λ_ _ h=>h,λ_ _ _=>rfl,abs _,λ_ _ g z K h=>⟨g,z,K,h,abs _,λ_=>⟨rfl,λ_ h=>h⟩⟩,λ_ _ M c h=>⟨M,c,h,λ_ h=>h⟩,λd B h=>by grind⟩,rfl,rfl,.rfl _,abs _,λ_ _ _ _=>rfl,
    λ_ l h=>.inl ⟨l,h,rfl⟩,λ_ _ h=>.inl (by rw[show G.pi _ = _ from h];rfl),λ_ _ h=>.inl h,rfl,λ_ _ _=>rfl,λ_ _ h=>(by cases h),λ_ _ h=>(by cases h),?_⟩,λd B h=>by grind⟩
   intro d c _ F;rw[hlo]at F;cases F
  have D:St r.ntmps G G (params 0 args) { tmps:=args'++Array.replicate (r.ntmps - args'.size) undef,defers:=[] } :=
   ⟨A,hW,K6 hl hr _,rfl,by grind⟩
  refine O3 (X:=⟨C,fa,call⟩) (N:=r.ntmps) (G0:=G) hm hC hK hI H k rfl D ?_;intro G1 O E a;have b:∃u,(results r O.tmps).run P G1.w=.ok u G1.w/\R (.returned u) G1.w:=by rw[<- E,<- o]at q;obtain⟨Q,u,T,U⟩:=EM a.wr hC a.er q;refine⟨u,T,?_⟩;exact hR u (G1.nB [] λ_=>none) a.fr.S (a.wr.LJ (λd B h=>by cases h) (λd B h=>by cases h)) (λ_=>rfl) (by rw[Q];rfl) U.nB
  rcases J with rfl|rfl
  ·exact⟨a.df,b⟩
  ·exact⟨a.df,b⟩
 cases rc with
 |none=>cases h
 |some p=>
  obtain⟨x,e',m⟩:=p;cases x with
  |oa=>exact e .oa e' m rfl (.inl rfl) h
  |ret=>exact e .ret e' m rfl (.inr rfl) h
  |ext id=>cases h
end
end Go.Sx
namespace Go.Sx
open Go
variable [DD]
def PR.RX{w:World}{T T':Bool->Nat->Prop}{m:Bool}{v:AV}{u:Value}(h:PR w T m v u)(hm:m=false)(hT:∀B,T false B->T' false B):PR w T' m v u:=by
 induction h with
 |undef m v h=>exact .undef m v h
 |bool m b=>exact .bool m b
 |int m k n=>exact .int m k n
 |str m s b h=>exact .str m s b h
 |oh m=>exact .oh m
 |ip m cells off sn B base c e fr f hm' hB hB' hc d hr ih=>
  have o:sn=false:=by grind
  subst o;exact .ip m cells off false B base c e fr f hm' hB (hT B hB') hc d (λi x q=>ih i x q rfl)
 |slnil m=>exact .slnil m
 |sy m cap a c hm' h=>exact .sy m cap a c hm' h
 |sl m xs cap B base c e fr cap' esz f hm' hB hB' hcap hle hz hc d hr ih=>
  have o:vK cap=false:=by grind
  refine .sl m xs cap B base c e fr cap' esz f hm' hB (by grind) hcap hle hz hc d ?_;grind
 |ow m=>exact .ow m
 |fm m es sn r ents clk hm' hB hB' hl hy hko hk hv ihk ihv=>
  have o:sn=false:=by grind
  subst o;exact .fm m es false r ents clk hm' hB (hT r hB') hl hy hko (λi p e d j=>ihk i p e d j rfl) (λi p e d j=>ihv i p e d j rfl)
 |pC m=>exact .pC m
 |mH m g a c a' c' ha hc hra hrc iha ihc=>exact .mH m g a c a' c' ha hc (λi x y d j=>iha i x y d j hm) (λi x y d j=>ihc i x y d j hm)
 |agg m l vs hl d hr ih=>exact .agg m l vs hl d (λi x y d j=>ih i x y d j hm)
section
variable {P:Program}{C:nu}{G:Ga}
def afy(G:Ga):Bool->Nat->Prop:=λs B=>G.T s B\/(s=true/\∃b l,G.pi b=some l/\l.B=B)
def vM(G:Ga):Ga:=⟨G.w,afy G,aT.empty,λ_=>none,λ_=>none⟩
theorem Ks(b:Nat):aT.empty.get b=none:=by rfl
def QN(hW:WR G):WR (vM G) where
 lU:=λ_ _ _ _ _ h=>by cases h
 map:=λ_ _ _ _ h=>by cases h
 loc:=λ_ _ _ h=>by cases h
 oW:=λ_ _ h=>by cases h
 rY:=λ_ _ _ _ h=>by cases h
 w0:=λ_ _ _ h=>by cases h
 uI:=λ_ _ _ h=>by cases h
 LT:=λ_ _ _ h=>by cases h
 u7:=λ_ _ _ _ h=>by cases h
 qL:=λ_ _ h=>by cases h
 sB:=by
  intro s B h;rcases h with h|⟨_,b,l,a,rfl⟩
  ·exact hW.sB s B h
  ·exact(hW.oW b l a).1
 lo:=abs _
 lt:=λb o h=>by grind[vM,aT.empty,Ks]
def agn{x:AV}{u:Value}(h:VR G x u)(hx:x.xK=false)(hn:x.rX=true):VR (vM G) x u:=by
 have mR:∀(x:AV) (u:Value),VR G x u->x.oI=true->VR (vM G) x u:=by
  intro x u h e;cases h with
  |mR _ h=>exact .mR e (h.mono (λs B t=>.inl t) (λ_ _ _=>rfl))
  |_=>simp[AV.oI]at e
 have q:∀x:AV,x.qj=true->x.oI=true:=by intro x hx;cases x<;>simp_all[AV.qj,AV.oI]
 have mH:∀(g:Nat) (a c:List AV) (u:Value),VR G (.mH g a c) u->(a.all AV.qj&&c.all AV.qj)=true->VR (vM G) (.mH g a c) u:=by
  intro g a c u h hx;simp only[Bool.and_eq_true,List.all_eq_true]at hx;cases h with
  |mR e _=>simp[AV.oI]at e
  |mH _ _ _ a' c' ha hc hna hnc hra hrc=>exact .mH g a c a' c' ha hc hna hnc (λi x y j p=>mR x y (hra i x y j p) (q x (hx.1 x (alc j)))) (λi x y j p=>mR x y (hrc i x y j p) (q x (hx.2 x (alc j))))
 cases x with
 |undef=>exact .undef _
 |bool b=>exact mR _ _ h rfl
 |int k n=>exact mR _ _ h rfl
 |str s=>exact mR _ _ h rfl
 |oh=>exact mR _ _ h rfl
 |ip c o s=>exact mR _ _ h rfl
 |la d o=>cases hn
 |ptr b g i o=>simp[AV.xK]at hx
 |sl xs c=>exact mR _ _ h rfl
 |hs b g o l=>simp[AV.xK]at hx
 |ow=>exact mR _ _ h rfl
 |fm es s=>exact mR _ _ h rfl
 |hm b=>simp[AV.xK]at hx
 |mH g a c=>grind[AV.xK]
 |pC=>exact mR _ _ h rfl
 |agg l=>
  simp only[AV.xK]at hx;rw[List.any_eq_false]at hx;cases h with
  |mR e _=>simp[AV.oI]at e
  |agg _ vs hl hna j hr=>
   refine .agg l vs hl hna j ?_;intro i x y e r;have f:=hr i x y e r;have w:=hx x (alc e);have m:=hna x (alc e);cases x with
   |undef=>exact .undef _
   |bool b=>exact mR _ _ f rfl
   |int k n=>exact mR _ _ f rfl
   |str s=>exact mR _ _ f rfl
   |oh=>exact mR _ _ f rfl
   |ip c o s=>exact mR _ _ f rfl
   |la d o=>cases m
   |ptr b g i o=>grind
   |sl xs c=>exact mR _ _ f rfl
   |hs b g o l=>grind
   |ow=>exact mR _ _ f rfl
   |fm es s=>exact mR _ _ f rfl
   |hm b=>grind
   |mH g a c=>grind
   |pC=>exact mR _ _ f rfl
   |agg l2=>cases f<;>grind[AV.oI,Value.oneCell']
   |mw l2=>cases m
 |mw l=>cases hn
def Ez(hW:WR G){args tY:List AV}(h:pb G.h args=some tY){args':Array Value}(hl:args.length=args'.size)
  (hr:∀(i:Nat) (x:AV) (y:Value),args[i]?=some x->args'[i]?=some y->VC G x y) :
  tY.length=args'.size/\∀(i:Nat) (x:AV) (y:Value),tY[i]?=some x->args'[i]?=some y->VC (vM G) x y:=by
 unfold pb at h;split at h;·obtain⟨g,j⟩:=pS h;refine⟨g.trans hl,?_⟩;intro i x y d e;obtain⟨f,k1,k2⟩:=j i x d;have a:=hr i f y k1 e;have:PR G.w (afy G) true x y:=Fh hW (λs B t=>.inl t) (λb l k=>.inr ⟨rfl,b,l,k,rfl⟩) 8 f x y k2 a.na a.vr;exact PR.CL (G:=vM G) this
 ·rename_i c;simp only[Option.some.injEq]at h;subst h;refine⟨hl,?_⟩;intro i x y d e;have a:=hr i x y d e;rw[List.any_eq_false]at c;exact⟨agn a.vr (by grind) a.na,a.na⟩
def af8(G G2:Ga):Bool->Nat->Prop:=λs B=>G.T s B\/(s=false/\G.w.heap.size<=B/\(G2.T false B\/∃b l,G2.pi b=some l/\l.B=B))
def zZ(G G2:Ga):Ga:=⟨G2.w,af8 G G2,G.h,G.pi,G.L⟩
def KL(hW:WR G)(hL:∀d,G.L d=none){G2:Ga}(S:Step (vM G) G2)(W2:WR G2):Step G (zZ G G2)/\WR (zZ G G2):=by
 have n:∀b l,G2.pi b=some l->G.w.heap.size<=l.B:=by
  intro b l h;rcases S.si b l h with⟨q,o,_⟩|e
  ·cases o
  ·exact e
 have E:Ext G (zZ G G2):=by refine⟨λs B t=>.inl t,?_,abs _,λ_ _ g z i h=>⟨g,z,i,h,abs _,λ_=>⟨rfl,λ_ h=>h⟩⟩,λ_ _ j c h=>⟨j,c,h,λ_ h=>h⟩,λ_ _ h=>h⟩;intro s B t;exact S.ext.keep s B (.inl t)
 have a:∀b l,G.pi b=some l->(zZ G G2).w.heap[l.B]?=G.w.heap[l.B]?:=λb l h=>S.ext.keep true l.B (.inr ⟨rfl,b,l,h,rfl⟩);refine⟨⟨E,S.os,S.output,S.tape,S.py,?_,λ_ l h=>.inl ⟨l,h,rfl⟩,λ_ _ h=>.inl (by rw[show G.pi _ = _ from h];rfl),?_,rfl,λ_ _ _=>rfl,λ_ _ h=>.inl h,λ_ _ h=>.inl (by rw[show G.L _ = _ from h];rfl),λ_ _ _ h=>h⟩,?_⟩;·intro B p _ _;exact S.frame B p (λb l h=>by cases h) (λd B' h=>by cases h)
 ·intro s B h;rcases h with h|⟨_,h,_⟩<;>grind
 ·constructor;·exactλb l g z i f k=>(hW.lU b l g z i f k).mono E (a b l f)
  ·exactλb l j c f k=>(hW.map b l j c f k).mono E (a b l f)
  ·simp_all[zZ]
  ·exactλb l h=>⟨ane (hW.oW b l h).1 S.py,(hW.oW b l h).2⟩
  ·exact hW.rY
  ·intro s b l h m;rcases m with m|⟨_,e,_⟩
   ·exact hW.w0 s b l h m
   ·have:=(hW.oW b l h).1;omega
  ·exact hW.uI
  ·simp_all[zZ]
  ·exact hW.u7
  ·simp_all[zZ]
  ·intro s B h;rcases h with h|⟨_,_,h|⟨b,l,h,rfl⟩⟩
   ·exact ane (hW.sB s B h) S.py
   ·exact W2.sB false B h
   ·exact(W2.oW b l h).1
  ·exact hW.lo
  ·exact hW.lt
theorem Ir{G2:Ga}(S:Step (vM G) G2)(W2:WR G2){v v':AV}{u:Value}{n:Nat}(h:freeze false G2.h n v=some v')(hv:VC G2 v u):VC (zZ G G2) v' u:=by
 have k:PR G2.w (λs B=>G2.T s B\/(s=false/\∃b l,G2.pi b=some l/\l.B=B)) false v' u :=
  Fh W2 (λs B t=>.inl t) (λb l d=>.inr ⟨rfl,b,l,d,rfl⟩) n v v' u h hv.na hv.vr
 have k2:=k.RX (T':=af8 G G2) rfl (by
  intro B e;rcases e with e|⟨_,b,l,d,rfl⟩
  ·rcases S.yK false B e with c|a
   ·(rcases c with c|⟨c,_⟩);·exact .inl c
    grind
   ·exact .inr ⟨rfl,a,.inl e⟩
  ·refine .inr ⟨rfl,?_,.inr ⟨b,l,d,rfl⟩⟩;rcases S.si b l d with⟨f,c,_⟩|a
   ·cases c
   ·exact a)
 exact PR.CL (G:=zZ G G2) k2
def Iu{G2:Ga}(S:Step (vM G) G2)(W2:WR G2){v v':AV}{u:Value}{n:Nat}(h:freeze false G2.h n v=some v')(hv:DG G2 v u):DG (zZ G G2) v' u:=by
 rcases hv with hv|⟨l,a,rfl,rfl,b,d⟩
 ·exact .inl (Ir S W2 h hv)
 ·cases n with
  |zero=>simp[freeze]at h
  |succ n=>
   simp only[freeze]at h;split at h;·rename_i l' c;simp only[Option.some.injEq]at h;subst h;obtain⟨k1,k2⟩:=pS c;refine .inr ⟨l',a,rfl,rfl,k1.trans b,?_⟩;grind[Ir]
   ·cases h
def GF(P:Program)(f:Nat)(args:List AV)(h:aT)(v:AV)(h':aT):Prop :=
 ∀(G:Ga) (args':Array Value),G.h=h->h.ca=[]->(∀d,G.L d=none)->WR G->args.length=args'.size->(∀(i:Nat) (x:AV) (y:Value),args[i]?=some x->args'[i]?=some y->VC G x y) ->
 (∃ fn, P.funcs[f]? = some fn ∧ fn.body.isNone = false ∧ (fn.name == "runtime.NumGoroutine") = false) ∧
 ∀R:Ending->World->Prop,(∀u G',Step G G'->WR G'->(∀m:o1,{ G'.h with ca:=m } = { h' with ca:=m })->(∀m L,VR (G'.nB m L) v u)->R (.returned u) G'.w)->Calls P f args' G.w R
structure qD(P:Program)(f:Nat)(p:Bool->List AV->aT->Option (AV×aT)):Prop where
 call:∀shd args h v h',p shd args h=some (v,h')->GF P f args h v h'
 BQ:∀(args:List AV) (h:aT) (v:AV) (h':aT),p false args h=some (v,h')->h'=h/\∀h2:aT,(∀b o,h.get b=some o->h2.get b=some o)->p false args h2=some (v,h2)
structure vC(P:Program)(C:nu)(F:oP)(Pr:om):Prop where
 mixed:P.follows .mixedOrders=true
 cfg:nV P C
 fns:∀f fa,F f=some fa->uD P f fa
 Lu:∀f p,Pr f=some p->qD P f p
theorem KI{fa:lg}{call:xC}{lp:Nat}{args:List AV}{h:aT}{v:AV}{h':aT}(hc:zA C fa call lp false args h=some (v,h')) :
  h'=h/\∀h2:aT,(∀b o,h.get b=some o->h2.get b=some o)->zA C fa call lp false args h2=some (v,h2):=by
 simp only[zA]at hc;split at hc;·cases hc
 ·rename_i tY a;generalize e:Aw C fa call lp tY aT.empty=r at hc;unfold frozen at hc;split at hc
  ·rename_i f g;split at hc;·cases hc
   ·rename_i i c;simp only[Option.some.injEq,Prod.mk.injEq]at hc;obtain⟨rfl,rfl⟩:=hc;refine⟨rfl,?_⟩;intro h2 E
    have d:pb h2 args=some tY:=by
     unfold pb at a ⊢;split at a;·(obtain⟨j,k⟩:=pS a;have:∀(l l':List AV),nd (freeze true h 8) l=some l'->nd (freeze true h2 8) l=some l':=by intro l;induction l<;>grind[nd,AE]);grind
     omega
    grind[zA,frozen]
  grind
def wD{F:oP}{Pr:om}(T:vC P C F Pr)(n:Nat):uP (qi C F Pr n):=by
 intro f b h v h' a;cases n with
 |zero=>cases a
 |succ n=>
  simp only[qi]at a;cases c:Pr f with
  |some p=>rw[c]at a;obtain⟨k1,k2⟩:=(T.Lu f p c).BQ _ _ _ _ a;grind[qi]
  |none=>grind[KI,qi]
def tF{F:oP}{Pr:om}(T:vC P C F Pr):∀n:Nat,tS P (qi C F Pr n):=by
 intro n;induction n with
 |zero=>intro d f e h v h' a;cases a
 |succ n ih=>
  intro d f e h v h' a;simp only[qi]at a;cases i:Pr f with
  |some p=>rw[i]at a;exact(T.Lu f p i).call _ _ _ _ _ a
  |none=>
   rw[i]at a;simp only at a;split at a;·cases a
   ·rename_i A j;intro G k J l B g D E;have q:=T.fns f A j;obtain⟨K,s,t,_,c,_⟩:=q.ex;refine⟨⟨K,s,by grind,c⟩,?_⟩;intro R H;subst J;cases d with
    |true=>simp only[zA]at a;refine Iq T.mixed T.cfg ih (wD T n) q a l B g D E ?_;intro u G' S' W' _ w x;exact H u G' S' W' (λm=>by rw[w]) (λm L=>(x.nB).vr)
    |false=>
     simp only[zA]at a;split at a;·cases a
     ·rename_i tY M;generalize N:Aw C A (qi C F Pr n) n tY aT.empty=r at a;unfold frozen at a;split at a
      ·rename_i O Q;split at a;·cases a
       ·rename_i v1 y;simp only[Option.some.injEq,Prod.mk.injEq]at a;obtain⟨rfl,rfl⟩:=a;obtain⟨k1,k2⟩:=Ez g M D E;refine Iq (G:=vM G) T.mixed T.cfg ih (wD T n) q N rfl (λ_=>rfl) (QN g) k1 k2 ?_;intro u G2 S2 W2 _ w x;obtain⟨S3,W3⟩:=KL g B S2 W2;have z:freeze false G2.h 8 O=some v1:=by rw[w];exact AE (λb o h=>h) _ _ _ y
        exact H u (zZ G G2) S3 W3 (λm=>rfl) (λm L=>(Iu S2 W2 z x).nB.vr)
      grind
end
end Go.Sx
namespace Go.Sx
def yk(shd:Bool)(args:List AV)(h:aT):R2:=match args with
 |[.ow]=>some (.ow,h)
 |[.fm es s]=>some (.fm es s,h)
 |[.hm b]=>match shd with
  |true=>match h.get b with
   |some (.map es c)=>some (.hm h.size,h.push (.map es c))
   |_=>none
  |false=>none
 |_=>none
def aet(f:Func):Code:=match f.body with
 |some c=>c
 |none=>.skip
open Go
def WC{G:Ga}(hW:WR G)(o:Obj)(s:Bool) :
  let G':Ga:=⟨G.w.alloc o,λs' B=>G.T s' B\/(s'=s/\B=G.w.heap.size),G.h,G.pi,G.L⟩
  Step G G'/\WR G':=by
 intro G';obtain⟨S,W⟩:=JY hW o;have a:∀B,B<G.w.heap.size->(G.w.alloc o).heap[B]?=G.w.heap[B]?:=λB e=>(pe.alloc G.w o).yT (G:=G) e;have E:Ext G G':=⟨λ_ _ h=>.inl h,S.ext.keep,S.ext.size,S.ext.lU,S.ext.map,S.ext.ca⟩;refine⟨⟨E,S.os,S.output,S.tape,S.py,S.frame,S.si,S.tC,?_,S.lo,S.out,S.w7,S.yL,S.y3⟩,?_⟩;·grind
 ·obtain⟨k1,k2,k3⟩:=hW.keep E a;refine⟨k1,k2,k3,W.oW,W.rY,?_,W.uI,?_,W.u7,W.qL,?_,W.lo,W.lt⟩
  ·rintro s' b l h (c|⟨_,c⟩);·exact hW.w0 s' b l h c
   ·have:=(hW.oW b l h).1;omega
  ·rintro s' d B h (c|⟨_,c⟩);·exact hW.LT s' d B h c
   ·have:=(hW.qL d B h).1;omega
  ·rintro s' B (h|⟨_,rfl⟩);·exact W.sB s' B h
   ·show G.w.heap.size<(G.w.alloc o).heap.size;simp
theorem Fb {P : Program} {f : Nat} (hex : ∃ fn, P.funcs[f]? = some fn ∧ fn.body.isNone = false ∧ (fn.name == "runtime.NumGoroutine") = false)
  (h1:∀b es clock (w:World),w.heap[b]?=some (.map es clock)->Calls P f #[.map (some b)] w λe w'=>e=.returned (.map (some w.heap.size))/\w'=w.alloc (.map es clock))
  (h0:∀w:World,Calls P f #[.map none] w λe w'=>e=.returned (.map none)/\w'=w):qD P f yk where
 call:=by
  intro K n h v h' d G g M N U A J O;refine⟨hex,?_⟩;intro R D;subst M
  have one:∀x:AV,n=[x]->∃y,g = #[y]/\VC G x y:=by
   rintro x rfl;cases g with|mk l=>
   cases l with
   |nil=>simp at J
   |cons y l=>
    cases l with
    |nil=>exact⟨y,rfl,O 0 x y rfl rfl⟩
    |cons _ _=>simp at J
  unfold yk at d;split at d
  ·obtain⟨y,rfl,q⟩:=one _ rfl;cases d;have F:=q.vr;cases F with
   |mR _ k=>cases k;refine(h0 G.w).mono ?_;rintro e w' ⟨rfl,rfl⟩;exact D _ G (.refl G) A (λm=>rfl) (λm L=>VR.nB (.mR rfl (.ow _)) rfl)
  ·rename_i es s;obtain⟨y,rfl,q⟩:=one _ rfl;cases d;have F:=q.vr;cases F with
   |mR _ k=>
    cases k with
    |fm _ _ _ r a clk _ H hI hll o hko hk hvv=>
     refine(h1 r a clk G.w H).mono ?_;rintro e w' ⟨rfl,rfl⟩;obtain⟨S1,W1⟩:=WC A (.map a clk) s;refine D _ _ S1 W1 (λm=>rfl) (λm L=>VR.nB (.mR rfl ?_) rfl);refine .fm _ es s G.w.heap.size a clk (λ_=>rfl) ((pe.alloc G.w _).new (G:=G)) (.inr ⟨rfl,rfl⟩) hll o hko ?_ ?_;·exactλi p e k C=>(hk i p e k C).mono S1.ext.T S1.ext.keep
     ·exactλi p e k C=>(hvv i p e k C).mono S1.ext.T S1.ext.keep
  ·rename_i b;obtain⟨y,rfl,q⟩:=one _ rfl;split at d
   ·split at d
    ·rename_i es c t;cases d;obtain⟨l,a,Q,rfl,H,u,o⟩:=yp A q.vr t;refine(h1 l.B a c G.w H).mono ?_;rintro e w' ⟨rfl,rfl⟩
     obtain⟨S1,W1⟩:=HF (ob:=.map es c) (cap:=0) A (pe.alloc G.w (.map a c)) (by simp) (by
      intro S V e G' E z;cases e;have j:=u.mono E
      exact⟨a,z,by simpa using j.1,o,λi p e k C=>j.2 i p e k (by grind)⟩)
     refine D _ _ S1 W1 (λm=>rfl) (λm L=>VR.nB (.hm _ _ ?_ ?_) rfl)<;>grind[VR.nB,aT.size_push,pD]
    grind
   grind
  grind
 BQ:=by
  intro n h v h' d;unfold yk at d;split at d;·cases d;exact⟨rfl,λ_ _=>rfl⟩
  ·cases d;exact⟨rfl,λ_ _=>rfl⟩
  ·cases d
  grind
def am9(P:Program)(t n:Nat):Bool:=match P.info? t with
 |some i=>Nat.beq i.size n
 |none=>false
def Qh(P:Program)(t:Nat)(k:TK):Bool:=match P.underlying t,k with
 |some .bool,.bool=>true
 |some (.int a),.int b=>ua a b
 |some .string,.str=>true
 |_,_=>false
def RS(P:Program)(t:Nat):Option Nat:=match P.underlying t with
 |some (.struct _)=>(P.info? t).map (·.size)
 |_=>none
def zU(P:Program)(rec:Nat->List TK->Bool):List Field->Nat->List TK->Bool
 |[],_,ks=>ks.isEmpty
 | f :: fs, off, ks => (f.name != "_") && Nat.beq f.offset off && match RS P f.type with
   |some n=>Nat.ble n ks.length&&rec f.type (ks.take n)&&zU P rec fs (off+n) (ks.drop n)
   |none=>match ks with
    |k::ks=>Qh P f.type k&&zU P rec fs (off+1) ks
    |[]=>false
def zP(P:Program):Nat->Nat->List TK->Bool
 |0,_,_=>false
 |d+1,t,ks=>match P.underlying t with
  |some (.struct F)=>!P.stoodInHeld t&&zU P (zP P d) F.toList 0 ks
  |_=>false
section
variable {P:Program}
def GN:∀{a b:List AV} (c d:List AV),a.length=b.length->pX (a++c) (b++d)=match pX a b,pX c d with
  |some x,some y=>some (x&&y)
  |_,_=>none
 |[],[],c,d,_=>by simp only[List.nil_append,pX];cases pX c d<;>simp
 |[],_::_,_,_,h=>by simp at h
 |_::_,[],_,_,h=>by simp at h
 |x::a,y::b,c,d,h=>by
  have e:=GN c d (a:=a) (b:=b) (by simpa using h);simp only[List.cons_append,pX];cases f:qV x y with
  |none=>rfl
  |some v=>
   cases v with
   |true=>simp only[e]
   |false=>simp only[e];cases pX a b<;>cases pX c d<;>simp
theorem Hw:∀{l m:List AV} {b:Bool},pX l m=some b->l.length=m.length
 |[],[],_,_=>rfl
 |[],_::_,_,h=>by cases h
 |_::_,[],_,h=>by cases h
 |x::l,y::m,b,h=>by
  simp only[pX]at h;split at h;·simp[Hw h]
  ·split at h;·rename_i q;simp[Hw q]
   ·cases h
  ·cases h
theorem Ei:∀{ks:List TK} {l:List AV},fitAll ks l=true->l.length=ks.length
 |[],[],_=>rfl
 |[],_::_,h=>by cases h
 |_::_,[],h=>by cases h
 |_::ks,_::l,h=>by simp only[fitAll,Bool.and_eq_true]at h;simp[Ei h.2]
def FV:∀(n:Nat) {ks:List TK} {l:List AV},fitAll ks l=true->fitAll (ks.take n) (l.take n)=true/\fitAll (ks.drop n) (l.drop n)=true
 |0,ks,l,h=>⟨by rfl,by grind⟩
 |n+1,[],[],_=>⟨rfl,rfl⟩
 |_+1,[],_::_,h=>by cases h
 |_+1,_::_,[],h=>by cases h
 |n+1,k::ks,a::l,h=>by simp only[fitAll,Bool.and_eq_true]at h;obtain⟨b,c⟩:=FV n h.2;exact⟨by simp[fitAll,h.1,b],by simpa using c⟩
def Rel(w:World)(T:Bool->Nat->Prop)(l:List AV)(xs:Array Value):Prop:=l.length=xs.size/\∀(i:Nat)(x:AV) (y:Value),l[i]?=some x->xs[i]?=some y->PR w T true x y
theorem Rel.part{w:World}{T:Bool->Nat->Prop}{l:List AV}{xs:Array Value}(h:Rel w T l xs)(o n:Nat)(hle:o+n<=l.length):Rel w T ((l.drop o).take n) (xs.extract o (o+n)):=by
 refine⟨by simp[<- h.1];omega,?_⟩;intro i x y a b;rw[List.getElem?_take]at a;split at a
 ·rw[List.getElem?_drop]at a;rw[Array.getElem?_extract]at b;split at b;·exact h.2 (o+i) x y a b
  grind
 grind
theorem Cy{t:Nat}{k:TK}(hk:Qh P t k=true){xs:Array Value}{o:Nat}{y:Value}(hy:xs[o]?=some y)(w:World):(Go.part t xs o).run P w=.ok y w:=by
 unfold Qh at hk;have:∃d,P.underlying t=some d/\QZ d=false:=by split at hk<;>first|exact⟨_,by assumption,rfl⟩|cases hk
 obtain⟨d,b,a⟩:=this;have c:(Go.isAgg t).run P w=.ok false w:=by unfold Go.isAgg;rw[Sem.run_bind,run_underlying b w,<- a];cases d<;>rfl
 simp_all[Go.part,Sem.run_bind]
theorem Et{t n:Nat}(hk:RS P t=some n)(xs:Array Value)(o:Nat)(w:World):(Go.part t xs o).run P w=.ok (.agg (xs.extract o (o+n))) w:=by
 unfold RS at hk;split at hk
 ·rename_i F a;cases b:P.info? t with
  |none=>grind
  |some i=>simp_all[Go.isAgg,Sem.run_bind,run_underlying,Go.part,Go.sizeOf,typeInfo]
 grind
theorem KN{t:Nat}{k:TK}(hk:Qh P t k=true){a c:AV}{x y:Value}{b:Bool}{w:World}{T:Bool->Nat->Prop}(hf:yN k a=true)(hx:PR w T true a x)(hy:PR w T true c y)(h:qV a c=some b)(d:Nat) :
  (Op.equalIn (d+1) t x y).run P w=.ok b w:=by
 unfold Qh at hk;split at hk;·rename_i e;cases a<;>simp only[yN,Bool.false_eq_true]at hf;cases c<;>simp only[qV,Fs,AV.bool?,reduceCtorEq]at h;cases hx;cases hy<;>grind[run_equalIn_bool]
 ·rename_i k1 k2 e;cases a<;>simp only[yN,Bool.false_eq_true]at hf;cases c<;>simp only[qV,Cl,AV.int?,reduceCtorEq]at h;split at h;·rename_i f;rw[wS]at f;cases hx;cases hy<;>grind[run_equalIn_int,u5]
  ·cases h
 ·rename_i e;cases a<;>simp only[yN,Bool.false_eq_true]at hf;cases c<;>simp only[qV,GC,AV.str?,reduceCtorEq]at h;cases hx with
  |str _ _ p hp=>
   cases hy with
   |str _ _ q hq=>(have:(Op.equalIn (d+1) t (.string p) (.string q)).run P w=.ok (p==q) w:=by simp[Op.equalIn,run_underlying e]);grind[ML]
 grind
def w9{rec:Nat->List TK->Bool}{d:Nat}
  (hrec:∀t ks,rec t ks=true->∀(l m:List AV) (xs ys:Array Value) (b:Bool) (w:World) (T:Bool->Nat->Prop),fitAll ks l=true->Rel w T l xs->Rel w T m ys->pX l m=some b->(Op.equalIn d t (.agg xs) (.agg ys)).run P w=.ok b w)
  (hd:0<d) {l m:List AV} {xs ys:Array Value} {w:World} {T:Bool->Nat->Prop} (hx:Rel w T l xs) (hy:Rel w T m ys) :
  ∀(fs:List Field) (off:Nat) (ks:List TK) (b:Bool),zU P rec fs off ks=true->fitAll ks (l.drop off)=true->pX (l.drop off) (m.drop off)=some b->off<=l.length->l.length=m.length ->
   (Op.eqFields d xs ys fs).run P w=.ok b w
 |[],off,ks,b,hfl,hfit,he,_,_=>by simp only[zU,List.isEmpty_iff]at hfl;subst hfl;have R:=Ei hfit;have J:l.drop off=[]:=ann R;have C:m.drop off=[]:=ann (by grind);rw[J,C]at he;cases he;rfl
 |f::fs,off,ks,b,hfl,hfit,he,hol,hlm=>by
  simp only[zU,Bool.and_eq_true,bne_iff_ne,ne_eq]at hfl;obtain⟨⟨q,g⟩,e⟩:=hfl;have g:=acl g;unfold Op.eqFields;rw[if_pos q,g];split at e
  ·rename_i n O;simp only[Bool.and_eq_true,Nat.ble_eq]at e;obtain⟨⟨S,U⟩,r⟩:=e;have E:=Ei hfit;rw[List.length_drop]at E;obtain⟨F,p⟩:=FV n hfit;rw[List.drop_drop]at p
   have o:pX (l.drop off) (m.drop off)=match pX ((l.drop off).take n) ((m.drop off).take n),pX (l.drop (off+n)) (m.drop (off+n))with
     |some x,some y=>some (x&&y)
     |_,_=>none:=by
    have:=GN (a:=(l.drop off).take n) (b:=(m.drop off).take n) (l.drop (off+n)) (m.drop (off+n)) (by simp[hlm]);rw[<- List.drop_drop (i:=n) (j:=off),<- List.drop_drop (i:=n) (j:=off),List.take_append_drop,List.take_append_drop]at this;simp_all
   rw[o]at he;split at he;·rename_i Q D J C;cases he;have V:=hrec _ _ U _ _ _ _ Q w T F (hx.part off n (by omega)) (hy.part off n (by omega)) J;have Y:=w9 hrec hd hx hy fs (off+n) _ D r p C (by omega) hlm;simp only[Sem.run_bind,Et O,Result.andThen_ok,V,Sem.run_ite];cases Q<;>simp_all
   grind
  ·rename_i O;split at e
   ·rename_i k ks;simp only[Bool.and_eq_true]at e;obtain⟨H,r⟩:=e;cases h:l.drop off with
    |nil=>rw[h]at hfit;cases hfit
    |cons a l'=>
     cases s:m.drop off with
     |nil=>rw[h,s]at he;cases he
     |cons c m'=>
      (have G:l'=l.drop (off+1):=by rw[<- List.drop_drop,h];rfl);have K:m'=m.drop (off+1):=by rw[<- List.drop_drop,s];rfl
      rw[h]at hfit;simp only[fitAll,Bool.and_eq_true]at hfit;have u:l[off]?=some a:=by (have:(l.drop off)[0]?=some a:=by grind);grind
      (have z:m[off]?=some c:=by (have:(m.drop off)[0]?=some c:=by grind);grind);have L:=(alt.1 u).1;have M:=(alt.1 z).1;have W:off<xs.size:=by rw[<- hx.1];exact L
      (have X:off<ys.size:=by rw[<- hy.1];exact M);have A:xs[off]?=some xs[off]:=by simp
      (have B:ys[off]?=some ys[off]:=by simp);rw[h,s]at he;simp only[pX]at he;have next:∀D,pX l' m'=some D->(Op.eqFields d xs ys fs).run P w=.ok D w:=by intro D C;rw[G,K]at C;exact w9 hrec hd hx hy fs (off+1) ks D r (by rw[<- G];exact hfit.2) C (by omega) hlm
      obtain⟨d',rfl⟩:∃d',d=d'+1:=⟨d - 1,by omega⟩;simp only[Sem.run_bind,Cy H A,Cy H B,Result.andThen_ok];split at he;·rename_i N;rw[KN H hfit.1 (hx.2 off a _ u A) (hy.2 off c _ z B) N d'];grind[Result.andThen_ok]
      ·rename_i N;rw[KN H hfit.1 (hx.2 off a _ u A) (hy.2 off c _ z B) N d'];split at he<;>simp_all
      grind
   grind
def GY:∀(d t:Nat)(ks:List TK),zP P d t ks=true->∀(D:Nat)(l m:List AV) (xs ys:Array Value) (b:Bool) (w:World) (T:Bool->Nat->Prop),fitAll ks l=true->Rel w T l xs->Rel w T m ys->pX l m=some b ->
  (Op.equalIn (D+1+d) t (.agg xs) (.agg ys)).run P w=.ok b w
 |0,_,_,h=>by cases h
 |d+1,t,ks,h=>by
  intro D l m xs ys b w T a i j f;simp only[zP]at h;split at h
  ·rename_i F g;simp only[Bool.and_eq_true,Bool.not_eq_true']at h;have c:P.fieldsOf t=F:=by simp[Program.fieldsOf,g]
   rw[show D+1+(d+1)=(D+1+d)+1 by omega,run_equalIn_struct w (D+1+d) t xs ys (by rw[c];exact g) h.1,c];exact w9 (λt' e h'=>GY d t' e h' D) (by omega) i j F.toList 0 ks b h.2 (by simpa using a) (by simpa using f) (ang _) (Hw f)
  ·cases h
def CN:∀(d t:Nat)(ks:List TK),zP P d t ks=true->∀(D:Nat)(em:Bool) (xs:Array Value) (w:World),xs.size=ks.length->(Instr.checkKey em (D+1+d) t (.agg xs)).run P w=.ok () w
 |0,_,_,h=>by cases h
 |d+1,t,ks,h=>by
  intro D em xs w p;simp only[zP]at h;split at h
  ·rename_i F q;simp only[Bool.and_eq_true]at h;have j:=h.2;rw[show D+1+(d+1)=(D+1+d)+1 by omega];unfold Instr.checkKey;simp only[Sem.run_bind,run_underlying q,Result.andThen_ok];rw[<- Array.forIn_toList]
   have go:∀(i:List Field) (b:Nat) (e:List TK),zU P (zP P d) i b e=true->b+e.length=xs.size ->
     (forIn (m := Sem) i PUnit.unit (fun f _ => if f.name ≠ "_" then do
       Instr.checkKey em (D+1+d) f.type (<- Go.part f.type xs f.offset)
       pure (ForInStep.yield PUnit.unit)else pure (ForInStep.yield PUnit.unit))).run P w=.ok PUnit.unit w:=by
    intro i;induction i with
    |nil=>simp
    |cons f i ih=>
     intro b e o C;simp only[zU,Bool.and_eq_true,bne_iff_ne,ne_eq]at o;obtain⟨⟨g,c⟩,a⟩:=o;have c:=acl c;rw[List.forIn_cons];split at a;·rename_i n E;simp only[Bool.and_eq_true,Nat.ble_eq]at a;obtain⟨⟨r,s⟩,u⟩:=a;have G:=CN d f.type _ s D em (xs.extract f.offset (f.offset+n)) w (by grind);grind[Sem.run_bind,Et,Result.andThen_ok,Sem.run_pure]
     ·split at a
      ·rename_i k x;simp only[Bool.and_eq_true]at a;have y:f.offset<xs.size:=by grind
       (have l:xs[f.offset]?=some xs[f.offset]:=by simp);have z:(Instr.checkKey em (D+1+d) f.type xs[f.offset]).run P w=.ok () w:=by have A:=a.1;unfold Qh at A;grind[DR]
       have B:=ih (b+1) _ a.2 (by grind);simp only[Sem.run_bind,if_pos g,Cy a.1 l,Result.andThen_ok,z,Sem.run_pure];exact B
      grind
   rw[go F.toList 0 ks j (by omega)];rfl
  ·cases h
def X5(P:Program)(d:TypeDesc)(k:TK):Bool:=match d,k with
 |.bool,.bool=>true
 |.int a,.int b=>ua a b
 |.string,.str=>true
 |.pointer _,.ptr=>true
 |.slice a,.slice b=>Nat.beq a b
 |.array n a,.array m b=>Nat.beq n m&&Nat.beq a b
 |.map a b,.map c e=>Nat.beq a c&&Nat.beq b e
 |.struct F,.struct fs=>(fs==F.toList.map λf=>(f.offset,f.type))&&F.toList.all λf=>match P.info? f.type with
  |some i=>!(Nat.beq i.size 0)
  |none=>false
 |.func ..,.func=>true
 |_,.other=>true
 |_,_=>false
def Y2(ti:TI)(z:Value):Bool:=rl (pk 2) ti.zero (z.cells.toList.map MQ)&&Nat.beq z.cells.size ti.size&&z.cells.toList.all (·.oneCell')&&match ti.agg,z with
 |true,.agg _=>true
 |true,_=>false
 |false,z=>z.oneCell'
def SA(P:Program)(t:Nat)(ti:TI):Bool :=
 (match P.info? t with
 |some i=>Nat.beq i.size ti.size&&Nat.beq i.bytes ti.bytes&&match i.zero with
  |some z=>Y2 ti z
  |none=>false
 |none=>false) &&
 (match P.underlying t with
 |some d=>Jn (QZ d) ti.agg&&X5 P d ti.kind
 |none=>false) &&
 Nat.ble ti.bytes 1048576 &&
 (!ti.flat||!(P.eqGuardType P.depth t)) &&
 (!(ti.flat&&ti.agg)||(zP P 3 t ti.sc&&Nat.beq ti.sc.length ti.size))
def adK{t:Nat}{ti:TI}(h:SA P t ti=true):sO P t ti:=by
 simp only[SA,Bool.and_eq_true]at h;obtain⟨⟨⟨⟨n,o⟩,y⟩,O⟩,Q⟩:=h;have c:ti.flat=true->ti.agg=true->zP P 3 t ti.sc=true/\ti.sc.length=ti.size:=by intro g p;simp_all
 refine⟨?_,?_,anu y,?_,?_,?_⟩
 ·split at n
  ·rename_i i q;simp only[Bool.and_eq_true]at n;obtain⟨⟨A,B⟩,r⟩:=n;split at r;·rename_i z C;simp only[Y2,Bool.and_eq_true,List.all_eq_true]at r;obtain⟨⟨⟨D,E⟩,F⟩,R⟩:=r;refine⟨i,z,q,acl A,acl B,C,sa (uS 2) _ _ D,acl E,F,?_,?_⟩<;>grind
   grind
  grind
 ·split at o
  ·rename_i d G;simp only[Bool.and_eq_true,Mm,beq_iff_eq]at o;refine⟨d,G,o.1,?_⟩;have a:=o.2;generalize ti.kind=kk at a ⊢;unfold X5 at a;split at a<;>try (cases a;done)
   ·exact rfl
   ·rw[wS]at a;subst a;exact rfl
   ·exact rfl
   ·exact⟨_,rfl⟩
   ·have:=acl a;subst this;exact rfl
   ·simp only[Bool.and_eq_true]at a;have s:=acl a.1;have u:=acl a.2;subst s;subst u;exact rfl
   ·simp only[Bool.and_eq_true]at a;have s:=acl a.1;have u:=acl a.2;subst s;subst u;exact rfl
   ·simp only[Bool.and_eq_true,beq_iff_eq,List.all_eq_true]at a;refine⟨_,rfl,a.1,?_⟩;intro f g;have:=a.2 f g;split at this;·rename_i i q;refine⟨i,q,?_⟩;intro S;simp_all
    grind
   ·exact⟨_,_,_,rfl⟩
   ·trivial
  grind
 ·grind
 ·intro g p l m xs H b w T j x U J K L;obtain⟨f1,M⟩:=c g p
  have k:∀{l:List AV} {xs:Array Value},PR w T true (.agg l) (.agg xs)->Rel w T l xs:=by
   intro l xs h;cases h with
   |agg _ _ _ x n hr=>exact⟨x,hr⟩
  exact GY 3 t ti.sc f1 9996 l m xs H b w T j (k J) (k K) L
 ·intro g p e xs w N;obtain⟨f1,M⟩:=c g p;exact CN 3 t ti.sc f1 9996 e xs w (by omega)
def Tr.JI{α:Type}(p:Nat->α->Bool):Tr α->(Nat->Nat)->Bool
 |.leaf,_=>true
 |.node l v r,f=>(match v with
  |some x=>p (f 0) x
  |none=>true)&&Tr.JI p l (λn=>f (2*n+1))&&Tr.JI p r (λn=>f (2*n+2))
def Tr.Hs{α:Type}(p:Nat->α->Bool):∀(t:Tr α)(f:Nat->Nat),Tr.JI p t f=true->∀(n:Nat)(x : α),t.get n=some x->p (f n) x=true
 |.leaf,_,_,n,x,h=>by simp[Tr.get]at h
 |.node l v r,f,ha,n,x,h=>by
  simp only[Tr.JI,Bool.and_eq_true]at ha;obtain⟨⟨b,c⟩,d⟩:=ha;cases n with
  |zero=>simp only[Tr.get]at h;rw[h]at b;exact b
  |succ m=>
   simp only[Tr.get]at h;split at h;·rename_i a;have a:=acl a;have:=Tr.Hs p l _ c (m / 2) x h;rw[show 2*(m / 2)+1=m+1 by omega]at this;exact this
   ·rename_i a;have a:m % 2≠0:=anv a;have:=Tr.Hs p r _ d (m / 2) x h;rw[show 2*(m / 2)+2=m+1 by omega]at this;exact this
def Tr.Oi{α:Type}(q:Nat->α->Prop):Tr α->(Nat->Nat)->Prop
 |.leaf,_=>True
 |.node l v r,f=>(match v with
  |some x=>q (f 0) x
  |none=>True)/\Tr.Oi q l (λn=>f (2*n+1))/\Tr.Oi q r (λn=>f (2*n+2))
def Tr.Hy{α:Type}(q:Nat->α->Prop):∀(t:Tr α)(f:Nat->Nat),Tr.Oi q t f->∀(n:Nat)(x : α),t.get n=some x->q (f n) x
 |.leaf,_,_,n,x,h=>by simp[Tr.get]at h
 |.node l v r,f,ha,n,x,h=>by
  simp only[Tr.Oi]at ha;obtain⟨b,c,d⟩:=ha;cases n with
  |zero=>simp only[Tr.get]at h;rw[h]at b;exact b
  |succ m=>
   simp only[Tr.get]at h;split at h;·rename_i a;have a:=acl a;have:=Tr.Hy q l _ c (m / 2) x h;rw[show 2*(m / 2)+1=m+1 by omega]at this;exact this
   ·rename_i a;have a:m % 2≠0:=anv a;have:=Tr.Hy q r _ d (m / 2) x h;rw[show 2*(m / 2)+2=m+1 by omega]at this;exact this
def afA{t:Tr TI}(h:Tr.JI (SA P) t id=true):nV P ⟨t.get⟩ :=
 ⟨λn a b=>adK (Tr.Hs (SA P) t id h n a b)⟩
end
section
variable (C:nu)(F:oP)(Pr:om)
def lZ(shd:Bool)(f:Nat)(args:List AV)(h:aT)(v:AV)(h':aT):Prop:=∃m,∀k,m<=k->qi C F Pr k shd f args h=some (v,h')
abbrev XN(fa:lg)(k:Nat):Ctx:=⟨C,fa,qi C F Pr k⟩
def Wp(fa:lg)(c:Code)(an:mS)(Q:Ex->Env->aT->Prop)(e:Env)(h:aT):Prop :=
 ∃x e' h',(∃m,∀k,m<=k->nP (XN C F Pr fa k) (oU k) c an e h=some (x,e',h'))/\Q x e' h'
def od(fa:lg)(all ops:List Oper)(Q:Env->aT->Prop)(e:Env)(h:aT):Prop :=
 ∃e' h',(∃m,∀k,m<=k->Fu (XN C F Pr fa k) all ops e h=some (e',h'))/\Q e' h'
def oe(fa:lg)(all:List Oper)(sch:List (Nat×List Nat))(Q:Env->aT->Prop)(e:Env)(h:aT):Prop :=
 ∃e' h',(∃m,∀k,m<=k->Ak (XN C F Pr fa k) all sch e h=some (e',h'))/\Q e' h'
end
section
variable {C:nu}{F:oP}{Pr:om}{fa:lg}{Q:Ex->Env->aT->Prop}{e:Env}{h:aT}
def Wp.mono{c:Code}{an:mS}{Q':Ex->Env->aT->Prop}(w:Wp C F Pr fa c an Q e h)(hq:∀x e h,Q x e h->Q' x e h):Wp C F Pr fa c an Q' e h :=
 let⟨x,e',h',m,q⟩:=w;⟨x,e',h',m,hq _ _ _ q⟩
def VW{an:mS}(q:Q .oa e h):Wp C F Pr fa .skip an Q e h:=⟨_,_,_,⟨0,λ_ _=>rfl⟩,q⟩
def TU{l:Nat}{an:mS}(q:Q .oa e h):Wp C F Pr fa (.label l) an Q e h:=⟨_,_,_,⟨0,λ_ _=>rfl⟩,q⟩
def U1{id:Nat}{an:mS}(q:Q (.ext id) e h):Wp C F Pr fa (.exit id) an Q e h:=⟨_,_,_,⟨0,λ_ _=>rfl⟩,q⟩
def abb{an:mS}(q:Q .ret e h):Wp C F Pr fa .ret an Q e h:=⟨_,_,_,⟨0,λ_ _=>rfl⟩,q⟩
def zR{c:Code}{an:mS}(w:Wp C F Pr fa c an Q e h):Wp C F Pr fa (.scope c) an Q e h:=w
def zE(next:Env->aT->Prop)(Q:Ex->Env->aT->Prop):Ex->Env->aT->Prop
 |.oa,e,h=>next e h
 |x,e,h=>Q x e h
def acQ{a b:Code}{x y:mS}(w:Wp C F Pr fa a x (zE (Wp C F Pr fa b y Q) Q) e h):Wp C F Pr fa (.seq a b) (.sq x y) Q e h:=by
 obtain⟨l,g,i,⟨c,d⟩,f⟩:=w;cases l with
 |oa=>obtain⟨m,n,o,⟨p,q⟩,r⟩:=f;refine⟨m,n,o,⟨max c p,λk j=>?_⟩,r⟩;simp only[nP,Fl,d k (by omega),andThen];grind
 |ext id=>exact⟨_,g,i,⟨c,λk j=>by simp_all[nP,Fl,andThen]⟩,f⟩
 |ret=>exact⟨_,g,i,⟨c,λk j=>by simp_all[nP,Fl,andThen]⟩,f⟩
def PU{a b:Code}{live:List Nat}{x y:mS}(w:Wp C F Pr fa a x (zE (λe h=>Wp C F Pr fa b y Q (proj live e) { h with ca:=pt live h.ca }) Q) e h):Wp C F Pr fa (.seq a b) (.seq live x y) Q e h:=by
 obtain⟨l,g,i,⟨c,d⟩,f⟩:=w;cases l with
 |oa=>obtain⟨m,n,o,⟨p,q⟩,r⟩:=f;refine⟨m,n,o,⟨max c p,λk j=>?_⟩,r⟩;simp only[nP,Fl,d k (by omega),andThen,uC];grind
 |ext id=>exact⟨_,g,i,⟨c,λk j=>by simp_all[nP,Fl,andThen]⟩,f⟩
 |ret=>exact⟨_,g,i,⟨c,λk j=>by simp_all[nP,Fl,andThen]⟩,f⟩
def NJ{c:Operand}{a b:Code}{x y:mS}{t:Bool}(hc:me e c=.bool t)(w1:t=true->Wp C F Pr fa a x Q e h)(w2:t=false->Wp C F Pr fa b y Q e h):Wp C F Pr fa (.cond c a b) (.two x y) Q e h:=by
 cases t with
 |true=>obtain⟨d,f,g,⟨i,j⟩,l⟩:=w1 rfl;exact⟨d,f,g,⟨i,λk m=>by simp_all[nP,Lo,Lp,AV.bool?]⟩,l⟩
 |false=>obtain⟨d,f,g,⟨i,j⟩,l⟩:=w2 rfl;exact⟨d,f,g,⟨i,λk m=>by simp_all[nP,Lo,Lp,AV.bool?]⟩,l⟩
def LF(id:Nat)(Q:Ex->Env->aT->Prop):Ex->Env->aT->Prop
 |.ext i,e,h=>if i=id then Q .oa e h else Q (.ext i) e h
 |x,e,h=>Q x e h
def UZ{id:Nat}{a:Code}{an:mS}(w:Wp C F Pr fa a an (LF id Q) e h):Wp C F Pr fa (.block id a) an Q e h:=by
 obtain⟨l,c,d,⟨f,m⟩,b⟩:=w;cases l with
 |oa=>exact⟨_,c,d,⟨f,λk g=>by simp_all[nP,C2,atEnd]⟩,b⟩
 |ret=>exact⟨_,c,d,⟨f,λk g=>by simp_all[nP,C2,atEnd]⟩,b⟩
 |ext i=>
  simp only[LF]at b;split at b;·rename_i j;subst j;exact⟨_,c,d,⟨f,λk g=>by simp_all[nP,C2,atEnd]⟩,b⟩
  ·rename_i j;have n:Nat.beq i id=false:=by cases o:Nat.beq i id<;>simp_all
   exact⟨_,c,d,⟨f,λk g=>by simp_all[nP,C2,atEnd]⟩,b⟩
def pR{c:Code}{live:List Nat}{an:mS}(I:Nat->Env->aT->Prop)
  (round:∀n e h,I n e h->Wp C F Pr fa c an (zE (λe' h'=>∃m,m<n/\I m e' h') Q) (proj live e) { h with ca:=pt live h.ca }) :
  ∀(n:Nat) (e:Env) (h:aT),I n e h->Wp C F Pr fa (.loop c) (.loop live an) Q e h:=by
 have l:∀(n:Nat) (e:Env) (h:aT),I n e h->∃x e' h',(∃M,∀k j,M<=k->M<=j->oU j (qm live (nP (XN C F Pr fa k) (oU k) c an)) e h=some (x,e',h'))/\Q x e' h':=by
  intro n;induction n using Nat.strongRecOn with
  |_ n ih=>
   intro e h o;obtain⟨b,f,g,⟨p,d⟩,r⟩:=round n e h o
   have a:∀b,(∀e h,zE (λe' h'=>∃m,m<n/\I m e' h') Q b e h=Q b e h)->b≠.oa->(∀k,p<=k->nP (XN C F Pr fa k) (oU k) c an (proj live e) { h with ca:=pt live h.ca }=some (b,f,g))->Q b f g ->
     ∃x e' h',(∃M,∀k j,M<=k->M<=j->oU j (qm live (nP (XN C F Pr fa k) (oU k) c an)) e h=some (x,e',h'))/\Q x e' h':=by
    intro b _ w E q;refine⟨b,f,g,⟨p+1,λk j i y=>?_⟩,q⟩;obtain⟨j,rfl⟩:∃j',j=j'+1:=⟨j - 1,by omega⟩;grind[oU,uC]
   cases b with
   |oa=>obtain⟨m,s,t⟩:=r;obtain⟨z,A,B,⟨M,u⟩,D⟩:=ih m s f g t;refine⟨z,A,B,⟨max p M+1,λk j i y=>?_⟩,D⟩;obtain⟨j,rfl⟩:∃j',j=j'+1:=⟨j - 1,by omega⟩;grind[oU,uC]
   |ext id=>exact a (.ext id) (λ_ _=>rfl) (by simp) d r
   |ret=>exact a .ret (λ_ _=>rfl) (by simp) d r
 intro n e h o;obtain⟨x,e',h',⟨M,u⟩,q⟩:=l n e h o;exact⟨x,e',h',⟨M,λk i=>u k k i i⟩,q⟩
def Sd{id:Nat}{ops:Array Oper}{an:mS}(w:od C F Pr fa ops.toList ops.toList (Q .oa) e h):Wp C F Pr fa (.region id ops false) an Q e h:=by obtain⟨a,b,⟨c,d⟩,f⟩:=w;exact⟨.oa,a,b,⟨c,λk g=>by simp_all[nP,Dp,Q2,D2]⟩,f⟩
def SE{id:Nat}{ops:Array Oper}{sch:List (Nat×List Nat)}(w:oe C F Pr fa ops.toList sch (Q .oa) e h):Wp C F Pr fa (.region id ops true) (.zO sch) Q e h:=by obtain⟨a,b,⟨c,d⟩,f⟩:=w;exact⟨.oa,a,b,⟨c,λk g=>by simp_all[nP,Dp,FP,D2]⟩,f⟩
variable {all rest:List Oper}{o:Oper}{q:Env->aT->Prop}
def Qj(w:q e h):od C F Pr fa all [] q e h:=⟨e,h,⟨0,λ_ _=>rfl⟩,w⟩
def C7{v:AV}{h1:aT}(hw:mF all e o=some true)(hop:∃m,∀k,m<=k->mT o.op (XN C F Pr fa k) e h o.dst=some (v,h1))(w:od C F Pr fa all rest q (my e o v) h1):od C F Pr fa all (o::rest) q e h:=by obtain⟨m,g⟩:=hop;obtain⟨a,b,⟨c,d⟩,f⟩:=w;refine⟨a,b,⟨max m c,λk i=>?_⟩,f⟩;grind[Fu,wi,F6]
theorem cr{v:AV}{h1:aT}(hw:mF all e o=some true)(hop:∀call,mT o.op ⟨C,fa,call⟩ e h o.dst=some (v,h1))(w:od C F Pr fa all rest q (my e o v) h1):od C F Pr fa all (o::rest) q e h :=
 C7 hw ⟨0,λ_ _=>hop _⟩ w
def Ms(hw:mF all e o=some false)(w:od C F Pr fa all rest q (my e o (.mw [])) h):od C F Pr fa all (o::rest) q e h:=by obtain⟨a,b,⟨c,d⟩,f⟩:=w;refine⟨a,b,⟨c,λk g=>?_⟩,f⟩;grind[Fu,wi]
def QH(w:q e h):oe C F Pr fa all [] q e h:=⟨e,h,⟨0,λ_ _=>rfl⟩,w⟩
def GJ{i:Nat}{sch:List (Nat×List Nat)}{v:AV}{h1:aT}(ho:all[i]?=some o)(hw:mF all e o=some true)(hop:∃m,∀k,m<=k->mT o.op (XN C F Pr fa k) e h o.dst=some (v,h1))
  (w:oe C F Pr fa all sch q (my e o v) h1):oe C F Pr fa all ((i,[])::sch) q e h:=by
 obtain⟨m,g⟩:=hop;obtain⟨a,b,⟨c,d⟩,f⟩:=w;refine⟨a,b,⟨max m c,λk j=>?_⟩,f⟩;grind[Ak,wi,F6]
theorem js{i:Nat}{sch:List (Nat×List Nat)}{v:AV}{h1:aT}(ho:all[i]?=some o)(hw:mF all e o=some true)(hop:∀call,mT o.op ⟨C,fa,call⟩ e h o.dst=some (v,h1))
  (w:oe C F Pr fa all sch q (my e o v) h1):oe C F Pr fa all ((i,[])::sch) q e h :=
 GJ ho hw ⟨0,λ_ _=>hop _⟩ w
def L4{i:Nat}{sch:List (Nat×List Nat)}(ho:all[i]?=some o)(hw:mF all e o=some false)(w:oe C F Pr fa all sch q (my e o (.mw [])) h):oe C F Pr fa all ((i,[])::sch) q e h:=by obtain⟨a,b,⟨c,d⟩,f⟩:=w;refine⟨a,b,⟨c,λk g=>?_⟩,f⟩;grind[Ak,wi]
def MP{f:Nat}{g:Operand}{c:Call}{args:List AV}{v:AV}{d:Option Nat}(hf:c.callee=.value g)(hg:me e g=.mH f [] [])(ha:c.args.toList.map (me e)=args)(hok:args.all AV.sR=true)(hs:fa.mP.elem f=false)
  (w:lZ C F Pr false f args { h with ca:=[] } v { h with ca:=[] }):∃m,∀k,m<=k->mT (.call c) (XN C F Pr fa k) e h d=some (v,h):=by
 obtain⟨m,a⟩:=w;refine⟨m,λk b=>?_⟩;simp only[mT,uQ,tW,hf,hg,ha,By,IV,List.nil_append,List.append_nil,hok,hs,a k b,Dc]
def M1{f:Nat}{g:Operand}{c:Call}{args p q:List AV}{v:AV}{d:Option Nat}{h':aT}(hf:c.callee=.value g)(hg:me e g=.mH f p q)(ha:c.args.toList.map (me e)=args)(hok:(p++args++q).all AV.sR=true)(hs:fa.mP.elem f=true)
  (w:lZ C F Pr true f (p++args++q) { h with ca:=[] } v h'):∃m,∀k,m<=k->mT (.call c) (XN C F Pr fa k) e h d=some (v,{ h' with ca:=h.ca }):=by
 obtain⟨m,a⟩:=w;refine⟨m,λk b=>?_⟩;simp only[mT,uQ,tW,hf,hg,ha,By,IV,hok,hs,a k b,Dc]
def Leaves(C:nu)(res:List ResultVar)(R:AV->aT->Prop):Ex->Env->aT->Prop
 |.ext _,_,_=>False
 |_,e,h=>∃v,leave.leave1 C res e h=some (v,h)/\R v h
def E7{f:Nat}{args:List AV}{R:AV->aT->Prop}(hP:Pr f=none)(hF:F f=some fa)(hi:fa.iter=false)(w:Wp C F Pr fa fa.body fa.qC (Leaves C fa.res R) (params 0 args) h) :
  ∃v h',lZ C F Pr true f args h v h'/\R v h':=by
 obtain⟨x,d,a,⟨m,c⟩,q⟩:=w;have b:∀x:Ex,(x=.oa\/x=.ret)->(∀k,m<=k->nP (XN C F Pr fa k) (oU k) fa.body fa.qC (params 0 args) h=some (x,d,a))->(∃v,leave.leave1 C fa.res d a=some (v,a)/\R v a)->∃v h',lZ C F Pr true f args h v h'/\R v h':=by rintro x e c⟨v,g,i⟩;refine⟨v,a,⟨m+1,λk j=>?_⟩,i⟩;obtain⟨k,rfl⟩:∃k',k=k'+1:=⟨k - 1,by omega⟩;simp only[qi,hP,hF,zA,Aw,hi,I2,c k (by omega)];rcases e with rfl|rfl<;>exact g
 cases x with
 |oa=>exact b .oa (.inl rfl) c q
 |ret=>exact b .ret (.inr rfl) c q
 |ext id=>exact q.elim
def Sw{f:Nat}{args tY:List AV}{R:AV->Prop}(hP:Pr f=none)(hF:F f=some fa)(hi:fa.iter=false)(ha:pb h args=some tY)
  (w:Wp C F Pr fa fa.body fa.qC (Leaves C fa.res λv h'=>∃v1,freeze false h' 8 v=some v1/\R v1) (params 0 tY) aT.empty) :
  ∃v,lZ C F Pr false f args h v h/\R v:=by
 obtain⟨v,d,⟨m,a⟩,v1,b,c⟩:=E7 hP hF hi w;refine⟨v1,⟨m+1,λk e=>?_⟩,c⟩;have g:=a k (by omega);obtain⟨k,rfl⟩:∃k',k=k'+1:=⟨k - 1,by omega⟩;grind[qi,zA,frozen]
end
section
variable {C:nu}{F:oP}{Pr:om}{fa:lg}{e:Env}{h:aT}{all rest:List Oper}{o:Oper}{q:Env->aT->Prop}
variable {t u:Nat}{x y:Operand}{k k':IntKind}{a b:Int}
def nf{c:BinOp}{X:Ctx}{d:Option Nat}{v:AV}(hx:me e x=.int k a)(hy:me e y=.int k' b)(hk:ua k k'=true)(hv:qh c k a b=some v):mT (.binOp c t x y u) X e h d=some (v,h):=by simp_all[mT,Dy,binOp,AV.int?,NT,oz]
def Pz(k:IntKind)(a b:Int):qh .lss k a b=some (.bool (decide (a<b))):=by simp only[qh,RY,Ee,CV,zF];grind
def Pw(k:IntKind)(a b:Int):qh .leq k a b=some (.bool (decide (a<=b))):=by simp only[qh,Rv,Ee,CV,Hm]
def QD(k:IntKind)(a b:Int):qh .gtr k a b=some (.bool (decide (a > b))):=by simp only[qh,Sm,Ee,CV,zF];grind
def Ph(k:IntKind)(a b:Int):qh .geq k a b=some (.bool (decide (a>=b))):=by simp_all[qh,Ri,Ee,CV,Hm]
def PI(k:IntKind)(a b:Int):qh .eql k a b=some (.bool (decide (a=b))):=by simp only[qh,R4,Ee,u5,Hm];rfl
def Pn(k:IntKind)(a b:Int):qh .neq k a b=some (.bool (decide (a≠b))):=by simp only[qh,Rx,Ee,u5,zF];grind
def se{p:Prop}[Decidable p](hw:mF all e o=some true)(hop:∀call,mT o.op ⟨C,fa,call⟩ e h o.dst=some (.bool (decide p),h))
  (w1:p->od C F Pr fa all rest q (my e o (.bool true)) h) (w2:¬p->od C F Pr fa all rest q (my e o (.bool false)) h):od C F Pr fa all (o::rest) q e h:=by
 by_cases a:p<;>grind[cr]
def A4{X:Ctx}{d:Option Nat}{s r:List UInt8}(hx:me e x=.str s)(hy:me e y=.str r):mT (.binOp .eql t x y u) X e h d=some (.bool (decide (s=r)),h):=by simp only[mT,Dy,binOp,hx,hy,AV.int?,AV.str?,L2,Jc,oz];grind
theorem Bj(k:IntKind)(a b:Int):qh .add k a b=some (.int k (k.wrap (a+b))):=by simp only[qh,RJ,Ay,ug,zd,JS]
theorem uW(k:IntKind)(a b:Int):qh .sub k a b=some (.int k (k.wrap (a - b))):=by simp only[qh,RT,Ay,ug,zd,JS,JU];rfl
def pJ(a b:Int)(h1 : -9223372036854775808<=a+b)(h2:a+b<=9223372036854775807):qh .add .i64 a b=some (.int .i64 (a+b)):=by rw[Bj,wU _ h1 h2]
def AT(a b:Int)(h1 : -9223372036854775808<=a - b)(h2:a - b<=9223372036854775807):qh .sub .i64 a b=some (.int .i64 (a - b)):=by rw[uW,wU _ h1 h2]
def YE{X:Ctx}{d:Option Nat}{el:Nat}{ti te:TI}{xs:List (List AV)}{c:sg}{n:Int}{r:List AV}(hT:X.C.T t=some ti)(hk:ti.kind=.slice el)(hE:X.C.T el=some te)(hx:me e x=.sl xs c)(hi:me e y=.int k n)(h0:0<=n)
  (hr:xs[n.toNat]?=some r) (hl:r.length=te.size):mT (.indexAddr t x y) X e h d=some (.ip r 0 (vF c),h):=by
 obtain⟨m,rfl⟩:=anQ h0;simp only[Int.toNat_natCast]at hr;have a:uA (.int k (m:Int))=some m:=rfl;simp_all[mT,uB,tB,wI]
end
section
variable {C:nu}{F:oP}{Pr:om}{fa:lg}{e:Env}{h:aT}{all rest:List Oper}{o:Oper}{q:Env->aT->Prop}{Q:Ex->Env->aT->Prop}
def gk{c:Code}{live:List Nat}{an:mS}(N:Nat)(I:Nat->Env->aT->Prop)
  (round:∀k e h,k<=N->I k e h->Wp C F Pr fa c an (zE (λe' h'=>k<N/\I (k+1) e' h') Q) (proj live e) { h with ca:=pt live h.ca }) {k0:Nat} (hk:k0<=N) (h0:I k0 e h):Wp C F Pr fa (.loop c) (.loop live an) Q e h:=by
 refine pR (λn e h=>∃k,k<=N/\n=N - k/\I k e h) ?_ (N - k0) e h ⟨k0,hk,rfl,h0⟩;rintro n e h⟨k,hk,rfl,d⟩;refine(round k e h hk d).mono ?_;intro x e' h' a;cases x with
 |oa=>obtain⟨f,b⟩:=a;exact⟨N - (k+1),by omega,k+1,by omega,rfl,b⟩
 |ext id=>exact a
 |ret=>exact a
def Wl{f:Nat}{g:Operand}{c:Call}{args:List AV}{R:AV->Prop}(ho:o.op=.call c)(hw:mF all e o=some true)(hf:c.callee=.value g)(hg:me e g=.mH f [] [])(ha:c.args.toList.map (me e)=args)(hok:args.all AV.sR=true)(hs:fa.mP.elem f=false)
  (w:∀h:aT,∃v,lZ C F Pr false f args h v h/\R v) (next:∀v,R v->od C F Pr fa all rest q (my e o v) h):od C F Pr fa all (o::rest) q e h:=by
 obtain⟨v,a,b⟩:=w { h with ca:=[] };refine C7 hw ?_ (next v b);rw[ho];exact MP hf hg ha hok hs a
end
def N2{C:nu}{F:oP}{Pr:om}{fa:lg}{f:Nat}{args:List AV}{h:aT}{R:AV->Prop}(hP:Pr f=none)(hF:F f=some fa)(hi:fa.iter=false)(ha:pb h args=some args)
  (w:Wp C F Pr fa fa.body fa.qC (Leaves C fa.res λv0 h'=>∃v1,freeze false h' 8 v0=some v1/\R v1) (params 0 args) aT.empty):∃v,lZ C F Pr false f args h v h/\R v:=Sw hP hF hi ha w
abbrev xn:Nat:=9223372036854775807
structure anc(R:List AV->Prop)(xs:List (List AV))(c:sg):Prop where
 row:∀r∈xs,R r
 len:xs.length<=xn
 sn:vF c=false
structure Row(α:Type) where
 l:List α
 c:sg
 ok:l.length<=xn
 sn:vF c=false
 nl:c=.nil->l=[]
def Row.av{α:Type}(enc : α->List AV)(r:Row α):AV:=.sl (r.l.map enc) r.c
structure uz where
 l:List UInt8
 ok:l.length<=xn
def mD(n:Int):List AV:=[.int .i64 n]
def rD(s:uz):List AV:=[.str s.l]
def aiQ(b:Bool):List AV:=[.bool b]
structure cA where
 elem:Int
 en:Int
 deriving DecidableEq
def cA.ay(x:cA):List AV:=[.int .i64 x.elem,.int .i64 x.en]
structure pc where
 name:uz
 kind:Int
 len:Int
def pc.ay(x:pc):List AV:=[.str x.name.l,.int .i64 x.kind,.int .i64 x.len]
structure oj where
 a:cA
 b:cA
def oj.ay(x:oj):List AV:=[.int .i64 x.a.elem,.int .i64 x.a.en,.int .i64 x.b.elem,.int .i64 x.b.en]
structure nL where
 name:uz
 at_:cA
 auto:Bool
def nL.ay(x:nL):List AV:=[.str x.name.l,.int .i64 x.at_.elem,.int .i64 x.at_.en,.bool x.auto]
structure nh where
 name:uz
 elems:Row Int
def nh.ay(x:nh):List AV:=[.str x.name.l,x.elems.av mD]
structure be where
 elems:Row pc
 mq:Row oj
 signals:Row nL
 lines:Row nh
 top:Int
 ns:Int
 nW:Int
 oi:Int
 ot:Bool
def be.ay(p:be):List AV:=[p.elems.av pc.ay,p.mq.av oj.ay,p.signals.av nL.ay,p.lines.av nh.ay,.int .i64 p.top,.int .i64 p.ns,.int .i64 p.nW,.int .i64 p.oi,.bool p.ot]
structure nm where
 name:uz
 len:Int
 top:Int
 acc:Int
 ns:Int
def nm.ay(x:nm):List AV:=[.str x.name.l,.int .i64 x.len,.int .i64 x.top,.int .i64 x.acc,.int .i64 x.ns]
structure nS where
 Hk:Bool
 at_:Int
 end_:Int
 to:Int
def nS.ay(x:nS):List AV:=[.bool x.Hk,.int .i64 x.at_,.int .i64 x.end_,.int .i64 x.to]
structure nt where
 name:uz
 l9:Int
 from_:Int
 left:Int
 mh:Row nS
def nt.ay(x:nt):List AV:=[.str x.name.l,.int .i64 x.l9,.int .i64 x.from_,.int .i64 x.left,x.mh.av nS.ay]
structure cB where
 BB:Int
 l9:Row nm
 runs:Row nt
def cB.ay(x:cB):List AV:=[.int .i64 x.BB,x.l9.av nm.ay,x.runs.av nt.ay]
structure mM where
 mode:Int
 ei:Row cA
 left:Int
 qN:Int
 v:Int
def mM.ay(x:mM):List AV:=[.int .i64 x.mode,x.ei.av cA.ay,.int .i64 x.left,.int .i64 x.qN,.int .i64 x.v]
structure oH where
 name:uz
 l9:Int
 at_:cA
 left:Int
def oH.ay(x:oH):List AV:=[.str x.name.l,.int .i64 x.l9,.int .i64 x.at_.elem,.int .i64 x.at_.en,.int .i64 x.left]
structure nc where
 out:Int
 pos:Int
def nc.ay(x:nc):List AV:=[.int .i64 x.out,.int .i64 x.pos]
structure mA where
 elem:Int
 qK:Int
 out:Int
def mA.ay(x:mA):List AV:=[.int .i64 x.elem,.int .i64 x.qK,.int .i64 x.out]
structure bY where
 elem:Int
 pos:Int
 deriving DecidableEq,Inhabited
def bY.ay(x:bY):List AV:=[.int .i64 x.elem,.int .i64 x.pos]
structure lv where
 from_:Int
 to:Int
 end_:Int
 steps:Row mA
 nC:Row bY
 guards:Row bY
 rJ:Row Int
 holds:Row Int
 bare:Bool
def lv.ay(x:lv):List AV:=[.int .i64 x.from_,.int .i64 x.to,.int .i64 x.end_,x.steps.av mA.ay,x.nC.av bY.ay,x.guards.av bY.ay,x.rJ.av mD,x.holds.av mD,.bool x.bare]
section
variable {C:nu}{F:oP}{Pr:om}{fa:lg}{e:Env}{h:aT}{all rest:List Oper}{o:Oper}{q:Env->aT->Prop}{Q:Ex->Env->aT->Prop}
variable {α:Type}{enc : α->List AV}
def Yd{c:Code}{an:mS}{e':Env}{h':aT}(he:e=e')(hh:h=h')(w:Wp C F Pr fa c an Q e' h'):Wp C F Pr fa c an Q e h:=by grind
def nw{b:Bool}(hw:mF all e o=some true)(hop:∀call,mT o.op ⟨C,fa,call⟩ e h o.dst=some (.bool b,h))
  (w1:b=true->od C F Pr fa all rest q (my e o (.bool true)) h) (w2:b=false->od C F Pr fa all rest q (my e o (.bool false)) h):od C F Pr fa all (o::rest) q e h:=by
 cases b<;>grind[cr]
def re{i:Nat}{sch:List (Nat×List Nat)}{p:Prop}[Decidable p](ho:all[i]?=some o)(hw:mF all e o=some true)(hop:∀call,mT o.op ⟨C,fa,call⟩ e h o.dst=some (.bool (decide p),h))
  (w1:p->oe C F Pr fa all sch q (my e o (.bool true)) h) (w2:¬p->oe C F Pr fa all sch q (my e o (.bool false)) h):oe C F Pr fa all ((i,[])::sch) q e h:=by
 by_cases a:p<;>grind[js]
def Hu{i:Nat}{sch:List (Nat×List Nat)}{b:Bool}(ho:all[i]?=some o)(hw:mF all e o=some true)(hop:∀call,mT o.op ⟨C,fa,call⟩ e h o.dst=some (.bool b,h))
  (w1:b=true->oe C F Pr fa all sch q (my e o (.bool true)) h) (w2:b=false->oe C F Pr fa all sch q (my e o (.bool false)) h):oe C F Pr fa all ((i,[])::sch) q e h:=by
 cases b<;>grind[js]
def Xi{i:Nat}{sch:List (Nat×List Nat)}{f:Nat}{g:Operand}{c:Call}{args:List AV}{R:AV->Prop}(hi:all[i]?=some o)(hw:mF all e o=some true)(ho:o.op=.call c)(hf:c.callee=.value g)(hg:me e g=.mH f [] [])(ha:c.args.toList.map (me e)=args)(hok:args.all AV.sR=true)(hs:fa.mP.elem f=false)
  (w:∀h:aT,∃v,lZ C F Pr false f args h v h/\R v) (next:∀v,R v->oe C F Pr fa all sch q (my e o v) h):oe C F Pr fa all ((i,[])::sch) q e h:=by
 obtain⟨v,a,b⟩:=w { h with ca:=[] };refine GJ hi hw ?_ (next v b);rw[ho];exact MP hf hg ha hok hs a
def wT{X:Ctx}{d:Option Nat}{t el:Nat}{x:Operand}{cl:Call}{ti:TI}{r:Row α}(hc:cl.callee=.builtin .len)(ha:cl.args.toList=[x])(hts:cl.argTypes.toList=[t])(hT:X.C.T t=some ti)(hk:ti.kind=.slice el)(hx:me e x=r.av enc) :
  mT (.call cl) X e h d=some (.int .i64 r.l.length,h):=by
 simp_all[mT,uQ,tW,qS,BX,Aa,Ba,Row.av,AF,uZ]
theorem xk{X:Ctx}{d:Option Nat}{t el:Nat}{x y:Operand}{ti te:TI}{r:Row α}{k:IntKind}{n:Nat}(hT:X.C.T t=some ti)(hk:ti.kind=.slice el)(hE:X.C.T el=some te)(hx:me e x=r.av enc)(hi:me e y=.int k (n:Int))
  (hn:n<r.l.length) (hl:(enc r.l[n]).length=te.size):mT (.indexAddr t x y) X e h d=some (.ip (enc r.l[n]) 0 false,h):=by
 rw[<- r.sn];exact YE hT hk hE hx hi (by omega) (r:=enc r.l[n]) (by simp[hn]) hl
theorem F7{X:Ctx}{d:Option Nat}{t el:Nat}{x y:Operand}{ti te:TI}{r:Row α}{k:IntKind}{n:Int}(hT:X.C.T t=some ti)(hk:ti.kind=.slice el)(hE:X.C.T el=some te)(hx:me e x=r.av enc)(hi:me e y=.int k n)(h0:0<=n)
  (hn:n.toNat<r.l.length) (hl:(enc r.l[n.toNat]).length=te.size):mT (.indexAddr t x y) X e h d=some (.ip (enc r.l[n.toNat]) 0 false,h):=by
 grind[xk]
theorem L3(a b c d:Int):pX [.int .i64 a,.int .i64 b] [.int .i64 c,.int .i64 d]=some (decide (a=c/\b=d)):=by simp only[pX,qV,Cl,AV.int?,ua,u5];have e:(a==c)=decide (a=c):=rfl;have f:(b==d)=decide (b=d):=rfl;rw[e,f];by_cases g:a=c<;>by_cases h:b=d<;>simp[g,h]
def yt{X:Ctx}{dd:Option Nat}{t u:Nat}{x y:Operand}{ti:TI}{a b c d:Int}(hx:me e x=.agg [.int .i64 a,.int .i64 b])(hy:me e y=.agg [.int .i64 c,.int .i64 d])
  (hT:X.C.T t=some ti) (hf:∀a b:Int,Cp ti (.agg [.int .i64 a,.int .i64 b]) (.agg [.int .i64 c,.int .i64 d])=pX [.int .i64 a,.int .i64 b] [.int .i64 c,.int .i64 d]) :
  mT (.binOp .eql t x y u) X e h dd=some (.bool (decide (a=c/\b=d)),h):=by
 simp_all[mT,Dy,binOp,AV.int?,AV.str?,C9,L3,oz]
theorem y8{sn:Bool}{hp:aT}{n:Nat}(r:Row α):freeze sn hp (n+1) (Row.av enc r)=some (Row.av enc r):=by have:=r.sn;grind[Row.av,freeze,vF]
theorem AW{sn:Bool}{hp:aT}{n:Nat}(k:IntKind)(a:Int):freeze sn hp (n+1) (.int k a)=some (.int k a):=rfl
theorem zk{sn:Bool}{hp:aT}{n:Nat}(a:Bool):freeze sn hp (n+1) (.bool a)=some (.bool a):=rfl
theorem AS{sn:Bool}{hp:aT}{n:Nat}(a:List UInt8):freeze sn hp (n+1) (.str a)=some (.str a):=rfl
theorem abz{sn:Bool}{hp:aT}{n:Nat}(l:List AV):freeze sn hp (n+1) (.agg l)=(match nd (freeze sn hp n) l with
   |some l=>some (.agg l)
   |none=>none):=rfl
def FB{X:Ctx}{d:Option Nat}{t:Nat}{x y:Operand}{ti:TI}{s:List UInt8}{k:IntKind}{n:Nat}(hT:X.C.T t=some ti)(hk:ti.kind=.str)(hx:me e x=.str s)(hi:me e y=.int k (n:Int))(hn:n<s.length):mT (.index t x y) X e h d=some (.int .u8 s[n].toNat,h):=by have a:uA (.int k (n:Int))=some n:=rfl;simp_all[mT,EN,C3,AV.str?]
def Row.isNil(r:Row α):Bool:=match r.c with
 |.nil=>true
 |_=>false
def Row.of_nil{r:Row α}(h:r.isNil=true):r.l=[]:=by apply r.nl;grind[Row.isNil]
end
def pF:AV->Option Nat
 |.hs b _ _ _=>some b
 |.hm b=>some b
 |.ptr b _ _ _=>some b
 |_=>none
def GR{α:Type}(H:aT)(n:Nat)(enc : α->List AV)(v:AV)(l:List α):Prop :=
 (l=[]/\v=.sl [] .nil)\/(v=.sl (l.map enc) (.exact l.length))\/∃b g,b<H.size/\v=.hs b g 0 l.length/\H.get b=some (.lU g n (l.map enc))
structure Gf(H H':aT)(v v':AV):Prop where
 lo:H'.lo=H.lo
 size:H.size<=H'.size
 get:∀b,b<H.size->pF v≠some b->H'.get b=H.get b
 own:∀b,pF v'=some b->pF v=some b\/H.size<=b
theorem aT.oR(H:aT)(ls:o1)(b:Nat):({ H with ca:=ls }:aT).get b=H.get b:=rfl
theorem aT.FH(H:aT)(ls:o1)(o:nR):({ H with ca:=ls }:aT).push o = { H.push o with ca:=ls }:=by simp[aT.CZ]
theorem aT.s7(H:aT)(ls:o1)(b:Nat)(o:nR):({ H with ca:=ls }:aT).set b o = { H.set b o with ca:=ls }:=by simp[aT.FD]
def Gf.refl(H:aT)(v:AV):Gf H H v v:=⟨rfl,abs _,λ_ _ _=>rfl,λ_ h=>.inl h⟩
theorem GR.keep{α:Type}{H H':aT}{n:Nat}{enc : α->List AV}{v v' w:AV}{l:List α}(h:GR H n enc w l)(k:Gf H H' v v')(hd:∀b,pF w=some b->pF v≠some b):GR H' n enc w l:=by
 rcases h with h|h|⟨b,g,a,rfl,c⟩
 ·exact .inl h
 ·exact .inr (.inl h)
 ·exact .inr (.inr ⟨b,g,ane a k.size,rfl,by rw[k.get b a (hd b rfl)];exact c⟩)
def GR.lt{α:Type}{H:aT}{n:Nat}{enc : α->List AV}{w:AV}{l:List α}(h:GR H n enc w l):∀b,pF w=some b->b<H.size:=by rcases h with⟨_,rfl⟩|rfl|⟨b,g,a,rfl,c⟩<;>grind[pF]
def Gf.apart{H H':aT}{v v' w:AV}(k:Gf H H' v v')(hd:∀b,pF w=some b->pF v≠some b)(hl:∀b,pF w=some b->b<H.size):∀b,pF w=some b->pF v'≠some b:=by intro b c a;rcases k.own b a with h|h<;>grind
def Es(v w:AV):Prop:=∀b,pF v=some b->pF w≠some b
theorem Es.symm{v w:AV}(h:Es v w):Es w v:=λb hw hv=>h b hv hw
def Es.nil{w:AV}{xs:List (List AV)}{c:sg}:Es (.sl xs c) w:=λb h=>by simp[pF]at h
theorem Es.keep{α:Type}{H H':aT}{n:Nat}{enc : α->List AV}{v v' w:AV}{l:List α}(hd:Es v w)(k:Gf H H' v v')(h:GR H n enc w l):Es v' w:=Es.symm (k.apart hd.symm h.lt)
theorem GR.Rb{α:Type}{H:aT}{n:Nat}{enc : α->List AV}{v:AV}{l:List α}(h:GR H n enc v l)(t:Nat):Go.Sx.keep t v=v:=by rcases h with⟨_,rfl⟩|rfl|⟨_,_,_,rfl,_⟩<;>rfl
section
variable {C:nu}{F:oP}{Pr:om}{fa:lg}{e:Env}{all rest:List Oper}{o:Oper}{q:Env->aT->Prop}
variable {α:Type}{enc : α->List AV}
theorem GR.sR{H:aT}{n:Nat}{v:AV}{l:List α}(hb:GR H n enc v l):AV.sR v=true:=by rcases hb with⟨rfl,rfl⟩|rfl|⟨b,g,a,rfl,c⟩<;>rfl
def nZ{C:nu}{res:List ResultVar}{e:Env}{h:aT}{vs:List AV}(h1:J6 C e h res=some vs)(h2:vs.all AV.sR=true):leave.leave1 C res e h=some (result vs,h):=by grind[leave.leave1]
def Row.take(r:Row α)(k:Nat):Row α:=⟨r.l.take k,r.c,by have:=r.ok;grind,r.sn,λh=>by rw[r.nl h];simp⟩
def HC{X:Ctx}{d:Option Nat}{t el n k:Nat}{x y:Operand}{ti te:TI}{h:aT}{r:Row α}{kd:IntKind}(hT:X.C.T t=some ti)(hk:ti.kind=.slice el)(hE:X.C.T el=some te)(hx:me e x=r.av enc)(hy:me e y=.int kd (k:Int))(hn:te.size=n)(hkl:k<=r.l.length)(henc:∀x,(enc x).length=n) :
  mT (.slice t x none (some y) none) X e h d=some ((r.take k).av enc,h):=by
 have b:uA (.int kd (k:Int))=some k:=rfl;have f:Nat.ble 0 k=true:=anf.mpr (ang _);have g:Nat.ble k (r.l.map enc).length=true:=anf.mpr (by grind)
 have i:uq n (r.l.map enc)=true:=by
  cases r.l with
  |nil=>rfl
  |cons a l=>simp_all[uq]
 have j:vE 0 r.c=r.c:=by cases r.c<;>rfl
 simp only[mT,vD,uX,hT,hk,hE,hx,hy,Row.av,slice,B2,sX,bound,b,vY,hn,g,i,f,Bool.true_and,Bool.and_true,List.drop_zero,Nat.sub_zero,u3,j,oz,Row.take,List.map_take]
end
def look{κ β:Type}[DecidableEq κ](k : κ):List (κ×β)->Option β
 |[]=>none
 |x::l=>if k=x.1 then some x.2 else look k l
def nG{κ β:Type}(ek : κ->AV)(ev : β->AV)(l:List (κ×β)):List (AV×AV):=l.map λx=>(ek x.1,ev x.2)
def pK(p:cA):AV:=.agg p.ay
def iK(n:Int):AV:=.int .i64 n
def yz(p:Int×Int):AV:=.agg [.int .i64 p.1,.int .i64 p.2]
structure ej where
 p:be
 next:List (cA×cA)
 reads:List (cA×Int)
 line:List (Int×Int×Int)
 lead:List (Int×Int)
def ej.ay(n:ej):List AV:=[n.p.elems.av pc.ay,n.p.mq.av oj.ay,n.p.signals.av nL.ay,n.p.lines.av nh.ay,.int .i64 n.p.top,.int .i64 n.p.ns,.int .i64 n.p.nW,.int .i64 n.p.oi,.bool n.p.ot,
 .fm (nG pK pK n.next) false,.fm (nG pK iK n.reads) false,.fm (nG iK yz n.line) false,.fm (nG iK iK n.lead) false]
def pQ(a b:cA):pZ (pK a) (pK b)=some (decide (a=b)):=by
 have h:(a=b)↔(a.elem=b.elem/\a.en=b.en):=by cases a;cases b;simp
 grind[pZ,pK,cA.ay,AV.agg?,Jz,L3]
def su(a b:Int):pZ (iK a) (iK b)=some (decide (a=b)):=by simp only[pZ,iK,AV.agg?,qV,Cl,AV.int?,ua,u5];rfl
theorem NP{κ β:Type}[DecidableEq κ]{ek : κ->AV}{ev : β->AV}(hk:∀a b,pZ (ek a) (ek b)=some (decide (a=b)))(k : κ)(l:List (κ×β)):xF (ek k) (nG ek ev l)=some ((look k l).map ev):=by induction l<;>grind[nG,xF,look]
section
variable {C:nu}{F:oP}{Pr:om}{fa:lg}{e:Env}{h:aT}{all rest:List Oper}{o:Oper}{q:Env->aT->Prop}
variable {κ β:Type}[DecidableEq κ]{ek : κ->AV}{ev : β->AV}
theorem F5{X:Ctx}{d:Option Nat}{t kt el:Nat}{m k:Operand}{tm te:TI}{key : κ}{l:List (κ×β)}{z:AV}{s:Bool}(hT:X.C.T t=some tm)(hk:tm.kind=.map kt el)(hE:X.C.T el=some te)(hm:me e m=.fm (nG ek ev l) s)(hkk:me e k=ek key)(hK:xx X.C kt (ek key)=true)(hz:asAgg te te.zero=some z)(hke:∀a b,pZ (ek a) (ek b)=some (decide (a=b))) :
  mT (.lookup t m k true) X e h d=some (match look key l with
   |some v=>.mw [ev v,.bool true]
   |none=>.mw [z,.bool false],h):=by
 simp only[mT,A0,yc,hT,hk,hE,hkk,hK,hm,xd,NP hke];grind[look,Gp,oz]
def zh{t kt el:Nat}{m k:Operand}{tm te:TI}{key : κ}{l:List (κ×β)}{z:AV}{s:Bool}(hw:mF all e o=some true)(ho:o.op=.lookup t m k true)(hT:C.T t=some tm)(hk:tm.kind=.map kt el)(hE:C.T el=some te)(hm:me e m=.fm (nG ek ev l) s)(hkk:me e k=ek key)(hK:xx C kt (ek key)=true)(hz:asAgg te te.zero=some z)(hke:∀a b,pZ (ek a) (ek b)=some (decide (a=b)))
  (w1:∀v,look key l=some v->od C F Pr fa all rest q (my e o (.mw [ev v,.bool true])) h) (w2:look key l=none->od C F Pr fa all rest q (my e o (.mw [z,.bool false])) h):od C F Pr fa all (o::rest) q e h:=by
 cases d:look key l with
 |none=>exact cr hw (λc=>by rw[ho,F5 hT hk hE hm hkk hK hz hke,d]) (w2 d)
 |some v=>exact cr hw (λc=>by rw[ho,F5 hT hk hE hm hkk hK hz hke,d]) (w1 v d)
def M6{i:Nat}{sch:List (Nat×List Nat)}{t kt el:Nat}{m k:Operand}{tm te:TI}{key : κ}{l:List (κ×β)}{z:AV}{s:Bool}(hi:all[i]?=some o)(hw:mF all e o=some true)(ho:o.op=.lookup t m k true)(hT:C.T t=some tm)(hk:tm.kind=.map kt el)(hE:C.T el=some te)(hm:me e m=.fm (nG ek ev l) s)(hkk:me e k=ek key)(hK:xx C kt (ek key)=true)(hz:asAgg te te.zero=some z)(hke:∀a b,pZ (ek a) (ek b)=some (decide (a=b)))
  (w1:∀v,look key l=some v->oe C F Pr fa all sch q (my e o (.mw [ev v,.bool true])) h) (w2:look key l=none->oe C F Pr fa all sch q (my e o (.mw [z,.bool false])) h):oe C F Pr fa all ((i,[])::sch) q e h:=by
 cases d:look key l with
 |none=>exact js hi hw (λc=>by rw[ho,F5 hT hk hE hm hkk hK hz hke,d]) (w2 d)
 |some v=>exact js hi hw (λc=>by rw[ho,F5 hT hk hE hm hkk hK hz hke,d]) (w1 v d)
end
end Go.Sx
