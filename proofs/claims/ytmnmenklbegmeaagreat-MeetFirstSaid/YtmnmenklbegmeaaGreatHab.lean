/- Proves rules for the walks and their soundness. -/
import Derived.Lib.Strings
import Derived.Laws.MakeOwn
import Derived.Deep.AppendSrc
import Derived.MapKept
import Derived.Test.YtmnmenklbegmeaaGreatHaa
set_option linter.all false
namespace Go.Sx
open Go
section
variable {P:Program}{C:nu}{G:Ga}{t:Nat}{ti:TI}
inductive OR(G:Ga):Option AV->Option Value->Prop
 |none:OR G none none
 |some {v:AV} {u:Value} (h:VR G v u):OR G (some v) (some u)
def yy{o:Option AV}{o':Option Value}{d n:Nat}(h:OR G o o')(hb:bound o d=some n) :
  (o=none/\o'=none/\n=d)\/(∃v k,o=some v/\o'=some (.int k (n:Int))):=by
 cases h with
 |none=>grind[bound]
 |some h=>simp only[bound]at hb;obtain⟨k,rfl⟩:=D4 hb;exact .inr ⟨_,k,rfl,by rw[h.of_int]⟩
theorem zY(k:IntKind)(n y:Nat)(code:BoundsCode)(w:World)(h:n<=y):(Instr.sliceBound (.int k (n:Int)) y code).run P w=.ok n w:=by grind[run_sliceBound]
def tw{lo hi mx:Option AV}{lo' hi' mx':Option Value}{len cap l r:Nat}{m:Option Nat}(hl:OR G lo lo')(hh:OR G hi hi')(hm:OR G mx mx')
  (h1:bound lo 0=some l) (h2:bound hi len=some r) (h3:vY hi mx=some m) (hlr:l<=r) (hrm:r<=m.getD cap) (hmc:m.getD cap<=cap) (w:World) (b:Bool) :
  (Instr.sliceBounds b len cap lo' hi' mx').run P w=.ok (l,r,m.getD cap) w:=by
 unfold Instr.sliceBounds;cases hm with
 |none=>
  simp only[vY,Option.some.injEq]at h3;subst h3;simp only[Option.getD_none]at hrm hmc ⊢;rcases yy hh h2 with⟨rfl,rfl,rfl⟩|⟨v,k,rfl,rfl⟩
  ·rcases yy hl h1 with⟨rfl,rfl,rfl⟩|⟨v',k',rfl,rfl⟩
   ·simp
   simp_all[zY]
  ·rcases yy hl h1 with⟨rfl,rfl,rfl⟩|⟨v',k',rfl,rfl⟩
   ·simp_all[zY]
   simp_all[zY]
 |some hm=>
  simp only[vY]at h3;split at h3
  ·rename_i v d a;cases h3;obtain⟨e,rfl⟩:=D4 a;rw[hm.of_int];simp only[Option.getD_some]at hrm hmc ⊢;rcases yy hh h2 with⟨c,_,_⟩|⟨f,k,_,rfl⟩
   ·cases c
   ·rcases yy hl h1 with⟨rfl,rfl,rfl⟩|⟨v',k',rfl,rfl⟩
    ·simp_all[zY]
    simp_all[zY]
  grind
def tI{el:Nat}(hd:P.underlying t=some (.slice el))(hTe:sO P el ti){a:Option Addr}{len cap l r m:Nat}{lo hi mx:Option Value}{w:World}
  (hb:(Instr.sliceBounds true len cap lo hi mx).run P w=.ok (l,r,m) w) :
  (Instr.sliceAt t (.slice a len cap) lo hi mx).run P w=.ok (.slice (if m=l then a else a.map (·.add (l*ti.size))) (r - l) (m - l)) w:=by
 unfold Instr.sliceAt;simp only[Sem.run_bind,run_underlying hd,Result.andThen_ok];unfold Instr.slice;simp[run_underlying hd,hb,hTe.sizeOf]
def EB{α:Type}(xs:List α)(l k i:Nat)(x : α)(h:((xs.drop l).take k)[i]?=some x):xs[l+i]?=some x/\i<k:=by grind
def PR.piece{w:World}{T:Bool->Nat->Prop}{m:Bool}{xs:List (List AV)}{cap cap2:sg}{B base:Nat}{len cap' n:Nat}{l r:Nat}
  (h:PR w T m (.sl xs cap) (.slice (some ⟨B,base,none⟩) len cap')) (hne:xs≠[]) (hh:uq n xs=true) (hlr:l<r) (hr:r<=xs.length) (hs:vK cap2=vK cap)
  {k:Nat} (hcap:uu cap2 (r - l) k) (hle:r - l<=k) :
  PR w T m (.sl ((xs.drop l).take (r - l)) cap2) (.slice (some ⟨B,base+l*n,none⟩) (r - l) k):=by
 have d:((xs.drop l).take (r - l)).length=r - l:=by grind
 cases h with
 |sy=>grind
 |sl _ _ _ _ _ c e fr _ esz f hm hB hI hc1 hle1 hz hc h1 hr1=>
  have g:esz=n:=by
   cases xs with
   |nil=>grind
   |cons x xs=>have:=hz 0 x rfl;simp_all[uq]
  subst g
  have o:=PR.sl (w:=w) (T:=T) m ((xs.drop l).take (r - l)) cap2 B (base+l*esz) c e fr k esz (λi j=>f (l+i) j) (by grind) hB (by grind)
   (by grind) (by omega)
   (λi a h=>hz _ a (EB _ _ _ _ _ h).1)
   (λi a j x h b=>by
     grind)
   (λi a j x h b=>h1 (l+i) a j x (EB _ _ _ _ _ h).1 b)
   (λi a j x h b=>by grind)
  grind
def E9{cap:sg}{len c l r:Nat}(h:uu cap len c)(hl:l<=r)(hr:r<=len)(hlc:len<=c):uu (vE l cap) (r - l) (c - l):=by cases cap<;>simp only[uu,vE]at *<;>omega
def VS(l:Nat)(cap:sg):vK (vE l cap)=vK cap:=by cases cap<;>rfl
def xp{xs:List (List AV)}{cap:sg}{u:Value}(h:VR G (.sl xs cap) u):PR G.w G.T true (.sl xs cap) u:=by cases h<;>grind
def Pe(hW:WR G)(hC:nV P C){el:Nat}(hd:P.underlying t=some (.slice el))(hTe:sO P el ti){x v:AV}{x':Value}{lo hi mx:Option AV}{lo' hi' mx':Option Value}
  (hx:VR G x x') (hl:OR G lo lo') (hh:OR G hi hi') (hm:OR G mx mx') (h:slice ti.size G.h x lo hi mx=some v) :
  ∃u,(Instr.sliceAt t x' lo' hi' mx').run P G.w=.ok u G.w/\VR G v u:=by
 unfold slice at h;split at h
 ·
  rename_i O cap;have Q:=xp hx;unfold B2 at h;split at h
  ·rename_i l r s N y;split at h
   ·rename_i D;simp only[Bool.and_eq_true,Nat.ble_eq]at D;obtain⟨⟨d,A⟩,j⟩:=D;simp only[u3,Option.some.injEq]at h;subst h;cases Q with
    |slnil=>
     (have k:r=0:=by grind);have n:l=0:=by omega
     subst k;subst n;exact⟨_,tI hd hTe (tw (cap:=0) hl hh hm s (by omega) y d (by simp) (by simp) G.w true),.mR rfl (.slnil _)⟩
    |sy _ _ a c hmk hc=>
     (have k:r=0:=by grind);have n:l=0:=by omega
     subst k;subst n;refine⟨_,tI hd hTe (tw (cap:=c) hl hh hm s (by omega) y d (by simp) (by simp) G.w true),?_⟩;have o:uu (vE 0 cap) 0 c:=by simpa using E9 (l:=0) (r:=0) hc (abs 0) (abs 0) (ang c)
     simp only[Option.getD_none,Nat.sub_zero,Option.map_some,List.drop_nil,List.take_nil];split;·exact .mR rfl (.sy _ _ _ _ (λ_=>rfl) o)
     ·exact .mR rfl (.sy _ _ _ _ (λ_=>rfl) o)
    |sl _ _ _ B base c e fr cap' esz f hmk T hI i hle hz hc h1 hr1=>
     refine⟨_,tI hd hTe (tw (cap:=cap') hl hh hm s N y d (by grind) (by simp) G.w true),?_⟩;simp only[Option.getD_none,Option.map_some];by_cases H:l<r;·rw[if_neg (by omega),vy];refine .mR rfl ?_;exact PR.piece (.sl _ O cap B base c e fr cap' esz f hmk T hI i hle hz hc h1 hr1) (by grind) j H A (VS l cap) (E9 i d A hle) (by omega)
     ·(have p:r=l:=by omega);subst p;have o:uu (vE r cap) 0 (cap' - r):=by simpa using E9 (l:=r) (r:=r) i (abs _) A hle
      simp only[Nat.sub_self,List.take_zero];split<;>exact .mR rfl (.sy _ _ _ _ (λ_=>rfl) o)
   ·cases h
  ·rename_i l r m s N y;split at h
   ·rename_i D;simp only[Bool.and_eq_true,Nat.ble_eq]at D;obtain⟨⟨⟨d,J⟩,R⟩,j⟩:=D;simp only[u3]at h;have U:=Q;cases Q with
    |slnil=>
     (have K:m=0:=by grind);subst K;have k:r=0:=by omega
     (have n:l=0:=by omega);subst k;subst n;simp only[List.drop_nil,List.take_nil,Ij,EX,zL,Option.some.injEq]at h;subst h;exact⟨_,tI hd hTe (tw (cap:=0) hl hh hm s (by omega) y d (by simp) (by simp) G.w true),.mR rfl (.slnil _)⟩
    |sy _ _ a c hmk hc=>
     (have K:m=0:=by grind);subst K;have k:r=0:=by omega
     (have n:l=0:=by omega);subst k;subst n;simp only[List.drop_nil,List.take_nil,Ij,Option.some.injEq]at h;subst h;refine⟨_,tI hd hTe (tw (cap:=c) hl hh hm s (by omega) y d (by simp) (by simp) G.w true),?_⟩;simp only[Option.getD_some,Nat.sub_self,if_true];refine .mR rfl (.sy _ _ _ _ (λ_=>rfl) ?_);cases cap<;>simp[EX,zL,uu]at hc ⊢
    |sl _ _ _ B base c e fr cap' esz f hmk T hI i hle hz hc h1 hr1=>
     refine⟨_,tI hd hTe (tw (cap:=cap') hl hh hm s N y d (by grind) (by grind) G.w true),?_⟩;simp only[Option.getD_some,Option.map_some];by_cases H:l<r
     ·rw[if_neg (by omega),vy];have Y:(O.drop l).take (r - l)≠[]:=by intro Z;have:=congrArg List.length Z;grind
      (have hv:v=.sl ((O.drop l).take (r - l)) (zL (m - l) cap):=by cases hq:(O.drop l).take (r - l)<;>grind[Ij]);subst hv;refine .mR rfl ?_;refine PR.piece U (by grind) j H (by omega) ?_ ?_ (by omega);·cases cap<;>rfl
      ·cases cap<;>simp only[uu,zL]at i ⊢<;>omega
     ·(have p:r=l:=by omega);subst p;simp only[Nat.sub_self,List.take_zero,Ij,Option.some.injEq]at h;subst h;simp only[Nat.sub_self];have o:uu (zL (m - r) (EX cap)) 0 (m - r):=by cases cap<;>simp[EX,zL,uu]at i ⊢
      split<;>exact .mR rfl (.sy _ _ _ _ (λ_=>rfl) o)
   ·cases h
  ·cases h
 ·
  rename_i b g L len;unfold JQ at h;split at h
  ·rename_i g' z O E;split at h;·cases h
   ·rename_i S;simp only[Bool.and_eq_true,Nat.beq_eq]at S;obtain⟨rfl,rfl⟩:=S;split at h
    ·rename_i l r m s N y;split at h
     ·rename_i D;simp only[Bool.and_eq_true,Nat.ble_eq]at D;obtain⟨⟨d,A⟩,R⟩:=D;cases hx with
      |mR Q _=>simp[AV.oI]at Q
      |hs _ _ _ _ a cap' hbs hg hle hl'=>
       obtain⟨X,V,i,ha⟩:=hl' _ _ E;obtain⟨c,e,T,hxc,_⟩:=hW.lU _ _ _ _ _ V E;unfold Jo at h;split at h;·(simp only[sj,Option.some.injEq]at h;subst h;refine⟨_,tI hd hTe (tw (cap:=cap') hl hh hm s N y d (by grind) (by simp) G.w true),?_⟩;simp only[Option.getD_none,Option.map_some];have W:∀q:Addr,(0<cap' - l->q=⟨X.B,X.base+(L+l)*ti.size,none⟩)->VR G (.hs b g (L+l) (r - l)) (.slice (some q) (r - l) (cap' - l)):=by intro q hq;refine .hs b g (L+l) (r - l) q (cap' - l) hbs hg (by omega) ?_;grind);grind[vy]
       ·rename_i mm;simp only[Option.getD_some]at R;split at h
        ·rename_i J;have J:=anu J;have F:=tI (a:=some a) (len:=len) hd hTe (tw (P:=P) (len:=len) (cap:=cap') hl hh hm s N y d (by grind) (by grind) G.w true);split at h
         ·rename_i M;have M:=acl M;subst M;cases h;refine⟨_,F,?_⟩;have:r=l:=by omega
          subst this;simp only[Option.getD_some,if_true,Nat.sub_self];exact .mR rfl (.sy _ _ _ _ (λ_=>rfl) rfl)
         ·cases h;exact⟨_,F,.undef _⟩
        ·cases h
     ·cases h
    ·cases h
  ·cases h
 ·cases h
def O8(hd:P.underlying t=some .string){s:List UInt8}{b:ByteArray}{v:AV}{lo hi mx:Option AV}{lo' hi' mx':Option Value}(hs:b.data.toList=s)
  (hl:OR G lo lo') (hh:OR G hi hi') (hm:OR G mx mx') (h:Q3 s lo hi mx=some v) :
  ∃u,(Instr.sliceAt t (.string b) lo' hi' mx').run P G.w=.ok u G.w/\VR G v u:=by
 unfold Q3 at h;split at h
 ·rename_i l r c d;split at h;·rename_i a;simp only[Bool.and_eq_true,Nat.ble_eq]at a;simp only[u3,Option.some.injEq]at h;subst h;cases hm;have e:=Bx hs;have f:=tw (P:=P) (len:=s.length) (cap:=s.length) hl hh OR.none c d (m:=none) rfl a.1 (by grind) (by simp) G.w false;refine⟨.string (b.extract l r),?_,VR.str (by simp_all)⟩;unfold Instr.sliceAt;simp only[Sem.run_bind,run_underlying hd,Result.andThen_ok];simp_all[Instr.slice,run_underlying]
  ·cases h
 ·cases h
def Ns(hW:WR G)(hC:nV P C){x:AV}{x':Value}{lo hi mx:Option AV}{lo' hi' mx':Option Value}{r:AV×aT}
  (hx:VR G x x') (hl:OR G lo lo') (hh:OR G hi hi') (hm:OR G mx mx') (h:uX C G.h t x lo hi mx=some r):rT P G (Instr.sliceAt t x' lo' hi' mx') r:=by
 unfold uX at h;split at h;·cases h
 ·rename_i ti f;obtain⟨d,k,_,a⟩:=(hC.ty t ti f).desc;split at h
  ·rename_i el c;rw[c]at a;have a:d=.slice el:=a;subst a;split at h;·rename_i l g;obtain⟨v,i,rfl⟩:=qU h;obtain⟨u,j,e⟩:=Pe hW hC k (hC.ty el l g) hx hl hh hm i;exact⟨rfl,u,j,e⟩
   ·cases h
  ·rename_i c;rw[c]at a;have a:d=.string:=a;subst a;split at h;·rename_i s m;obtain⟨v,i,rfl⟩:=qU h;have:=str?_eq m;subst this;obtain⟨b,rfl,n⟩:=hx.zV;obtain⟨u,j,e⟩:=O8 k n hl hh hm i;exact⟨rfl,u,j,e⟩
   ·cases h
  ·cases h
end
structure CR(G:Ga)(l:List AV)(vs:Array Value):Prop where
 len:l.length=vs.size
 one:∀(i:Nat) (y:Value),vs[i]?=some y->y.oneCell'=true
 rel:∀(i:Nat) (x:AV) (y:Value),l[i]?=some x->vs[i]?=some y->VC G x y
section
variable {P:Program}{C:nu}{G:Ga}{t:Nat}{ti:TI}
def PR.one{w:World}{T:Bool->Nat->Prop}{m:Bool}{v:AV}{u:Value}(h:PR w T m v u)(hv:v.oq=true):u.oneCell'=true:=by
 cases h<;>first
  |rfl
  |assumption
  |(simp[AV.oq]at hv)
def VR.one{v:AV}{u:Value}(h:VR G v u)(hv:v.oq=true):u.oneCell'=true:=by
 cases h with
 |mR _ h=>exact h.one hv
 |undef=>simp[AV.oq]at hv
 |la=>rfl
 |ptr=>rfl
 |hs=>rfl
 |hm=>rfl
 |mH=>rfl
 |agg=>simp[AV.oq]at hv
 |mw=>simp[AV.oq]at hv
theorem cells_one{u:Value}(h:u.oneCell'=true):u.cells = #[u]:=by cases u<;>simp_all[Value.oneCell',Value.cells]
def CR.mono{G':Ga}(E:Ext G G'){l:List AV}{vs:Array Value}(h:CR G l vs):CR G' l vs:=⟨h.len,h.one,λi x y a b=>(h.rel i x y a b).mono E⟩
def CR.agg{l:List AV}{vs:Array Value}(h:CR G l vs):VR G (.agg l) (.agg vs):=VR.Lr (R:=VC G) (λ_ _ h=>h) h.len h.one h.rel
def TS{x:AV}(hx:x.oq=true):x.rX=true:=by cases x<;>simp_all[AV.oq,AV.rX]
def xt{v:AV}{v':Value}{new:List AV}(hv:VR G v v')(h:cellsOf ti v=some new):CR G new v'.cells/\new.length=ti.size:=by
 unfold cellsOf at h;split at h
 ·split at h
  ·rename_i l k;split at h;·rename_i d;cases h;have:=agg?_eq k;subst this;obtain⟨n,rfl,a,b,c⟩:=hv.Bi;exact⟨⟨a,b,c⟩,acl d⟩
   ·cases h
  ·cases h
 ·split at h
  ·rename_i e;simp only[Bool.and_eq_true,Nat.beq_eq]at e;cases h;have m:=hv.one e.1;refine⟨?_,by grind⟩;rw[cells_one m];refine⟨by simp,?_,?_⟩;·grind
   ·intro i x y f g;rw[Array.getElem?_eq_some_iff]at g;obtain⟨j,rfl⟩:=g;simp at j;subst j;simp at f;subst f;exact⟨hv,TS e.1⟩
  ·cases h
theorem Ff:∀(vs:List Value)(n off:Nat) (cells:Array Value) (k:Nat),
  ((vs.zipIdx n).foldl (λcs (x:Value×Nat)=>cs.setIfInBounds (off+x.2) x.1) cells)[k]?=if off+n<=k/\k<off+n+vs.length/\k<cells.size then vs[k - (off+n)]? else cells[k]?
 |[],n,off,cells,k=>by simp;omega
 |v::vs,n,off,cells,k=>by
  simp only[List.zipIdx_cons,List.foldl_cons];rw[Ff vs (n+1) off _ k];simp only[Array.size_setIfInBounds,Array.getElem?_setIfInBounds,List.length_cons];by_cases b:k=off+n
  ·subst b;rw[if_neg (by omega)];by_cases a:off+n<cells.size;·simp[a]
   ·simp[a]
  ·by_cases a:off+(n+1)<=k/\k<off+(n+1)+vs.length/\k<cells.size;·rw[if_pos a,if_pos (by omega)];rw[show k - (off+n)=(k - (off+(n+1)))+1 by omega];simp
   ·rw[if_neg a,if_neg (by omega),if_neg (by omega)]
def DS{cs new r:List AV}{o:Nat}(h:sJ cs o new=some r):o+new.length<=cs.length/\r.length=cs.length/\∀k,r[k]?=if o<=k/\k<o+new.length then new[k - o]? else cs[k]?:=by
 unfold sJ at h;split at h;·rename_i a;have a:=anu a;simp only[u3,Option.some.injEq]at h;subst h;refine⟨a,by grind,λk=>?_⟩;rw[List.append_assoc,List.getElem?_append];grind
 ·cases h
theorem CR.sJ{cs new r:List AV}{o:Nat}{c vs:Array Value}(hc:CR G cs c)(hn:CR G new vs)(h:Sx.sJ cs o new=some r) :
  ¬(o+vs.size > c.size)/\CR G r (vs.zipIdx.foldl (λ(cs:Array Value) (x:Value×Nat)=>cs.setIfInBounds (o+x.2) x.1) c):=by
 obtain⟨n,p,f⟩:=DS h;have q:=hn.len;have g:=hc.len;refine⟨by omega,?_⟩;have d:∀k,(vs.zipIdx.foldl (λ(cs:Array Value) (x:Value×Nat)=>cs.setIfInBounds (o+x.2) x.1) c)[k]?=if o<=k/\k<o+vs.size/\k<c.size then vs[k - o]? else c[k]?:=by intro k;have:=Ff vs.toList 0 o c k;simp only[Nat.add_zero,Array.length_toList,Array.getElem?_toList]at this;rw[<- this,<- Array.foldl_toList,Array.toList_zipIdx]
 have j:(vs.zipIdx.foldl (λ(cs:Array Value) (x:Value×Nat)=>cs.setIfInBounds (o+x.2) x.1) c).size=c.size:=by
  have s:∀(l:List (Value×Nat)) (a:Array Value),(l.foldl (λ(cs:Array Value) (x:Value×Nat)=>cs.setIfInBounds (o+x.2) x.1) a).size=a.size:=by intro l;induction l<;>grind
  rw[<- Array.foldl_toList];grind
 refine⟨by omega,?_,?_⟩
 ·intro i y b;rw[d]at b;split at b;·exact hn.one _ y b
  ·exact hc.one _ y b
 ·intro i x y e b;rw[d]at b;rw[f]at e;split at b;·rw[if_pos (by omega)]at e;exact hn.rel _ x y e b
  ·rename_i m;split at e;·omega
   ·exact hc.rel _ x y e b
def DV{place:Nat->Option (Nat×Nat)}(hC:nV P C)
  (hplace:∀i off ft,(match ti.kind with
    |.struct fs=>fs[i]?
    |.array n el=>match C.T el with
     |some t=>if i<n then some (i*t.size,el)else none
     |none=>none
    |_=>none)=some (off,ft)->∀tf,C.T ft=some tf->place i=some (off,tf.size)) :
  ∀{ps:List (Nat×AV)} {ps':List (Nat×Value)} {cs r:List AV} {c:Array Value},ps.length=ps'.length->(∀(i:Nat) p q,ps[i]?=some p->ps'[i]?=some q->p.1=q.1/\VR G p.2 q.2)->CR G cs c ->
   I4 C ti ps cs=some r->∃rc,Instr.fill place c ps'=some rc/\CR G r rc
 |[],[],cs,r,c,_,_,hc,h=>by simp only[I4,Option.some.injEq]at h;subst h;exact⟨c,rfl,hc⟩
 |[],_::_,_,_,_,hl,_,_,_=>by simp at hl
 |_::_,[],_,_,_,hl,_,_,_=>by simp at hl
 |(i,v)::ps,(i',v')::ps',cs,r,c,hl,hr,hc,h=>by
  obtain⟨e,s⟩:=hr 0 (i,v) (i',v') rfl rfl;simp only at e s;subst e;simp only[I4]at h;split at h;·cases h
  ·rename_i off ft f;split at h;·cases h
   ·rename_i tf g;split at h;·cases h
    ·rename_i new a;split at h
     ·split at h;·cases h
      ·rename_i u w;have k:=hplace i off ft f tf g;obtain⟨b,d⟩:=xt s a;obtain⟨x,l⟩:=hc.sJ b w;obtain⟨rc,m,o⟩:=DV hC hplace (by grind) (λj p q f y=>hr (j+1) p q f y) l h;refine⟨rc,?_,o⟩;simp only[Instr.fill,k];rw[if_neg];·exact m
       ·(have z:v'.cells.size=tf.size:=by rw[<- b.len,d]);grind
     ·cases h
def sO.BC(hT:sO P t ti):∃i z,P.info? t=some i/\i.zero=some z/\CR G ti.zero z.cells/\z.cells.size=ti.size/\(ti.agg=true->∃cs,z=.agg cs)/\(ti.agg=false->z.oneCell'=true):=by
 obtain⟨i,z,c,l,m,d,e,f,g,h,j⟩:=hT.info;refine⟨i,z,c,d,⟨by grind,?_,?_⟩,f,h,j⟩;·grind
 ·intro i x y a b;rw[e,List.getElem?_map,Array.getElem?_toList,b]at a;simp only[Option.map_some,Option.some.injEq]at a;subst a;have k:=g y (anP.2 (anS b));unfold MQ
  split<;>refine⟨?_,rfl⟩<;>first
   |exact VR.bool _
   |exact VR.int _ _
   |exact VR.str rfl
   |exact .mR rfl (.oh _)
   |exact .mR rfl (.slnil _)
   |exact .mR rfl (.ow _)
   |exact .mR rfl (.pC _)
   |exact .undef _
def O4(hC:nV P C){ps:List (Nat×AV)}{ps':Array (Nat×Value)}{r:AV×aT}(hl:ps.length=ps'.size)
  (hr:∀(i:Nat) p q,ps[i]?=some p->ps'[i]?=some q->p.1=q.1/\VR G p.2 q.2) (h:IQ C G.h t ps=some r):rT P G (Instr.build t ps') r:=by
 unfold IQ at h;split at h
 ·rename_i ti D;split at h;case h_2=>cases h
  rename_i o;split at h
  ·rename_i Q s;cases h;have M:=hC.ty t ti D;obtain⟨i,z,R,hz,u,c,_,_⟩:=M.BC (G:=G);obtain⟨d,S,_,m⟩:=M.desc
   have x:∃rc,P.built t ps'.toList=some rc/\CR G Q rc:=by
    cases e:ti.kind with
    |struct fs=>
     rw[e]at m;obtain⟨F,rfl,y,c⟩:=m
     have b:∃a:List (Nat×Nat),F.toList.mapM (λf=>(P.info? f.type).map λi=>(f.offset,i.size))=some a/\∀(j:Nat) (f:Field),F.toList[j]?=some f->∃i,P.info? f.type=some i/\a[j]?=some (f.offset,i.size):=by
      clear y S;generalize F.toList=fl at c;induction fl with
      |nil=>simp
      |cons f fl ih=>obtain⟨U,A,B⟩:=ih (λg V=>c g (by simp[V]));obtain⟨i,R,W⟩:=c f (by simp);refine⟨(f.offset,i.size)::U,by grind,?_⟩;grind
     obtain⟨a,X,E⟩:=b
     obtain⟨rc,A,B⟩:=DV (place:=λk=>a.toArray[k]?) (ti:=ti) hC (by
      intro k Y ft l Z H;rw[e]at l;simp only[y,List.getElem?_map,Option.map_eq_some_iff,Prod.mk.injEq]at l;obtain⟨f,hf,rfl,rfl⟩:=l;obtain⟨i2,hi2,hp2⟩:=E k f hf;have:=(hC.ty _ Z H).Xe
      grind) (ps':=ps'.toList) (by omega) (λj p q J hq=>hr j p q J (by grind)) u s
     grind[Program.built]
    |array n el=>
     rw[e]at m;have m:d=.array n el:=m;subst m;cases K:C.T el with
     |none=>grind[buildable]
     |some te=>
      have L:=hC.ty el te K;obtain⟨N,_,hie,O,_⟩:=L.info
      obtain⟨rc,A,B⟩:=DV (place:=λk=>some (k*N.size,N.size)) (ti:=ti) hC (by
       grind) (ps':=ps'.toList) (by omega) (λj p q J hq=>hr j p q J (by grind)) u s
      grind[Program.built]
    |_=>rw[e]at o;simp[buildable]at o
   obtain⟨rc,A,B⟩:=x;exact⟨rfl,.agg rc,run_build G.w t ps' rc A,B.agg⟩
  ·cases h
 ·cases h
end
namespace Tr
variable {α β:Type}
theorem vP(x : α):∀(f n:Nat)(t:Tr α) {γ:Type} (k:Tr α->γ),ins x f n t k=k (ins x f n t id)
 |0,_,_,_,_=>by rfl
 |f+1,n,.leaf,_,k=>by
  cases n with
  |zero=>simp[ins]
  |succ m=>
   simp only[ins];split;·rw[vP x f (m / 2) .leaf,vP x f (m / 2) .leaf (λl=>id (Tr.node l none .leaf))];rfl
   ·rw[vP x f (m / 2) .leaf,vP x f (m / 2) .leaf (λr=>id (Tr.node .leaf none r))];rfl
 |f+1,n,.node l v r,_,k=>by
  cases n with
  |zero=>simp[ins]
  |succ m=>
   simp only[ins];split;·rw[vP x f (m / 2) l,vP x f (m / 2) l (λl=>id (Tr.node l v r))];rfl
   ·rw[vP x f (m / 2) r,vP x f (m / 2) r (λq=>id (Tr.node l v q))];rfl
theorem Ow(n:Nat):(Tr.leaf:Tr α).get n=none:=by rfl
theorem AX(x : α):∀(f n:Nat)(t:Tr α) (m:Nat),n<f->(ins x f n t id).get m=if m=n then some x else t.get m
 |0,_,_,_,h=>by omega
 |f+1,n,.leaf,m,h=>by
  cases n with
  |zero=>
   simp only[ins,id];cases m with
   |zero=>simp[get]
   |succ m=>simp only[get];split<;>simp[get]
  |succ n=>
   (simp only[ins];have d:n / 2<f:=by omega);split
   ·rename_i b;rw[vP];simp only[id];cases m with
    |zero=>simp[get]
    |succ m=>
     simp only[get];split
     ·rename_i a;rw[AX x f (n / 2) .leaf (m / 2) d];simp only[Nat.beq_eq]at b a;by_cases e:m=n;·subst e;simp
      ·rw[if_neg (by omega),if_neg (by omega)];simp[Ow]
     ·rename_i a
      have:¬(m+1=n+1):=by
       intro e;have:m=n:=by omega
       subst this;rw[b]at a;cases a
      rw[if_neg this]
   ·rename_i b;rw[vP];simp only[id];cases m with
    |zero=>simp[get]
    |succ m=>
     simp only[get];split
     ·rename_i a
      have:¬(m+1=n+1):=by
       intro e;have:m=n:=by omega
       subst this;rw[b]at a;cases a
      rw[if_neg this]
     ·rename_i a;rw[AX x f (n / 2) .leaf (m / 2) d];have g:n % 2≠0:=by intro c;rw[c]at b;cases b
      (have i:m % 2≠0:=by intro c;rw[c]at a;cases a);by_cases e:m=n;·subst e;simp
      ·rw[if_neg (by omega),if_neg (by omega)];simp[Ow]
 |f+1,n,.node l v r,m,h=>by
  cases n with
  |zero=>
   simp only[ins,id];cases m with
   |zero=>simp[get]
   |succ m=>simp[get]
  |succ n=>
   (simp only[ins];have d:n / 2<f:=by omega);split
   ·rename_i b;rw[vP];simp only[id];cases m with
    |zero=>simp[get]
    |succ m=>
     simp only[get];split
     ·rename_i a;rw[AX x f (n / 2) l (m / 2) d];simp only[Nat.beq_eq]at b a;by_cases e:m=n;·subst e;simp
      ·rw[if_neg (by omega),if_neg (by omega)]
     ·rename_i a
      have:¬(m+1=n+1):=by
       intro e;have:m=n:=by omega
       subst this;rw[b]at a;cases a
      rw[if_neg this]
   ·rename_i b;rw[vP];simp only[id];cases m with
    |zero=>simp[get]
    |succ m=>
     simp only[get];split
     ·rename_i a
      have:¬(m+1=n+1):=by
       intro e;have:m=n:=by omega
       subst this;rw[b]at a;cases a
      rw[if_neg this]
     ·rename_i a;rw[AX x f (n / 2) r (m / 2) d];have g:n % 2≠0:=by intro c;rw[c]at b;cases b
      (have i:m % 2≠0:=by intro c;rw[c]at a;cases a);by_cases e:m=n;·subst e;simp
      ·rw[if_neg (by omega),if_neg (by omega)]
end Tr
theorem aT.FD(h:aT)(b:Nat)(o:nR):h.set b o=⟨h.tr.ins o (b+1) b id,h.size,h.lo,h.ca⟩:=by grind[aT.set,YX,Tr.vP]
theorem aT.CZ(h:aT)(o:nR):h.push o=⟨h.tr.ins o (h.size+1) h.size id,h.size+1,h.lo,h.ca⟩:=by grind[aT.push,YX,sj,Tr.vP]
theorem aT.pa(h:aT)(b b':Nat)(o:nR):(h.set b o).get b'=if b'=b/\h.lo<=b then some o else h.get b':=by
 rw[aT.FD];simp only[aT.get];by_cases a:h.lo<=b';·rw[Nat.ble_eq_true_of_le a];grind[Tr.AX]
 ·have:Nat.ble h.lo b'=false:=by
   cases c:Nat.ble h.lo b' with
   |false=>rfl
   |true=>exact absurd (anu c) a
  grind
theorem aT.uH(h:aT)(b':Nat)(o:nR)(hlo:h.lo<=h.size):(h.push o).get b'=if b'=h.size then some o else h.get b':=by
 rw[aT.CZ];simp only[aT.get];by_cases a:h.lo<=b';·rw[Nat.ble_eq_true_of_le a];grind[Tr.AX]
 ·have:Nat.ble h.lo b'=false:=by
   cases b:Nat.ble h.lo b' with
   |false=>rfl
   |true=>exact absurd (anu b) a
  grind
@[simp] theorem aT.size_push(h:aT)(o:nR):(h.push o).size=h.size+1:=by rw[aT.CZ]
@[simp] theorem aT.abW(h:aT)(o:nR):(h.push o).lo=h.lo:=by rw[aT.CZ]
@[simp] theorem aT.akB(h:aT)(o:nR):(h.push o).ca=h.ca:=by rw[aT.CZ]
@[simp] theorem aT.size_set(h:aT)(b:Nat)(o:nR):(h.set b o).size=h.size:=by rw[aT.FD]
@[simp] theorem aT.am8(h:aT)(b:Nat)(o:nR):(h.set b o).lo=h.lo:=by rw[aT.FD]
@[simp] theorem aT.ale(h:aT)(b:Nat)(o:nR):(h.set b o).ca=h.ca:=by rw[aT.FD]
theorem aT.qZ{h:aT}{b:Nat}{o:nR}(e:h.get b=some o):h.lo<=b:=by unfold aT.get at e;split at e<;>simp_all
class DD where
 d:Prop
instance d0:DD:=⟨False⟩
variable [DD]
def y5(w w':World):Prop:=w'.tape=w.tape/\(DD.d->w.drawn<=w'.drawn)
theorem y5.rfl(w:World):y5 w w:=⟨Eq.refl _,λ_=>abs _⟩
theorem y5.trans{u v w:World}(k:y5 v w)(h:y5 u v):y5 u w:=⟨k.1.trans h.1,λd=>anh (h.2 d) (k.2 d)⟩
structure Step(G G':Ga):Prop where
 ext:Ext G G'
 os:G'.w.os=G.w.os
 output:G'.w.output=G.w.output
 tape:y5 G.w G'.w
 py:G.w.heap.size<=G'.w.heap.size
 frame:∀B,B<G.w.heap.size->(∀b l,G.pi b=some l->l.B≠B)->(∀d B',G.L d=some B'->B'≠B)->G'.w.heap[B]?=G.w.heap[B]?
 si:∀b l',G'.pi b=some l'->(∃l,G.pi b=some l/\l.B=l'.B)\/G.w.heap.size<=l'.B
 tC:∀b l',G'.pi b=some l'->(G.pi b).isSome=true\/G.h.size<=b
 yK:∀s B,G'.T s B->G.T s B\/G.w.heap.size<=B
 lo:G'.h.lo=G.h.lo
 out:∀b,b<G.h.size->G.pi b=none->G'.h.get b=G.h.get b
 w7:∀d B,G'.L d=some B->G.L d=some B\/G.w.heap.size<=B
 yL:∀d B,G'.L d=some B->(G.L d).isSome=true\/nE G.h.ca d=none
 y3:∀d c,G.L d=none->nE G.h.ca d=some c->nE G'.h.ca d=some c
def Step.refl(G:Ga):Step G G where
 ext:=.refl G
 os:=rfl
 output:=rfl
 tape:=.rfl _
 py:=abs _
 frame:=λ_ _ _ _=>rfl
 si:=λ_ l h=>.inl ⟨l,h,rfl⟩
 tC:=λ_ _ h=>.inl (by simp[h])
 yK:=λ_ _ h=>.inl h
 lo:=rfl
 out:=λ_ _ _=>rfl
 w7:=λ_ _ h=>.inl h
 yL:=λ_ _ h=>.inl (by simp[h])
 y3:=λ_ _ _ h=>h
theorem Step.trans{A B C:Ga}(h:Step A B)(k:Step B C):Step A C where
 ext:=h.ext.trans k.ext
 os:=k.os.trans h.os
 output:=k.output.trans h.output
 tape:=k.tape.trans h.tape
 py:=anh h.py k.py
 frame:=by
  intro X m r t;rw[k.frame X (Nat.lt_of_lt_of_le m h.py),h.frame X m r t];·intro b l g;rcases h.si b l g with⟨n,f,e⟩|a<;>grind
  ·intro d B' i;rcases h.w7 d B' i with f|a<;>grind
 si:=by
  intro b l g;rcases k.si b l g with⟨n,f,e⟩|a
  ·rcases h.si b n f with⟨w,x,y⟩|a<;>grind
  ·exact .inr (anh h.py a)
 tC:=by
  intro b l g;rcases k.tC b l g with f|a
  ·obtain⟨n,f⟩:=ani.1 f;exact h.tC b n f
  ·exact .inr (anh h.ext.size a)
 yK:=by
  intro s X m;rcases k.yK s X m with f|a
  ·exact h.yK s X f
  ·exact .inr (anh h.py a)
 lo:=k.lo.trans h.lo
 out:=by
  intro b q o
  have p:B.pi b=none:=by
   cases j:B.pi b with
   |none=>rfl
   |some l=>rcases h.tC b l j with f|a<;>grind
  rw[k.out b (Nat.lt_of_lt_of_le q h.ext.size) p,h.out b q o]
 w7:=by
  intro d X i;rcases k.w7 d X i with f|a
  ·exact h.w7 d X f
  ·exact .inr (anh h.py a)
 yL:=by
  intro d X i;rcases k.yL d X i with f|f
  ·obtain⟨Y,u⟩:=ani.1 f;exact h.yL d Y u
  ·cases j:nE A.h.ca d with
   |none=>simp
   |some c=>
    cases g:A.L d with
    |some Y=>simp
    |none=>rw[h.y3 d c g j]at f;cases f
 y3:=by
  intro d c o i
  have p:B.L d=none:=by
   cases j:B.L d with
   |none=>rfl
   |some Y=>rcases h.yL d Y j with f|f<;>grind
  exact k.y3 d c p (h.y3 d c o i)
def tc.mono{G G':Ga}{l:Loc}{z:Nat}{xs:List (List AV)}(h:tc G l z xs)(E:Ext G G')(hw:G'.w.heap[l.B]?=G.w.heap[l.B]?):tc G' l z xs:=by obtain⟨c,e,q,f,g,k,m⟩:=h;refine⟨c,e,by grind,f,g,k,?_⟩;intro i n j x o p;obtain⟨v,a,b,d⟩:=m i n j x o p;exact⟨v,a,b,d.mono E⟩
def yE.mono{G G':Ga}{r:Nat}{es:List (AV×AV×Nat)}{c:Nat}(h:yE G r es c)(E:Ext G G')(hw:G'.w.heap[r]?=G.w.heap[r]?):yE G' r es c:=by obtain⟨f,n,g,j,k⟩:=h;refine⟨f,by grind,g,j,?_⟩;intro i p e l m;obtain⟨a,b,c,d⟩:=k i p e l m;exact⟨a,b.mono E.T E.keep,c.mono E,d⟩
def Cc.mono{G G':Ga}{B:Nat}{cs:List AV}(h:Cc G B cs)(E:Ext G G')(hw:G'.w.heap[B]?=G.w.heap[B]?):Cc G' B cs:=by obtain⟨c,e,a,b,d,f⟩:=h;exact⟨c,e,by rw[hw];exact a,b,λi x v g j=>(d i x v g j).mono E,f⟩
end Go.Sx
namespace Go.Sx
open Go
variable [DD]
structure pe(w w':World)(o:Obj):Prop where
 heap:w'.heap=w.heap.push o
 os:w'.os=w.os
 output:w'.output=w.output
 tape:y5 w w'
section
variable {P:Program}{C:nu}{G:Ga}{w':World}{o:Obj}
theorem pe.alloc(w:World)(o:Obj):pe w (w.alloc o) o:=⟨rfl,rfl,rfl,rfl,λ_=>abs _⟩
theorem pe.drew(w:World)(o:Obj):pe w (w.drew.alloc o) o:=⟨rfl,rfl,rfl,rfl,λ_=>anF _⟩
theorem pe.size(h:pe G.w w' o):w'.heap.size=G.w.heap.size+1:=by rw[h.heap];simp
def pe.yT(h:pe G.w w' o){B:Nat}(hB:B<G.w.heap.size):w'.heap[B]?=G.w.heap[B]?:=by rw[h.heap,Array.getElem?_push,if_neg (by omega)]
def pe.new(h:pe G.w w' o):w'.heap[G.w.heap.size]?=some o:=by rw[h.heap,Array.getElem?_push,if_pos rfl]
def rp{α:Type}(f:Nat->α)(n:Nat)(v : α):Nat->α:=λm=>if m=n then v else f m
theorem pD{α:Type}(f:Nat->α)(n:Nat)(v : α):rp f n v n=v:=by simp[rp]
theorem sr{α:Type}{f:Nat->α}{n m:Nat}{v : α}(h:m≠n):rp f n v m=f m:=by simp[rp,h]
theorem WR.keep(hW:WR G){G':Ga}(E:Ext G G')(hold:∀B,B<G.w.heap.size->G'.w.heap[B]?=G.w.heap[B]?) :
  (∀b l g z xs,G.pi b=some l->G.h.get b=some (.lU g z xs)->tc G' l z xs)/\(∀b l es c,G.pi b=some l->G.h.get b=some (.map es c)->yE G' l.B es c) /\
  (∀d B cs,G.L d=some B->nE G.h.ca d=some cs->Cc G' B cs) :=
 ⟨λb l _ _ _ a e=>(hW.lU b l _ _ _ a e).mono E (hold _ (hW.oW b l a).1),λb l _ _ a e=>(hW.map b l _ _ a e).mono E (hold _ (hW.oW b l a).1),
   λd B cs f i=>(hW.loc d B cs f i).mono E (hold _ (hW.qL d B f).1)⟩
def Ig(hW:WR G){b:Nat}(h:G.h.size<=b):G.pi b=none:=by
 cases a:G.pi b with
 |none=>rfl
 |some l=>have:=(hW.oW b l a).2;omega
structure z7(G G':Ga)(bs ds:Nat->Prop):Prop where
 ext:Ext G G'
 os:G'.w.os=G.w.os
 output:G'.w.output=G.w.output
 tape:y5 G.w G'.w
 py:G.w.heap.size<=G'.w.heap.size
 frame:∀B,B<G.w.heap.size->G'.w.heap[B]?=G.w.heap[B]?
 si:∀b l',G'.pi b=some l'->G.pi b=some l'\/G.w.heap.size<=l'.B
 tC:∀b l',G'.pi b=some l'->(G.pi b).isSome=true\/bs b
 T:G'.T=G.T
 h:G'.h=G.h
 w7:∀d B,G'.L d=some B->G.L d=some B\/G.w.heap.size<=B
 yL:∀d B,G'.L d=some B->(G.L d).isSome=true\/ds d
theorem Step.fill{A B D:Ga}{bs ds:Nat->Prop}(h:Step A B)(k:z7 B D bs ds)(hb:∀b,bs b->A.h.size<=b)(hd:∀d,ds d->nE A.h.ca d=none):Step A D where
 ext:=h.ext.trans k.ext
 os:=k.os.trans h.os
 output:=k.output.trans h.output
 tape:=k.tape.trans h.tape
 py:=anh h.py k.py
 frame:=by intro X e n o;rw[k.frame X (Nat.lt_of_lt_of_le e h.py),h.frame X e n o]
 si:=by
  intro b l g;rcases k.si b l g with a|f
  ·exact h.si b l a
  ·exact .inr (anh h.py f)
 tC:=by
  intro b l g;rcases k.tC b l g with a|a
  ·obtain⟨p,a⟩:=ani.1 a;exact h.tC b p a
  grind
 yK:=by intro s X e;rw[k.T]at e;exact h.yK s X e
 lo:=by rw[k.h];exact h.lo
 out:=by intro b i j;rw[k.h];exact h.out b i j
 w7:=by
  intro d X e;rcases k.w7 d X e with a|f
  ·exact h.w7 d X a
  ·exact .inr (anh h.py f)
 yL:=by
  intro d X e;rcases k.yL d X e with a|a
  ·obtain⟨Y,q⟩:=ani.1 a;exact h.yL d Y q
  grind
 y3:=by intro d c j m;rw[k.h];exact h.y3 d c j m
def Lk(hW:WR G)(ob:nR):Step G ⟨G.w,G.T,G.h.push ob,G.pi,G.L⟩/\WR ⟨G.w,G.T,G.h.push ob,G.pi,G.L⟩:=by
 have i:∀b,(G.h.push ob).get b=if b=G.h.size then some ob else G.h.get b:=λb=>aT.uH _ _ _ hW.lo
 have f:∀b l,G.pi b=some l->b≠G.h.size:=by intro b l a;have:=(hW.oW b l a).2;omega
 have E:Ext G ⟨G.w,G.T,G.h.push ob,G.pi,G.L⟩:=by refine⟨λ_ _ h=>h,λ_ _ _=>rfl,by simp,?_,?_,λ_ _ h=>h⟩<;>grind
 refine⟨⟨E,rfl,rfl,.rfl _,abs _,λ_ _ _ _=>rfl,λb l h=>.inl ⟨l,h,rfl⟩,λb l h=>.inl (ani.2 ⟨l,h⟩),λ_ _ h=>.inl h,by simp,?_,λ_ _ h=>.inl h,λ_ _ h=>.inl (ani.2 ⟨_,h⟩),?_⟩,?_⟩;·grind
 ·simp
 ·constructor;·intro b l g z m a h;simp only[i]at h;rw[if_neg (f b l a)]at h;exact(hW.lU b l g z m a h).mono E rfl
  ·intro b l n c a h;simp only[i]at h;rw[if_neg (f b l a)]at h;exact(hW.map b l n c a h).mono E rfl
  ·intro d B o j p;exact(hW.loc d B o j (by simp_all)).mono E rfl
  ·intro b l a;have:=hW.oW b l a;exact⟨this.1,by simp;omega⟩
  ·exact hW.rY
  ·exact hW.w0
  ·exact hW.uI
  ·exact hW.LT
  ·exact hW.u7
  ·intro d B j;have:=hW.qL d B j;simp_all
  ·exact hW.sB
  ·simp only[aT.abW,aT.size_push];have:=hW.lo;omega
  ·intro b k h;simp only[i]at h;simp only[aT.size_push];by_cases e:b=G.h.size;·omega
   ·rw[if_neg e]at h;have:=hW.lt b k h;omega
def ady(hW:WR G){d:Nat}(cs:List AV)(hd:nE G.h.ca d=none):Step G ⟨G.w,G.T,{ G.h with ca:=(d,cs)::G.h.ca },G.pi,G.L⟩/\WR ⟨G.w,G.T,{ G.h with ca:=(d,cs)::G.h.ca },G.pi,G.L⟩:=by
 have m:∀x,nE ((d,cs)::G.h.ca) x=if x=d then some cs else nE G.h.ca x:=by
  intro x;simp only[nE];cases n:Nat.beq x d with
  |true=>simp_all
  |false=>rw[if_neg (Nat.ne_of_beq_eq_false n)]
 have e:∀x B,G.L x=some B->x≠d:=by rintro x B f rfl;have:=(hW.qL x B f).2;grind
 have E:Ext G ⟨G.w,G.T,{ G.h with ca:=(d,cs)::G.h.ca },G.pi,G.L⟩ :=
  ⟨λ_ _ h=>h,λ_ _ _=>rfl,abs _,λ_ _ g z i h=>⟨g,z,i,h,abs _,λ_=>⟨rfl,λ_ h=>h⟩⟩,λ_ _ j c h=>⟨j,c,h,λ_ h=>h⟩,λ_ _ h=>h⟩
 refine⟨⟨E,rfl,rfl,.rfl _,abs _,λ_ _ _ _=>rfl,λb l h=>.inl ⟨l,h,rfl⟩,λb l h=>.inl (ani.2 ⟨l,h⟩),λ_ _ h=>.inl h,rfl,λ_ _ _=>rfl,λ_ _ h=>.inl h,λ_ _ h=>.inl (ani.2 ⟨_,h⟩),?_⟩,?_⟩;·grind
 ·constructor;·exactλb l g z i k h=>(hW.lU b l g z i k h).mono E rfl
  ·exactλb l j c k h=>(hW.map b l j c k h).mono E rfl
  ·intro x B o a f;simp only[m]at f;rw[if_neg (e x B a)]at f;exact(hW.loc x B o a f).mono E rfl
  ·exact hW.oW
  ·exact hW.rY
  ·exact hW.w0
  ·exact hW.uI
  ·exact hW.LT
  ·exact hW.u7
  ·intro x B a;refine⟨(hW.qL x B a).1,?_⟩;simp only[m];rw[if_neg (e x B a)];exact(hW.qL x B a).2
  ·exact hW.sB
  ·exact hW.lo
  ·exact hW.lt
def Bt(hW:WR G){b0:Nat}{ob:nR}{cap:Nat}(hA:pe G.w w' o)(hget:G.h.get b0=some ob)(hn:G.pi b0=none)
  (hblk:∀g z xs,ob=.lU g z xs->∀G',Ext G G'->G'.w.heap[G.w.heap.size]?=some o->tc G' ⟨G.w.heap.size,0,cap⟩ z xs)
  (hmap:∀es c,ob=.map es c->∀G',Ext G G'->G'.w.heap[G.w.heap.size]?=some o->yE G' G.w.heap.size es c) :
  z7 G ⟨w',G.T,G.h,rp G.pi b0 (some ⟨G.w.heap.size,0,cap⟩),G.L⟩ (·=b0) (λ_=>False)/\WR ⟨w',G.T,G.h,rp G.pi b0 (some ⟨G.w.heap.size,0,cap⟩),G.L⟩:=by
 have r:∀b l,G.pi b=some l->b≠b0:=by grind
 have j:∀b l,G.pi b=some l->rp G.pi b0 (some ⟨G.w.heap.size,0,cap⟩) b=some l:=by grind[sr]
 have E:Ext G ⟨w',G.T,G.h,rp G.pi b0 (some ⟨G.w.heap.size,0,cap⟩),G.L⟩ :=
  ⟨λ_ _ h=>h,λs B f=>hA.yT (hW.sB s B f),abs _,λb _ g z xs h=>⟨g,z,xs,h,abs _,λ_=>⟨rfl,j b⟩⟩,λb _ es c h=>⟨es,c,h,j b⟩,λ_ _ h=>h⟩
 obtain⟨k1,k2,k3⟩:=hW.keep E (λB f=>hA.yT f);have a:∀b l,rp G.pi b0 (some ⟨G.w.heap.size,0,cap⟩) b=some l->(b=b0/\l=⟨G.w.heap.size,0,cap⟩)\/(b≠b0/\G.pi b=some l):=by grind[pD,sr]
 refine⟨⟨E,hA.os,hA.output,hA.tape,by rw[hA.size];omega,λB f=>hA.yT f,?_,?_,rfl,rfl,λ_ _ h=>.inl h,λ_ _ h=>.inl (ani.2 ⟨_,h⟩)⟩,?_⟩;·grind
 ·grind
 ·have n:w'.heap[G.w.heap.size]?=some o:=hA.new;constructor;·grind
  ·grind
  ·exact k3
  ·intro b l e;rcases a b l e with⟨rfl,rfl⟩|⟨_,e⟩
   ·exact⟨by grind,hW.lt _ _ hget⟩
   ·have:=hW.oW b l e;grind
  ·intro b b' l l' e k t;rcases a b l e with⟨rfl,rfl⟩|⟨_,p⟩
   ·rcases a b' l' k with⟨rfl,rfl⟩|⟨_,i⟩
    ·rfl
    ·have:=(hW.oW b' l' i).1;grind
   ·rcases a b' l' k with⟨rfl,rfl⟩|⟨_,i⟩
    ·have:=(hW.oW b l p).1;grind
    ·exact hW.rY b b' l l' p i t
  ·intro s b l e q;rcases a b l e with⟨rfl,rfl⟩|⟨_,e⟩
   ·have:=hW.sB s _ q;grind
   ·exact hW.w0 s b l e q
  ·exact hW.uI
  ·exact hW.LT
  ·intro d B b l m e;rcases a b l e with⟨rfl,rfl⟩|⟨_,e⟩
   ·have:=(hW.qL d B m).1;grind
   ·exact hW.u7 d B b l m e
  ·intro d B m;have:=hW.qL d B m;grind
  ·intro s B f;have:=hW.sB s B f;grind
  ·exact hW.lo
  ·exact hW.lt
def VP(hW:WR G){d:Nat}{cs:List AV}{c:Array Value}{e:TypeId}(hA:pe G.w w' (.cells c e))(hget:nE G.h.ca d=some cs)(hn:G.L d=none)(hc:CR G cs c) :
  z7 G ⟨w',G.T,G.h,G.pi,rp G.L d (some G.w.heap.size)⟩ (λ_=>False) (·=d)/\WR ⟨w',G.T,G.h,G.pi,rp G.L d (some G.w.heap.size)⟩:=by
 have p:∀x B,G.L x=some B->rp G.L d (some G.w.heap.size) x=some B:=by grind[sr]
 have E:Ext G ⟨w',G.T,G.h,G.pi,rp G.L d (some G.w.heap.size)⟩ :=
  ⟨λ_ _ h=>h,λs B k=>hA.yT (hW.sB s B k),abs _,λb _ g z C h=>⟨g,z,C,h,abs _,λ_=>⟨rfl,λ_ h=>h⟩⟩,λb _ D c h=>⟨D,c,h,λ_ h=>h⟩,p⟩
 obtain⟨k1,k2,k3⟩:=hW.keep E (λB k=>hA.yT k);have f:∀x B,rp G.L d (some G.w.heap.size) x=some B->(x=d/\B=G.w.heap.size)\/(x≠d/\G.L x=some B):=by grind[pD,sr]
 refine⟨⟨E,hA.os,hA.output,hA.tape,by rw[hA.size];omega,λB k=>hA.yT k,λ_ _ h=>.inl h,λ_ _ h=>.inl (ani.2 ⟨_,h⟩),rfl,rfl,?_,?_⟩,?_⟩;·grind
 ·grind
 ·have q:∀n,n<G.w.heap.size->n<w'.heap.size:=λn hn=>by rw[hA.size];omega
  constructor;·exact k1
  ·exact k2
  ·intro x B cx j o;rcases f x B j with⟨rfl,rfl⟩|⟨_,j⟩
   ·have o:nE G.h.ca x=some cx:=o;rw[hget]at o;cases o;exact⟨c,_,hA.new,hc.len.symm,λi a v F H=>(hc.rel i a v F H).mono E,hc.one⟩
   grind
  ·intro b l h;exact⟨q _ (hW.oW b l h).1,(hW.oW b l h).2⟩
  ·exact hW.rY
  ·exact hW.w0
  ·intro x y B j r;rcases f x B j with⟨rfl,rfl⟩|⟨_,t⟩
   ·rcases f y _ r with⟨rfl,_⟩|⟨_,m⟩
    ·rfl
    ·have:=(hW.qL y _ m).1;omega
   ·rcases f y B r with⟨rfl,rfl⟩|⟨_,m⟩
    ·have:=(hW.qL x _ t).1;omega
    ·exact hW.uI x y B t m
  ·intro s x B j u;rcases f x B j with⟨rfl,rfl⟩|⟨_,j⟩
   ·have:=hW.sB s _ u;omega
   ·exact hW.LT s x B j u
  ·intro x B b l j A;rcases f x B j with⟨rfl,rfl⟩|⟨_,j⟩
   ·have:=(hW.oW b l A).1;omega
   ·exact hW.u7 x B b l j A
  ·intro x B j;rcases f x B j with⟨rfl,rfl⟩|⟨_,j⟩
   ·exact⟨by rw[hA.size];simp,by grind⟩
   ·exact⟨q _ (hW.qL x B j).1,(hW.qL x B j).2⟩
  ·intro s B k;exact q _ (hW.sB s B k)
  ·exact hW.lo
  ·exact hW.lt
def HF(hW:WR G){ob:nR}{cap:Nat}(hA:pe G.w w' o)
  (hblk:∀g z xs,ob=.lU g z xs->∀G',Ext G G'->G'.w.heap[G.w.heap.size]?=some o->tc G' ⟨G.w.heap.size,0,cap⟩ z xs)
  (hmap:∀es c,ob=.map es c->∀G',Ext G G'->G'.w.heap[G.w.heap.size]?=some o->yE G' G.w.heap.size es c) :
  Step G ⟨w',G.T,G.h.push ob,rp G.pi G.h.size (some ⟨G.w.heap.size,0,cap⟩),G.L⟩/\WR ⟨w',G.T,G.h.push ob,rp G.pi G.h.size (some ⟨G.w.heap.size,0,cap⟩),G.L⟩:=by
 obtain⟨a,d⟩:=Lk hW ob
 obtain⟨f,i⟩:=Bt (cap:=cap) (b0:=G.h.size) (ob:=ob) d hA (by simp only;rw[aT.uH _ _ _ hW.lo,if_pos rfl]) (Ig hW (abs _))
  (λg z xs e G' E b=>hblk g z xs e G' (a.ext.trans E) b) (λes c e G' E b=>hmap es c e G' (a.ext.trans E) b)
 exact⟨a.fill f (by omega) (λ_ h=>h.elim),i⟩
def Vs(hW:WR G)(hA:pe G.w w' o) :
  Step G ⟨w',λs B=>G.T s B\/B=G.w.heap.size,G.h,G.pi,G.L⟩/\WR ⟨w',λs B=>G.T s B\/B=G.w.heap.size,G.h,G.pi,G.L⟩:=by
 have E:Ext G ⟨w',λs B=>G.T s B\/B=G.w.heap.size,G.h,G.pi,G.L⟩:=by refine⟨λ_ _ h=>.inl h,λs B a=>hA.yT (hW.sB s B a),abs _,?_,?_,?_⟩<;>grind
 obtain⟨k1,k2,k3⟩:=hW.keep E (λB a=>hA.yT a);refine⟨⟨E,hA.os,hA.output,hA.tape,by rw[hA.size];omega,λB a _ _=>hA.yT a,λb l h=>.inl ⟨l,h,rfl⟩,λ_ l h=>.inl (ani.2 ⟨l,h⟩),?_,rfl,λ_ _ _=>rfl,λ_ _ h=>.inl h,λ_ _ h=>.inl (ani.2 ⟨_,h⟩),λ_ _ _ h=>h⟩,?_⟩;·grind
 ·have e:∀n,n<G.w.heap.size->n<w'.heap.size:=λn f=>by rw[hA.size];omega
  exact⟨k1,k2,k3,λb l h=>⟨e _ (hW.oW b l h).1,(hW.oW b l h).2⟩,hW.rY,
   λs b l h=>by
    rintro(c|he);·exact hW.w0 s b l h c
    ·have:=(hW.oW b l h).1;omega,
   hW.uI,
   λs d B h=>by
    rintro(c|he);·exact hW.LT s d B h c
    ·have:=(hW.qL d B h).1;omega,
   hW.u7,λd B h=>⟨e _ (hW.qL d B h).1,(hW.qL d B h).2⟩,
   λs B=>by
    rintro(c|rfl);·exact e _ (hW.sB s B c)
    ·simp only;rw[hA.size];omega,
   hW.lo,hW.lt⟩
end
end Go.Sx
namespace Go.Sx
open Go
variable [DD]
def wP(P:Program)(G:Ga)(s:Sem Value)(r:AV×aT):Prop :=
 ∃u G',s.run P G.w=.ok u G'.w/\G'.h=r.2/\Step G G'/\WR G'/\VR G' r.1 u
section
variable {P:Program}{C:nu}{G:Ga}{t:Nat}{ti:TI}
theorem rT.makes(hW:WR G){s:Sem Value}{r:AV×aT}(h:rT P G s r):wP P G s r:=by obtain⟨a,u,b,c⟩:=h;exact⟨u,G,b,a.symm,.refl G,hW,c⟩
inductive vS where
 |obj (ob:nR)
 |loc (d:Nat) (cs:List AV)
 |none
def vS.on(h:aT):vS->aT
 |.obj ob=>h.push ob
 |.loc d cs=>{ h with ca:=(d,cs)::h.ca }
 |.none=>h
def xA(P:Program)(s:Sem Value)(G:Ga)(n:Nat)(v:AV):vS->Prop
 |.obj ob=>G.h.get n=some ob->G.pi n=none->∃u G',s.run P G.w=.ok u G'.w/\z7 G G' (·=n) (λ_=>False)/\WR G'/\VR G' v u
 |.loc d cs=>nE G.h.ca d=some cs->G.L d=none->∃u G',s.run P G.w=.ok u G'.w/\z7 G G' (λ_=>False) (·=d)/\WR G'/\VR G' v u
 |.none=>∃u G',s.run P G.w=.ok u G'.w/\Step G G'/\G'.h=G.h/\WR G'/\VR G' v u
theorem xA.makes(hW:WR G){s:Sem Value}{v:AV}{E:vS}(hl:∀d cs,E=.loc d cs->nE G.h.ca d=none)(H:∀V,Ext G V->V.w=G.w->WR V->xA P s V G.h.size v E):wP P G s (v,E.on G.h):=by
 cases E with
 |obj ob=>obtain⟨a,b⟩:=Lk hW ob;obtain⟨u,G',k1,k2,k3,k4⟩:=H _ a.ext rfl b (by simp only;rw[aT.uH _ _ _ hW.lo,if_pos rfl]) (Ig hW (abs _));exact⟨u,G',k1,k2.h,a.fill k2 (by omega) (λ_ h=>h.elim),k3,k4⟩
 |loc d cs=>
  have c:=hl d cs rfl;obtain⟨a,b⟩:=ady hW cs c
  have e:G.L d=none:=by
   cases f:G.L d with
   |none=>rfl
   |some B=>have:=(hW.qL d B f).2;grind
  obtain⟨u,G',k1,k2,k3,k4⟩:=H _ a.ext rfl b (by simp[nE]) e;exact⟨u,G',k1,k2.h,a.fill k2 (λ_ h=>h.elim) (by grind),k3,k4⟩
 |none=>obtain⟨u,G',k1,k2,k3,k4,k5⟩:=H G (.refl G) rfl hW;exact⟨u,G',k1,k3,k2,k4,k5⟩
def GW{fa:lg}{d:Nat}{h0:aT}{cs:List AV}{r:AV×aT}(h:Sx.newVar fa d h0 cs=some r) :
  ∃E:vS,r.2=E.on h0/\(∀d cs,E=.loc d cs->nE h0.ca d=none)/\∀G (v':Value) (el:Nat),WR G->CR G cs v'.cells->xA P (do pure (.pointer (some (<- Go.newVar el v')))) G h0.size r.1 E:=by
 have b:∀(v':Value) (el:Nat) (w:World),(do pure (Value.pointer (some (<- Go.newVar el v'))):Sem Value).run P w=.ok (.pointer (some ⟨w.heap.size,0,none⟩)) (w.alloc (.cells v'.cells el)):=by simp_all[Go.newVar,newRow]
 unfold Sx.newVar at h;split at h
 ·split at h;·rename_i A;cases h;refine⟨.loc d cs,rfl,by grind,?_⟩;intro G v' el m k a s;obtain⟨n,f⟩:=VP m (pe.alloc G.w (.cells v'.cells el)) a s k;exact⟨_,_,b v' el G.w,n,f,.la d 0 _ (pD _ _ _)⟩
  ·cases h
 ·cases h;refine⟨.obj (.lU 0 cs.length [cs]),rfl,by simp,?_⟩;intro G v' el m k a o
  obtain⟨n,f⟩:=Bt (cap:=1) m (pe.alloc G.w (.cells v'.cells el)) a o (by
   intro g z t e G' E l;cases e;refine⟨v'.cells,el,l,by simp,by simp[k.len],?_,?_⟩;·grind
   ·intro i c j x p u;cases i with
    |zero=>
     (simp at p;subst p;have y:j<v'.cells.size:=by rw[<- k.len];grind);have q:v'.cells[j]?=some v'.cells[j]:=by simp
     exact⟨v'.cells[j],by simp,k.one j _ q,(k.rel j x _ u q).mono E⟩
    |succ i=>simp at p) (by simp)
  refine⟨_,_,b v' el G.w,n,f,?_⟩;refine .ptr _ 0 0 0 _ (m.lt _ _ a) (λB z t _=>ang _) ?_;grind[pD]
def Ib(hC:nV P C){fa:lg}{dst:Option Nat}{h0:aT}{r:AV×aT}(h:I7 C fa dst h0 t=some r) :
  ∃E:vS,r.2=E.on h0/\(∀d cs,E=.loc d cs->nE h0.ca d=none)/\∀G,WR G->xA P (Instr.alloc t true (.tuple #[])) G h0.size r.1 E:=by
 unfold I7 at h;split at h
 ·rename_i ti e;split at h
  ·rename_i d;obtain⟨E,g,j,k⟩:=GW (P:=P) h;refine⟨E,g,j,?_⟩;intro G l;obtain⟨i,z,m,n,f,_⟩:=(hC.ty t ti e).BC (G:=G);have c:(Instr.alloc t true (.tuple #[])).run P G.w=(do pure (Value.pointer (some (<- Go.newVar t z))):Sem Value).run P G.w:=by simp[Instr.alloc,zeroValue,typeInfo,m,n]
   have:=k G z t l f;cases E with
   |obj ob=>exactλa b=>by rw[c];exact this a b
   |loc d cs=>exactλa b=>by rw[c];exact this a b
   |none=>unfold xA at this ⊢;grind
  ·cases h
 ·cases h
def Mo{fa:lg}{dst:Option Nat}{h0:aT}{x:AV}{r:AV×aT}(h:Rg C fa dst h0 t x=some r) :
  ∃E:vS,r.2=E.on h0/\(∀d cs,E=.loc d cs->nE h0.ca d=none)/\∀G x',WR G->VR G x x'->xA P (Instr.box t x') G h0.size r.1 E:=by
 unfold Rg at h;split at h
 ·split at h
  ·split at h
   ·rename_i cs a;split at h;·obtain⟨E,b,c,e⟩:=GW (P:=P) h;exact⟨E,b,c,λG x' f g=>e G x' t f (xt g a).1⟩
    ·cases h
   ·cases h
  ·cases h
 ·cases h
def R5(hW:WR G)(hC:nV P C){av:AV}{a:Value}{r:AV×aT}(ha:VR G av a)(h:Au C G.h t av=some r):wP P G (Instr.loadAt t a) r:=by
 unfold Au at h;split at h;·rename_i ti b;obtain⟨v,d,rfl⟩:=qU h;obtain⟨u,e,c,_⟩:=IA hW (hC.ty t ti b) ha d;exact⟨u,G,e,rfl,.refl G,hW,c⟩
 ·cases h
def EW(h0:aT)(hint:Option Value)(hh:hint=none):∃E:vS,h0.push (.map [] 0)=E.on h0/\(∀d cs,E=.loc d cs->nE h0.ca d=none)/\∀G,WR G->xA P (Instr.makeMap t hint) G h0.size (.hm h0.size) E:=by
 subst hh;refine⟨.obj (.map [] 0),rfl,by simp,?_⟩;intro G h a f
 obtain⟨i,g⟩:=Bt (cap:=0) h (pe.alloc G.w (.map #[] 0)) a f (by simp) (by
  intro j c e G' E b;cases e
  exact⟨#[],b,rfl,⟨by simp,.nil⟩,by simp⟩)
 refine⟨.map (some G.w.heap.size),_,?_,i,g,?_⟩;·rfl
 ·exact .hm _ _ (h.lt _ _ a) (λj c _=>⟨_,pD _ _ _,rfl⟩)
theorem FF(z:Array Value)(n m k:Nat)(hz:z.size=m)(hk:k<n*m):(((Array.range (n*m)).map λi=>z[i % z.size]!)[k]?)=z[k % m]?:=by
 have a:0<m:=by grind
 have b:k % m<z.size:=by rw[hz];exact Nat.mod_lt _ a
 grind
def CU(hC:nV P C){h0:aT}{l c:AV}{r:AV×aT}(h:DF C h0 t l c=some r) :
  ∃E:vS,r.2=E.on h0/\(∀d cs,E=.loc d cs->nE h0.ca d=none)/\∀G l' c',WR G->VR G l l'->VR G c c'->xA P (Instr.makeSlice t l' c') G h0.size r.1 E:=by
 unfold DF at h;split at h
 ·rename_i ti U ln V W B D F;split at h
  ·rename_i S;simp only[Bool.and_eq_true,CV,decide_eq_true_eq,Nat.ble_eq]at S;obtain⟨⟨⟨h0,o⟩,X⟩,H⟩:=S;cases h;have:=int?_eq D;subst this;have:=int?_eq F;subst this;refine⟨.obj (.lU 0 ti.size (List.replicate W.toNat ti.zero)),rfl,by simp,?_⟩;intro G l' c' T Y Z;rw[Y.of_int,Z.of_int];obtain⟨J,hd,hte,p⟩:=xj hC B;obtain⟨i,z,hi,hz,q,K,hza,hzo⟩:=p.BC (G:=G);obtain⟨n,rfl⟩:=anQ h0;obtain⟨m,rfl⟩:=anQ (Int.le_trans h0 o);simp only[Int.toNat_natCast]at H;obtain⟨A,_,hii,s,hib,_⟩:=p.info;have L:A=i:=by grind
   subst L;have M:(A.bytes:Int)*(m:Int)<=281474976710656:=by grind
   have a:=run_make (P:=P) G.w t J A z hd hi hz U V n m h0 o M (by omega);simp only[Int.toNat_natCast,madeCells]at a;intro b N
   obtain⟨hS,O⟩:=Bt (ob:=.lU 0 ti.size (List.replicate m ti.zero)) (cap:=m) T (pe.alloc G.w (.cells ((Array.range (m*A.size)).map λj=>z.cells[j % z.cells.size]!) J)) b N (by
    intro g zz xs e G' E u;cases e;refine⟨_,J,u,by simp,by simp[s],?_,?_⟩;·grind
    ·intro i cs j x f hj;rw[List.getElem?_replicate]at f;split at f
     ·rename_i Q;cases f;have R:j<ti.size:=by grind
      (have hk:i*ti.size+j<m*ti.size:=by have:(i+1)*ti.size<=m*ti.size:=anl _ Q;grind);rw[Nat.zero_add];have hg:=FF z.cells m ti.size (i*ti.size+j) K hk;rw[s,hg];have y:(i*ti.size+j) % ti.size=j:=by rw[Nat.mul_comm,Nat.mul_add_mod];exact Nat.mod_eq_of_lt R
      rw[y];have hjz:j<z.cells.size:=by omega
      (have k:z.cells[j]?=some z.cells[j]:=by simp);exact⟨z.cells[j],k,q.one j _ k,(q.rel j x _ hj k).mono E⟩
     grind) (by simp)
   refine⟨_,_,a,hS,O,?_⟩;refine .hs _ 0 0 _ _ _ (T.lt _ _ b) (λg0 z xs _=>ang _) (by omega) ?_;grind[pD]
  ·cases h
 ·cases h
end
end Go.Sx
namespace Go.Sx
open Go
variable [DD]
structure wF(w w':World)(B:Nat)(o:Obj):Prop where
 at_:w'.heap[B]?=some o
 other:∀k,k≠B->w'.heap[k]?=w.heap[k]?
 size:w'.heap.size=w.heap.size
 os:w'.os=w.os
 output:w'.output=w.output
 tape:y5 w w'
def wF.row{w:World}{B:Nat}{c c':Array Value}{e:TypeId}(h:w.heap[B]?=some (.cells c e (0,0))):wF w (w.setRow B c') B (.cells c' e (0,0)) :=
 ⟨setRow_heap w B c c' e (0,0) h,λk a=>setRow_other w B k c' a,setRow_size w B c',rfl,rfl,.rfl _⟩
section
variable {P:Program}{C:nu}{G:Ga}{w':World}{o:Obj}
def A1(hW:WR G){b:Nat}{l:Loc}{ob:nR}(hp:G.pi b=some l)(hP:wF G.w w' l.B o)
  (hk:(∃g z xs xs',G.h.get b=some (.lU g z xs)/\ob=.lU g z xs')\/(∃es c es' c',G.h.get b=some (.map es c)/\ob=.map es' c'))
  (hblk:∀g z xs,ob=.lU g z xs->∀G',Ext G G'->G'.w.heap[l.B]?=some o->tc G' l z xs)
  (hmap:∀es c,ob=.map es c->∀G',Ext G G'->G'.w.heap[l.B]?=some o->yE G' l.B es c) :
  Step G ⟨w',G.T,G.h.set b ob,G.pi,G.L⟩/\WR ⟨w',G.T,G.h.set b ob,G.pi,G.L⟩:=by
 have t:G.h.lo<=b:=by rcases hk with⟨g,z,xs,_,h,_⟩|⟨es,c,_,_,h,_⟩<;>exact aT.qZ h
 have k:∀b',(G.h.set b ob).get b'=if b'=b then some ob else G.h.get b':=by grind[aT.pa]
 have u:∀s B,G.T s B->B≠l.B:=by rintro s B i rfl;exact hW.w0 s b l hp i
 have E:Ext G ⟨w',G.T,G.h.set b ob,G.pi,G.L⟩:=by refine⟨λ_ _ h=>h,λs B i=>hP.other B (u s B i),by simp,?_,?_,λ_ _ h=>h⟩<;>grind
 refine⟨⟨E,hP.os,hP.output,hP.tape,by rw[hP.size];omega,λB _ m _=>hP.other B (λe=>m b l hp e.symm),λb' l' h=>.inl ⟨l',h,rfl⟩,λb' l' h=>.inl (ani.2 ⟨l',h⟩),λs B h=>.inl h,by simp,?_,λ_ _ h=>.inl h,λ_ _ h=>.inl (ani.2 ⟨_,h⟩),λd c _ h=>by simpa using h⟩,?_⟩;·grind
 ·constructor
  ·intro b' l' g z xs a h;simp only[k]at h;by_cases e:b'=b
   ·rw[if_pos e]at h;subst e;have n:l'=l:=by grind
    subst n;cases h;exact hblk g z xs rfl _ E hP.at_
   ·rw[if_neg e]at h;have f:l'.B≠l.B:=λp=>e (hW.rY b' b l' l a hp p);exact(hW.lU b' l' g z xs a h).mono E (hP.other _ f)
  ·intro b' l' es c a h;simp only[k]at h;by_cases e:b'=b
   ·rw[if_pos e]at h;subst e;have n:l'=l:=by grind
    subst n;cases h;exact hmap es c rfl _ E hP.at_
   ·rw[if_neg e]at h;have f:l'.B≠l.B:=λp=>e (hW.rY b' b l' l a hp p);exact(hW.map b' l' es c a h).mono E (hP.other _ f)
  ·intro d B cs j r;have r:nE G.h.ca d=some cs:=by simp_all
   exact(hW.loc d B cs j r).mono E (hP.other _ (hW.u7 d B b l j hp))
  ·intro b' l' h;have:=hW.oW b' l' h;exact⟨by rw[hP.size];omega,by simp_all⟩
  ·exact hW.rY
  ·exact hW.w0
  ·exact hW.uI
  ·exact hW.LT
  ·exact hW.u7
  ·intro d B j;have:=hW.qL d B j;exact⟨by rw[hP.size];omega,by simp_all⟩
  ·intro s B i;have:=hW.sB s B i;rw[hP.size];exact this
  ·simpa using hW.lo
  ·intro b' q h;simp only[k]at h;simp only[aT.size_set];by_cases e:b'=b;·subst e;exact(hW.oW b' l hp).2
   ·rw[if_neg e]at h;exact hW.lt b' q h
theorem TB(m:o1)(d x:Nat)(v:List AV):nE (Ab m d v) x=if x=d then(nE m d).map (λ_=>v)else nE m x:=by
 induction m with
 |nil=>simp[Ab,nE]
 |cons p m ih=>
  simp only[Ab];cases a:Nat.beq d p.1 with
  |true=>
   have b:=acl a;simp only[nE];by_cases e:x=d;·grind
   ·(have c:Nat.beq x d=false:=by cases f:Nat.beq x d<;>simp_all);grind
  |false=>grind[nE]
def abQ(hW:WR G){d Bd:Nat}{cs cs':List AV}{c:Array Value}{e:TypeId}(hLd:G.L d=some Bd)(hd:nE G.h.ca d=some cs)(hP:wF G.w w' Bd (.cells c e (0,0)))(hc:CR G cs' c) :
  Step G ⟨w',G.T,{ G.h with ca:=Ab G.h.ca d cs' },G.pi,G.L⟩/\WR ⟨w',G.T,{ G.h with ca:=Ab G.h.ca d cs' },G.pi,G.L⟩:=by
 have q:∀x,nE (Ab G.h.ca d cs') x=if x=d then some cs' else nE G.h.ca x:=by grind[TB]
 have F:∀x,(nE (Ab G.h.ca d cs') x).isSome=(nE G.h.ca x).isSome:=by grind
 have r:∀s B,G.T s B->B≠Bd:=by rintro s B k rfl;exact hW.LT s d _ hLd k
 have E:Ext G ⟨w',G.T,{ G.h with ca:=Ab G.h.ca d cs' },G.pi,G.L⟩:=by
  refine⟨λ_ _ h=>h,λs B k=>hP.other B (r s B k),abs _,?_,?_,λ_ _ h=>h⟩;·intro b t g' z' o h;exact⟨g',z',o,h,abs _,λ_=>⟨rfl,λ_ h=>h⟩⟩
  ·intro b t p c h;exact⟨p,c,h,λ_ h=>h⟩
 refine⟨⟨E,hP.os,hP.output,hP.tape,by rw[hP.size];omega,λB _ _ u=>hP.other B (λe=>u d Bd hLd e.symm),λb' l' h=>.inl ⟨l',h,rfl⟩,λb' l' h=>.inl (ani.2 ⟨l',h⟩),λs B h=>.inl h,rfl,λ_ _ _=>rfl,
  λ_ _ h=>.inl h,λ_ _ h=>.inl (ani.2 ⟨_,h⟩),?_⟩,?_⟩
 ·grind
 ·constructor;·intro b l g z y m h;exact(hW.lU b l g z y m h).mono E (hP.other _ (λn=>hW.u7 d Bd b l hLd m n.symm))
  ·intro b l p c m h;exact(hW.map b l p c m h).mono E (hP.other _ (λn=>hW.u7 d Bd b l hLd m n.symm))
  ·intro x B A j f;simp only[q]at f;by_cases e:x=d;·rw[if_pos e]at f;subst e;cases f;have j:G.L x=some B:=j;rw[hLd]at j;cases j;exact⟨c,_,hP.at_,hc.len.symm,λi a v C D=>(hc.rel i a v C D).mono E,hc.one⟩
   ·rw[if_neg e]at f;refine(hW.loc x B A j f).mono E (hP.other _ (λn=>e ?_));subst n;exact hW.uI x d _ j hLd
  ·intro b l h;have:=hW.oW b l h;exact⟨by rw[hP.size];omega,this.2⟩
  ·exact hW.rY
  ·exact hW.w0
  ·exact hW.uI
  ·exact hW.LT
  ·exact hW.u7
  ·intro x B j;have:=hW.qL x B j;refine⟨by rw[hP.size];omega,?_⟩;grind
  ·intro s B k;have:=hW.sB s B k;rw[hP.size];exact this
  ·exact hW.lo
  ·exact hW.lt
def CR.zK{cs:List AV}{c:Array Value}(hl:c.size=cs.length)(hr:∀(i:Nat)(x:AV) (v:Value),cs[i]?=some x->c[i]?=some v->VC G x v)(h1:∀(i:Nat)(v:Value),c[i]?=some v->v.oneCell'=true):CR G cs c :=
 ⟨hl.symm,h1,hr⟩
theorem AR{c vs:Array Value}{o:Nat}(ho:o+vs.size<=c.size)(k:Nat):((c.toList.take o++vs.toList++c.toList.drop (o+vs.toList.length)).toArray)[k]?=if o<=k/\k<o+vs.size then vs[k - o]? else c[k]?:=by simp only[List.getElem?_toArray,Array.length_toList];rw[List.append_assoc,List.getElem?_append];grind
theorem Vo{c vs:Array Value}{o:Nat}(ho:o+vs.size<=c.size):((c.toList.take o++vs.toList++c.toList.drop (o+vs.toList.length)).toArray).size=c.size:=by grind
def B9{t:Nat}{ti:TI}(hT:sO P t ti){w:World}{B o:Nat}{c:Array Value}{e:TypeId}{v:Value}(hB:w.heap[B]?=some (.cells c e (0,0)))(hs:v.cells.size=ti.size)(h1:∀(i:Nat)(y:Value),v.cells[i]?=some y->y.oneCell'=true)
  (ho:o+v.cells.size<=c.size) :
  (Instr.storeAt t (.pointer (some ⟨B,o,none⟩)) v).run P w=.ok () (w.setRow B (c.toList.take o++v.cells.toList++c.toList.drop (o+v.cells.toList.length)).toArray):=by
 unfold Instr.storeAt;simp only[Instr.sureAddr,Sem.run_bind,Sem.run_pure,Result.andThen_ok];unfold storeVar;simp only[Sem.run_bind,hT.sizeOf,Result.andThen_ok];rw[if_neg (by simp[hs])]
 have:=run_storeCells_at (P:=P) B o e v.cells.toList 0 c w hB (by omega) (λx a=>by
  obtain⟨i,b⟩:=anq a
  grind)
 omega
def Ih(P:Program)(G:Ga)(s:Sem Unit)(h:aT):Prop :=
 ∃G',s.run P G.w=.ok () G'.w/\G'.h=h/\Step G G'/\WR G'
def Pb(hW:WR G){t:Nat}{ti:TI}(hT:sO P t ti){av v:AV}{a v':Value}{h':aT}(ha:VR G av a)(hv:VR G v v')(h:Dr G.h ti av v=some h') :
  Ih P G (Instr.storeAt t a v') h':=by
 unfold Dr at h;split at h;·cases h
 ·rename_i new p;obtain⟨f,F⟩:=xt hv p;have H:v'.cells.size=ti.size:=by rw[<- f.len,F]
  split at h
  ·unfold FW at h;split at h
   ·
    rename_i d o;unfold Vj at h;split at h
    ·rename_i Q n;split at h
     ·rename_i s S;cases h;cases ha with
      |mR hp _=>simp[AV.oI]at hp
      |la _ _ Bd hd=>
       (obtain⟨c,e,J,hs1,T,h1⟩:=hW.loc d Bd Q hd n;obtain⟨U,V,u⟩:=DS S;have m:o+v'.cells.size<=c.size:=by omega);have q:=B9 (P:=P) hT J H f.one m
       have W:CR G s ((c.toList.take o++v'.cells.toList++c.toList.drop (o+v'.cells.toList.length)).toArray):=by
        refine⟨by grind,?_,?_⟩
        ·intro i y w;rw[AR m]at w;split at w;·exact f.one _ y w
         grind
        ·intro i x y R w;rw[AR m]at w;rw[u]at R;rw[f.len]at R;split at w;·rw[if_pos (by assumption)]at R;exact f.rel _ x y R w
         grind
       obtain⟨X,A⟩:=abQ hW hd n (wF.row J) W;exact⟨_,q,rfl,X,A⟩
     ·cases h
    ·cases h
   ·
    rename_i b g i o;unfold Lt at h;split at h
    ·rename_i g' z K r;split at h
     ·rename_i B;have B:=acl B;subst B;split at h
      ·rename_i Q n;split at h
       ·rename_i s S;cases h;cases ha with
        |mR hp _=>simp[AV.oI]at hp
        |ptr _ _ _ _ a hb hg hl=>
         (obtain⟨l,L,rfl⟩:=hl z K r;obtain⟨c,e,J,hcap,Y,hz,T⟩:=hW.lU b l g z K L r;obtain⟨U,V,u⟩:=DS S;have Z:i<K.length:=(alt.1 n).1;have hzc:=hz i Q n;have hiz:i*z+z<=l.cap*z:=by have:(i+1)*z<=l.cap*z:=anl _ (by omega);grind);have hnl:=f.len;have m:l.base+i*z+o+v'.cells.size<=c.size:=by omega
         have q:=B9 (P:=P) hT J H f.one m
         obtain⟨X,A⟩:=A1 (ob:=.lU g z (K.set i s)) hW L (wF.row (c':=(c.toList.take (l.base+i*z+o)++v'.cells.toList++c.toList.drop (l.base+i*z+o+v'.cells.toList.length)).toArray) J)
          (.inl ⟨g,z,K,_,r,rfl⟩) (by
            intro g2 z2 xs2 e2 G' E p;cases e2;refine⟨_,e,p,by grind,by grind,?_,?_⟩;·grind
            ·intro j cj k x M D;rw[List.getElem?_set]at M;by_cases C:i=j
             ·subst C;rw[if_pos rfl,if_pos Z]at M;cases M;rw[u]at D;rw[AR m];by_cases N:o<=k/\k<o+new.length
              ·rw[if_pos N]at D;rw[if_pos (by omega)];have hkl:k - o<v'.cells.size:=by omega
               (have O:v'.cells[k - o]?=some v'.cells[k - o]:=by simp);refine⟨v'.cells[k - o],?_,f.one _ _ O,(f.rel _ x _ D O).mono E⟩;grind
              ·rw[if_neg N]at D;rw[if_neg (by omega)];obtain⟨v,a1,a2,a3⟩:=T i Q k x n D;exact⟨v,a1,a2,a3.mono E⟩
             ·rw[if_neg C]at M;obtain⟨v,a1,a2,a3⟩:=T j cj k x M D;refine⟨v,?_,a2,a3.mono E⟩;rw[AR m,if_neg ?_];·exact a1
              ·(have hk':k<z:=by grind);rcases anJ C with hlt|hgt
               ·have:(i+1)*z<=j*z:=anl _ hlt;grind
               ·have:(j+1)*z<=i*z:=anl _ hgt
                grind) (by simp)
         exact⟨_,q,rfl,X,A⟩
       ·cases h
      ·cases h
     ·cases h
    ·cases h
   ·cases h
  ·cases h
end
end Go.Sx
namespace Go.Sx
open Go
variable [DD]
def PR.down{w:World}{T:Bool->Nat->Prop}{m:Bool}{v:AV}{u:Value}(h:PR w T m v u)(hp:v.qj=true):PR w T false v u:=by
 cases h with
 |undef=>simp[AV.qj]at hp
 |bool m b=>exact .bool _ b
 |int m k n=>exact .int _ k n
 |str m s b h=>exact .str _ s b h
 |oh m=>exact .oh _
 |ip m cells off sn B base c e fr f hm hB hI hc h1 hr=>
  cases sn with
  |false=>exact .ip _ cells off false B base c e fr f (λh=>h) hB hI hc h1 hr
  |true=>simp[AV.qj]at hp
 |slnil m=>exact .slnil _
 |sy m cap a c hm h=>
  cases cap with
  |qJ=>simp[AV.qj]at hp
  |nil=>cases h
  |exact n=>exact .sy _ _ a c (λh=>by cases h) h
  |oo=>exact .sy _ _ a c (λh=>by cases h) h
 |sl m xs cap B base c e fr cap' esz f hm hB hI hcap hle hz hc h1 hr=>
  cases cap with
  |qJ=>simp[AV.qj]at hp
  |nil=>cases hcap
  |exact n=>exact .sl _ xs _ B base c e fr cap' esz f (λh=>by cases h) hB hI hcap hle hz hc h1 hr
  |oo=>exact .sl _ xs _ B base c e fr cap' esz f (λh=>by cases h) hB hI hcap hle hz hc h1 hr
 |ow m=>exact .ow _
 |fm m es sn r ents clk hm hB hI hl hy hko hk hv=>
  cases sn with
  |false=>exact .fm _ es false r ents clk (λh=>h) hB hI hl hy hko hk hv
  |true=>simp[AV.qj]at hp
 |pC m=>exact .pC _
 |mH=>simp[AV.qj]at hp
 |agg=>simp[AV.qj]at hp
def VR.GM{G:Ga}{v:AV}{u:Value}(h:VR G v u)(hp:v.qj=true):PR G.w G.T false v u:=by
 cases h with
 |mR _ h=>exact h.down hp
 |undef=>simp[AV.qj]at hp
 |ptr=>simp[AV.qj]at hp
 |hs=>simp[AV.qj]at hp
 |hm=>simp[AV.qj]at hp
 |la=>simp[AV.qj]at hp
 |mH=>simp[AV.qj]at hp
 |agg=>simp[AV.qj]at hp
 |mw=>simp[AV.qj]at hp
def VR.ah1{G:Ga}{v:AV}{u:Value}(h:VR G v u)(hp:v.Gb=true):PR G.w G.T false v u:=by
 cases v with
 |mH g a c=>
  simp only[AV.Gb,Bool.and_eq_true,List.all_eq_true]at hp;cases h with
  |mR hp2 _=>grind[AV.oI]
  |mH _ _ _ a' c' ha hc _ _ hra hrc=>exact .mH _ g a c a' c' ha hc (λi x y b d=>(hra i x y b d).GM (hp.1 x (alc b))) (λi x y b d=>(hrc i x y b d).GM (hp.2 x (alc b)))
 |_=>exact h.GM hp
structure oZ(R:AV->Value->Prop)(z base:Nat)(xs:List (List AV))(c:Array Value):Prop where
 len:∀(i:Nat) (cs:List AV),xs[i]?=some cs->cs.length=z
 rel:∀(i:Nat) (cs:List AV) (j:Nat) (x:AV),xs[i]?=some cs->cs[j]?=some x->∃v,c[base+i*z+j]?=some v/\v.oneCell'=true/\R x v
def oZ.mono{R S:AV->Value->Prop}{z base:Nat}{xs:List (List AV)}{c:Array Value}(h:oZ R z base xs c)(hRS:∀x v,R x v->S x v):oZ S z base xs c :=
 ⟨h.len,λi e j x f g=>let⟨v,a,b,d⟩:=h.rel i e j x f g;⟨v,a,b,hRS _ _ d⟩⟩
section
variable {P:Program}{C:nu}{G:Ga}{t:Nat}{ti:TI}
def O7{xs:List (List AV)}(h:ze xs=true){i j:Nat}{cs:List AV}{x:AV}(hi:xs[i]?=some cs)(hj:cs[j]?=some x):x.Gb=true:=by simp only[ze,List.all_eq_true]at h;exact h cs (alc hi) x (alc hj)
def OL{ps:List (Nat×AV)}{ps':List (Nat×Value)}{xs r:List (List AV)}{c:Array Value}(hl:ps.length=ps'.length)
  (hr:∀(i:Nat) p q,ps[i]?=some p->ps'[i]?=some q->p.1=q.1/\VR G p.2 q.2) (hx:oZ (VC G) ti.size 0 xs c) (hs:c.size=xs.length*ti.size)
  (h1:∀(i:Nat) (v:Value),c[i]?=some v->v.oneCell'=true) (h:AN ti ps xs=some r) :
  ∃rc,Instr.fill (λi=>some (i*ti.size,ti.size)) c ps'=some rc/\oZ (VC G) ti.size 0 r rc/\rc.size=r.length*ti.size/\(∀(i:Nat) (v:Value),rc[i]?=some v->v.oneCell'=true)/\r.length=xs.length:=by
 induction ps generalizing ps' xs c with
 |nil=>
  cases ps' with
  |nil=>simp only[AN,Option.some.injEq]at h;subst h;exact⟨c,rfl,hx,hs,h1,rfl⟩
  |cons _ _=>simp at hl
 |cons p ps ih=>
  cases ps' with
  |nil=>simp at hl
  |cons q ps'=>
   obtain⟨i,v⟩:=p;obtain⟨i',v'⟩:=q;obtain⟨e,A⟩:=hr 0 (i,v) (i',v') rfl rfl;simp only at e A;subst e;simp only[AN]at h;split at h;·cases h
   ·rename_i new n;split at h
    ·rename_i t;simp only[Bool.and_eq_true,Nat.blt_eq]at t;obtain⟨f,o⟩:=xt A n;have u:v'.cells.size=ti.size:=by rw[<- f.len,o]
     (have B:i*ti.size+ti.size<=c.size:=by rw[hs];have:(i+1)*ti.size<=xs.length*ti.size:=anl _ t.2;grind);have g:∀k,(v'.cells.zipIdx.foldl (λ(cs:Array Value) (x:Value×Nat)=>cs.setIfInBounds (i*ti.size+x.2) x.1) c)[k]?=if i*ti.size<=k/\k<i*ti.size+ti.size then v'.cells[k - i*ti.size]? else c[k]?:=by intro k;have:=Ff v'.cells.toList 0 (i*ti.size) c k;simp only[Nat.add_zero,Array.length_toList,Array.getElem?_toList,u]at this;rw[<- Array.foldl_toList,Array.toList_zipIdx,this];grind
     have D:(v'.cells.zipIdx.foldl (λ(cs:Array Value) (x:Value×Nat)=>cs.setIfInBounds (i*ti.size+x.2) x.1) c).size=c.size:=by
      have J:∀(l:List (Value×Nat)) (a:Array Value),(l.foldl (λ(cs:Array Value) (x:Value×Nat)=>cs.setIfInBounds (i*ti.size+x.2) x.1) a).size=a.size:=by
       intro l;induction l with
       |nil=>simp
       |cons x l ih=>grind
      rw[<- Array.foldl_toList];grind
     obtain⟨rc,K,L,M,N,O⟩:=ih (ps':=ps') (xs:=xs.set i new) (c:=v'.cells.zipIdx.foldl (λ(cs:Array Value) (x:Value×Nat)=>cs.setIfInBounds (i*ti.size+x.2) x.1) c)
      (by grind) (λj p q E F=>hr (j+1) p q E F) (by
        constructor
        ·intro j s d;rw[List.getElem?_set]at d;by_cases b:i=j;·grind
         ·rw[if_neg b]at d;exact hx.len j s d
        ·intro j s k x d m;rw[Nat.zero_add];rw[List.getElem?_set]at d;by_cases b:i=j
         ·subst b;rw[if_pos rfl,if_pos t.2]at d;cases d;have w:k<new.length:=(alt.1 m).1;rw[g,if_pos (by omega)];have C:v'.cells[k]?=some v'.cells[k]:=by simp
          refine⟨v'.cells[k],?_,f.one k _ C,f.rel k x _ m C⟩;simp
         ·rw[if_neg b]at d;have w:k<ti.size:=by rw[<- hx.len j s d];grind
          obtain⟨v,H,P,Q⟩:=hx.rel j s k x d m;rw[Nat.zero_add]at H;rw[g,if_neg];·grind
          ·(rcases anJ b with y|z);·have:(i+1)*ti.size<=j*ti.size:=anl _ y;grind
           ·have:(j+1)*ti.size<=i*ti.size:=anl _ z;grind) (by grind) (by
        intro k v m;rw[g]at m;split at m;·exact f.one _ v m
        grind) h
     grind[Instr.fill]
    ·cases h
def Eu{z:Value}{n:Nat}(hcr:CR G ti.zero z.cells)(hzs:z.cells.size=ti.size) :
  oZ (VC G) ti.size 0 (List.replicate n ti.zero) ((Array.range (n*ti.size)).map λj=>z.cells[j % z.cells.size]!) /\
   (∀(i:Nat) (v:Value),((Array.range (n*ti.size)).map λj=>z.cells[j % z.cells.size]!)[i]?=some v->v.oneCell'=true):=by
 constructor
 ·constructor
  ·intro i l a;rw[List.getElem?_replicate]at a;split at a;·cases a;rw[hcr.len,hzs]
   grind
  ·intro i l j x a g;rw[List.getElem?_replicate]at a;split at a
   ·rename_i d;cases a;have e:j<ti.size:=by have:=(alt.1 g).1;rw[hcr.len,hzs]at this;exact this
    (have f:i*ti.size+j<n*ti.size:=by have:(i+1)*ti.size<=n*ti.size:=anl _ d;grind);rw[Nat.zero_add];have m:=FF z.cells n ti.size (i*ti.size+j) hzs f;rw[m];have c:(i*ti.size+j) % ti.size=j:=by rw[Nat.mul_comm,Nat.mul_add_mod];exact Nat.mod_eq_of_lt e
    rw[c];have o:j<z.cells.size:=by omega
    (have b:z.cells[j]?=some z.cells[j]:=by simp);exact⟨z.cells[j],b,hcr.one j _ b,hcr.rel j x _ g b⟩
   grind
 ·intro k v h;have f:k<n*ti.size:=by grind
  rw[FF z.cells n ti.size k hzs f]at h;exact hcr.one _ v h
theorem KP{ti:TI}:∀{ps:List (Nat×AV)} {xs r:List (List AV)},AN ti ps xs=some r->r.length=xs.length
 |[],xs,r,h=>by grind[AN]
 |p::ps,xs,r,h=>by
  simp only[AN]at h;split at h;·cases h
  ·split at h;·have:=KP h;simpa using this
   ·cases h
def Ce(hC:nV P C){fa:lg}{dst:Option Nat}{n:Nat}{h0:aT}{ps:List (Nat×AV)}{r:AV×aT}(h:zC C fa dst h0 t n ps=some r) :
  ∃E:vS,r.2=E.on h0/\(∀d cs,E=.loc d cs->nE h0.ca d=none)/\∀G (ps':Array (Nat×Value)),WR G->ps.length=ps'.size->(∀(i:Nat) p q,ps[i]?=some p->ps'[i]?=some q->p.1=q.1/\VR G p.2 q.2)->xA P (Instr.buildSlice t n ps') G h0.size r.1 E:=by
 unfold zC at h;split at h
 ·rename_i ti hel;split at h
  ·rename_i K;have K:=anu K;split at h
   ·rename_i k M;have F:k.length=n:=by rw[KP M];simp
    have o:∀G (ps':Array (Nat×Value)),WR G->ps.length=ps'.size->(∀(i:Nat) p q,ps[i]?=some p->ps'[i]?=some q->p.1=q.1/\VR G p.2 q.2) ->
      ∃a l,(Instr.buildSlice t n ps').run P G.w=.ok (.slice (some ⟨G.w.heap.size,0,none⟩) n n) (G.w.alloc (.cells a l))/\oZ (VC G) ti.size 0 k a/\a.size=k.length*ti.size/\(∀(i:Nat) (v:Value),a[i]?=some v->v.oneCell'=true):=by
     intro G ps' u Y N;obtain⟨l,hd,hte,O⟩:=xj hC hel;obtain⟨i,z,c,hz,hcr,hzs,hza,hzo⟩:=O.BC (G:=G);have m:i.size=ti.size:=by obtain⟨ii,_,hii,m,_⟩:=O.info;grind
     obtain⟨Q,R⟩:=Eu (n:=n) hcr hzs;obtain⟨a,f1,y,f3,f4,f5⟩:=OL (ps':=ps'.toList) (by omega) (λj p q hp hq=>N j p q hp (by grind)) Q (by simp) R M
     have b:(Instr.buildSlice t n ps').run P G.w=.ok (.slice (some ⟨G.w.heap.size,0,none⟩) n n) (G.w.alloc (.cells a l)):=by
      unfold Instr.buildSlice;by_cases e:n*ti.size=0;·(have H:=f1;rw[e]at H;have h0:∀f:Nat->Value,(Array.range 0).map f = #[]:=by simp);rw[h0]at H;simp only[Sem.run_bind,run_underlying hd,Result.andThen_ok,sizeOf,typeInfo,run_program,c,Sem.run_pure,m,e];rw[if_neg (by omega),if_pos trivial];simp only[Sem.run_pure,Result.andThen_ok,Sem.run_bind];rw[h0,H];rfl
      ·(have hgt:¬(16777216<n*ti.size):=by omega);simp only[Sem.run_bind,run_underlying hd,Result.andThen_ok,sizeOf,typeInfo,run_program,c,Sem.run_pure,m];simp[e,hgt,zeroValue,typeInfo,c,hz,m,f1,newRow]
     grind
    unfold Hn at h;split at h;·cases h
    ·split at h
     ·cases h;refine⟨.obj (.lU 0 ti.size k),rfl,by simp,?_⟩;intro G ps' u Y N A hpi;obtain⟨a,l,b,y,f3,f4⟩:=o G ps' u Y N
      obtain⟨hS,J⟩:=Bt (ob:=.lU 0 ti.size k) (cap:=n) u (pe.alloc G.w (.cells a l)) A hpi (by
       intro g zz ys e G' E S;cases e;refine⟨a,l,S,by grind,by grind,y.len,?_⟩;intro i cs j x c D;obtain⟨v,U,Z,V⟩:=y.rel i cs j x c D
       exact⟨v,U,Z,V.mono E⟩) (by simp)
      refine⟨_,_,b,hS,J,?_⟩;rw[F];refine .hs _ 0 0 _ _ _ (u.lt _ _ A) (λg0 z k _=>ang _) (abs _) ?_;grind[pD]
     ·rename_i W;cases h;simp only[Bool.or_eq_false_iff,Bool.not_eq_false']at W;refine⟨.none,rfl,by simp,?_⟩;intro G ps' u Y N;obtain⟨a,l,b,y,f3,f4⟩:=o G ps' u Y N;obtain⟨hS,J⟩:=Vs u (pe.alloc G.w (.cells a l));refine⟨_,⟨G.w.alloc (.cells a l),λs B=>G.T s B\/B=G.w.heap.size,G.h,G.pi,G.L⟩,b,hS,rfl,J,?_⟩
      have X:PR (G.w.alloc (.cells a l)) (λs B=>G.T s B\/B=G.w.heap.size) true (.sl k (.exact k.length)) (.slice (some ⟨G.w.heap.size,0,none⟩) k.length n):=by
       refine .sl true k (.exact k.length) G.w.heap.size 0 a l (0,0) n ti.size (λi j=>(a[0+i*ti.size+j]?).getD undef) (λh=>by cases h) ((pe.alloc G.w _).new) (.inr rfl) F.symm (by omega) y.len ?_ ?_ ?_;·intro i cs j x c D;obtain⟨v,U,Z,V⟩:=y.rel i cs j x c D;grind
       ·intro i cs j x c D;obtain⟨v,U,Z,V⟩:=y.rel i cs j x c D;grind
       ·intro i cs j x c D;obtain⟨v,U,Z,V⟩:=y.rel i cs j x c D;rw[U];exact(V.vr.ah1 (O7 W.2 c D)).mono (λ_ _ h=>.inl h) (λs B hB=>(pe.alloc G.w _).yT (u.sB s B hB))
      rw[F]at X ⊢;exact .mR rfl X
   ·cases h
  ·cases h
 ·cases h
end
end Go.Sx
namespace Go.Sx
open Go
variable [DD]
section
variable {P:Program}{C:nu}{G:Ga}{t:Nat}{ti:TI}{w':World}
def Z9(hW:WR G){b:Nat}{l l':Loc}{g z:Nat}{xs xs':List (List AV)}(hp:G.pi b=some l)(hget:G.h.get b=some (.lU g z xs))
  (hB:l'.B=l.B\/l'.B=G.w.heap.size) (hsz:G.w.heap.size<=w'.heap.size) (hlt:l'.B<w'.heap.size) (hother:∀k,k<G.w.heap.size->k≠l.B->w'.heap[k]?=G.w.heap[k]?)
  (hos:w'.os=G.w.os) (hout:w'.output=G.w.output) (htape:y5 G.w w')
  (hlies:∀G',Ext G G'->G'.w=w'->tc G' l' z xs') :
  Step G ⟨w',G.T,G.h.set b (.lU (g+1) z xs'),rp G.pi b (some l'),G.L⟩/\WR ⟨w',G.T,G.h.set b (.lU (g+1) z xs'),rp G.pi b (some l'),G.L⟩:=by
 have F:G.h.lo<=b:=aT.qZ hget;have o:∀b',(G.h.set b (.lU (g+1) z xs')).get b'=if b'=b then some (.lU (g+1) z xs')else G.h.get b':=by grind[aT.pa]
 have H:∀s B,G.T s B->B≠l.B:=by rintro s B hB rfl;exact hW.w0 s b l hp hB
 have n:∀b' a,b'≠b->G.pi b'=some a->a.B≠l.B:=λb' a e h p=>e (hW.rY b' b a l h hp p)
 have y:∀b' a,b'≠b->G.pi b'=some a->a.B≠l'.B:=by
  intro b' a e h;rcases hB with i|i
  ·grind
  ·rw[i];have:=(hW.oW b' a h).1;omega
 have E:Ext G ⟨w',G.T,G.h.set b (.lU (g+1) z xs'),rp G.pi b (some l'),G.L⟩:=by refine⟨λ_ _ h=>h,λs B hB=>hother B (hW.sB s B hB) (H s B hB),by simp,?_,?_,λ_ _ h=>h⟩<;>grind[sr]
 refine⟨⟨E,hos,hout,htape,hsz,λB q r _=>hother B q (λe=>r b l hp e.symm),?_,?_,λs B h=>.inl h,by simp,?_,λ_ _ h=>.inl h,λ_ _ h=>.inl (ani.2 ⟨_,h⟩),λd c _ h=>by simpa using h⟩,?_⟩;·grind[pD,sr]
 ·grind[sr]
 ·grind
 ·constructor
  ·intro b' a J K M f h;simp only[o]at h;by_cases e:b'=b;·grind[pD]
   ·rw[if_neg e]at h;simp only[sr e]at f;exact(hW.lU b' a J K M f h).mono E (hother _ (hW.oW b' a f).1 (n b' a e f))
  ·intro b' a N c f h;simp only[o]at h;by_cases e:b'=b;·grind
   ·rw[if_neg e]at h;simp only[sr e]at f;exact(hW.map b' a N c f h).mono E (hother _ (hW.oW b' a f).1 (n b' a e f))
  ·intro d B cs t j;have j:nE G.h.ca d=some cs:=by simp_all
   exact(hW.loc d B cs t j).mono E (hother _ (hW.qL d B t).1 (hW.u7 d B b l t hp))
  ·intro b' a h;by_cases e:b'=b;·subst e;simp only[pD,Option.some.injEq]at h;subst h;exact⟨hlt,by simpa using(hW.oW b' l hp).2⟩
   ·simp only[sr e]at h;have:=hW.oW b' a h;exact⟨ane this.1 hsz,by simp_all⟩
  ·intro A C O a i D p;by_cases P:A=b;·grind[pD,sr]
   ·by_cases Q:C=b;·grind[pD,sr]
    ·simp only[sr P]at i;simp only[sr Q]at D;exact hW.rY A C O a i D p
  ·intro s b' a h m;by_cases e:b'=b
   ·subst e;simp only[pD,Option.some.injEq]at h;subst h;rcases hB with i|i
    ·grind
    ·rw[i]at m;have:=hW.sB s _ m;omega
   ·simp only[sr e]at h;exact hW.w0 s b' a h m
  ·exact hW.uI
  ·exact hW.LT
  ·intro d B b' a j h;by_cases e:b'=b
   ·subst e;simp only[pD,Option.some.injEq]at h;subst h;rcases hB with i|i
    ·rw[i];exact hW.u7 d B b' l j hp
    ·rw[i];have:=(hW.qL d B j).1;omega
   ·simp only[sr e]at h;exact hW.u7 d B b' a j h
  ·intro d B j;have:=hW.qL d B j;exact⟨ane this.1 hsz,by simp_all⟩
  ·intro s B u;exact ane (hW.sB s B u) hsz
  ·simpa using hW.lo
  ·intro b' x h;simp only[o]at h;simp only[aT.size_set];by_cases e:b'=b;·subst e;exact(hW.oW b' l hp).2
   ·rw[if_neg e]at h;exact hW.lt b' x h
theorem oZ.extract{R:AV->Value->Prop}{z base:Nat}{xs:List (List AV)}{c:Array Value}{m:Nat}(h:oZ R z base xs c)(hm:m=xs.length*z) :
  oZ R z 0 xs (c.extract base (base+m))/\(base+m<=c.size\/m=0):=by
 subst hm
 have f:base+xs.length*z<=c.size\/xs.length*z=0:=by
  by_cases o:xs.length*z=0;·omega
  ·left;have p:0<xs.length:=by grind
   (have q:0<z:=by grind);have a:xs[xs.length - 1]?=some xs[xs.length - 1]:=by simp
   (have r:=h.len _ _ a;have b:(xs[xs.length - 1])[z - 1]?=some (xs[xs.length - 1])[z - 1]:=by simp);obtain⟨v,g,_⟩:=h.rel _ _ _ _ a b;have:=(ano.1 g).1;have s:(xs.length - 1)*z+z=xs.length*z:=by rw[<- Nat.succ_mul];grind
   omega
 refine⟨⟨h.len,?_⟩,f⟩
 ·intro i e j x a b;obtain⟨v,t,k,l⟩:=h.rel i e j x a b;refine⟨v,?_,k,l⟩;rw[Array.getElem?_extract,Nat.zero_add];have d:i<xs.length:=(alt.1 a).1;have n:j<z:=by rw[<- h.len i e a];grind
  have u:i*z+j<xs.length*z:=by have:(i+1)*z<=xs.length*z:=anl _ d;grind
  grind
end
end Go.Sx
namespace Go.Sx
open Go
variable [DD]
section rows
variable {R:AV->Value->Prop}{z base:Nat}{xs ys:List (List AV)}{c vs:Array Value}
theorem oZ.append(h:oZ R z base xs c)(k:oZ R z (base+xs.length*z) ys c):oZ R z base (xs++ys) c:=by
 constructor
 ·intro i f e;rw[List.getElem?_append]at e;split at e;·exact h.len i f e
  ·exact k.len _ f e
 ·intro i f j x e g;rw[List.getElem?_append]at e;split at e;·exact h.rel i f j x e g
  ·rename_i l;obtain⟨v,a,b,d⟩:=k.rel _ f j x e g;refine⟨v,?_,b,d⟩;rw[<- a];congr 1;have:xs.length*z+(i - xs.length)*z=i*z:=by rw[<- Nat.add_mul];grind
   omega
theorem oZ.drop(h:oZ R z base xs c)(n:Nat):oZ R z (base+n*z) (xs.drop n) c:=by
 constructor;·intro i f e;rw[List.getElem?_drop]at e;exact h.len _ f e
 ·intro i f j x e g;rw[List.getElem?_drop]at e;obtain⟨v,a,b,d⟩:=h.rel _ f j x e g;grind
theorem oZ.take(h:oZ R z base xs c)(n:Nat):oZ R z base (xs.take n) c:=by
 constructor
 ·intro i b a;rw[List.getElem?_take]at a;split at a;·exact h.len _ b a
  grind
 ·intro i b j x a d;rw[List.getElem?_take]at a;split at a;·exact h.rel _ b j x a d
  grind
def oZ.same{c':Array Value}{base':Nat}(h:oZ R z base xs c)(he:∀k,k<xs.length*z->c'[base'+k]?=c[base+k]?):oZ R z base' xs c':=by
 refine⟨h.len,?_⟩;intro i g j x e l;obtain⟨v,a,b,d⟩:=h.rel i g j x e l;refine⟨v,?_,b,d⟩;have f:i<xs.length:=(alt.1 e).1;have m:j<z:=by rw[<- h.len i g e];grind
 have n:i*z+j<xs.length*z:=by have:(i+1)*z<=xs.length*z:=anl _ f;grind
 grind
def oZ.qN(h:oZ R z base xs c)(k:oZ R z 0 ys vs)(hv:vs.size=ys.length*z){n o:Nat}(ho:o=base+n*z)(hc:o+vs.size<=c.size)(hn:n<=xs.length) :
  oZ R z base (xs.take n++ys++xs.drop (n+ys.length)) ((c.toList.take o++vs.toList++c.toList.drop (o+vs.toList.length)).toArray):=by
 subst ho;have a:(xs.take n).length=n:=by grind
 refine oZ.append (oZ.append ((h.take n).same ?_) (k.same ?_)) ((h.drop (n+ys.length)).same ?_);·intro q b;rw[a]at b;grind
 ·intro q b;rw[a,AR hc,if_pos (by omega),Nat.zero_add];simp
 ·intro q b;rw[AR hc,if_neg];·grind
  ·rw[List.length_append,a,Nat.add_mul];omega
end rows
section
variable {P:Program}{C:nu}{G:Ga}{t:Nat}{ti:TI}
def tc.row{l:Loc}{z:Nat}{xs:List (List AV)}(h:tc G l z xs):∃c e,G.w.heap[l.B]?=some (.cells c e (0,0))/\xs.length<=l.cap/\l.base+l.cap*z<=c.size/\oZ (VC G) z l.base xs c:=by obtain⟨c,e,a,b,d,f,g⟩:=h;exact⟨c,e,a,b,d,⟨f,g⟩⟩
def tc.zK{l:Loc}{z:Nat}{xs:List (List AV)}{c:Array Value}{e:TypeId}(hB:G.w.heap[l.B]?=some (.cells c e (0,0)))(h1:xs.length<=l.cap)(h2:l.base+l.cap*z<=c.size)
  (h:oZ (VC G) z l.base xs c):tc G l z xs:=⟨c,e,hB,h1,h2,h.len,h.rel⟩
theorem yl{n:Nat}{ys:List (List AV)}(h:tM n ys=true){i:Nat}{cs:List AV}(hi:ys[i]?=some cs):cs.length=n:=by simp only[tM,List.all_eq_true,Nat.beq_eq]at h;grind
def oZ.one{R:AV->Value->Prop}{n base:Nat}{ys:List (List AV)}{c:Array Value}(h:oZ R n base ys c)(k:Nat)(hk:k<ys.length*n):∃v,c[base+k]?=some v/\v.oneCell'=true:=by
 have e:0<n:=by grind
 have i:k / n<ys.length:=(Nat.div_lt_iff_lt_mul e).2 hk;have f:ys[k / n]?=some ys[k / n]:=by simp
 have g:k % n<n:=Nat.mod_lt _ e;have j:k % n<(ys[k / n]).length:=by rw[h.len _ _ f];exact g
 have d:(ys[k / n])[k % n]?=some (ys[k / n])[k % n]:=by simp
 obtain⟨v,a,b,_⟩:=h.rel _ _ _ _ f d;refine⟨v,?_,b⟩;rw[<- a];congr 1;have:=Nat.div_add_mod k n;grind
def D5{B base:Nat}{c:Array Value}{e:TypeId}{fr:Nat×Nat}{R:AV->Value->Prop}{n:Nat}{ys:List (List AV)}(hB:G.w.heap[B]?=some (.cells c e fr))(h:oZ R n base ys c) :
  ∃news:Array Value,(∀w',w'.heap=G.w.heap->(loadCells ⟨B,base,none⟩ (ys.length*n)).run P w'=.ok news w')/\oZ R n 0 ys news/\news.size=ys.length*n/\(∀(i:Nat) (v:Value),news[i]?=some v->v.oneCell'=true):=by
 obtain⟨f,a⟩:=h.extract (m:=ys.length*n) rfl;have b:(c.extract base (base+ys.length*n)).size=ys.length*n:=by grind
 refine⟨c.extract base (base+ys.length*n),?_,f,b,?_⟩
 ·intro w' j;rcases a with a|a
  ·grind[KF]
  ·rw[a];simp[loadCells,loadCellsFrom];omega
 ·intro i v k;have d:i<ys.length*n:=by grind
  obtain⟨u,l,g⟩:=f.one i d;grind
def IL(hW:WR G){x:AV}{x':Value}{ys:List (List AV)}{n:Nat}(hx:VR G x x')(h:elems G.h x=some ys)(hn:tM n ys=true)(hpos:0<ys.length) :
  ∃(a:Addr) (cap':Nat) (news:Array Value),x'=.slice (some a) ys.length cap'/\(∀w',w'.heap=G.w.heap->(loadCells a (ys.length*n)).run P w'=.ok news w')/\oZ (VC G) n 0 ys news/\news.size=ys.length*n /\
   (∀(i:Nat) (v:Value),news[i]?=some v->v.oneCell'=true):=by
 cases x with
 |sl xs cap=>
  simp only[elems,Option.some.injEq]at h;subst h;cases xp hx with
  |slnil=>grind
  |sy=>grind
  |sl _ _ _ B base c e fr cap' esz f hm s hI p t hz hc h1 r=>
   (have m:xs[0]?=some xs[0]:=by simp);have u:esz=n:=by grind[yl]
   subst u;have q:oZ (VC G) esz base xs c:=⟨hz,λi y j x A C=>⟨f i j,hc i y j x A C,h1 i y j x A C,(r i y j x A C).CL⟩⟩;obtain⟨news,k1,k2⟩:=D5 (P:=P) s q;grind
 |hs b g off len=>
  simp only[elems]at h;split at h
  ·rename_i g' z xs d;split at h
   ·rename_i D;simp only[Bool.and_eq_true,Nat.beq_eq,Nat.ble_eq]at D;obtain⟨rfl,t⟩:=D;cases h;have k:((xs.drop off).take len).length=len:=by grind
    cases hx with
    |mR hp _=>simp[AV.oI]at hp
    |hs _ _ _ _ a cap' D hg hlc hl=>
     (obtain⟨l,E,p,F⟩:=hl z xs d;have o:=hpos;rw[k]at o;have F:=F (by omega);subst F;obtain⟨c,e,s,k1,k2,k3⟩:=(hW.lU b l g z xs E d).row;have m:((xs.drop off).take len)[0]?=some ((xs.drop off).take len)[0]:=by grind);have r:=(k3.drop off).take len;have u:z=n:=by rw[<- r.len 0 _ m];exact yl hn m
     subst u;obtain⟨news,H,J⟩:=D5 (P:=P) s r;exact⟨_,cap',news,by rw[k],H,J⟩
   ·cases h
  ·cases h
 |_=>cases h
def SL(hW:WR G)(hC:nV P C){tx:Nat}{tti:TI}(ht:C.T tx=some tti)(hk:Gg tti.kind=true){x:AV}{x':Value}{ys:List (List AV)}{n:Nat}(hx:VR G x x')(h:vm G.h x=some ys)(hn:tM n ys=true)
  (hpos:0<ys.length):∃news:Array Value,Src P n tx x' ys.length news.toList G.w/\oZ (VC G) n 0 ys news/\news.size=ys.length*n/\(∀(i:Nat) (v:Value),news[i]?=some v->v.oneCell'=true):=by
 obtain⟨d,E,_,f⟩:=(hC.ty tx tti ht).desc
 have g:(∃e',P.underlying tx=some (.slice e'))\/P.underlying tx=some .string:=by
  unfold Gg at hk;split at hk;·rename_i e m;rw[m]at f;have f:d=.slice _:=f;grind
  ·rename_i m;rw[m]at f;have f:d=.string:=f;grind
  grind
 unfold vm at h;split at h
 ·rename_i s D;cases h;have:=str?_eq D;subst this;obtain⟨b,rfl,o⟩:=hx.zV
  have p:n=1:=by
   (have r:0<s.length:=by grind);have t:(s.map λc=>[AV.int .u8 c.toNat])[0]?=some [AV.int .u8 (s[0]).toNat]:=by simp[r]
   have:=yl hn t;grind
  subst p;have y:b.size=s.length:=Bx o;refine⟨(byteCells b).toArray,?_,?_,?_,?_⟩
  ·have F:=firstCells_string (P:=P) b;rw[List.length_map];refine⟨g,λw'=>by rw[<- y];rfl,?_,?_,?_,?_⟩;·grind
   ·grind
   ·simp[byteCells,o]
   ·intro u l;simp only[byteCells,List.mem_map]at l;obtain⟨_,_,rfl⟩:=l;rfl
  ·constructor;·simp
   ·intro i H j x k A;rw[List.getElem?_map]at k;cases z:s[i]? with
    |none=>grind
    |some q=>
     rw[z]at k;cases k;cases j with
     |zero=>cases A;refine⟨.int .u8 q.toNat,?_,rfl,VR.int _ _,rfl⟩;grind[byteCells]
     |succ j=>cases A
  ·simp[byteCells,o]
  ·intro i v k;simp only[byteCells,List.getElem?_toArray,List.getElem?_map]at k;cases z:b.data.toList[i]? with
   |none=>grind
   |some q=>rw[z]at k;cases k;rfl
 ·obtain⟨a,B,news,rfl,k1,k2,k3,k4⟩:=IL (P:=P) hW hx h hn hpos;refine⟨news,⟨g,λ_=>rfl,?_,?_,by omega,?_⟩,k2,k3,k4⟩;·simp_all[Builtin.firstCells]
  ·simp only[Builtin.firstCells];rw[k1 G.w.drew rfl]
  ·intro u l;obtain⟨i,k⟩:=anq l;grind
def G4(t tx ty e:TypeId)(i:TypeInfo)(d:TypeDesc)(ht:P.underlying t=some (.slice e))(hi:P.info? e=some i)(hx:P.underlying tx=some d)(hd:(∃e',d=.slice e')\/d=.string)
  (base:Option Addr) (sLen sCap:Nat) (x:Value) (w:World) (hle:sLen<=sCap) (hl:(Builtin.lenOf x).run P w=.ok 0 w) (hc:(Builtin.firstCells i.size 0 x).run P w=.ok #[] w) :
  (Builtin.append_ #[t,tx] ty #[.slice base sLen sCap,x]).run P w=.ok (.slice base sLen sCap) w:=by
 rcases hd with⟨e',rfl⟩|rfl<;>cases base<;>simp[Builtin.append_,run_underlying ht,run_underlying hx,sizeOf,typeInfo,hi,hl,hle,hc,storeCells]
def OY(t tx ty e:TypeId)(i:TypeInfo)(ht:P.underlying t=some (.slice e))(hi:P.info? e=some i)(w:World)(b off sLen sCap:Nat)(x:Value)(n:Nat)(news:List Value)(hs:Src P i.size tx x n news w)
  (hroom:sLen+n<=sCap) {c:Array Value} {te:TypeId} (hB:w.heap[b]?=some (.cells c te (0,0))) (hfit:off+sLen*i.size+news.length<=c.size) :
  (Builtin.append_ #[t,tx] ty #[.slice (some ⟨b,off,none⟩) sLen sCap,x]).run P w =
    .ok (.slice (some ⟨b,off,none⟩) (sLen+n) sCap) (w.setRow b (c.toList.take (off+sLen*i.size)++news++c.toList.drop (off+sLen*i.size+news.length)).toArray):=by
 have a:=run_storeCells_at (P:=P) b (off+sLen*i.size) te news 0 c w hB (by omega) hs.one;simp only[Nat.add_zero]at a;rcases hs.kind with⟨e',d⟩|d<;>simp[Builtin.append_,run_underlying ht,run_underlying d,sizeOf,typeInfo,hi,hs.len,hroom,hs.cells,Addr.add_lit,a]
end
end Go.Sx
namespace Go.Sx
open Go
variable [DD]
section
variable {P:Program}{C:nu}{G:Ga}{t:Nat}{ti:TI}
def T2:sg->Nat->Prop
 |.nil,c=>c=0
 |.exact n,c=>c=n
 |_,_=>True
def uu.to{cap:sg}{l c:Nat}(h:uu cap l c):T2 cap c:=by
 cases cap with
 |nil=>cases h
 |exact n=>exact h
 |oo=>trivial
 |qJ=>trivial
def Cf{s:AV}{s':Value}(hs:VR G s s')(h:(∃xs c,s=.sl xs c)\/∃b g o l,s=.hs b g o l):∃base len cap,s'=.slice base len cap/\len<=cap:=by
 rcases h with⟨xs,c,rfl⟩|⟨b,g,o,l,rfl⟩
 ·cases xp hs<;>grind
 ·cases hs<;>grind[AV.oI]
def U8{x:AV}{x':Value}(hx:VR G x x')(h:vm G.h x=some [])(n:Nat)(w:World):(Builtin.lenOf x').run P w=.ok 0 w/\(Builtin.firstCells n 0 x').run P w=.ok #[] w:=by
 have i:∀a,(loadCells a 0).run P w=.ok #[] w:=by intro a;rfl
 have e:∀a:Addr,(loadCells a (0*n)).run P w=.ok #[] w:=by grind
 unfold vm at h;split at h;·rename_i s hs;have:=str?_eq hs;subst this;obtain⟨b,rfl,c⟩:=hx.zV;simp_all[Bx,Builtin.lenOf,Builtin.firstCells]
 ·cases x with
  |sl j cap=>
   simp only[elems,Option.some.injEq]at h;subst h;cases xp hx with
   |slnil=>simp_all[Builtin.lenOf,Builtin.firstCells]
   |sy=>simp_all[Builtin.lenOf,Builtin.firstCells]
   |sl=>simp_all[Builtin.lenOf,Builtin.firstCells]
  |hs b g off len=>
   simp only[elems]at h;split at h
   ·rename_i g' z j f;split at h
    ·rename_i c;simp only[Bool.and_eq_true,Nat.beq_eq,Nat.ble_eq]at c;obtain⟨rfl,k⟩:=c;have l:=congrArg (Option.map List.length) h;simp only[Option.map_some,List.length_take,List.length_drop,List.length_nil,Option.some.injEq]at l;have d:len=0:=by omega
     subst d;cases hx with
     |mR hp _=>simp[AV.oI]at hp
     |hs=>simp_all[Builtin.lenOf,Builtin.firstCells]
    ·cases h
   ·cases h
  |_=>cases h
def Oa{xs ys:List (List AV)}{n cap:Nat}{olds news z:Array Value}(hx:oZ (VC G) n 0 xs olds)(hy:oZ (VC G) n 0 ys news)(hxs:olds.size=xs.length*n)(hys:news.size=ys.length*n)(hz:z.size=n)
  (hx1:∀(i:Nat) (v:Value),olds[i]?=some v->v.oneCell'=true) (hy1:∀(i:Nat) (v:Value),news[i]?=some v->v.oneCell'=true) (hz1:∀(i:Nat) (v:Value),z[i]?=some v->v.oneCell'=true) (hcap:xs.length+ys.length<=cap) :
  oZ (VC G) n 0 (xs++ys) ((olds.toList++news.toList).toArray++Builtin.zeroCells z (cap - (xs.length+ys.length))) /\
   ((olds.toList++news.toList).toArray++Builtin.zeroCells z (cap - (xs.length+ys.length))).size=cap*n /\
   (∀(i:Nat) (v:Value),((olds.toList++news.toList).toArray++Builtin.zeroCells z (cap - (xs.length+ys.length)))[i]?=some v->v.oneCell'=true):=by
 have b:(olds.toList++news.toList).toArray.size=(xs.length+ys.length)*n:=by grind
 have e:∀k,k<(xs.length+ys.length)*n->((olds.toList++news.toList).toArray++Builtin.zeroCells z (cap - (xs.length+ys.length)))[k]?=if k<xs.length*n then olds[k]? else news[k - xs.length*n]?:=by grind
 refine⟨oZ.append (hx.same ?_) (hy.same ?_),?_,?_⟩;·grind
 ·grind
 ·rw[Array.size_append,b,size_zeroCells,hz,<- Nat.add_mul];grind
 ·intro k v a;by_cases g:k<(xs.length+ys.length)*n;·grind
  ·rw[Array.getElem?_append,if_neg (by omega)]at a;simp only[Builtin.zeroCells,Array.getElem?_map]at a;cases f:(Array.range ((cap - (xs.length+ys.length))*z.size))[k - (olds.toList++news.toList).toArray.size]? with
   |none=>grind
   |some q=>
    rw[f]at a;simp only[Option.map_some,Option.some.injEq]at a;have c:0<z.size:=by grind
    have d:q % z.size<z.size:=Nat.mod_lt _ c;rw[getElem!_pos z _ d]at a;exact hz1 (q % z.size) v (by grind)
def fits{need yT bytes:Nat}(h:yT<need)(hn:need<=xJ)(hb:bytes<=1048576):Builtin.nextslicecap need yT*bytes<=281474976710656/\((need:Nat):Int)<=9223372036854775807:=by have a:need*bytes<=1048576*1048576:=Nat.mul_le_mul hn hb;unfold xJ at hn;exact⟨growslice_fits h (by omega),by omega⟩
def Mj(hW:WR G)(hC:nV P C){ats:Array Nat}{s x:AV}{s' x':Value}{ty:Nat}{r:AV×aT}(hs:VR G s s')(hx:VR G x x')(h:y6 C ats.toList [s,x] G.h=some r) :
  wP P G (Builtin.append_ ats ty #[s',x']) r:=by
 unfold y6 at h;split at h
 ·rename_i ti s0 x0 R S;simp only[List.cons.injEq,and_true]at S;obtain⟨rfl,rfl⟩:=S;split at h
  ·rename_i F;unfold JX at F;split at F
   ·rename_i t Y hats;have hats':ats = #[t,Y]:=by grind
    subst hats';split at F
    ·rename_i tti htx;simp only[wM]at R;obtain⟨Q,hd,hte,hTe⟩:=xj hC R;obtain⟨i,z,hi,hz,hcr,hzs,hza,hzo⟩:=hTe.BC (G:=G);have Z:i.size=ti.size/\i.bytes=ti.bytes:=by obtain⟨ii,_,hii,h1,h2,_⟩:=hTe.info;grind
     (have hby:i.bytes<=1048576:=by rw[Z.2];exact hTe.bytes);split at h;·cases h
     ·rename_i ys hys;split at h
      ·rename_i hok;unfold append at h;split at h
       ·
        obtain⟨d,hdx,_,hkd⟩:=(hC.ty Y tti htx).desc
        have hdd:(∃e',d=.slice e')\/d=.string:=by
         unfold Gg at F;split at F;·rename_i e he;rw[he]at hkd;exact .inl ⟨e,hkd⟩
         ·rename_i he;rw[he]at hkd;exact .inr hkd
         grind
        obtain⟨k1,k2⟩:=U8 (P:=P) hx hys i.size G.w;split at h;·cases h;obtain⟨base,len,cap,rfl,J⟩:=Cf hs (.inl ⟨_,_,rfl⟩);exact⟨_,G,G4 t Y ty Q i d hd hi hdx hdd base len cap x' G.w J k1 k2,rfl,.refl G,hW,hs⟩
        ·cases h;obtain⟨base,len,cap,rfl,J⟩:=Cf hs (.inr ⟨_,_,_,_,rfl⟩);exact⟨_,G,G4 t Y ty Q i d hd hi hdx hdd base len cap x' G.w J k1 k2,rfl,.refl G,hW,hs⟩
        ·cases h
       ·rename_i y0 ys0;generalize hyy:y0::ys0=ys at h hys hok;have hpos:0<ys.length:=by grind
        clear hyy;split at h;·cases h
        ·rename_i hal;obtain⟨A,hS,O,T,hone⟩:=SL (P:=P) hW hC htx F hx hys hal hpos;rw[<- Z.1]at hS
         have hnew:∀(y:List (List AV)) (base:Option Addr) (u:Nat) (j:Array Value),s'=.slice base y.length u->(Builtin.firstCells i.size y.length (.slice base y.length u)).run P G.w.drew=.ok j G.w.drew ->
           oZ (VC G) ti.size 0 y j->j.size=y.length*ti.size->(∀(i:Nat) (v:Value),j[i]?=some v->v.oneCell'=true)->u<y.length+ys.length->yS ti.size G.h y ys=some r ->
           wP P G (Builtin.append_ #[t,Y] ty #[s',x']) r:=by
          intro y base u j hs' U hro hso ho1 hlt hap;subst hs';unfold yS at hap;split at hap
          ·rename_i hb;simp only[Bool.and_eq_true,Nat.ble_eq]at hb;simp only[sj,Option.some.injEq]at hap;subst hap;obtain⟨f1,f2⟩:=fits hlt hb.2 hby;have D:=run_append_grow_src (P:=P) G.w t Y ty Q i z hd hi hz base y.length u j.toList (by omega) x' ys.length A.toList hS hlt f2 f1;obtain⟨g1,g2,g3⟩:=Oa (cap:=grownCap G.w (y.length+ys.length) u Q) hro O hso T hzs ho1 hone hcr.one (grownCap_ge _ _ _ _)
           obtain⟨M,N⟩:=HF (ob:=.lU 0 ti.size (y++ys)) (cap:=grownCap G.w (y.length+ys.length) u Q) hW (pe.drew G.w (.cells ((j.toList++A.toList).toArray++Builtin.zeroCells z.cells (grownCap G.w (y.length+ys.length) u Q - (y.length+ys.length))) Q)) (by
            intro g zz y2 e G' E hnew;cases e
            refine tc.zK hnew (by grind[grownCap_ge]) (by grind) (g1.mono (λ_ _ h=>h.mono E))) (by simp)
           refine⟨_,_,D,rfl,M,N,?_⟩;refine .hs _ 0 0 _ _ _ (by simp) (by omega) (grownCap_ge _ _ _ _) ?_;grind[pD]
          grind
         have V:∀(y:List (List AV)) (cap:sg),s=.sl y cap->tM ti.size y=true->∃base u j,s'=.slice base y.length u/\T2 cap u/\(Builtin.firstCells i.size y.length (.slice base y.length u)).run P G.w.drew=.ok j G.w.drew /\
           oZ (VC G) ti.size 0 y j/\j.size=y.length*ti.size/\(∀(i:Nat) (v:Value),j[i]?=some v->v.oneCell'=true):=by
          intro y cap yX W;subst yX;rcases anI y.length with h0|h0
          ·have hx0:y=[]:=ann h0;subst hx0;have hr0:oZ (VC G) ti.size 0 [] #[]:=⟨by simp,by simp⟩;cases xp hs with
           |slnil=>exact⟨none,0,#[],rfl,rfl,by rfl,hr0,by simp,by simp⟩
           |sy _ _ a c hm hc=>refine⟨some a,c,#[],rfl,hc.to,?_,hr0,by simp,by simp⟩;simp only[Builtin.firstCells,List.length_nil,Nat.zero_mul];rfl
           |sl _ _ _ B base c e fr q esz f hm hB hI hc J=>refine⟨_,q,#[],rfl,hc.to,?_,hr0,by simp,by simp⟩;simp only[Builtin.firstCells,List.length_nil,Nat.zero_mul];rfl
          ·obtain⟨a,q,j,rfl,k1,k2,k3,k4⟩:=IL (P:=P) hW hs (ys:=y) rfl W h0;refine⟨some a,q,j,rfl,?_,?_,k2,k3,k4⟩
           ·cases xp hs with
            |sy _ _ a c hm hc=>grind
            |sl _ _ _ B base c e fr q esz f hm hB hI hc J=>exact hc.to
           ·simp only[Builtin.firstCells,Z.1];exact k1 _ rfl
         split at h
         ·rename_i y;have W:tM ti.size y=true:=by grind[yS]
          obtain⟨base,u,j,e1,e2,e3,e4,e5,e6⟩:=V y _ rfl W;have e2:u=0:=e2;grind
         ·rename_i y m;split at h
          ·rename_i hlt;rw[Nat.blt_eq]at hlt;have W:tM ti.size y=true:=by grind[yS]
           obtain⟨base,u,j,e1,e2,e3,e4,e5,e6⟩:=V y _ rfl W;have e2:u=m:=e2;grind
          ·cases h
         ·rename_i b g p len;unfold Im at h;split at h
          ·rename_i g' zz y L;split at h;·cases h
           ·rename_i hb;simp only[Bool.not_eq_true',Bool.not_eq_false',Bool.and_eq_true,Nat.beq_eq,Nat.ble_eq,Bool.not_eq_false]at hb;obtain⟨⟨rfl,rfl⟩,hmost⟩:=hb;cases hs with
            |mR hp _=>simp[AV.oI]at hp
            |hs _ _ _ _ a q hbl hgg hlc hl=>
             obtain⟨l,hpi,hcap,X⟩:=hl _ y L;obtain⟨c,e,hB,k1,k2,k3⟩:=(hW.lU b l g _ y hpi L).row
             have hin:len+ys.length<=q->a=⟨l.B,l.base+p*ti.size,none⟩/\l.base+p*ti.size+len*ti.size+A.size<=c.size /\
               (Builtin.append_ #[t,Y] ty #[.slice (some a) len q,x']).run P G.w=.ok (.slice (some a) (len+ys.length) q)
                 (G.w.setRow l.B (c.toList.take (l.base+p*ti.size+len*ti.size)++A.toList++c.toList.drop (l.base+p*ti.size+len*ti.size+A.toList.length)).toArray):=by
              intro J;have X:=X (by omega);have H:l.base+p*ti.size+len*ti.size+A.size<=c.size:=by rw[T];have:(p+(len+ys.length))*ti.size<=l.cap*ti.size:=anl _ (by omega);grind
              refine⟨X,H,?_⟩;subst X;have:=OY (P:=P) t Y ty Q i hd hi G.w l.B (l.base+p*ti.size) len q x' ys.length A.toList hS J hB (by grind);grind
             split at h
             ·rename_i K;rw[Nat.ble_eq]at K;simp only[sj,Option.some.injEq]at h;subst h;obtain⟨X,H,D⟩:=hin (by omega)
              obtain⟨M,N⟩:=A1 (ob:=.lU g ti.size (overwrite y (p+len) ys)) hW hpi (wF.row (c':=(c.toList.take (l.base+p*ti.size+len*ti.size)++A.toList++c.toList.drop (l.base+p*ti.size+len*ti.size+A.toList.length)).toArray) hB)
               (.inl ⟨g,_,y,_,L,rfl⟩) (by
                 intro g2 z2 xs2 e2 G' E hnw;cases e2;have hov:=k3.qN O T (n:=p+len) (o:=l.base+p*ti.size+len*ti.size) (by grind) H (by omega);refine tc.zK hnw ?_ (by grind) (hov.mono (λ_ _ h=>h.mono E))
                 grind[overwrite]) (by simp)
              refine⟨_,_,D,rfl,M,N,?_⟩;refine .hs b g p _ a q (by simpa using hbl) ?_ (by omega) ?_<;>grind[overwrite,aT.pa,aT.qZ]
             ·rename_i hno;split at h
              ·rename_i hend;rw[Nat.beq_eq]at hend;have hno:¬p+len+ys.length<=y.length:=by omega
               (simp only[sj,Option.some.injEq]at h;subst h;have hdl:(y.drop p).length=len:=by grind);have hvr:∀(G':Ga) (l':Loc) (a':Addr) (cc:Nat),G'.h=G.h.set b (.lU (g+1) ti.size (y.drop p++ys))->G'.pi b=some l'->l'.cap=cc->len+ys.length<=cc->a'=⟨l'.B,l'.base,none⟩->VR G' (.hs b (g+1) 0 (len+ys.length)) (.slice (some a') (len+ys.length) cc):=by intro G' l' a' cc eh ep ec J ea;refine .hs b (g+1) 0 _ a' cc (by rw[eh];simpa using hbl) ?_ J ?_<;>grind[aT.pa,aT.qZ]
               by_cases K:len+ys.length<=q
               ·obtain⟨X,H,D⟩:=hin K
                obtain⟨M,N⟩:=Z9 (l':=⟨l.B,l.base+p*ti.size,q⟩) (xs':=y.drop p++ys) (w':=G.w.setRow l.B (c.toList.take (l.base+p*ti.size+len*ti.size)++A.toList++c.toList.drop (l.base+p*ti.size+len*ti.size+A.toList.length)).toArray) hW hpi L (.inl rfl) (by simp)
                 (by grind[setRow_size]) (λk _ hk=>setRow_other _ _ k _ hk) rfl rfl (.rfl _) (by
                   intro G' E hw;have hnw:G'.w.heap[l.B]?=some (.cells (c.toList.take (l.base+p*ti.size+len*ti.size)++A.toList++c.toList.drop (l.base+p*ti.size+len*ti.size+A.toList.length)).toArray e (0,0)):=by grind[setRow_heap]
                   (have hov:=(k3.drop p).qN O T (n:=len) (o:=l.base+p*ti.size+len*ti.size) rfl H (by omega);have hcut:(y.drop p).take len++ys++(y.drop p).drop (len+ys.length)=y.drop p++ys:=by rw[List.take_of_length_le (Nat.le_of_eq hdl),show(y.drop p).drop (len+ys.length)=[]from List.drop_eq_nil_of_le (by omega),List.append_nil]);rw[hcut]at hov;refine tc.zK hnw (by grind) ?_ (hov.mono (λ_ _ h=>h.mono E));rw[Vo H];have:(p+q)*ti.size<=l.cap*ti.size:=anl _ (by omega)
                   grind)
                exact⟨_,_,D,rfl,M,N,hvr _ _ _ _ rfl (pD _ _ _) rfl K X⟩
               ·
                have hro:=k3.drop p
                have U:∃j:Array Value,(Builtin.firstCells i.size len (.slice (some a) len q)).run P G.w.drew=.ok j G.w.drew/\oZ (VC G) ti.size 0 (y.drop p) j/\j.size=(y.drop p).length*ti.size/\(∀(i:Nat) (v:Value),j[i]?=some v->v.oneCell'=true):=by
                 (rcases anI q with h0|h0);·(have hl0:len=0:=by omega);have hx0:y.drop p=[]:=ann (by omega);rw[hx0,hl0];refine⟨#[],?_,⟨by simp,by simp⟩,by simp,by simp⟩;simp only[Builtin.firstCells,Nat.zero_mul];rfl
                 ·have X:=X h0;subst X;obtain⟨j,m1,m2⟩:=D5 (P:=P) hB hro;refine⟨j,?_,m2⟩;simp only[Builtin.firstCells,Z.1];rw[hdl]at m1;exact m1 _ rfl
                obtain⟨j,U,hro',hso,ho1⟩:=U;obtain⟨f1,f2⟩:=fits (need:=len+ys.length) (yT:=q) (bytes:=i.bytes) (by omega) (by omega) hby;have D:=run_append_grow_src (P:=P) G.w t Y ty Q i z hd hi hz (some a) len q j.toList (by omega) x' ys.length A.toList hS (by omega) f2 f1;obtain⟨g1,g2,g3⟩:=Oa (cap:=grownCap G.w (len+ys.length) q Q) hro' O hso T hzs ho1 hone hcr.one (by grind[grownCap_ge]);rw[hdl]at g1 g2 g3;have hA:=pe.drew G.w (.cells ((j.toList++A.toList).toArray++Builtin.zeroCells z.cells (grownCap G.w (len+ys.length) q Q - (len+ys.length))) Q)
                obtain⟨M,N⟩:=Z9 (l':=⟨G.w.heap.size,0,grownCap G.w (len+ys.length) q Q⟩) (xs':=y.drop p++ys) hW hpi L (.inr rfl) (by simp) (by simp)
                 (λk hk _=>hA.yT hk) hA.os hA.output hA.tape (by
                   intro G' E hw
                   refine tc.zK (by rw[hw];exact hA.new) (by grind[grownCap_ge]) (by grind) (g1.mono (λ_ _ h=>h.mono E)))
                exact⟨_,_,D,rfl,M,N,hvr _ _ _ _ rfl (pD _ _ _) rfl (grownCap_ge _ _ _ _) rfl⟩
              ·cases h
          ·cases h
         ·cases h
      ·cases h
    grind
   grind
  ·cases h
 ·cases h
end
end Go.Sx
namespace Go.Sx
open Go
variable [DD]
section
variable {P:Program}{C:nu}{G:Ga}{t:Nat}{tk:TI}
def Dg{k:AV}(h:wh tk k=true):k.vU=true:=by
 unfold wh at h;split at h;·unfold yN at h;split at h<;>first|rfl|cases h
 ·split at h;·rename_i l a;have:=agg?_eq a;subst this;simp only[Bool.and_eq_true,List.all_eq_true]at h;simp only[AV.vU,List.all_eq_true];intro x b;have:=Fk h.2 x b;grind[Bq]
  ·cases h
def aar{v:AV}{u:Value}(h:VR G v u)(hs:Bq v=true):PR G.w G.T false v u:=by
 unfold Bq at hs;split at hs;·exact h.GM rfl
 ·exact h.GM rfl
 ·exact h.GM rfl
 grind
def E2{k:AV}{kv:Value}(hk:VR G k kv)(h:wh tk k=true):PR G.w G.T false k kv:=by
 unfold wh at h;split at h;·refine aar hk ?_;unfold yN at h;split at h<;>first|rfl|cases h
 ·split at h;·rename_i l c;have:=agg?_eq c;subst this;simp only[Bool.and_eq_true,List.all_eq_true]at h;obtain⟨d,rfl,a,e,f⟩:=hk.Bi;exact .agg _ l d a e (λi x y b g=>aar (f i x y b g).vr (Fk h.2 x (alc b)))
  ·cases h
theorem Vt{a b:ByteArray}(h:a.data.toList=b.data.toList):a=b:=by cases a<;>simp_all
theorem ML(a b:ByteArray):(a==b)=(a.data.toList==b.data.toList):=by
 cases a with|mk a=>cases b with|mk b=>
 have:((ByteArray.mk a)==(ByteArray.mk b))=(a==b):=rfl;simp_all
theorem DR{n:Nat}{kt:Nat}{e:Bool}{kv:Value}{w:World}{d:TypeDesc}(hd:P.underlying kt=some d)(h:d=.string\/d=.bool\/∃k,d=.int k):(Instr.checkKey e (n+1) kt kv).run P w=.ok () w:=by rcases h with rfl|rfl|⟨k,rfl⟩<;>simp[Instr.checkKey,run_underlying hd]
theorem Ky{a b:AV}{x y:Value}{m n:Bool}{w:World}{T:Bool->Nat->Prop}(ha:PR w T m a x)(hb:PR w T n b y)(h:qV a b=some true):x=y:=by
 cases a<;>simp only[qV,wx,Fs,Cl,GC,reduceCtorEq]at h<;>cases b<;>simp only[AV.bool?,AV.int?,AV.str?,reduceCtorEq]at h;·cases ha;cases hb<;>grind
 ·cases ha;cases hb<;>grind[wS,u5]
 ·cases ha with
  |str _ _ c hc=>cases hb<;>grind[Vt]
def KH{w:World}{T:Bool->Nat->Prop}{m n:Bool}:∀{l k:List AV} {xs ys:List Value},l.length=xs.length->k.length=ys.length->(∀(i:Nat)(x:AV) (y:Value),l[i]?=some x->xs[i]?=some y->PR w T m x y) ->
  (∀(i:Nat) (x:AV) (y:Value),k[i]?=some x->ys[i]?=some y->PR w T n x y)->pX l k=some true->xs=ys
 |[],[],xs,ys,hl,hk,_,_,_=>by grind
 |[],_::_,_,_,_,_,_,_,h=>by cases h
 |_::_,[],_,_,_,_,_,_,h=>by cases h
 |a::l,b::k,[],_,hl,_,_,_,_=>by simp at hl
 |a::l,b::k,_::_,[],_,hk,_,_,_=>by simp at hk
 |a::l,b::k,x::xs,y::ys,hl,hk,hx,hy,h=>by
  simp only[pX]at h;split at h;·rename_i c;have d:=Ky (hx 0 a x rfl rfl) (hy 0 b y rfl rfl) c;have e:=KH (by grind) (by grind) (λi=>hx (i+1)) (λi=>hy (i+1)) h;grind
  ·grind
  ·cases h
def Sj{a b:AV}{x y:Value}{m n:Bool}{w:World}{T:Bool->Nat->Prop}(ha:PR w T m a x)(hb:PR w T n b y)(h:pZ a b=some true):x=y:=by
 unfold pZ at h;split at h
 ·rename_i l d;have:=agg?_eq d;subst this;unfold Jz at h;split at h
  ·rename_i k e;have:=agg?_eq e;subst this;cases ha with
   |agg _ _ xs h1 h2 h3=>
    cases hb with
    |agg _ _ ys k1 k2 k3=>have:=KH (xs:=xs.toList) (ys:=ys.toList) (by omega) (by omega) (λi x y c f=>h3 i x y c (by grind)) (λi x y c f=>k3 i x y c (by grind)) h;simp_all
  ·cases h
 grind[Ky]
theorem sameBits_self{v:AV}{x:Value}{w:World}{T:Bool->Nat->Prop}{m:Bool}(h:PR w T m v x)(hk:v.vU=true):∀n,Instr.sameBits (n+2) x x=true:=by
 have c:∀(u:AV) (y:Value) (n:Nat),PR w T m u y->Bq u=true->Instr.sameBits n y y=true:=by
  intro u y n f j;unfold Bq at j;split at j;·cases f<;>grind[Instr.sameBits]
  ·cases f<;>grind[Instr.sameBits]
  ·cases f<;>grind[Instr.sameBits,ML]
  grind
 intro n;cases v with
 |bool b=>exact c _ _ _ h rfl
 |int k i=>exact c _ _ _ h rfl
 |str s=>exact c _ _ _ h rfl
 |agg l=>
  simp only[AV.vU,List.all_eq_true]at hk;cases h with
  |agg _ _ vs hl h1 hr=>
   (simp only[Instr.sameBits,beq_self_eq_true,Bool.true_and,List.all_eq_true];rintro⟨a,b⟩g;obtain⟨i,o⟩:=anq g;rw[List.getElem?_zip_eq_some]at o;have d:a=b:=by grind);subst d;have e:i<l.length:=by grind
   (have p:l[i]?=some l[i]:=by simp);refine c l[i] a _ (hr i l[i] a p (by grind)) ?_;have:=hk l[i] (adc e);revert this;generalize l[i]=q;intro this;cases q<;>first|rfl|cases this
 |_=>simp[AV.vU]at hk
def Told(P:Program)(kt:Nat)(d:TypeDesc)(k:AV)(kv:Value)(w:World)(T:Bool->Nat->Prop):Prop :=
 (∀(k':AV) (kv':Value) (b:Bool),PR w T false k' kv'->pZ k k'=some b->Instr.sameNow d kv kv'=some b) \/
 ((∀kv',Instr.sameNow d kv kv'=none)/\∀(k':AV) (kv':Value) (b:Bool),PR w T false k' kv'->pZ k k'=some b->(Op.equal kt kv kv').run P w=.ok b w)
def told{kt:Nat}{k:AV}{kv:Value}{w:World}{T:Bool->Nat->Prop}(hT:sO P kt tk)(hf:wh tk k=true)(hk:PR w T false k kv):∃d,P.underlying kt=some d/\Told P kt d k kv w T/\∀e w,(Instr.checkKey e 10000 kt kv).run P w=.ok () w:=by
 obtain⟨d,x,u,f⟩:=hT.desc;refine⟨d,x,?_⟩;unfold wh at hf;split at hf
 ·unfold yN at hf;split at hf
  ·rename_i kd A n g;rw[wS]at hf;subst hf;rw[g]at f;have f:d=.int kd:=f;subst f;cases hk;refine⟨.inl ?_,?_⟩
   ·intro k' p b i j;simp only[pZ,AV.agg?,qV,Cl]at j;split at j;·rename_i k2 m q;have:=int?_eq q;subst this;cases i<;>grind[wS,u5,Instr.sameNow]
    grind
   grind[DR]
  ·rename_i s g;rw[g]at f;have f:d=.string:=f;subst f;cases hk with
   |str _ _ c hc=>
   refine⟨.inl ?_,?_⟩
   ·intro k' p b i j;simp only[pZ,AV.agg?,qV,GC]at j;split at j;·rename_i y q;have:=str?_eq q;subst this;cases i<;>grind[Instr.sameNow,ML]
    grind
   grind[DR]
  ·rename_i B g;rw[g]at f;have f:d=.bool:=f;subst f;cases hk;refine⟨.inl ?_,?_⟩
   ·intro k' p b i j;simp only[pZ,AV.agg?,qV,Fs]at j;split at j;·rename_i y q;have:=bool?_eq q;subst this;cases i<;>grind[Instr.sameNow]
    grind
   grind[DR]
  grind
 ·rename_i o;split at hf
  ·rename_i l z;have:=agg?_eq z;subst this;simp only[Bool.and_eq_true,Nat.beq_eq]at hf;cases hk with
   |agg _ _ vs hlv h1 hr=>
   have t:PR w T true (.agg l) (.agg vs):=(PR.agg false l vs hlv h1 hr).QP;refine⟨.inr ⟨?_,?_⟩,?_⟩;·intro p;rw[o]at u;cases d<;>simp[QZ]at u<;>rfl
   ·intro k' p b i j;simp only[pZ,AV.agg?,Jz]at j;split at j
    ·rename_i m q;have:=agg?_eq q;subst this;cases i with
     |agg _ _ us hlu h2 hr2=>
     have r:m.length=tk.size:=by
      have:∀{l m:List AV} {b:Bool},pX l m=some b->l.length=m.length:=by
       intro l;induction l with
       |nil=>intro m b h;cases m with|nil=>rfl|cons _ _=>cases h
       |cons a l ih=>intro m b h;cases m<;>grind[pX]
      grind
     exact hT.flat hf.1.1 o l m vs us b w T hf.2 hf.1.2 r t ((PR.agg false m us hlu h2 hr2).QP) j
    grind
   ·intro e w';exact hT.key hf.1.1 o e vs w' (by omega)
  grind
end
end Go.Sx
namespace Go.Sx
open Go
variable [DD]
section
variable {P:Program}{C:nu}{G:Ga}{t:Nat}{tk:TI}
def Found(k:AV)(es:List (AV×AV×Nat))(ents:List MapEntry)(i:Nat)(r:Option (Nat×AV))(r':Option (Nat×Value)):Prop :=
 (r=none/\r'=none)\/∃j p e,r=some (i+j,p.2.1)/\es[j]?=some p/\ents[j]?=some e/\pZ k p.1=some true/\r'=some (i+j,e.val)
def Found.cons{k:AV}{p:AV×AV×Nat}{e:MapEntry}{es:List (AV×AV×Nat)}{ents:List MapEntry}{i:Nat}{r:Option (Nat×AV)}{r':Option (Nat×Value)}(h:Found k es ents (i+1) r r'):Found k (p::es) (e::ents) i r r':=by
 rcases h with h|⟨j,p',e',d,a,b,c,f⟩
 ·exact .inl h
 ·exact .inr ⟨j+1,p',e',by grind,a,b,c,by grind⟩
def M9{d:TypeDesc}{k:AV}{kv:Value}{w:World}{T:Bool->Nat->Prop}(H:∀(k':AV)(kv':Value) (b:Bool),PR w T false k' kv'->pZ k k'=some b->Instr.sameNow d kv kv'=some b) :
  ∀(es:List (AV×AV×Nat)) (ents:List MapEntry) (i:Nat) (r:Option (Nat×AV)),es.length=ents.length->(∀(j:Nat) p e,es[j]?=some p->ents[j]?=some e->PR w T false p.1 e.key)->findKey k es i=some r ->
   ∃r',Instr.findNow d kv ents i=some r'/\Found k es ents i r r'
 |[],[],i,r,_,_,h=>by simp only[findKey,Option.some.injEq]at h;subst h;exact⟨none,rfl,.inl ⟨rfl,rfl⟩⟩
 |[],_::_,_,_,hl,_,_=>by simp at hl
 |_::_,[],_,_,hl,_,_=>by simp at hl
 |p::es,e::ents,i,r,hl,hr,h=>by
  obtain⟨k',v,a⟩:=p;simp only[findKey]at h;have g:=hr 0 (k',v,a) e rfl rfl;split at h;·rename_i c;cases h;refine⟨some (i,e.val),by grind[Instr.findNow],.inr ⟨0,(k',v,a),e,rfl,rfl,rfl,c,rfl⟩⟩
  ·rename_i c;obtain⟨r',l,f⟩:=M9 H es ents (i+1) r (by grind) (λj=>hr (j+1)) h;exact⟨r',by grind[Instr.findNow],f.cons⟩
  ·cases h
def Mw{kt:Nat}{k:AV}{kv:Value}{w:World}{T:Bool->Nat->Prop}(H:∀(k':AV)(kv':Value) (b:Bool),PR w T false k' kv'->pZ k k'=some b->(Op.equal kt kv kv').run P w=.ok b w) :
  ∀(es:List (AV×AV×Nat)) (ents:List MapEntry) (i:Nat) (r:Option (Nat×AV)),es.length=ents.length->(∀(j:Nat) p e,es[j]?=some p->ents[j]?=some e->PR w T false p.1 e.key)->findKey k es i=some r ->
   ∃r',(Instr.findAsking kt kv ents i).run P w=.ok r' w/\Found k es ents i r r'
 |[],[],i,r,_,_,h=>by simp only[findKey,Option.some.injEq]at h;subst h;exact⟨none,rfl,.inl ⟨rfl,rfl⟩⟩
 |[],_::_,_,_,hl,_,_=>by simp at hl
 |_::_,[],_,_,hl,_,_=>by simp at hl
 |p::es,e::ents,i,r,hl,hr,h=>by
  obtain⟨k',v,c⟩:=p;simp only[findKey]at h;have d:=hr 0 (k',v,c) e rfl rfl;split at h;·rename_i a;cases h;refine⟨some (i,e.val),by simp[Instr.findAsking,H k' e.key true d a],.inr ⟨0,(k',v,c),e,rfl,rfl,rfl,a,rfl⟩⟩
  ·rename_i a;obtain⟨r',f,g⟩:=Mw H es ents (i+1) r (by grind) (λj=>hr (j+1)) h;exact⟨r',by simp[Instr.findAsking,H k' e.key false d a,f],g.cons⟩
  ·cases h
def vd{kt:Nat}{k:AV}{kv:Value}{w:World}{T:Bool->Nat->Prop}(hT:sO P kt tk)(hf:wh tk k=true)(hk:PR w T false k kv)(es:List (AV×AV×Nat))(ents:List MapEntry)(r:Option (Nat×AV))(hl:es.length=ents.length)
  (hr:∀(j:Nat) p e,es[j]?=some p->ents[j]?=some e->PR w T false p.1 e.key) (h:findKey k es 0=some r):∃r',(Instr.findKey kt kv ents).run P w=.ok r' w/\Found k es ents 0 r r':=by
 obtain⟨d,f,a,_⟩:=told hT hf hk;unfold Instr.findKey;rcases a with H|⟨H1,H2⟩
 ·obtain⟨r',c,b⟩:=M9 H es ents 0 r hl hr h;simp_all[run_underlying]
 ·obtain⟨r',c,b⟩:=Mw H2 es ents 0 r hl hr h;refine⟨r',?_,b⟩;cases ents with
  |nil=>
   have:es=[]:=ann (by omega);subst this;simp only[findKey,Option.some.injEq]at h;subst h;rcases b with⟨_,rfl⟩|⟨j,p,e,c,b,_⟩
   ·simp[run_underlying f,Instr.findNow]
   grind
  |cons e ents=>simp_all[run_underlying,Instr.findNow]
def findF{k:AV}:∀(es:List (AV×AV)) (i:Nat) (r:Option AV),xF k es=some r->∃q,findKey k (es.map λp=>(p.1,p.2,0)) i=some q/\q.map (·.2)=r
 |[],i,r,h=>by simp only[xF,Option.some.injEq]at h;subst h;exact⟨none,rfl,rfl⟩
 |(k',v)::es,i,r,h=>by
  simp only[xF]at h;simp only[List.map_cons,findKey];split at h;·grind
  ·rename_i a;obtain⟨q,b,c⟩:=findF es (i+1) r h;grind
  ·cases h
def Nu{el:Nat}{ti:TI}(hT:sO P el ti){z:AV}(h:asAgg ti ti.zero=some z)(w:World):∃z',(zeroValue el).run P w=.ok z' w/\VC G z z':=by
 obtain⟨i,z',c,d,a,e,f,g⟩:=hT.BC (G:=G);refine⟨z',by simp[zeroValue,typeInfo,c,d],?_⟩;unfold asAgg at h;split at h;·rename_i b;cases h;obtain⟨cs,rfl⟩:=f b;have:(Value.agg cs).cells=cs:=rfl;rw[this]at a;exact⟨a.agg,rfl⟩
 ·rename_i b;have j:=g b;rw[cells_one j]at a;split at h;·rename_i v k;cases h;rw[k]at a;exact a.rel 0 _ z' rfl rfl
  ·cases h
def DC{kt:Nat}{k:AV}(h:xx C kt k=true):∃tk,C.T kt=some tk/\wh tk k=true:=by grind[xx]
def D1(hC:nV P C){tm:TI}{kt el:Nat}(h:C.T t=some tm)(hk:tm.kind=.map kt el):P.underlying t=some (.map kt el):=by obtain⟨d,b,_,a⟩:=(hC.ty t tm h).desc;rw[hk]at a;have a:d=.map kt el:=a;grind
def ZF(w:World)(m':Value)(ents:Array MapEntry):Prop:=(m'=.map none/\ents = #[])\/∃r c,m'=.map (some r)/\w.heap[r]?=some (.map ents c)
def Il{kt el:Nat}{m' k' q:Value}{ents:Array MapEntry}{r':Option (Nat×Value)}{b ok:Bool}{w:World}(hd:P.underlying t=some (.map kt el))(hm:ZF w m' ents)(hck:∀e w,(Instr.checkKey e 10000 kt k').run P w=.ok () w)
  (hf:(Instr.findKey kt k' ents.toList).run P w=.ok r' w) (hq:(∃i,r'=some (i,q)/\b=true)\/(r'=none/\b=false/\(zeroValue el).run P w=.ok q w)) :
  (Instr.lookup t m' k' ok).run P w=.ok (if ok=true then .tuple #[q,.bool b]else q) w:=by
 unfold Instr.lookup;rcases hm with⟨rfl,rfl⟩|⟨r,c,rfl,a⟩<;>rcases hq with⟨i,rfl,rfl⟩|⟨rfl,rfl,d⟩
 ·simp_all[run_underlying]
 ·simp_all[run_underlying]
 ·simp[run_underlying hd,hck,hf,MapKept.run_getObj_map a]
 ·simp[run_underlying hd,hck,hf,d,MapKept.run_getObj_map a]
def Nx(hW:WR G)(hC:nV P C){m k v:AV}{m' k':Value}{ok:Bool}(hm:VR G m m')(hk:VR G k k')(h:yc C t G.h m k ok=some v) :
  ∃u,(Instr.lookup t m' k' ok).run P G.w=.ok u G.w/\VR G v u:=by
 unfold yc at h;split at h;·cases h
 ·rename_i tm htm;split at h
  ·rename_i kt el M;have hd:=D1 hC htm M;split at h;·cases h
   ·rename_i ti hti;split at h;·cases h
    ·rename_i Q;obtain⟨tk,htk,n⟩:=DC Q;have R:=hC.ty kt tk htk;have S:=E2 hk n;obtain⟨d,hdk,_,U⟩:=told R n S
     have J:∀(x:AV) (u:Value) (b:Bool),VR G x u->Gp ok b x=some v->VR G v (if ok=true then .tuple #[u,.bool b]else u):=by
      intro x u b V o;unfold Gp at o;split at o;·cases o;simp only[if_true];refine .mw _ _ rfl ?_;grind[VR.bool]
      grind
     have s:∀(c:List (AV×AV×Nat)) (a:Array MapEntry) (r:Option (Nat×AV)),c.length=a.size->(∀(j:Nat) p e,c[j]?=some p->a[j]?=some e->PR G.w G.T false p.1 e.key/\VR G p.2.1 e.val)->findKey k c 0=some r->ZF G.w m' a->xd G.h k m=some (r.map (·.2))->∃u,(Instr.lookup t m' k' ok).run P G.w=.ok u G.w/\VR G v u:=by
      intro c a r hl Y hf A f;rw[f]at h;obtain⟨r',O,h2⟩:=vd R n S c a.toList r (by omega) (λj p e g o=>(Y j p e g (by grind)).1) hf;rcases h2 with⟨rfl,rfl⟩|⟨j,p,e,rfl,g,o,hke,rfl⟩
      ·simp only[Option.map_none]at h;split at h;·cases h
       ·rename_i z hz;obtain⟨z',hz',hvz⟩:=Nu (G:=G) (hC.ty el ti hti) hz G.w;exact⟨_,Il hd A U O (.inr ⟨rfl,rfl,hz'⟩),J z z' false hvz.vr h⟩
      ·simp only[Option.map_some]at h;exact⟨_,Il hd A U O (.inl ⟨_,rfl,rfl⟩),J _ _ true (Y j p e g (by grind)).2 h⟩
     cases f:xd G.h k m with
     |none=>grind
     |some x=>
     have hfi0:=f;unfold xd at f;split at f
     ·
      cases hm with
      |mR _ hm=>cases hm;exact s [] #[] none rfl (by simp) rfl (.inl ⟨rfl,rfl⟩) rfl
     ·
      rename_i c sn
      ·obtain⟨q,O,h2⟩:=findF c 0 x f;cases hm with
       |mR _ hm=>
        cases hm with
        |fm _ _ _ r0 a D hmm hB hI hl hy hko hkk hvv=>
         refine s (c.map λp=>(p.1,p.2,0)) a q (by grind) ?_ O (.inr ⟨r0,D,rfl,hB⟩) (by grind);intro j p e g o;rw[List.getElem?_map]at g;cases Z:c[j]? with
         |none=>grind
         |some p0=>
          rw[Z]at g;cases g;have W:=hko j p0 Z
          have hp1:PR G.w G.T false p0.1 e.key:=by
           (have F:=hkk j p0 e Z o;have H:∀(x:AV) (y:Value) (m:Bool),PR G.w G.T m x y->Bq x=true->PR G.w G.T false x y:=by intro x y m V hs;exact V.down (by unfold Bq at hs;split at hs<;>first|rfl|cases hs));cases E:p0.1 with
           |bool b=>rw[E]at F;exact H _ _ _ F rfl
           |int kk b=>rw[E]at F;exact H _ _ _ F rfl
           |str b=>rw[E]at F;exact H _ _ _ F rfl
           |agg l=>
            rw[E]at F W;generalize hv:e.key=kv at F;cases F with
            |agg _ _ vs hlv O Y=>refine .agg _ l vs hlv O (λi x y V hy=>H _ _ _ (Y i x y V hy) ?_);simp only[AV.vU,List.all_eq_true]at W;have:=W x (alc V);grind[Bq]
           |_=>rw[E]at W;simp[AV.vU]at W
          exact⟨hp1,(hvv j p0 e Z o).Fe⟩
     ·
      rename_i b;split at f
      ·rename_i c D K;cases hm with
       |mR g _=>simp[AV.oI]at g
       |hm _ r0 hb hl=>
        obtain⟨l,hpi,rfl⟩:=hl c D K;obtain⟨a,hB,X,_,L⟩:=hW.map b l c D hpi K;have N:∀(j:Nat) p e,c[j]?=some p->a[j]?=some e->PR G.w G.T false p.1 e.key/\VR G p.2.1 e.val:=λj p e g o=>⟨(L j p e g o).2.1,(L j p e g o).2.2.1.vr⟩;cases hq:findKey k c 0 with
        |none=>grind
        |some q=>refine s c a q X N hq (.inr ⟨l.B,D,rfl,hB⟩) ?_;grind
      grind
     grind
  ·cases h
end
end Go.Sx
