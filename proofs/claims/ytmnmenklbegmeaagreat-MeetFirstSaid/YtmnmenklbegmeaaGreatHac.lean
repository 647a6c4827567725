/- Proves rules for the walks and their soundness. -/
import Derived.Orders
import Derived.Scope
import Derived.Test.YtmnmenklbegmeaaGreatHab
set_option linter.all false
namespace Go.Sx
open Go
variable [DD]
def u0(G:Ga)(es:List (AV×AV×Nat))(ents:List MapEntry):Prop :=
 es.length=ents.length/\∀(i:Nat) (p:AV×AV×Nat) (e:MapEntry),es[i]?=some p->ents[i]?=some e->p.1.vU=true/\PR G.w G.T false p.1 e.key/\VC G p.2.1 e.val/\p.2.2=e.born
def u0.mono{G G':Ga}{es:List (AV×AV×Nat)}{ents:List MapEntry}(h:u0 G es ents)(E:Ext G G'):u0 G' es ents :=
 ⟨h.1,λi p e f g=>let⟨a,b,c,d⟩:=h.2 i p e f g;⟨a,b.mono E.T E.keep,c.mono E,d⟩⟩
theorem u0.push{G:Ga}{es:List (AV×AV×Nat)}{ents:List MapEntry}(h:u0 G es ents){p:AV×AV×Nat}{e:MapEntry}(hn:p.1.vU=true/\PR G.w G.T false p.1 e.key/\VC G p.2.1 e.val/\p.2.2=e.born):u0 G (es++[p]) (ents++[e]):=by
 refine⟨by simp[h.1],?_⟩;intro i q f b a;rw[List.getElem?_append]at b a;split at b;·rename_i c;rw[if_pos (by rw[<- h.1];exact c)]at a;exact h.2 i q f b a
 ·rename_i c;rw[if_neg (by rw[<- h.1];exact c)]at a;grind
def u0.modify{G:Ga}{es:List (AV×AV×Nat)}{ents:List MapEntry}(h:u0 G es ents){j:Nat}{f:AV×AV×Nat->AV×AV×Nat}{g:MapEntry->MapEntry}
  (hn:∀p e,es[j]?=some p->ents[j]?=some e->(f p).1.vU=true/\PR G.w G.T false (f p).1 (g e).key/\VC G (f p).2.1 (g e).val/\(f p).2.2=(g e).born):u0 G (es.modify j f) (ents.modify j g):=by
 refine⟨by simp[h.1],?_⟩;intro i q e a b;rw[List.getElem?_modify]at a b;by_cases c:j=i;·grind
 ·simp only[if_neg c]at a b;cases d:es[i]? with
  |none=>grind
  |some p=>
   cases k:ents[i]? with
   |none=>grind
   |some x=>rw[d]at a;rw[k]at b;cases a;cases b;exact h.2 i p x d k
def u0.erase{G:Ga}{es:List (AV×AV×Nat)}{ents:List MapEntry}(h:u0 G es ents)(j:Nat):u0 G (es.eraseIdx j) (ents.eraseIdx j):=by
 refine⟨by simp only[List.length_eraseIdx,h.1],?_⟩;intro i q e b a;rw[List.getElem?_eraseIdx]at b a;split at b;·rename_i c;rw[if_pos c]at a;exact h.2 _ q e b a
 ·rename_i c;rw[if_neg c]at a;exact h.2 _ q e b a
theorem vX.push{es:List (AV×AV×Nat)}{c:Nat}(h:vX es c)(k v:AV):vX (es++[(k,v,c)]) (c+1):=by
 refine⟨λp d=>?_,?_⟩
 ·rcases anm.1 d with d|d
  ·exact Nat.lt_succ_of_lt (h.1 p d)
  grind
 ·rw[List.map_append,List.nodup_append];refine⟨h.2,by simp,λa e b f=>?_⟩;obtain⟨p,d,rfl⟩:=anj.1 e;have:=h.1 p d;simp at f;omega
def vX.modify{es:List (AV×AV×Nat)}{c:Nat}(h:vX es c)(j:Nat)(f:AV×AV×Nat->AV×AV×Nat)(hf:∀p,(f p).2.2=p.2.2):vX (es.modify j f) c:=by
 refine⟨λp d=>?_,?_⟩
 rotate_left
 ·have:(es.modify j f).map (·.2.2)=es.map (·.2.2):=by
   apply anR;intro i;simp only[List.getElem?_map,List.getElem?_modify];cases es[i]? with
   |none=>rfl
   |some p=>by_cases e:j=i<;>simp[e,hf]
  rw[this];exact h.2
 obtain⟨i,a⟩:=anq d;rw[List.getElem?_modify]at a;cases b:es[i]? with
 |none=>grind
 |some q=>rw[b]at a;have g:=h.1 q (alc b);grind
def vX.erase{es:List (AV×AV×Nat)}{c:Nat}(h:vX es c)(j:Nat):vX (es.eraseIdx j) c :=
 ⟨λp a=>h.1 p ((List.eraseIdx_subset) a),h.2.sublist ((anY es j).map _)⟩
def wF.obj{w:World}{r:Nat}{o:Obj}(h:r<w.heap.size):wF w { w with heap:=w.heap.setIfInBounds r o } r o:=by refine⟨by simp[h],?_,by simp,rfl,rfl,.rfl _⟩;grind
section
variable {P:Program}{C:nu}{G:Ga}{t:Nat}{tk:TI}
def G6(hC:nV P C){k:AV}(h:mapKey C t k=true):∃kt el tk,P.underlying t=some (.map kt el)/\sO P kt tk/\wh tk k=true:=by
 unfold mapKey at h;split at h
 ·rename_i e a;split at h;·rename_i kt el b;obtain⟨tk,c,d⟩:=DC h;exact⟨kt,el,tk,D1 hC a b,hC.ty kt tk c,d⟩
  ·cases h
 ·cases h
def yp(hW:WR G){b:Nat}{m':Value}{es:List (AV×AV×Nat)}{c:Nat}(hm:VR G (.hm b) m')(hget:G.h.get b=some (.map es c)) :
  ∃l ents,G.pi b=some l/\m'=.map (some l.B)/\G.w.heap[l.B]?=some (.map ents c)/\u0 G es ents.toList/\vX es c:=by
 cases hm with
 |mR f _=>simp[AV.oI]at f
 |hm _ r0 hb hl=>obtain⟨l,a,rfl⟩:=hl es c hget;obtain⟨ents,j,g,k,d⟩:=hW.map b l es c a hget;exact⟨l,ents,a,rfl,j,⟨by omega,λi p e f m=>d i p e f (by grind)⟩,k⟩
def y9(hW:WR G){b:Nat}{l:Loc}{es es':List (AV×AV×Nat)}{ents:Array MapEntry}{c c':Nat}{ents':Array MapEntry}(hpi:G.pi b=some l)(hget:G.h.get b=some (.map es c))(h':u0 G es' ents'.toList)(hy:vX es' c') :
  Step G ⟨{ G.w with heap:=G.w.heap.setIfInBounds l.B (.map ents' c') },G.T,G.h.set b (.map es' c'),G.pi,G.L⟩/\WR ⟨{ G.w with heap:=G.w.heap.setIfInBounds l.B (.map ents' c') },G.T,G.h.set b (.map es' c'),G.pi,G.L⟩:=by
 refine A1 hW hpi (wF.obj (hW.oW b l hpi).1) (.inr ⟨es,c,es',c',hget,rfl⟩) (by simp) ?_;intro f j e G' E a;cases e;have d:=h'.mono E;exact⟨ents',a,by simpa using d.1,hy,λi p e g k=>d.2 i p e g (by grind)⟩
def HQ{x:AV}(h:x.Gx=true):x.rX=true:=by cases x<;>simp_all[AV.Gx,AV.rX]
def stays{k k0:AV}{kv kv0:Value}{w:World}(h1:PR G.w G.T false k kv)(h2:PR G.w G.T false k0 kv0)(he:pZ k k0=some true)(hk:k.vU=true):(Instr.keyThatStays kv0 kv).run P w=.ok kv w:=by have:=Sj h1 h2 he;subst this;unfold Instr.keyThatStays;rw[sameBits_self h1 hk 9998];simp
def zn{k:AV}{es:List (AV×AV×Nat)}{ents:List MapEntry}{r:Option (Nat×AV)}{r':Option (Nat×Value)}(h:Found k es ents 0 r r') :
  (r=none/\r'=none)\/∃j p e,r=some (j,p.2.1)/\es[j]?=some p/\ents[j]?=some e/\pZ k p.1=some true/\r'=some (j,e.val):=by
 rcases h with h|⟨j,p,e,a,b,c,d,f⟩<;>grind
def BV(hW:WR G)(hC:nV P C){m k x:AV}{m' k' x':Value}{r:AV×aT}(hm:VR G m m')(hk:VR G k k')(hx:VR G x x')(h:AO C G.h t m k x=some r) :
  r.1=.undef/\Ih P G (Instr.mapUpdate t m' k' x') r.2:=by
 unfold AO at h;split at h
 ·rename_i b;split at h
  ·rename_i D c n;split at h
   ·rename_i E;simp only[Bool.and_eq_true]at E;obtain⟨Y,Z,tk,U,q,f⟩:=G6 hC E.1;have g:=E2 hk f;obtain⟨d,V,_,u⟩:=told q f g;obtain⟨l,ents,y,rfl,F,a,z⟩:=yp hW hm n;split at h
    ·rename_i W c' o;cases h;refine⟨rfl,?_⟩;unfold F4 at o;split at o;·cases o
     ·rename_i J;cases o;obtain⟨r',K,L⟩:=vd q f g D ents.toList none a.1 (λj p e A B=>(a.2 j p e A B).2.1) J;rcases zn L with⟨_,rfl⟩|⟨j,p,e,H,_⟩
      ·(have M:u0 G (D++[(k,x,c)]) (ents.push { key:=k',val:=x',born:=c }).toList:=by rw[Array.toList_push];exact a.push ⟨Dg f,g,⟨hx,HQ E.2⟩,rfl⟩);obtain⟨N,s⟩:=y9 (ents:=ents) (c':=c+1) hW y n M (z.push _ _);refine⟨_,?_,rfl,N,s⟩;simp[Instr.mapUpdate,run_underlying U,MapKept.run_getObj_map F,u,K,MapKept.run_setObj_map _ F]
      grind
     ·rename_i i v J;cases o;obtain⟨r',K,L⟩:=vd q f g D ents.toList _ a.1 (λj p e A B=>(a.2 j p e A B).2.1) J;rcases zn L with⟨H,_⟩|⟨j,p,e,H,A,B,O,rfl⟩
      ·cases H
      ·(cases H;have Q:=stays (P:=P) (w:=G.w) g (a.2 i p e A B).2.1 O (Dg f);have M:u0 G (D.modify i (λe=>(k,x,e.2.2))) (ents.modify i λe=>{ e with key:=k',val:=x' }).toList:=by rw[Array.toList_modify];exact a.modify (λp0 X R S=>⟨Dg f,g,⟨hx,HQ E.2⟩,(a.2 i p0 X R S).2.2.2⟩));obtain⟨N,s⟩:=y9 (ents:=ents) (c':=c) hW y n M (z.modify _ _ (λ_=>rfl));refine⟨_,?_,rfl,N,s⟩;have T:ents[i]?=some e:=by grind
       simp[Instr.mapUpdate,run_underlying U,MapKept.run_getObj_map F,u,K,T,Q,MapKept.run_setObj_map _ F]
    ·cases h
   ·cases h
  ·cases h
 ·cases h
def JH(hW:WR G)(hC:nV P C){m k:AV}{m' k':Value}{r:AV×aT}(hm:VR G m m')(hk:VR G k k')(h:zW C G.h t m k=some r):wP P G (Instr.mapEntry t m' k') r:=by
 unfold zW at h;split at h;·cases h
 ·rename_i tm R;split at h
  ·rename_i kt el b s;have hd:=D1 hC R s;split at h
   ·rename_i ti E c S o;split at h;·cases h
    ·rename_i F;obtain⟨tk,T,g⟩:=DC F;have y:=hC.ty kt tk T;have n:=E2 hk g;obtain⟨d,hdk,_,H⟩:=told y g n;obtain⟨l,ents,J,rfl,N,f,K⟩:=yp hW hm o;split at h
     ·rename_i i v U;cases h;obtain⟨r',V,W⟩:=vd y g n E ents.toList _ f.1 (λj p e q A=>(f.2 j p e q A).2.1) U;rcases zn W with⟨O,_⟩|⟨j,p,e,O,q,A,X,rfl⟩
      ·cases O
      ·(cases O;have Y:=stays (P:=P) (w:=G.w) n (f.2 i p e q A).2.1 X (Dg g);have Z:u0 G (E.modify i (λx=>(k,x.2))) (ents.modify i λe=>{ e with key:=k' }).toList:=by rw[Array.toList_modify];exact f.modify (λp0 e0 hp0 he0=>⟨Dg g,n,(f.2 i p0 e0 hp0 he0).2.2⟩));obtain⟨L,B⟩:=y9 (ents:=ents) (c':=c) hW J o Z (K.modify _ _ (λ_=>rfl));have he':ents[i]?=some e:=by grind
       refine⟨.tuple #[e.val,.int .i64 e.born],_,?_,rfl,L,B,?_⟩;·simp[Instr.mapEntry,run_underlying hd,MapKept.run_getObj_map N,H,V,he',Y,MapKept.run_setObj_map _ N,goInt]
       ·refine .mw _ _ rfl ?_;intro i2 a u D Q
        match i2 with
        |0=>cases D;cases Q;exact((f.2 i p e q A).2.2.1.mono L.ext).vr
        |1=>(cases D;cases Q;have:CS E i=e.born:=by simp only[CS,q];exact(f.2 i p e q A).2.2.2);grind[VR.int]
        |i2+2=>simp at D
     ·rename_i U;split at h
      ·rename_i z hz;cases h;obtain⟨z',hz',M⟩:=Nu (G:=G) (hC.ty el ti S) hz G.w;obtain⟨r',V,W⟩:=vd y g n E ents.toList none f.1 (λj p e q A=>(f.2 j p e q A).2.1) U;rcases zn W with⟨_,rfl⟩|⟨j,p,e,O,_⟩
       ·(have Z:u0 G (E++[(k,z,c)]) (ents.push { key:=k',val:=z',born:=c }).toList:=by rw[Array.toList_push];exact f.push ⟨Dg g,n,M,rfl⟩);obtain⟨L,B⟩:=y9 (ents:=ents) (c':=c+1) hW J o Z (K.push _ _);refine⟨.tuple #[z',.int .i64 c],_,?_,rfl,L,B,?_⟩;·simp[Instr.mapEntry,run_underlying hd,MapKept.run_getObj_map N,H,V,hz',MapKept.run_setObj_map _ N,goInt]
        ·refine .mw _ _ rfl ?_;intro i2 a u D Q
         match i2 with
         |0=>cases D;cases Q;exact(M.mono L.ext).vr
         |1=>grind[VR.int]
         |i2+2=>simp at D
       grind
      ·cases h
     ·cases h
   ·cases h
  ·cases h
def Ep{n:Int}{v:AV}:∀{es es':List (AV×AV×Nat)},wm n v es=some es'->∃j,es'=es.modify j (λp=>(p.1,v,p.2.2))/\(∃p,es[j]?=some p/\((p.2.2:Int)==n)=true)/\∀i p,i<j->es[i]?=some p->((p.2.2:Int)==n)=false
 |[],es',h=>by cases h
 |(k,w,b)::es,es',h=>by
  simp only[wm]at h;split at h;·rename_i a;cases h;exact⟨0,rfl,⟨_,rfl,a⟩,λi p d=>by omega⟩
  ·rename_i a;split at h;·cases h
   ·rename_i e f;cases h;obtain⟨j,g,⟨p,l,m⟩,o⟩:=Ep f;refine⟨j+1,by rw[g];rfl,⟨p,l,m⟩,?_⟩;intro i q d c;cases i with
    |zero=>cases c;simpa using a
    |succ i=>exact o i q (by omega) c
def HL(hW:WR G){m s x:AV}{m' s' x':Value}{r:AV×aT}(hm:VR G m m')(hs:VR G s s')(hx:VR G x x')(h:zx G.h m s x=some r):r.1=.undef/\Ih P G (Instr.entryStore t m' s' x') r.2:=by
 unfold zx at h;split at h
 ·rename_i b T n q;have:=int?_eq q;subst this;rw[hs.of_int];split at h
  ·rename_i k c d;split at h
   ·rename_i u;split at h
    ·rename_i N w;cases h;refine⟨rfl,?_⟩;obtain⟨l,ents,y,rfl,J,a,z⟩:=yp hW hm d;obtain⟨j,rfl,⟨p,K,A⟩,L⟩:=Ep w;have o:j<ents.size:=by have:=(alt.1 K).1;rw[a.1]at this;omega
     have B:ents.findIdx? (λe=>(e.born:Int)==n)=some j:=by
      rw[Array.findIdx?_eq_some_iff_getElem];have C:ents.toList[j]?=some ents[j]:=by simp
      refine⟨o,?_,?_⟩;·rw[<- (a.2 j p ents[j] K C).2.2.2];exact A
      ·intro i O;have Q:i<ents.size:=Nat.lt_trans O o;have D:ents.toList[i]?=some ents[i]:=by simp
       (have M:i<k.length:=by grind);have E:k[i]?=some k[i]:=by simp
       rw[<- (a.2 i k[i] ents[i] E D).2.2.2];grind
     (have R:u0 G (k.modify j λp=>(p.1,x,p.2.2)) (ents.modify j λe=>{ e with val:=x' }).toList:=by rw[Array.toList_modify];exact a.modify (λp0 F f g=>⟨(a.2 j p0 F f g).1,(a.2 j p0 F f g).2.1,⟨hx,HQ u⟩,(a.2 j p0 F f g).2.2.2⟩));obtain⟨S,H⟩:=y9 (ents:=ents) (c':=c) hW y d R (z.modify _ _ (λ_=>rfl));refine⟨_,?_,rfl,S,H⟩;simp[Instr.entryStore,MapKept.run_getObj_map J,asInt,xZ,B,MapKept.run_setObj_map _ J]
    ·cases h
   ·cases h
  ·cases h
 ·cases h
def Nq(hW:WR G)(hC:nV P C){ats:Array Nat}{m k:AV}{m' k':Value}{ty:Nat}{r:AV×aT}(hm:VR G m m')(hk:VR G k k')(h:Dm C ats.toList [m,k] G.h=some r):wP P G (Builtin.delete_ ats ty #[m',k']) r:=by
 have w:F9 C k ats.toList=true->∃t B E tk,ats[0]?=some t/\P.underlying t=some (.map B E)/\sO P B tk/\wh tk k=true:=by
  intro x;unfold F9 at x;split at x;·rename_i t V F;obtain⟨B,E,tk,a,b,c⟩:=G6 hC x;exact⟨t,B,E,tk,by rw[<- Array.getElem?_toList,F];rfl,a,b,c⟩
  grind
 have o:∀G',VR G' (.mw []) (.tuple #[]):=λG'=>.mw _ _ rfl (by simp);unfold Dm at h;split at h
 ·rename_i k0 f;simp only[List.cons.injEq,and_true]at f;obtain⟨rfl,rfl⟩:=f;split at h
  ·rename_i x;cases h;obtain⟨t,B,E,tk,D,N,q,g⟩:=w x;obtain⟨d,O,_,y⟩:=told q g (E2 hk g);cases hm with
   |mR _ hm=>cases hm;exact⟨.tuple #[],G,by simp_all[Builtin.delete_,run_underlying],rfl,.refl G,hW,o G⟩
  ·cases h
 ·rename_i b k0 f;simp only[List.cons.injEq,and_true]at f;obtain⟨rfl,rfl⟩:=f;split at h
  ·rename_i Q c s;split at h
   ·rename_i x;obtain⟨t,B,E,tk,D,N,q,g⟩:=w x;have z:=E2 hk g;obtain⟨d,O,_,y⟩:=told q g z;obtain⟨l,ents,H,rfl,K,n,J⟩:=yp hW hm s;split at h
    ·rename_i W u;cases h;unfold PV at u;split at u;·cases u
     ·rename_i R;cases u;obtain⟨r',S,T⟩:=vd q g z Q ents.toList none n.1 (λj p e L M=>(n.2 j p e L M).2.1) R;rcases zn T with⟨_,rfl⟩|⟨j,p,e,D,_⟩
      ·obtain⟨U,A⟩:=y9 (ents:=ents) (c':=c) hW H s n J;exact⟨.tuple #[],_,by simp[Builtin.delete_,D,run_underlying N,MapKept.run_getObj_map K,y,S,MapKept.run_setObj_map _ K],rfl,U,A,o _⟩
      grind
     ·rename_i i v R;cases u;obtain⟨r',S,T⟩:=vd q g z Q ents.toList _ n.1 (λj p e L M=>(n.2 j p e L M).2.1) R;rcases zn T with⟨D,_⟩|⟨j,p,e,X,L,M,Y,rfl⟩
      ·cases D
      ·(cases X;have Z:u0 G (Q.eraseIdx i) (ents.eraseIdxIfInBounds i).toList:=by rw[Array.toList_eraseIdxIfInBounds];exact n.erase i);obtain⟨U,A⟩:=y9 (ents:=ents) (c':=c) hW H s Z (J.erase _);exact⟨.tuple #[],_,by simp[Builtin.delete_,D,run_underlying N,MapKept.run_getObj_map K,y,S,MapKept.run_setObj_map _ K],rfl,U,A,o _⟩
    ·cases h
   ·cases h
  ·cases h
 ·cases h
end
end Go.Sx
namespace Go.Sx
open Go
variable [DD]
section
variable {P:Program}{C:nu}{G:Ga}{t:Nat}{ti:TI}
def Jp(hC:nV P C){ats:Array Nat}(h:wM C ats.toList=some ti):∃t el,ats[0]?=some t/\P.underlying t=some (.slice el)/\sO P el ti:=by
 unfold wM at h;split at h;·rename_i t b a;obtain⟨el,c,_,d⟩:=xj hC h;exact⟨t,el,by rw[<- Array.getElem?_toList,a];rfl,c,d⟩
 ·cases h
def ON(hW:WR G){x:AV}{x':Value}{ys:List (List AV)}{n:Nat}(hx:VR G x x')(h:elems G.h x=some ys)(hn:tM n ys=true) :
  ∃(a:Option Addr) (cap':Nat),x'=.slice a ys.length cap'/\∀m,m<=ys.length->∃news:Array Value,(Builtin.firstCells n m x').run P G.w=.ok news G.w/\oZ (VC G) n 0 (ys.take m) news/\news.size=m*n /\
   (∀(i:Nat) (v:Value),news[i]?=some v->v.oneCell'=true):=by
 have q:∀(a:Option Addr) (cap':Nat),(Builtin.firstCells n 0 (.slice a 0 cap')).run P G.w=.ok #[] G.w:=by
  intro a cap';cases a with
  |none=>rfl
  |some a=>simp_all[Builtin.firstCells,loadCells,loadCellsFrom]
 have u:∀(a:Option Addr) (cap':Nat),∀m,m<=([]:List (List AV)).length->∃news:Array Value,(Builtin.firstCells n m (.slice a 0 cap')).run P G.w=.ok news G.w/\oZ (VC G) n 0 (([]:List (List AV)).take m) news/\news.size=m*n /\
   (∀(i:Nat) (v:Value),news[i]?=some v->v.oneCell'=true):=by
  intro a cap' m R;have E:m=0:=by grind
  subst E;exact⟨#[],q a cap',⟨by simp,by simp⟩,by simp,by simp⟩
 have k:∀(B d:Nat) (c:Array Value) (e:TypeId) (C:Nat×Nat) (cap':Nat),G.w.heap[B]?=some (.cells c e C)->oZ (VC G) n d ys c->∀m,m<=ys.length->∃news:Array Value,(Builtin.firstCells n m (.slice (some ⟨B,d,none⟩) ys.length cap')).run P G.w=.ok news G.w/\oZ (VC G) n 0 (ys.take m) news/\news.size=m*n /\
   (∀(i:Nat) (v:Value),news[i]?=some v->v.oneCell'=true):=by
  intro B d c e C cap' y r m R;obtain⟨news,k1,k2,k3,k4⟩:=D5 (P:=P) y (r.take m);grind[Builtin.firstCells]
 cases x with
 |sl t cap=>
  simp only[elems,Option.some.injEq]at h;subst h;cases xp hx with
  |slnil=>simp_all
  |sy=>simp_all
  |sl _ _ _ B d c e C cap' esz f R y hI A F hz hc h1 r=>
   (refine⟨_,_,rfl,?_⟩;rcases anI t.length with D|D);·simp_all
   ·(have s:t[0]?=some t[0]:=by simp);have H:esz=n:=by grind[yl]
    subst H;exact k B d c e C cap' y ⟨hz,λi J j x K L=>⟨f i j,hc i J j x K L,h1 i J j x K L,(r i J j x K L).CL⟩⟩
 |hs b g off len=>
  simp only[elems]at h;split at h
  ·rename_i g' z t o;split at h
   ·rename_i M;simp only[Bool.and_eq_true,Nat.beq_eq,Nat.ble_eq]at M;obtain⟨rfl,F⟩:=M;simp only[Option.some.injEq]at h;have p:ys.length=len:=by grind
    cases hx with
    |mR hp _=>simp[AV.oI]at hp
    |hs _ _ _ _ a cap' M hg hlc hl=>
     (refine⟨some a,cap',by rw[p],?_⟩;rw[<- p];rcases anI ys.length with D|D);·have N:ys=[]:=ann D;subst N;exact u _ _
     ·(obtain⟨l,O,A,Q⟩:=hl z t o;have Q:=Q (by omega);subst Q;obtain⟨c,e,y,k1,k2,k3⟩:=(hW.lU b l g z t O o).row;have r:=(k3.drop off).take len;rw[h]at r;have s:ys[0]?=some ys[0]:=by simp);have H:z=n:=by rw[<- r.len 0 _ s];exact yl hn s
      subst H;exact k l.B _ c e _ cap' y r
   ·cases h
  ·cases h
 |_=>cases h
def wF.same{w:World}{B:Nat}{o:Obj}(h:w.heap[B]?=some o):wF w w B o:=⟨h,λ_ _=>rfl,rfl,rfl,rfl,.rfl _⟩
theorem Lf(xs:List (List AV))(n:Nat):overwrite xs n []=xs:=by simp[overwrite]
def M4(hW:WR G){b g off len:Nat}{n:Nat}{xs ys:List (List AV)}{a:Addr}{cap':Nat}{news:Array Value}(hv:VR G (.hs b g off len) (.slice (some a) len cap'))(hget:G.h.get b=some (.lU g n xs))(hle:off+len<=xs.length)(hm:ys.length<=len)
  (hr:oZ (VC G) n 0 ys news) (hsz:news.size=ys.length*n) (h1:∀(i:Nat) (v:Value),news[i]?=some v->v.oneCell'=true) :
  ∃G',(storeCells a news.toList).run P G.w=.ok () G'.w/\G'.h=G.h.set b (.lU g n (overwrite xs off ys))/\Step G G'/\WR G':=by
 cases hv with
 |mR hp _=>simp[AV.oI]at hp
 |hs _ _ _ _ _ _ hbl hgg hlc hl=>
  obtain⟨l,d,x,m⟩:=hl n xs hget;obtain⟨c,e,o,k1,k2,k3⟩:=(hW.lU b l g n xs d hget).row;rcases anI ys.length with y|y
  ·(have p:ys=[]:=ann y;subst p;have q:news = #[]:=by grind);subst q
   obtain⟨z,j⟩:=A1 (ob:=.lU g n (overwrite xs off [])) hW d (wF.same o) (.inl ⟨g,n,xs,_,hget,rfl⟩) (by
    intro A C D r G' E f;cases r;rw[Lf]
    exact tc.zK f k1 k2 (k3.mono (λ_ _ h=>h.mono E))) (by simp)
   exact⟨_,by rfl,rfl,z,j⟩
  ·have m:=m (by omega);subst m;have k:l.base+off*n+news.size<=c.size:=by rw[hsz];have:(off+ys.length)*n<=l.cap*n:=anl _ (by omega);grind
   have s:=run_storeCells_at (P:=P) l.B (l.base+off*n) e news.toList 0 c G.w o (by omega) (λu F=>by
    obtain⟨i,H⟩:=anq F
    grind)
   simp only[Nat.add_zero]at s
   obtain⟨z,j⟩:=A1 (ob:=.lU g n (overwrite xs off ys)) hW d (wF.row (c':=(c.toList.take (l.base+off*n)++news.toList++c.toList.drop (l.base+off*n+news.toList.length)).toArray) o) (.inl ⟨g,n,xs,_,hget,rfl⟩) (by
    intro A C D r G' E f;cases r;have t:=k3.qN hr hsz (n:=off) rfl k (by omega);refine tc.zK f ?_ (by grind) (t.mono (λ_ _ h=>h.mono E))
    grind[overwrite]) (by simp)
   grind
def Rn(hW:WR G)(hC:nV P C){ats:Array Nat}{d x:AV}{d' x':Value}{ty:Nat}{r:AV×aT}(hd:VR G d d')(hx:VR G x x')(h:Ic C ats.toList [d,x] G.h=some r):wP P G (Builtin.copy_ ats ty #[d',x']) r:=by
 unfold Ic at h;split at h
 ·rename_i ti d0 x0 l f;simp only[List.cons.injEq,and_true]at f;obtain⟨rfl,rfl⟩:=f;obtain⟨t,el,L,o,p⟩:=Jp hC l;split at h
  ·rename_i i q;unfold Of at h;split at h
   ·rename_i b g O len;split at h
    ·rename_i g' z xs s;split at h
     ·rename_i M;simp only[Bool.and_eq_true,Nat.beq_eq,Nat.ble_eq]at M;obtain⟨⟨⟨⟨rfl,rfl⟩,A⟩,Q⟩,B⟩:=M;cases h;obtain⟨m,u,rfl,j⟩:=ON (P:=P) hW hx q B;have D:min i.length len<=i.length:=Nat.min_le_left _ _;obtain⟨y,f1,R,f3,S⟩:=j (min i.length len) D;have T:(i.take (min i.length len)).length=min i.length len:=by simp
      have E:=hd;cases hd with
      |mR hp _=>simp[AV.oI]at hp
      |hs _ _ _ _ a cap' hbl hgg hlc hl=>obtain⟨G',U,V,W,X⟩:=M4 (P:=P) hW E s A (by omega) R (by grind) S;refine⟨.int .i64 (min i.length len:Nat),G',?_,V,W,X,VR.int _ _⟩;have F:(Builtin.firstCells ti.size (Nat.min i.length len) (.slice m i.length u)).run P G.w=.ok y G.w:=f1;simp[Builtin.copy_,L,run_underlying o,Builtin.lenOf,p.sizeOf,F,U,goInt]
     ·cases h
    ·cases h
   ·rename_i Y;cases h
    have k:∃(m:Option Addr) (n cp:Nat),x'=.slice m n cp:=by
     rcases hxs:x with _|_
     all_goals first
      |(subst hxs;cases q;done)
      |(subst hxs
        obtain⟨a,b,c,e,_⟩:=Cf hx (.inl ⟨_,_,rfl⟩)
        grind)
      |(subst hxs
        obtain⟨a,b,c,e,_⟩:=Cf hx (.inr ⟨_,_,_,_,rfl⟩)
        grind)
    obtain⟨m,N,Z,rfl⟩:=k
    have hf:∀n,(Builtin.firstCells n 0 (.slice m N Z)).run P G.w=.ok #[] G.w:=by
     intro n;cases m with
     |none=>rfl
     |some a=>simp_all[Builtin.firstCells,loadCells,loadCellsFrom]
    (have H:∃J cd,d'=.slice J 0 cd:=by cases xp hd<;>grind);obtain⟨J,cd,rfl⟩:=H;have K:Nat.min N 0=0:=Nat.min_zero _;refine⟨.int .i64 0,G,?_,rfl,.refl G,hW,VR.int _ _⟩;cases J<;>simp[Builtin.copy_,L,run_underlying o,Builtin.lenOf,p.sizeOf,K,hf,goInt,storeCells]
   ·cases h
  ·cases h
 ·cases h
def OX(hW:WR G)(hC:nV P C){ats:Array Nat}{x:AV}{x':Value}{ty:Nat}{r:AV×aT}(hx:VR G x x')(h:Da C ats.toList [x] G.h=some r):wP P G (Builtin.clear_ ats ty #[x']) r:=by
 have d:∀G',VR G' (.mw []) (.tuple #[]):=λG'=>.mw _ _ rfl (by simp);unfold Da at h;split at h
 ·rename_i ti O e c;simp only[List.cons.injEq,and_true]at c;subst c;obtain⟨t,Q,y,f,l⟩:=Jp hC e;unfold M5 at h;split at h;·(cases h;have m:∃o cd,x'=.slice o 0 cd:=by cases xp hx<;>grind);obtain⟨o,cd,rfl⟩:=m;refine⟨.tuple #[],G,?_,rfl,.refl G,hW,d G⟩;cases o<;>simp[Builtin.clear_,y,run_underlying f]
  ·rename_i b g B len;split at h
   ·rename_i g' z R k;split at h
    ·rename_i A;simp only[Bool.and_eq_true,Nat.beq_eq,Nat.ble_eq]at A;obtain⟨⟨rfl,rfl⟩,p⟩:=A;cases h;have q:=hx;cases hx with
     |mR hp _=>simp[AV.oI]at hp
     |hs _ _ _ _ a cap' hbl hgg hlc hl=>
      (obtain⟨i,z,D,E,s,u,F,H⟩:=l.BC (G:=G);obtain⟨k1,k2⟩:=Eu (n:=len) s u;have w:((Array.range (len*ti.size)).map λj=>z.cells[j % z.cells.size]!)=Builtin.zeroCells z.cells len:=by grind[Builtin.zeroCells]);rw[w]at k1 k2;obtain⟨G',J,K,L,M⟩:=M4 (P:=P) hW q k p (by simp) k1 (by grind) k2;refine⟨.tuple #[],G',?_,K,L,M,d G'⟩;rcases anI len with N|N
      ·simp_all[Builtin.zeroCells,storeCells,Sem.run_pure,Result.ok.injEq,Builtin.clear_,run_underlying]
      ·obtain⟨n,rfl⟩:=Nat.exists_eq_succ_of_ne_zero (by omega:len≠0);simp[Builtin.clear_,y,run_underlying f,zeroValue,typeInfo,D,E,J]
    ·cases h
   ·cases h
  ·cases h
 ·cases h
end
end Go.Sx
namespace Go.Sx
open Go
variable [DD]
def Ga.nB(G:Ga)(m:o1)(L:Nat->Option Nat):Ga:=⟨G.w,G.T,{ G.h with ca:=m },G.pi,L⟩
theorem VR.nB{G:Ga}{m:o1}{L:Nat->Option Nat}{x:AV}{u:Value}(h:VR G x u)(hx:x.rX=true):VR (G.nB m L) x u:=by
 induction h with
 |undef v=>exact .undef v
 |mR hp h=>exact .mR hp h
 |ptr b g i o a hb hg h=>exact .ptr b g i o a hb hg h
 |hs b g off len a cap' hb hg hle h=>exact .hs b g off len a cap' hb hg hle h
 |hm b r hb h=>exact .hm b r hb h
 |la d o B hd=>cases hx
 |mH g a c a' c' ha hc hna hnc hra hrc iha ihc=>exact .mH g a c a' c' ha hc hna hnc (λi x y e f=>iha i x y e f (hna x (alc e))) (λi x y e f=>ihc i x y e f (hnc x (alc e)))
 |agg l vs hl hn e hr ih=>exact .agg l vs hl hn e (λi x y e f=>ih i x y e f (hn x (alc e)))
 |mw l vs hl hr ih=>cases hx
theorem VC.nB{G:Ga}{m:o1}{L:Nat->Option Nat}{x:AV}{u:Value}(h:VC G x u):VC (G.nB m L) x u:=⟨h.vr.nB h.na,h.na⟩
theorem tc.nB{G:Ga}{m:o1}{L:Nat->Option Nat}{l:Loc}{z:Nat}{xs:List (List AV)}(h:tc G l z xs):tc (G.nB m L) l z xs:=by obtain⟨c,e,f,g,k,n,o⟩:=h;refine⟨c,e,f,g,k,n,?_⟩;intro i p j x q r;obtain⟨v,a,b,d⟩:=o i p j x q r;exact⟨v,a,b,d.nB⟩
theorem yE.nB{G:Ga}{m:o1}{L:Nat->Option Nat}{r:Nat}{es:List (AV×AV×Nat)}{c:Nat}(h:yE G r es c):yE (G.nB m L) r es c:=by obtain⟨f,g,j,k,l⟩:=h;refine⟨f,g,j,k,?_⟩;intro i p e n o;obtain⟨a,b,c,d⟩:=l i p e n o;exact⟨a,b,c.nB,d⟩
theorem Cc.nB{G:Ga}{m:o1}{L:Nat->Option Nat}{B:Nat}{cs:List AV}(h:Cc G B cs):Cc (G.nB m L) B cs:=by obtain⟨c,e,a,b,d,f⟩:=h;exact⟨c,e,a,b,λi x v g j=>(d i x v g j).nB,f⟩
def WR.LJ{G:Ga}(hW:WR G){m:o1}{L:Nat->Option Nat}(hL:∀d B,L d=some B->G.L d=some B)(hm:∀d B,L d=some B->nE m d=nE G.h.ca d):WR (G.nB m L) where
 lU:=λb l g z j e f=>(hW.lU b l g z j e f).nB
 map:=λb l k c e f=>(hW.map b l k c e f).nB
 loc:=by intro d B cs i a;have a:nE m d=some cs:=a;rw[hm d B i]at a;exact(hW.loc d B cs (hL d B i) a).nB
 oW:=hW.oW
 rY:=hW.rY
 w0:=hW.w0
 uI:=λd d' B h h'=>hW.uI d d' B (hL d B h) (hL d' B h')
 LT:=λs d B h=>hW.LT s d B (hL d B h)
 u7:=λd B b l h=>hW.u7 d B b l (hL d B h)
 qL:=by intro d B h;refine⟨(hW.qL d B (hL d B h)).1,?_⟩;show(nE m d).isSome=true;rw[hm d B h];exact(hW.qL d B (hL d B h)).2
 sB:=hW.sB
 lo:=hW.lo
 lt:=hW.lt
def back{G G':Ga}(hW:WR G)(S:Step (G.nB [] (λ_=>none)) G')(W':WR G') :
  Step G (G'.nB G.h.ca G.L)/\WR (G'.nB G.h.ca G.L):=by
 have j:∀d B,G.L d=some B->G'.w.heap[B]?=G.w.heap[B]?:=by intro d B a;exact S.frame B (hW.qL d B a).1 (λb l f q=>hW.u7 d B b l a f q.symm) (λd' B' h=>by cases h)
 have p:Ext G (G'.nB G.h.ca G.L):=⟨S.ext.T,S.ext.keep,S.ext.size,S.ext.lU,S.ext.map,λ_ _ h=>h⟩;refine⟨⟨p,S.os,S.output,S.tape,S.py,?_,S.si,S.tC,S.yK,S.lo,S.out,λd B h=>.inl h,λd B h=>.inl (ani.2 ⟨B,h⟩),λd c _ h=>h⟩,?_⟩;·intro B r f C;exact S.frame B r f (λd B' h=>by cases h)
 ·have k:∀d B,G.L d=some B->∀b l,G'.pi b=some l->B≠l.B:=by
   intro d B a b l f;rcases S.si b l f with⟨t,m,e⟩|i
   ·rw[<- e];exact hW.u7 d B b t a m
   ·have:=(hW.qL d B a).1;have i:G.w.heap.size<=l.B:=i;omega
  constructor;·exactλb l g z u f n=>(W'.lU b l g z u f n).nB
  ·exactλb l x c f n=>(W'.map b l x c f n).nB
  ·intro d B y a o;exact(hW.loc d B y a o).mono p (j d B a)
  ·exact W'.oW
  ·exact W'.rY
  ·exact W'.w0
  ·exact hW.uI
  ·intro s d B a A;rcases S.yK s B A with m|i
   ·exact hW.LT s d B a m
   ·have:=(hW.qL d B a).1;have i:G.w.heap.size<=B:=i;omega
  ·exactλd B b l a f=>k d B a b l f
  ·intro d B a;exact⟨ane (hW.qL d B a).1 S.py,(hW.qL d B a).2⟩
  ·exact W'.sB
  ·exact W'.lo
  ·exact W'.lt
end Go.Sx
namespace Go.Sx
open Go
variable [DD]
structure ER(G:Ga)(e:Env)(a:Act):Prop where
 rel:∀t,VR G (p3 e t) (a.eval (.tmp t))
section
variable {P:Program}{C:nu}{G:Ga}{e:Env}{a:Act}
def ER.mono{G':Ga}(h:ER G e a)(E:Ext G G'):ER G' e a:=⟨λt=>(h.rel t).mono E⟩
theorem SX(v:Value):VC G (MQ v) v:=by
 unfold MQ
 split<;>refine⟨?_,rfl⟩<;>first
  |exact VR.bool _
  |exact VR.int _ _
  |exact VR.str rfl
  |exact .mR rfl (.oh _)
  |exact .mR rfl (.slnil _)
  |exact .mR rfl (.ow _)
  |exact .mR rfl (.pC _)
  |exact .undef _
theorem ab6{v:Value}(h:okS v=true):v.oneCell'=true:=by unfold okS at h;split at h<;>first|rfl|cases h
def ajw(v:Value):VR G (cv v) v:=by
 unfold cv;split
 ·rename_i b;split;·rename_i a;simp only[List.all_eq_true]at a;refine VR.Lr (R:=VC G) (λ_ _ h=>h) (by simp) ?_ ?_<;>grind[ab6,SX]
  ·exact .undef _
 ·exact(SX _).vr
theorem mQ(hE:ER G e a)(x:Operand):VR G (me e x) (a.eval x):=by
 cases x with
 |tmp t=>exact hE.rel t
 |const v=>exact ajw v
 |global g=>exact .undef _
 |func f=>exact .mH f [] [] #[] #[] rfl rfl (by simp) (by simp) (by simp) (by simp)
def AD(hE:ER G e a)(xs:Array Operand):(xs.toList.map (me e)).length=(xs.map a.eval).size /\
  ∀(i:Nat) (x:AV) (y:Value),(xs.toList.map (me e))[i]?=some x->(xs.map a.eval)[i]?=some y->VR G x y:=by
 grind[mQ]
def OR.of(hE:ER G e a)(x:Option Operand):OR G (sX (me e) x) (x.map a.eval):=by
 cases x with
 |none=>exact .none
 |some x=>exact .some (mQ hE x)
end
end Go.Sx
namespace Go.Sx
open Go
variable [DD]
def Bu(P:Program)(o:Oper)(a:Act)(G:Ga)(r:AV×aT):Prop :=
 ∀(K:Act->World->Prop) (Q:Exit->Act->World->Prop),(∀u G',G'.h=r.2->Step G G'->WR G'->VR G' r.1 u->K (a.put o.dst u) G'.w)->o.wp P a G.w K Q
section
variable {P:Program}{C:nu}{G:Ga}{e:Env}{a:Act}{o:Oper}{r:AV×aT}
def oX{s:Sem Value}(h:execOp a.eval o=(do pure (.value (<- s))))(hm:wP P G s r):Bu P o a G r:=by intro K Q b;obtain⟨u,G',c,d,e,f,g⟩:=hm;grind[Oper.wp,Sem.run_bind,Result.andThen_ok,Sem.run_pure,Oper.upon_value]
theorem Cg{s:Sem Unit}(h:execOp a.eval o=(do s;pure .skip))(hv:r.1=.undef)(hm:Ih P G s r.2):Bu P o a G r:=by intro K Q b;obtain⟨G',c,d,e,f⟩:=hm;unfold Oper.wp;rw[h];simp only[Sem.run_bind,c,Result.andThen_ok,Sem.run_pure,Oper.upon_skip];exact b undef G' d e f (by rw[hv];exact .undef _)
def tS(P:Program)(call:xC):Prop:=∀(shd:Bool)(f:Nat) (args:List AV) (h:aT) (v:AV) (h':aT),call shd f args h=some (v,h') ->
 ∀(G:Ga) (args':Array Value),G.h=h->h.ca=[]->(∀d,G.L d=none)->WR G->args.length=args'.size->(∀(i:Nat) (x:AV) (y:Value),args[i]?=some x->args'[i]?=some y->VC G x y) ->
 (∃ fn, P.funcs[f]? = some fn ∧ fn.body.isNone = false ∧ (fn.name == "runtime.NumGoroutine") = false) ∧
 ∀R:Ending->World->Prop,(∀u G',Step G G'->WR G'->(∀m:o1,{ G'.h with ca:=m } = { h' with ca:=m })->(∀m L,VR (G'.nB m L) v u)->R (.returned u) G'.w)->Calls P f args' G.w R
end
end Go.Sx
namespace Go.Sx
open Go
variable [DD]
section
variable {P:Program}{C:nu}{G:Ga}{e:Env}{a:Act}{o:Oper}{r:AV×aT}{X:Ctx}
def xf(hW:WR G){s:Sem Value}{v:Option AV}(h:oz G.h v=some r)(hs:∀x,v=some x->∃u,s.run P G.w=.ok u G.w/\VR G x u):wP P G s r:=by obtain⟨x,a,rfl⟩:=qU h;obtain⟨u,b,c⟩:=hs x a;exact⟨u,G,b,rfl,.refl G,hW,c⟩
theorem Cq(hE:ER G e a)(ps:Array (Nat×Operand)):(vI e ps).length=(ps.map λ(i,x)=>(i,a.eval x)).size /\
  ∀(i:Nat) p q,(vI e ps)[i]?=some p->(ps.map λ(i,x)=>(i,a.eval x))[i]?=some q->p.1=q.1/\VR G p.2 q.2:=by
 grind[vI,mQ]
def yM(hW:WR G){s:Sem Value}(h:∃E:vS,r.2=E.on G.h/\(∀d cs,E=.loc d cs->nE G.h.ca d=none)/\∀V,Ext G V->V.w=G.w->WR V->xA P s V G.h.size r.1 E):wP P G s r:=by grind[xA.makes]
theorem Wd(hW:WR G)(hC:nV P X.C)(hE:ER G e a)(hnc:∀c,o.op≠.call c)(h:mT o.op X e G.h o.dst=some r):Bu P o a G r:=by
 cases j:o.op with
 |call c=>grind
 |move x=>rw[j]at h;cases h;intro K Q H;unfold Oper.wp;simp only[execOp,j,Sem.run_pure,Oper.upon_value];exact H _ G rfl (.refl G) hW (mQ hE x)
 |assign x=>rw[j]at h;cases h;intro K Q H;unfold Oper.wp;simp only[execOp,j,Sem.run_pure,Oper.upon_value];exact H _ G rfl (.refl G) hW (mQ hE x)
 |pick c x y=>
  rw[j]at h;obtain⟨k1,u,k2,k3⟩:=RL (P:=P) (mQ hE c) (mQ hE x) (mQ hE y) h;have z:(execOp a.eval o).run P G.w=.ok (.value u) G.w:=by simp only[execOp,j,Sem.run_bind,Sem.run_pure]at k2 ⊢;generalize(asBool (a.eval c)).run P G.w=R at k2;cases R<;>simp_all
  intro K Q H;unfold Oper.wp;rw[z,Oper.upon_value];exact H _ G k1.symm (.refl G) hW k3
 |alloc t=>rw[j]at h;obtain⟨E,A,B,D⟩:=Ib (P:=P) hC h;exact oX (by grind[execOp]) (yM hW ⟨E,A,B,λV _ _ F=>D V F⟩)
 |box t x=>rw[j]at h;obtain⟨E,A,B,D⟩:=Mo (P:=P) h;exact oX (by grind[execOp]) (yM hW ⟨E,A,B,λV L _ F=>D V _ F ((mQ hE x).mono L)⟩)
 |build t ps=>rw[j]at h;obtain⟨k1,k2⟩:=Cq hE ps;exact oX (by grind[execOp]) (rT.makes hW (O4 hC k1 k2 h))
 |buildSlice t n ps=>rw[j]at h;obtain⟨E,A,B,D⟩:=Ce (P:=P) hC h;exact oX (by grind[execOp]) (yM hW ⟨E,A,B,λV L _ F=>let⟨k1,k2⟩:=Cq (hE.mono L) ps;D V _ F k1 k2⟩)
 |load t x=>rw[j]at h;exact oX (by grind[execOp]) (R5 hW hC (mQ hE x) h)
 |store t x y=>
  rw[j]at h;have h:Dj X.C G.h t (me e x) (me e y)=some r:=h;unfold Dj at h;split at h
  ·rename_i S M;split at h;·rename_i h' N;cases h;exact Cg (by grind[execOp]) rfl (Pb hW (hC.ty t S M) (mQ hE x) (mQ hE y) N)
   ·cases h
  ·cases h
 |nilCheck x=>
  rw[j]at h;obtain⟨v,J,rfl⟩:=qU h;obtain⟨k1,k2⟩:=Nv (mQ hE x) J;intro K Q H;have z:(execOp a.eval o).run P G.w=.ok (.value (a.eval x)) G.w:=by rcases k2 with⟨b,O⟩|⟨g,b,c,O⟩<;>simp[execOp,j,O]
  unfold Oper.wp;rw[z,Oper.upon_value];exact H _ G rfl (.refl G) hW k1
 |binOp op t x y ty=>rw[j]at h;exact oX (by grind[execOp]) (xf hW h (λv J=>O9 hC (mQ hE x) (mQ hE y) J x y))
 |unOp op t x=>rw[j]at h;exact oX (by grind[execOp]) (xf hW h (λv J=>RK (mQ hE x) J))
 |convert s d x=>rw[j]at h;exact oX (by grind[execOp]) (rT.makes hW (Lg hC (mQ hE x) h))
 |makeFunc fn p q=>rw[j]at h;obtain⟨k1,k2⟩:=AD hE p;obtain⟨T,U⟩:=AD hE q;exact oX (by grind[execOp]) (rT.makes hW (J3 k1 T k2 U h))
 |makeMap t hint=>
  rw[j]at h;cases hint with
  |none=>cases h;obtain⟨E,A,B,D⟩:=EW (P:=P) (t:=t) G.h none rfl;exact oX (by grind[execOp]) (yM hW ⟨E,A,B,λV _ _ F=>D V F⟩)
  |some x=>cases h
 |makeSlice t l c=>rw[j]at h;obtain⟨E,A,B,D⟩:=CU (P:=P) hC h;exact oX (by grind[execOp]) (yM hW ⟨E,A,B,λV L _ F=>D V _ _ F ((mQ hE l).mono L) ((mQ hE c).mono L)⟩)
 |slice t x lo hi mx=>rw[j]at h;exact oX (by grind[execOp]) (rT.makes hW (Ns hW hC (mQ hE x) (OR.of hE lo) (OR.of hE hi) (OR.of hE mx) h))
 |fieldAddr t x f=>rw[j]at h;obtain⟨k1,u,k2,k3,_⟩:=IC (P:=P) hC (mQ hE x) h;exact oX (by grind[execOp]) ⟨u,G,k2,k1.symm,.refl G,hW,k3⟩
 |field t x f=>rw[j]at h;exact oX (by grind[execOp]) (rT.makes hW (Pd hC (mQ hE x) h))
 |indexAddr t x i=>rw[j]at h;exact oX (by grind[execOp]) (rT.makes hW (I6 hW hC (mQ hE x) (mQ hE i) h))
 |index t x i=>rw[j]at h;exact oX (by grind[execOp]) (rT.makes hW (OZ hC (mQ hE x) (mQ hE i) h))
 |lookup t m k ok=>rw[j]at h;exact oX (by grind[execOp]) (xf hW h (λv J=>Nx hW hC (mQ hE m) (mQ hE k) J))
 |mapUpdate t m k x=>rw[j]at h;obtain⟨k1,k2⟩:=BV hW hC (mQ hE m) (mQ hE k) (mQ hE x) h;simp_all[Cg,execOp]
 |insert t m k x=>rw[j]at h;obtain⟨k1,k2⟩:=BV hW hC (mQ hE m) (mQ hE k) (mQ hE x) h;simp_all[Cg,execOp]
 |mapEntry t m k=>rw[j]at h;exact oX (by grind[execOp]) (JH hW hC (mQ hE m) (mQ hE k) h)
 |entryStore t m s x=>rw[j]at h;obtain⟨k1,k2⟩:=HL (P:=P) (t:=t) hW (mQ hE m) (mQ hE s) (mQ hE x) h;simp_all[Cg,execOp]
 |extract t i=>rw[j]at h;exact oX (by grind[execOp]) (rT.makes hW (Le (mQ hE t) h))
 |_=>rw[j]at h;cases h
end
end Go.Sx
namespace Go.Sx
open Go
variable [DD]
section
variable {P:Program}{C:nu}{G:Ga}{e:Env}{a:Act}{o:Oper}{r:AV×aT}{X:Ctx}
def tY{xs:Array Operand}{x:AV}(h:xs.toList.map (me e)=[x]):∃y,xs = #[y]/\x=me e y:=by
 cases xs with|mk l=>
 cases l<;>simp_all
def QW{xs:Array Operand}{x y:AV}(h:xs.toList.map (me e)=[x,y]):∃u v,xs = #[u,v]/\x=me e u/\y=me e v:=by
 cases xs with|mk l=>
 cases l with
 |nil=>cases h
 |cons u l=>
  cases l with
  |nil=>simp at h
  |cons v l=>cases l<;>grind
def tJ{c:Call}{b:Builtin}(ho:o.op=.call c)(hb:c.callee=.builtin b){s:Sem Value}(hs:∀consts,builtin b c.argTypes o.type consts (c.args.map a.eval)=(do pure (.value (<- s))))(hm:wP P G s r):Bu P o a G r:=by refine oX (s:=s) ?_ hm;simp only[execOp,ho,resolve,hb];exact hs _
theorem RV(hW:WR G)(hC:nV P X.C)(hE:ER G e a){c:Call}{b:Builtin}(ho:o.op=.call c)(hb:c.callee=.builtin b)(h:qS b X.C c.argTypes.toList (c.args.toList.map (me e)) G.h=some r):Bu P o a G r:=by
 obtain⟨A,k⟩:=AD hE c.args;unfold qS at h;split at h
 ·
  have h:Aa X.C c.argTypes.toList (c.args.toList.map (me e)) G.h=some r:=h;generalize f:c.args.toList.map (me e)=l at h;have d:∃x,l=[x]:=by unfold Aa at h;grind
  obtain⟨x,rfl⟩:=d;obtain⟨y,g,rfl⟩:=tY f;exact tJ ho hb (λ_=>rfl) (by rw[g,List.map_toArray];exact rT.makes hW (Tz hW hC (mQ hE y) h))
 ·
  have h:Kj X.C c.argTypes.toList (c.args.toList.map (me e)) G.h=some r:=h;generalize f:c.args.toList.map (me e)=l at h;have d:∃x,l=[x]:=by unfold Kj at h;grind
  obtain⟨x,rfl⟩:=d;obtain⟨y,g,rfl⟩:=tY f;exact tJ ho hb (λ_=>rfl) (by rw[g,List.map_toArray];exact rT.makes hW (UH hC (mQ hE y) h))
 ·
  have h:y6 X.C c.argTypes.toList (c.args.toList.map (me e)) G.h=some r:=h;generalize f:c.args.toList.map (me e)=l at h;have d:∃x y,l=[x,y]:=by unfold y6 at h;grind
  obtain⟨x,y,rfl⟩:=d;obtain⟨u,v,g,rfl,rfl⟩:=QW f;exact tJ ho hb (λ_=>rfl) (by rw[g,List.map_toArray];exact Mj hW hC (mQ hE u) (mQ hE v) h)
 ·
  have h:Ic X.C c.argTypes.toList (c.args.toList.map (me e)) G.h=some r:=h;generalize f:c.args.toList.map (me e)=l at h;have d:∃x y,l=[x,y]:=by unfold Ic at h;grind
  obtain⟨x,y,rfl⟩:=d;obtain⟨u,v,g,rfl,rfl⟩:=QW f;exact tJ ho hb (λ_=>rfl) (by rw[g,List.map_toArray];exact Rn hW hC (mQ hE u) (mQ hE v) h)
 ·
  have h:Dm X.C c.argTypes.toList (c.args.toList.map (me e)) G.h=some r:=h;generalize f:c.args.toList.map (me e)=l at h;have d:∃x y,l=[x,y]:=by unfold Dm at h;grind
  obtain⟨x,y,rfl⟩:=d;obtain⟨u,v,g,rfl,rfl⟩:=QW f;exact tJ ho hb (λ_=>rfl) (by rw[g,List.map_toArray];exact Nq hW hC (mQ hE u) (mQ hE v) h)
 ·
  have h:Da X.C c.argTypes.toList (c.args.toList.map (me e)) G.h=some r:=h;generalize f:c.args.toList.map (me e)=l at h;have d:∃x,l=[x]:=by unfold Da at h;grind
  obtain⟨x,rfl⟩:=d;obtain⟨y,g,rfl⟩:=tY f;exact tJ ho hb (λ_=>rfl) (by rw[g,List.map_toArray];exact OX hW hC (mQ hE y) h)
 ·
  have h:xX max2 (c.args.toList.map (me e)) G.h=some r:=h;refine tJ (s:=Builtin.max_ c.argTypes o.type (c.args.map a.eval)) ho hb (λ_=>rfl) ?_;unfold xX at h;split at h
  ·rename_i x m f;refine xf hW h (λv t=>?_);rw[f]at A k;unfold Builtin.max_;cases B:(c.args.map a.eval).toList with
   |nil=>simp_all
   |cons x' rest'=>
    (have n:∀(i:Nat) y,(x'::rest')[i]?=some y->(c.args.map a.eval)[i]?=some y:=by grind);refine Dx (λw g h=>Sh w g h) (k 0 x x' rfl (n 0 x' rfl)) ?_ (λi p q z j=>k (i+1) p q z (n (i+1) q j)) t;have:(x'::rest').length=(c.args.map a.eval).size:=by grind
    grind
  ·cases h
 ·
  have h:xX min2 (c.args.toList.map (me e)) G.h=some r:=h;refine tJ (s:=Builtin.min_ c.argTypes o.type (c.args.map a.eval)) ho hb (λ_=>rfl) ?_;unfold xX at h;split at h
  ·rename_i x m f;refine xf hW h (λv t=>?_);rw[f]at A k;unfold Builtin.min_;cases B:(c.args.map a.eval).toList with
   |nil=>simp_all
   |cons x' rest'=>
    (have n:∀(i:Nat) y,(x'::rest')[i]?=some y->(c.args.map a.eval)[i]?=some y:=by grind);refine Dx (λw g h=>R6 w g h) (k 0 x x' rfl (n 0 x' rfl)) ?_ (λi p q z j=>k (i+1) p q z (n (i+1) q j)) t;have:(x'::rest').length=(c.args.map a.eval).size:=by grind
    grind
  ·cases h
 ·cases h
end
end Go.Sx
namespace Go.Sx
open Go
variable [DD]
section
variable {P:Program}{C:nu}{G:Ga}{e:Env}{a:Act}{o:Oper}{r:AV×aT}{X:Ctx}
def Ni{x:AV}(h:x.sR=true):x.rX=true:=by cases x<;>simp_all[AV.sR,AV.rX]
theorem We(hW:WR G)(hE:ER G e a)(hK:tS P X.call){c:Call}{f:Operand}(ho:o.op=.call c)(hf:c.callee=.value f)(h:By X.fa X.call G.h (me e f) (c.args.toList.map (me e))=some r):Bu P o a G r:=by
 obtain⟨U,V⟩:=AD hE c.args;have d:=mQ hE f;generalize k:a.eval f=fv at d;unfold By at h;split at h
 ·rename_i g p q l;rw[l]at d;simp only[IV]at h;split at h
  ·rename_i m;simp only[List.all_eq_true]at m;cases d with
   |mR hp _=>simp[AV.oI]at hp
   |mH _ _ _ p' q' hp hq hnp hnq hrp hrq=>
    generalize j:X.call (X.fa.mP.elem g) g (p++c.args.toList.map (me e)++q) { G.h with ca:=[] }=res at h;cases res with
    |none=>cases h
    |some vh=>
     (obtain⟨v,h'⟩:=vh;simp only[Dc,Option.some.injEq]at h;subst h;have z:(p++c.args.toList.map (me e)++q).length=(p'++c.args.map a.eval++q').size:=by grind);have n:∀(i:Nat) (x:AV) (y:Value),(p++c.args.toList.map (me e)++q)[i]?=some x->(p'++c.args.map a.eval++q')[i]?=some y->VC (G.nB [] λ_=>none) x y:=by intro i x y M W;have s:=Ni (m x (alc M));refine⟨VR.nB ?_ s,s⟩;grind
     obtain⟨⟨J,A,B,C⟩,b⟩:=hK _ g _ _ v h' j (G.nB [] λ_=>none) (p'++c.args.map a.eval++q') rfl rfl (λ_=>rfl) (hW.LJ (by simp) (by simp)) z n;intro K Q D
     have t:(execOp a.eval o).run P G.w=.ok (.enter g (p'++c.args.map a.eval++q')) G.w:=by
      (have N : ¬ J.name = "runtime.NumGoroutine" := by grind);have O:¬J.body=none:=by grind
      simp[execOp,ho,resolve,hf,k,Deferred.ofValue,invoke,callFunc,A,N,O]
     unfold Oper.wp;rw[t,Oper.upon_enter];refine b _ (λu G' R E S T=>?_);obtain⟨F,H⟩:=back hW R E;exact D u (G'.nB G.h.ca G.L) (S G.h.ca) F H (T _ _)
  ·cases h
 ·cases h
def El(hW:WR G)(hC:nV P X.C)(hE:ER G e a)(hK:tS P X.call)(h:mT o.op X e G.h o.dst=some r):Bu P o a G r:=by
 by_cases b:∀c,o.op≠.call c;·grind[Wd]
 ·have:∃c,o.op=.call c:=by grind
  obtain⟨c,d⟩:=this;rw[d]at h;have h:tW X.C X.fa X.call e G.h c=some r:=h;grind[tW,RV,We]
end
end Go.Sx
namespace Go.Sx
open Go
variable [DD]
structure Fr(G0 G:Ga):Prop where
 S:Step G0 (G.nB [] λ_=>none)
 L:∀d B,G.L d=some B->G0.w.heap.size<=B
section
variable {P:Program}{G0 G G':Ga}{e:Env}{a:Act}{o:Oper}{X:Ctx}{N:Nat}
theorem Fr.am3(h:Fr G0 G)(d:Nat):G0.L d=none:=by
 cases a:G0.L d with
 |none=>rfl
 |some B=>have:=h.S.ext.ca d B a;cases this
def Fr.step(h:Fr G0 G)(k:Step G G'):Fr G0 G':=by
 have P:∀d B,G'.L d=some B->G0.w.heap.size<=B:=by
  intro d B g;rcases k.w7 d B g with f|a
  ·exact h.L d B f
  ·exact anh h.S.py a
 refine⟨?_,P⟩
 have Q:Ext G0 (G'.nB [] λ_=>none):=by
  refine⟨λs B t=>k.ext.T s B (h.S.ext.T s B t),?_,anh h.S.ext.size k.ext.size,?_,?_,?_⟩;·intro s B t;have i:=h.S.ext.keep s B t;have j:=k.ext.keep s B (h.S.ext.T s B t);exact j.trans i
  ·intro b n g' z' u x;obtain⟨M,R,y,i,p,z⟩:=k.ext.lU b (ane n h.S.ext.size) g' z' u x;obtain⟨g2,U,A,j,o,q⟩:=h.S.ext.lU b n M R y i;refine⟨g2,U,A,j,anh o p,?_⟩;rintro rfl;have:M=g2:=Nat.le_antisymm p o;subst this;obtain⟨N,C⟩:=z rfl;obtain⟨V,D⟩:=q rfl;exact⟨V.trans N,λl m=>C l (D l m)⟩
  ·intro b n W c x;obtain⟨E,X,i,C⟩:=k.ext.map b (ane n h.S.ext.size) W c x;obtain⟨F,Y,j,D⟩:=h.S.ext.map b n E X i;exact⟨F,Y,j,λl m=>C l (D l m)⟩
  ·intro d B g;rw[h.am3 d]at g;cases g
 constructor;·exact Q
 ·exact k.os.trans h.S.os
 ·exact k.output.trans h.S.output
 ·exact k.tape.trans h.S.tape
 ·exact anh h.S.py k.py
 ·intro B r Z H;have i:=h.S.frame B r Z H
  have j:=k.frame B (ane r h.S.py) (by
   intro b l m e;rcases h.S.si b l m with⟨O,f,e0⟩|a<;>grind) (by
   intro d B' g e;have:=h.L d B' g
   omega)
  exact j.trans i
 ·intro b l' m;rcases k.si b l' m with⟨l,f,e⟩|a
  ·rcases h.S.si b l f with⟨l1,i,N⟩|a<;>grind
  ·exact .inr (anh h.S.py a)
 ·intro b l' m;rcases k.tC b l' m with f|a
  ·obtain⟨O,f⟩:=ani.1 f;exact h.S.tC b O f
  ·exact .inr (anh h.S.ext.size a)
 ·intro s B r;rcases k.yK s B r with f|a
  ·exact h.S.yK s B f
  ·exact .inr (anh h.S.py a)
 ·exact k.lo.trans h.S.lo
 ·intro b n J
  have hG:G.pi b=none:=by
   cases hq:G.pi b with
   |none=>rfl
   |some l=>rcases h.S.tC b l hq with f|a<;>grind
  have i:=h.S.out b n J;have j:=k.out b (ane n h.S.ext.size) hG;exact j.trans i
 ·intro d B g;cases g
 ·intro d B g;cases g
 ·intro d c J K;have:=h.S.y3 d c J K;exact this
theorem Fr.nB(h:Fr G0 G){m:o1}{L:Nat->Option Nat}(hL:∀d B,L d=some B->G.L d=some B):Fr G0 (G.nB m L) :=
 ⟨h.S,λd B a=>h.L d B (hL d B a)⟩
structure St(N:Nat)(G0 G:Ga)(e:Env)(a:Act):Prop where
 fr:Fr G0 G
 wr:WR G
 er:ER G e a
 df:a.defers=[]
 sz:N<=a.tmps.size
theorem Act.HK(a:Act)(d:Option Tmp)(u:Value):(a.put d u).tmps.size=a.tmps.size:=by cases d<;>simp[Act.put]
theorem Act.MX(a:Act)(d:Option Tmp)(u:Value):(a.put d u).defers=a.defers:=by cases d<;>rfl
theorem Act.NW{a:Act}{d:Tmp}{u:Value}(h:d<a.tmps.size)(t:Tmp):(a.put (some d) u).eval (.tmp t)=if t=d then u else a.eval (.tmp t):=by simp only[Act.put,Act.eval];rw[Array.getD_eq_getD_getElem?,Array.getD_eq_getD_getElem?,Array.getElem?_setIfInBounds];grind
theorem HN(e:Env)(d t:Nat)(v:AV):p3 (OI e d v) t=if t=d then v else p3 e t:=by
 simp only[OI,p3];cases a:Nat.beq t d with
 |true=>simp_all
 |false=>rw[if_neg (Nat.ne_of_beq_eq_false a)]
def vx(N:Nat)(o:Oper):Bool:=match o.dst with
 |some d=>Nat.blt d N
 |none=>true
theorem DK{o:Oper}{d:Nat}(h:vx N o=true)(hd:o.dst=some d):d<N:=by simp_all[vx]
theorem ER.put(h:ER G e a)(hs:N<=a.tmps.size)(ho:vx N o=true){v:AV}{u:Value}(hv:VR G v u):ER G (my e o v) (a.put o.dst u):=by
 constructor;intro t;unfold my;cases b:o.dst with
 |none=>exact h.rel t
 |some d=>
  simp only;rw[HN,Act.NW (Nat.lt_of_lt_of_le (DK ho b) hs)];split;·exact hv
  ·exact h.rel t
theorem St.put(h:St N G0 G e a)(k:Step G G')(w:WR G')(ho:vx N o=true){v:AV}{u:Value}(hv:VR G' v u):St N G0 G' (my e o v) (a.put o.dst u) :=
 ⟨h.fr.step k,w,(h.er.mono k.ext).put h.sz ho hv,by rw[Act.MX];exact h.df,by rw[Act.HK];exact h.sz⟩
theorem VR.R3(G:Ga):VR G (.mw []) Go.undef:=.mw [] #[] rfl (by simp)
def VR.aaX{u:Value}(h:VR G (.mw []) u):u=Go.undef:=by
 cases h with
 |mR hp _=>simp[AV.oI]at hp
 |mw _ vs hl _=>
  have:vs.size=0:=by grind
  rw[Array.size_eq_zero_iff.1 this];rfl
theorem Mm(a b:Bool):Jn a b=(a==b):=by cases a<;>cases b<;>rfl
theorem BD{ops:Array Oper}(hE:∀j o' d,ops[j]?=some o'->o'.dst=some d->o.guard.isSome=true->(∀w,o.guard=some (j,w)->VR G (p3 e d) (a.eval (.tmp d)))){b:Bool}(h:mF ops.toList e o=some b) :
  Region.wanted o (yielded ops a.tmps)=b:=by
 unfold mF at h;unfold Region.wanted;split at h;·grind
 ·rename_i j f k;rw[k];simp only;split at h
  ·rename_i o' c;rw[Array.getElem?_toList]at c;split at h
   ·rename_i d l;have g:=hE j o' d c l (by grind) f k;unfold yielded;rw[c];simp only[Option.bind_some,l];unfold Pf at h;have m:∀u,a.eval (.tmp d)=u->u≠undef->a.tmps[d]?=some u:=by intro u n p;simp only[Act.eval,Array.getD_eq_getD_getElem?]at n;grind
    split at h;·rename_i x i;rw[i]at g;have q:=g.of_bool;grind[undef,Mm]
    ·rename_i i;rw[i]at g;have q:=VR.aaX g;simp only[Option.some.injEq]at h;rw[<- h];have:∀y,a.tmps[d]?=some (.bool y)->False:=by intro y r;simp_all[Act.eval,undef]
     simp
    ·cases h
   ·cases h
  ·cases h
def Ts{C:nu}(hCX:X.C=C)(hC:nV P C)(hK:tS P X.call){ops:Array Oper}(hN:ops.toList.all (vx N)=true) :
  ∀(l:List Oper) (i:Nat) (e:Env) (h:aT) (e':Env) (h':aT),ops.toList.drop i=l->Fu X ops.toList l e h=some (e',h') ->
  ∀(G:Ga) (a:Act) (Q:Exit->Act->World->Prop),G.h=h->St N G0 G e a->(∀G' a',G'.h=h'->St N G0 G' e' a'->Q .normal a' G'.w)->wpOps P ops Q (List.range' i (ops.size - i)) a G.w:=by
 intro l;induction l with
 |nil=>
  intro i e h e' h' x c G a Q n g p;simp only[Fu,Option.some.injEq,Prod.mk.injEq]at c;obtain⟨rfl,rfl⟩:=c;have:ops.size - i=0:=by simp_all
  rw[this];exact p G a n g
 |cons o l ih=>
  intro i e h e' h' x c G a Q n g p;have j:ops[i]?=some o:=by (have y:(ops.toList.drop i)[0]?=some o:=by grind);grind
  have z:i<ops.size:=(ano.1 j).1;have k:ops.toList.drop (i+1)=l:=by rw[<- List.tail_drop,x];rfl
  have m:vx N o=true:=by grind
  have f:List.range' i (ops.size - i)=i::List.range' (i+1) (ops.size - (i+1)):=by (have:ops.size - i=(ops.size - (i+1))+1:=by omega);rw[this,List.range'_succ]
  rw[f];simp only[wpOps,j];simp only[Fu]at c;cases q:mF ops.toList e o with
  |none=>rw[q]at c;cases c
  |some b=>
   rw[q]at c;rw[BD (λ_ _ d _ _ _ _ _=>g.er.rel d) q];cases b with
   |false=>simp only[Bool.false_eq_true,if_false];simp only[wi]at c;exact ih (i+1) _ _ e' h' k c G _ Q n (g.put (.refl G) g.wr m (VR.R3 G)) p
   |true=>
    simp only[if_true];simp only[wi]at c;split at c;·rename_i v y r;simp only[F6]at c;subst n;have:=El g.wr (by grind) g.er hK r;left;refine this _ Q (λu G' A s t B=>?_);exact ih (i+1) _ _ e' h' k c G' _ Q A (g.put s t m B) p
    grind
end
end Go.Sx
namespace Go.Sx
open Go
variable [DD]
inductive Kd where
 |Bn|Fq|rd|pure
 deriving DecidableEq
def Jt(mP:List Nat):Callee->Kd
 |.builtin .len=>.rd
 |.builtin .cap=>.pure
 |.builtin .max=>.pure
 |.builtin .min=>.pure
 |.value (.func f)=>if mP.elem f then .Bn else .rd
 |_=>.Bn
def oT(mP:List Nat):Op->Kd
 |.store ..|.mapUpdate ..|.insert ..|.mapEntry ..|.entryStore ..=>.Bn
 |.alloc ..|.box ..|.makeMap ..|.makeSlice ..|.buildSlice ..=>.Fq
 |.load ..|.lookup ..|.slice ..|.indexAddr ..=>.rd
 |.call c=>Jt mP c.callee
 |_=>.pure
structure Kk(h h':aT):Prop where
 get:∀b o,h.get b=some o->h'.get b=some o
 loc:∀d c,nE h.ca d=some c->nE h'.ca d=some c
def Kk.refl(h:aT):Kk h h:=⟨λ_ _ h=>h,λ_ _ h=>h⟩
def uP(call:xC):Prop:=∀(f:Nat)(args:List AV) (h:aT) (v:AV) (h':aT),call false f args h=some (v,h') ->
 h'=h/\∀h2:aT,(∀b o,h.get b=some o->h2.get b=some o)->call false f args h2=some (v,h2)
section
variable {X:Ctx}{e e':Env}{o:Op}{h h1 h2:aT}{d:Option Nat}{v:AV}
theorem FQ(h:∀x∈o.operands,me e x=me e' x):mT o X e h1 d=mT o X e' h1 d:=by
 have a:∀ps:Array (Nat×Operand),(∀x∈ps.map (·.2),me e x=me e' x)->vI e ps=vI e' ps:=λps f=>by unfold vI;refine anM λp g=>?_;grind
 have i:∀b:Array Operand,(∀x∈b,me e x=me e' x)->b.toList.map (me e)=b.toList.map (me e'):=λb f=>
  anM λx g=>f x (by grind)
 cases o<;>simp only[Op.operands]at h<;>simp only[mT];case build t ps=>simp only[M0];rw[a ps λx j=>h x (by simp_all)]
 case buildSlice t n ps=>simp only[Cr];rw[a ps λx j=>h x (by simp_all)]
 case makeFunc fn first captured=>grind[B3]
 case call c=>grind[uQ,tW,Call.operands,invoke,builtin]
 case makeMap t r=>cases r<;>rfl
 case slice t x lo hi mx=>cases lo<;>cases hi<;>cases mx<;>simp_all[vD,sX]
 all_goals (first|rfl|(simp_all[Re,Rj,Xt,BM,Fz,BL,Dy,oUn,Hh,IE,yI,NH,uB,EN,A0,AP,Cd,Cz,HW];done))
def uL{x:Option AV}{r:AV×aT}(k:oz h x=some r):r.2=h/\∀h2,oz h2 x=some (r.1,h2):=by grind[qU,oz]
theorem Ha{mP:List Nat}(hk:oT mP o=.pure)(k:mT o X e h d=some (v,h1)):h1=h/\∀h2,mT o X e h2 d=some (v,h2):=by
 cases o<;>simp only[oT,reduceCtorEq]at hk<;>simp only[mT]at k ⊢;case move x=>cases k;exact⟨rfl,λ_=>rfl⟩
 case assign x=>cases k;exact⟨rfl,λ_=>rfl⟩
 case pick c a b=>grind[Rj,Lw]
 case build t ps=>simp only[M0,IQ]at k ⊢;split at k<;>grind
 case nilCheck x=>simp only[BL]at k ⊢;exact uL k
 case binOp op t x y ty=>simp only[Dy]at k ⊢;exact uL k
 case unOp op t x=>simp only[oUn]at k ⊢;exact uL k
 case convert s t x=>
  simp only[Hh,DO]at k ⊢;split at k
  ·split at k
   ·split at k;·exact uL k
    ·cases k
   ·split at k<;>grind
   ·cases k
  ·cases k
 case makeFunc fn a c=>simp only[B3,zQ]at k ⊢;split at k<;>grind
 case fieldAddr t x f=>
  simp only[yI,wV]at k ⊢;split at k;·cases k
  ·split at k
   ·split at k;·exact uL k
    ·cases k
   ·cases k
 case field t x f=>
  simp only[NH,IJ]at k ⊢;split at k;·cases k
  ·split at k
   ·split at k
    ·split at k
     ·split at k;·exact uL k
      ·cases k
     ·cases k
    ·cases k
   ·cases k
 case index t x i=>
  simp only[EN,C3]at k ⊢;split at k;·cases k
  ·split at k;·cases k
   ·split at k
    ·split at k;·split at k<;>grind
     ·cases k
    ·split at k
     ·split at k
      ·split at k;·exact uL k
       ·cases k
      ·cases k
     ·cases k
    ·cases k
 case extract t i=>
  simp only[HW,DX]at k ⊢;split at k;·exact uL k
  ·cases k
 case call c=>
  simp only[uQ,tW]at k ⊢;unfold Jt at hk;split at hk<;>try (cases hk;done)
  ·rename_i g;rw[g]at k ⊢;simp only[qS,Zm,Kj]at k ⊢;split at k;·unfold uZ at k ⊢;split at k<;>grind
   ·cases k
  ·rename_i g;rw[g]at k ⊢;simp only[qS,Z5,xX]at k ⊢;split at k;·exact uL k
   ·cases k
  ·rename_i g;rw[g]at k ⊢;simp only[qS,YG,xX]at k ⊢;split at k;·exact uL k
   ·cases k
  grind
 all_goals (cases k)
theorem Uc{a:AV}{ti:TI}(E:Kk h h2)(k:xz a h ti=some v):xz a h2 ti=some v:=by
 unfold xz at k ⊢;split at k
 ·unfold No at k ⊢;split at k;·rename_i d b;simp only[E.loc _ _ b];exact k
  ·cases k
 ·exact k
 ·unfold I1 at k ⊢;split at k;·rename_i g' z e c;simp only[E.get _ _ c];exact k
  ·cases k
 ·exact k
theorem Ng{n i:Nat}{y:AV}(k:wI n h y i=some (v,h1)):h1=h/\∀h2,Kk h h2->wI n h2 y i=some (v,h2):=by
 unfold wI at k;split at k;·grind[wI]
 ·split at k
  ·rename_i z c a;split at k;·rename_i b;simp only[sj,Option.some.injEq,Prod.mk.injEq]at k;obtain⟨rfl,rfl⟩:=k;exact⟨rfl,λh2 E=>by simp only[wI,E.get _ _ a,b,sj]⟩
   ·cases k
  ·cases k
 ·cases k
theorem BS{mP:List Nat}(hI:uP X.call)(hs:X.fa.mP=mP)(hk:oT mP o=.rd)(k:mT o X e h d=some (v,h1)):h1=h/\∀h2,Kk h h2->mT o X e h2 d=some (v,h2):=by
 cases o<;>simp only[oT,reduceCtorEq]at hk<;>simp only[mT]at k ⊢;case load t a=>simp only[BM,Au]at k ⊢;split at k<;>grind[qU,oz,Uc]
 case lookup t m q ok=>
  simp only[A0]at k ⊢;obtain⟨u,g,k⟩:=qU k;cases k;refine⟨rfl,λh2 E=>?_⟩
  have:yc X.C t h2 (me e m) (me e q) ok=some v:=by
   unfold yc at g ⊢;split at g;·cases g
   ·split at g
    ·split at g;·cases g
     ·split at g;·cases g
      ·have H:∀r,xd h (me e q) (me e m)=some r->xd h2 (me e q) (me e m)=some r:=by
        intro r p;unfold xd at p ⊢;split at p;·exact p
        ·exact p
        ·split at p;·rename_i D c s;simp only[E.get _ _ s];exact p
         grind
        omega
       grind
    omega
  simp[oz,this]
 case slice t x lo hi mx=>
  simp only[vD,uX]at k ⊢;split at k;·cases k
  ·split at k
   ·split at k
    ·obtain⟨u,g,k⟩:=qU k;cases k;refine⟨rfl,λh2 E=>?_⟩
     have:∀n,slice n h (me e x) (sX (me e) lo) (sX (me e) hi) (sX (me e) mx)=some v->slice n h2 (me e x) (sX (me e) lo) (sX (me e) hi) (sX (me e) mx)=some v:=by
      intro n g;unfold slice at g ⊢;split at g;·exact g
      ·unfold JQ at g ⊢;split at g;·rename_i g' z J s;simp only[E.get _ _ s];exact g
       grind
      omega
     grind[oz]
    ·cases k
   ·split at k<;>grind[qU,oz]
   ·cases k
 case indexAddr t x i=>
  simp only[uB,tB]at k ⊢;split at k;·cases k
  ·split at k;·cases k
   ·split at k;·split at k<;>grind[me,Ng]
    ·split at k<;>grind[qU,oz]
    ·cases k
 case call c=>
  simp only[uQ,tW]at k ⊢;unfold Jt at hk;split at hk<;>try (cases hk;done)
  ·rename_i A;rw[A]at k ⊢;simp only[qS,BX,Aa]at k ⊢;split at k
   ·split at k
    ·unfold uZ at k;split at k
     ·rename_i n K;cases k;refine⟨rfl,λh2 E=>?_⟩
      have:∀(x:AV) (B:TK),Ba h x B=some n->Ba h2 x B=some n:=by
       intro x B j;unfold Ba at j ⊢;split at j;·exact j
       ·exact j
       ·exact j
       ·unfold Mg at j ⊢;split at j;·exact j
        ·exact j
        ·split at j;·rename_i D c s;simp only[E.get _ _ s];exact j
         grind
        omega
       omega
      grind[uZ]
     ·cases k
    ·cases k
   ·cases k
  ·rename_i f A;rw[A]at k ⊢;simp only[me,By,IV,List.nil_append,List.append_nil]at k ⊢;have w:X.fa.mP.elem f=false:=by grind
   split at k
   ·rename_i F;rw[w]at k;unfold Dc at k;split at k;·rename_i u g l;cases k;obtain⟨rfl,y⟩:=hI _ _ _ _ _ l;refine⟨rfl,λh2 E=>?_⟩;rw[w];rw[y { h2 with ca:=[] } (λb o G=>E.get b o G)];rfl
    ·cases k
   ·cases k
end
end Go.Sx
namespace Go.Sx
open Go
variable [DD]
theorem sa{α:Type}{f : α->α->Bool}(hf:∀a b,f a b=true->a=b):∀x y:List α,rl f x y=true->x=y
 |[],[],_=>rfl
 |a::x,b::y,h=>by simp only[rl,Bool.and_eq_true]at h;rw[hf a b h.1,sa hf x y h.2]
 |[],_::_,h=>by simp[rl]at h
 |_::_,[],h=>by simp[rl]at h
theorem WO{a b:sg}(h:vc a b=true):a=b:=by
 cases a<;>cases b<;>simp only[vc,Bool.false_eq_true]at h<;>try rfl
 simp_all
theorem uS:∀(n:Nat)(a b:AV),pk n a b=true->a=b
 |0,_,_,h=>by simp[pk]at h
 |n+1,a,b,h=>by
  have d:=uS n;cases a<;>cases b<;>simp only[pk,Bool.and_eq_true,Bool.false_eq_true,Mm,beq_iff_eq,wS,u5,Nat.beq_eq]at h;all_goals first|rfl|skip
  ·rw[h]
  ·rw[h.1,h.2]
  ·rw[h]
  ·rw[sa d _ _ h.1.1,h.1.2,h.2]
  ·rw[h.1,h.2]
  ·rw[h.1.1.1,h.1.1.2,h.1.2,h.2]
  ·rw[sa (λ_ _=>sa d _ _) _ _ h.1,WO h.2]
  ·rw[h.1.1.1,h.1.1.2,h.1.2,h.2]
  ·rw[sa (λp q c=>by simp only[Bool.and_eq_true]at c;exact Prod.ext (d _ _ c.1) (d _ _ c.2)) _ _ h.1,h.2]
  ·rw[h]
  ·rw[sa d _ _ h]
def direct(o:Oper):List Nat:=(o.after.toList.filter (Region.binds .any)).map (·.on)
inductive Dl(ops:Array Oper):Nat->Nat->Prop
 |one {i j:Nat} {o:Oper}:ops[i]?=some o->j∈direct o->Dl ops i j
 |more {i k j:Nat} {o:Oper}:ops[i]?=some o->k∈direct o->Dl ops k j->Dl ops i j
def Dw:List (Nat×Nat)->Nat->Nat
 |[],_=>0
 |(i,m)::t,k=>match Nat.beq i k with
  |true=>m
  |false=>Dw t k
def FE(tab:List (Nat×Nat)):List Nat->Nat
 |[]=>0
 | k::l=>(1 <<< k) ||| (Dw tab k) ||| FE tab l
def JB{β:Type}(ops:Array Oper):List (Nat×List Nat)->List (Nat×Nat)->(List (Nat×Nat)->β)->β
 |[],t,k=>k t
 |(i,_)::l,t,k=>match ops[i]? with
  |some o=>fN (FE t (direct o)) λm=>JB ops l ((i,m)::t) k
  |none=>JB ops l t k
def S0(tab:List (Nat×Nat))(i j:Nat):Bool:=(Dw tab i).testBit j
def EU(ops:Array Oper)(o:Oper):Option Tmp->Bool
 |some d=>(o.looksAt ops).elem d
 |none=>false
def PC:Option Tmp->Option Tmp->Bool
 |some a,some b=>Nat.beq a b
 |_,_=>false
def Lm:Kd->Bool
 |.Bn=>true
 |_=>false
def Nd:Kd->Bool
 |.rd=>true
 |_=>false
def Uk(mP:List Nat)(ops:Array Oper)(tab:List (Nat×Nat))(x y:Nat×List Nat):Bool:=!(Nat.beq x.1 y.1)&&match ops[x.1]?,ops[y.1]? with
 |some a,some b=>(!(EU ops a b.dst)||(S0 tab y.1 x.1&&!(Nd (oT mP a.op))))&&(!(EU ops b a.dst)||S0 tab y.1 x.1)&&!(PC a.dst b.dst)&&!((direct a).elem y.1)&&(!(Lm (oT mP a.op))||S0 tab y.1 x.1) &&
  (!(Nd (oT mP a.op)&&Lm (oT mP b.op))||S0 tab y.1 x.1||y.2.elem x.1)
 |_,_=>false
def ZE(mP:List Nat)(ops:Array Oper)(x:Nat×List Nat):Bool:=match ops[x.1]? with
 |some o=>(!(EU ops o o.dst)||!(Nd (oT mP o.op)))&&(direct o).all (λj=>!(Nat.beq j x.1)&&Nat.blt j ops.size)
 |none=>false
def pw{α:Type}(R : α->α->Bool):List α->Bool
 |[]=>true
 |x::l=>l.all (R x)&&pw R l
def LR(mP:List Nat)(ops:Array Oper)(sch:List (Nat×List Nat)):Bool :=
 JB ops sch [] λa=>(List.range ops.size).all (λi=>sch.any λx=>Nat.beq x.1 i)&&sch.all (ZE mP ops)&&pw (Uk mP ops a) sch
section
variable {ops:Array Oper}{mP:List Nat}{sch:List (Nat×List Nat)}
def Ja{t:List (Nat×Nat)}{i j:Nat}(h:(Dw t i).testBit j=true):∃m,(i,m)∈t/\m.testBit j=true:=by
 induction t with
 |nil=>simp[Dw]at h
 |cons p t ih=>
  obtain⟨k,m⟩:=p;simp only[Dw]at h;split at h;·simp_all
  grind
def Lx(ops:Array Oper)(t:List (Nat×Nat)):Prop:=∀i m,(i,m)∈t->∀j,m.testBit j=true->Dl ops i j
def ET{t:List (Nat×Nat)}(ht:Lx ops t){i:Nat}{o:Oper}(ho:ops[i]?=some o) :
  ∀l:List Nat,(∀k∈l,k∈direct o)->∀j,(FE t l).testBit j=true->Dl ops i j
 |[],_,j,h=>by simp[FE]at h
 |k::l,hl,j,h=>by
  simp only[FE,Nat.testBit_or,Bool.or_eq_true]at h;have a:=hl k anC;rcases h with(h|h)|h
  ·(have:j=k:=by rw[Nat.testBit_shiftLeft]at h;simp only[ge_iff_le,Bool.and_eq_true,decide_eq_true_eq,Nat.testBit_one_eq_true_iff_self_eq_zero]at h;omega);subst this;exact .one ho a
  ·obtain⟨m,b,c⟩:=Ja h;exact .more ho a (ht k m b j c)
  ·exact ET ht ho l (λx d=>hl x (anp _ d)) j h
def CD{p:List (Nat×Nat)->Bool}:∀(l:List (Nat×List Nat)) (t:List (Nat×Nat)),Lx ops t->JB ops l t p=true->∃t',Lx ops t'/\p t'=true
 |[],t,ht,h=>⟨t,ht,h⟩
 |(i,c)::l,t,ht,h=>by
  simp only[JB]at h;split at h
  ·rename_i o f;simp only[sj]at h;refine CD l _ ?_ h;intro a m b j d;rcases ank.1 b with e|b
   ·cases e;exact ET ht f _ (λ_ h=>h) j d
   ·exact ht a m b j d
  ·exact CD l t ht h
theorem BP{t:List (Nat×Nat)}(ht:Lx ops t){i j:Nat}(h:S0 t i j=true):Dl ops i j:=by obtain⟨m,a,b⟩:=Ja h;exact ht i m a j b
def TH{α:Type}{R : α->α->Bool}:∀{l:List α},pw R l=true->∀{p q:Nat} {x y : α},p<q->l[p]?=some x->l[q]?=some y->R x y=true
 |[],_,p,q,x,y,_,hx,_=>by simp at hx
 |z::l,h,p,q,x,y,hlt,hx,hy=>by
  simp only[pw,Bool.and_eq_true,List.all_eq_true]at h;obtain⟨q,rfl⟩:∃q',q=q'+1:=⟨q - 1,by omega⟩;rw[List.getElem?_cons_succ]at hy;cases p with
  |zero=>simp only[List.getElem?_cons_zero,Option.some.injEq]at hx;subst hx;exact h.1 y (alc hy)
  |succ p=>rw[List.getElem?_cons_succ]at hx;exact TH h.2 (by omega) hx hy
structure Az(mP:List Nat)(ops:Array Oper)(sch:List (Nat×List Nat)):Prop where
 cover:∀i,i<ops.size->∃(p:Nat) (c:List Nat),sch[p]?=some (i,c)
 one:∀(p i:Nat) c,sch[p]?=some (i,c)->∃o,ops[i]?=some o/\(∀d,o.dst=some d->d∈o.looksAt ops->oT mP o.op≠.rd)/\(∀j∈direct o,j≠i/\j<ops.size)
 pair:∀(p q i:Nat) c (j:Nat) c' a b,p<q->sch[p]?=some (i,c)->sch[q]?=some (j,c')->ops[i]?=some a->ops[j]?=some b ->
  i≠j/\(∀d,b.dst=some d->d∈a.looksAt ops->Dl ops j i/\oT mP a.op≠.rd)/\(∀d,a.dst=some d->d∈b.looksAt ops->Dl ops j i)/\(∀d,a.dst=some d->b.dst≠some d)/\j∉direct a /\
  (oT mP a.op=.Bn->Dl ops j i)/\(oT mP a.op=.rd->oT mP b.op=.Bn->Dl ops j i\/i∈c')
theorem IS{k:Kd}(h:Nd k=false):k≠.rd:=by rintro rfl;cases h
theorem A7{o:Oper}{x:Option Tmp}(h:EU ops o x=false):∀d,x=some d->d∉o.looksAt ops:=by grind[EU]
def Wq(h:LR mP ops sch=true):Az mP ops sch:=by
 obtain⟨t,F,h⟩:=CD sch [] (by intro i m k;cases k) h;simp only[Bool.and_eq_true,List.all_eq_true]at h;obtain⟨⟨l,n⟩,r⟩:=h;refine⟨?_,?_,?_⟩;·intro i s;have:=l i (List.mem_range.2 s);obtain⟨x,u,f⟩:=List.any_eq_true.1 this;have:=acl f;obtain⟨p,e⟩:=anq u;grind
 ·intro p i c e;have:=n (i,c) (alc e);unfold ZE at this;simp only at this;split at this
  ·rename_i o w;simp only[Bool.and_eq_true,List.all_eq_true,Bool.not_eq_true',Bool.or_eq_true]at this;obtain⟨k1,k2⟩:=this;refine⟨o,w,?_,?_⟩;·grind[A7,IS]
   ·intro j y;obtain⟨z,A⟩:=k2 j y;refine⟨?_,anu A⟩;rintro rfl;simp at z
  grind
 ·intro p q i c j c' a b g e B C f;have:=TH r g e B;unfold Uk at this;simp only[C,f,Bool.and_eq_true,Bool.not_eq_true',Bool.or_eq_true]at this;obtain⟨k0,⟨⟨⟨⟨k1,D⟩,k2⟩,k3⟩,k4⟩,k5⟩:=this;refine⟨?_,?_,?_,?_,?_,?_,?_⟩;·rintro rfl;simp at k0
  ·grind[A7,BP,IS]
  ·grind[A7,BP]
  ·intro d G E;simp_all[PC]
  ·grind
  ·grind[Lm,BP]
  grind[Lm,Nd,BP]
structure Trace(X:Ctx)(ops:Array Oper)(sch:List (Nat×List Nat))(E:Nat->Env)(H:Nat->aT)(V:Nat->AV)(W:Nat->Bool):Prop where
 at_:∀(p i:Nat) c o,sch[p]?=some (i,c)->ops[i]?=some o->mF ops.toList (E p) o=some (W p)/\E (p+1)=my (E p) o (V p) /\
  (W p=true->mT o.op X (E p) (H p) o.dst=some (V p,H (p+1)))/\(W p=false->V p=.mw []/\H (p+1)=H p) /\
  ∀r∈c,again X ops.toList (E (p+1)) (H (p+1)) r=true
def shift{α:Type}(x : α)(f:Nat->α):Nat->α
 |0=>x
 |n+1=>f n
def Mz{X:Ctx}:∀(sch:List (Nat×List Nat)) (e:Env) (h:aT) (e':Env) (h':aT),Ak X ops.toList sch e h=some (e',h') ->
  ∃E H V W,E 0=e/\H 0=h/\E sch.length=e'/\H sch.length=h'/\Trace X ops sch E H V W
 |[],e,h,e',h',a=>by simp only[Ak,Option.some.injEq,Prod.mk.injEq]at a;exact⟨λ_=>e,λ_=>h,λ_=>.undef,λ_=>true,rfl,rfl,a.1,a.2,⟨by simp⟩⟩
 |(i,c)::rest,e,h,e',h',a=>by
  simp only[Ak]at a;split at a;·cases a
  ·rename_i o q;rw[Array.getElem?_toList]at q
   have g:∀(w:Bool) (v:AV) (b:aT),mF ops.toList e o=some w->(w=true->mT o.op X e h o.dst=some (v,b))->(w=false->v=.mw []/\b=h) ->
     (match c.all (again X ops.toList (my e o v) b)with|true=>Ak X ops.toList rest (my e o v) b|false=>none)=some (e',h') ->
     ∃E H V W,E 0=e/\H 0=h/\E ((i,c)::rest).length=e'/\H ((i,c)::rest).length=h'/\Trace X ops ((i,c)::rest) E H V W:=by
    intro w v b f k1 k2 k3;split at k3
    ·rename_i j;obtain⟨E,H,V,W,l,m,s,t,u⟩:=Mz rest _ _ _ _ k3;refine⟨shift e E,shift h H,shift v V,shift w W,rfl,rfl,s,t,⟨?_⟩⟩;intro p i' c' o' k d;cases p with
     |zero=>simp only[List.getElem?_cons_zero,Option.some.injEq,Prod.mk.injEq]at k;obtain⟨rfl,rfl⟩:=k;rw[q]at d;cases d;simp only[shift,l,m];refine⟨f,trivial,k1,k2,?_⟩;exactλr a=>anD.1 j r a
     |succ p=>rw[List.getElem?_cons_succ]at k;exact u.at_ p i' c' o' k d
    ·cases k3
   cases f:mF ops.toList e o with
   |none=>rw[f]at a;cases a
   |some w=>
    rw[f]at a;cases w with
    |false=>simp only[wi]at a;exact g false (.mw []) h f (by simp) (λ_=>⟨rfl,rfl⟩) a
    |true=>
     simp only[wi]at a;split at a;·rename_i v b n;simp only[F6]at a;exact g true v b f (λ_=>n) (by simp) a
     ·cases a
variable {X:Ctx}{E:Nat->Env}{H:Nat->aT}{V:Nat->AV}{W:Nat->Bool}
theorem zf{e:Env}{o:Oper}{v:AV}{t:Nat}(h:∀d,o.dst=some d->d≠t):p3 (my e o v) t=p3 e t:=by grind[my,HN]
def Km{e:Env}{o:Oper}{v:AV}{d:Nat}(h:o.dst=some d):p3 (my e o v) d=v:=by grind[my,HN]
theorem Trace.look(F:Az mP ops sch)(T:Trace X ops sch E H V W){p i:Nat}{c:List Nat}{o:Oper}(hp:sch[p]?=some (i,c))(ho:ops[i]?=some o)(hrd:oT mP o.op=.rd){t:Nat}(ht:t∈o.looksAt ops) :
  ∀k,p+k<=sch.length->p3 (E (p+k)) t=p3 (E p) t
 |0,_=>rfl
 |k+1,hk=>by
  rw[<- T.look F hp ho hrd ht k (by omega)];have e:p+k<sch.length:=by omega
  obtain⟨x,b⟩:∃x,sch[p+k]?=some x:=⟨sch[p+k],by simp⟩;obtain⟨j,c'⟩:=x;obtain⟨o',a,g,_⟩:=F.one _ _ _ b;have:=(T.at_ _ _ _ _ b a).2.1;rw[<- Nat.add_assoc,this];refine zf ?_;rintro d f rfl;cases k with
  |zero=>grind
  |succ k=>exact((F.pair p (p+(k+1)) i c j c' o o' (by omega) hp b ho a).2.1 d f ht).2 hrd
theorem Trace.val(F:Az mP ops sch)(T:Trace X ops sch E H V W){p i:Nat}{c:List Nat}{o:Oper}(hp:sch[p]?=some (i,c))(ho:ops[i]?=some o){d:Nat}(hd:o.dst=some d) :
  ∀k,p+1+k<=sch.length->p3 (E (p+1+k)) d=V p
 |0,_=>by rw[Nat.add_zero,(T.at_ _ _ _ _ hp ho).2.1];exact Km hd
 |k+1,hk=>by
  rw[<- T.val F hp ho hd k (by omega)];have f:p+1+k<sch.length:=by omega
  obtain⟨x,b⟩:∃x,sch[p+1+k]?=some x:=⟨sch[p+1+k],by simp⟩;obtain⟨j,c'⟩:=x;obtain⟨o',a,_⟩:=F.one _ _ _ b;have:=(T.at_ _ _ _ _ b a).2.1;rw[<- Nat.add_assoc,this];refine zf ?_;rintro d' e rfl;exact(F.pair p (p+1+k) i c j c' o o' (by omega) hp b ho a).2.2.2.1 d' hd e
theorem Trace.keep(F:Az mP ops sch)(T:Trace X ops sch E H V W){t:Nat}:∀k,k<=sch.length->(∀(q j:Nat) c o',q<k->sch[q]?=some (j,c)->ops[j]?=some o'->o'.dst≠some t)->p3 (E k) t=p3 (E 0) t
 |0,_,_=>rfl
 |k+1,hk,ht=>by
  rw[<- T.keep F k (by omega) (λq j c o' e=>ht q j c o' (by omega))];have d:k<sch.length:=by omega
  obtain⟨x,b⟩:∃x,sch[k]?=some x:=⟨sch[k],by simp⟩;obtain⟨j,c'⟩:=x;obtain⟨o',a,_⟩:=F.one _ _ _ b;rw[(T.at_ _ _ _ _ b a).2.1];grind[zf]
end
end Go.Sx
namespace Go.Sx
open Go
variable [DD]
section
variable {P:Program}{C:nu}{X:Ctx}{o:Oper}{mP:List Nat}
def Rh(P:Program)(o:Oper)(e:Env)(h0:aT)(r:AV×aT)(E:vS):Prop :=
 r.2=E.on h0/\(∀d cs,E=.loc d cs->nE h0.ca d=none) /\
 ∃s:Act->Sem Value,(∀a,execOp (Act.eval a) o=(do pure (.value (<- s a))))/\∀G a e',(∀x∈o.op.operands,me e' x=me e x)->WR G->ER G e' a->xA P (s a) G h0.size r.1 E
def acR(hC:nV P X.C){e:Env}{h0:aT}{r:AV×aT}(hk:oT mP o.op=.Fq)(h:mT o.op X e h0 o.dst=some r):∃E,Rh P o e h0 r E:=by
 cases m:o.op<;>rw[m]at hk h<;>simp only[oT,reduceCtorEq]at hk;case alloc t=>obtain⟨E,b,d,f⟩:=Ib (P:=P) hC h;exact⟨E,b,d,λ_=>Instr.alloc t true (.tuple #[]),λa=>by grind[execOp],λG a e' _ g _=>f G g⟩
 case box t x=>obtain⟨E,b,d,f⟩:=Mo (P:=P) h;refine⟨E,b,d,λa=>Instr.box t (a.eval x),λa=>by grind[execOp],λG a e' j g k=>f G _ g ?_⟩;grind[Op.operands,mQ]
 case buildSlice t n ps=>obtain⟨E,b,d,f⟩:=Ce (P:=P) hC h;refine⟨E,b,d,λa=>Instr.buildSlice t n (ps.map λ(i,x)=>(i,a.eval x)),λa=>by grind[execOp],λG a e' j g k=>?_⟩;obtain⟨k1,k2⟩:=Cq k ps;grind[vI,Op.operands]
 case makeMap t hint=>
  cases hint with
  |none=>cases h;obtain⟨E,b,d,f⟩:=EW (P:=P) (t:=t) h0 none rfl;exact⟨E,b,d,λ_=>Instr.makeMap t none,λa=>by grind[execOp],λG a e' _ g _=>f G g⟩
  |some x=>cases h
 case makeSlice t l c=>obtain⟨E,b,d,f⟩:=CU (P:=P) hC h;refine⟨E,b,d,λa=>Instr.makeSlice t (a.eval l) (a.eval c),λa=>by simp only[execOp,m],λG a e' j g k=>f G _ _ g ?_ ?_⟩<;>grind[Instr.makeSlice,execOp,Op.operands,mQ]
 case call c=>unfold Jt at hk;grind
def u9(G:Ga)(n:Nat):vS->Prop
 |.obj ob=>G.h.get n=some ob/\G.pi n=none
 |.loc d cs=>nE G.h.ca d=some cs/\G.L d=none
 |.none=>True
def u9.step{G G':Ga}(hW:WR G)(S:Step G G'){n:Nat}{E:vS}(h:u9 G n E):u9 G' n E:=by
 cases E with
 |obj ob=>
  obtain⟨a,b⟩:=h;have c:=hW.lt _ _ a;refine⟨by rw[S.out n c b];exact a,?_⟩;cases e:G'.pi n with
  |none=>rfl
  |some l=>rcases S.tC n l e with f|g<;>grind
 |loc d cs=>
  obtain⟨a,b⟩:=h;refine⟨S.y3 d cs b a,?_⟩;cases e:G'.L d with
  |none=>rfl
  |some B=>rcases S.yL d B e with f|f<;>grind
 |none=>trivial
theorem Ut{G G':Ga}(S:Step G G')(W':WR G'){d:Nat}(h:(nE G.h.ca d).isSome=true):(nE G'.h.ca d).isSome=true:=by
 cases a:G.L d with
 |none=>obtain⟨c,b⟩:=ani.1 h;rw[S.y3 d c a b];rfl
 |some B=>exact(W'.qL d B (S.ext.ca d B a)).2
structure Kg(H:Nat->aT)(p:Nat):Prop where
 ok:∀q,q<=p->(H q).lo<=(H q).size/\∀b o,(H q).get b=some o->b<(H q).size
 size:∀q r,q<=r->r<=p->(H q).size<=(H r).size
 loc:∀q r,q<=r->r<=p->∀d,(nE (H q).ca d).isSome=true->(nE (H r).ca d).isSome=true
theorem Kg.next{H:Nat->aT}{p:Nat}(R:Kg H p){G G':Ga}(S:Step G G')(W':WR G')(hG:G.h=H p)(hG':G'.h=H (p+1)):Kg H (p+1):=by
 have f:(H p).size<=(H (p+1)).size:=by rw[<- hG,<- hG'];exact S.ext.size
 have g:∀d,(nE (H p).ca d).isSome=true->(nE (H (p+1)).ca d).isSome=true:=by grind[Ut]
 refine⟨?_,?_,?_⟩
 ·intro q j;by_cases e:q<=p;·exact R.ok q e
  ·(have:q=p+1:=by omega);subst this;rw[<- hG'];exact⟨W'.lo,W'.lt⟩
 ·intro q r a i;by_cases e:r<=p;·exact R.size q r a e
  ·(have:r=p+1:=by omega);subst this;by_cases b:q<=p;·exact anh (R.size q p b (abs _)) f
   grind
 ·intro q r a i d c;by_cases e:r<=p;·exact R.loc q r a e d c
  ·(have:r=p+1:=by omega);subst this;by_cases b:q<=p;·exact g d (R.loc q p b (abs _) d c)
   grind
end
section
variable {P:Program}{X:Ctx}{N:Nat}{ops:Array Oper}{mP:List Nat}{sch:List (Nat×List Nat)}
variable {E:Nat->Env}{H:Nat->aT}{V:Nat->AV}{W:Nat->Bool}
def NN(P:Program)(mP:List Nat)(ops:Array Oper)(sch:List (Nat×List Nat))(E:Nat->Env)(H:Nat->aT)(V:Nat->AV)(W:Nat->Bool)(Ef:Nat->vS):Prop :=
 ∀(p i:Nat) c o,sch[p]?=some (i,c)->ops[i]?=some o->W p=true->oT mP o.op=.Fq->Rh P o (E p) (H p) (V p,H (p+1)) (Ef p)
def aih(hC:nV P X.C)(T:Trace X ops sch E H V W):∃Ef,NN P mP ops sch E H V W Ef:=by
 have:∀p,∃E0:vS,∀(i:Nat) c o,sch[p]?=some (i,c)->ops[i]?=some o->W p=true->oT mP o.op=.Fq->Rh P o (E p) (H p) (V p,H (p+1)) E0:=by
  intro p;by_cases h:∃(i:Nat) (c:List Nat) (o:Oper),sch[p]?=some (i,c)/\ops[i]?=some o/\W p=true/\oT mP o.op=.Fq;·obtain⟨i,c,o,a,b,d,e⟩:=h;obtain⟨E0,f⟩:=acR hC e ((T.at_ p i c o a b).2.2.1 d);refine⟨E0,?_⟩;grind
  ·refine⟨.none,?_⟩;grind
 exact⟨λp=>Classical.choose (this p),λp=>Classical.choose_spec (this p)⟩
theorem zJ(T:Trace X ops sch E H V W)(hI:uP X.call)(hs:X.fa.mP=mP){p i:Nat}{c:List Nat}{o:Oper}(hp:sch[p]?=some (i,c))(ho:ops[i]?=some o)
  (hk:W p=false\/oT mP o.op=.pure\/oT mP o.op=.rd):H (p+1)=H p:=by
 obtain⟨_,_,a,b,_⟩:=T.at_ p i c o hp ho;grind[Ha,BS]
def acV{h:aT}{E0:vS}(hlo:h.lo<=h.size)(hlt:∀b o,h.get b=some o->b<h.size)(hl:∀d cs,E0=.loc d cs->nE h.ca d=none):Kk h (E0.on h):=by
 cases E0 with
 |obj ob=>
  refine⟨?_,?_⟩;·intro b o a;show(h.push ob).get b=some o;grind[aT.uH]
  ·intro d c e;show nE (h.push ob).ca d=some c;simp_all
 |loc d cs=>refine⟨λb o a=>a,?_⟩;intro d' c e;show nE ((d,cs)::h.ca) d'=some c;have f:=hl d cs rfl;simp only[nE];cases g:Nat.beq d' d<;>simp_all
 |none=>exact .refl h
def UI{Ef:Nat->vS}(hI:uP X.call)(hs:X.fa.mP=mP)(F:Az mP ops sch)(T:Trace X ops sch E H V W)(hEf:NN P mP ops sch E H V W Ef)
  {q i:Nat} {c:List Nat} {o:Oper} (hq:sch[q]?=some (i,c)) (ho:ops[i]?=some o) (hw:W q=true) (hk:oT mP o.op=.rd) {p:Nat} (hp:p<=sch.length) (R:Kg H p)
  (hfree:∀(r j:Nat) c' b,q<r->r<p->sch[r]?=some (j,c')->ops[j]?=some b->oT mP b.op=.Bn->¬Dl ops j i) :
  ∀k,q+1+k<=p->mT o.op X (E q) (H (q+1+k)) o.dst=some (V q,H (q+1+k))
 |0,_=>by obtain⟨_,_,B,_,_⟩:=T.at_ q i c o hq ho;grind[BS]
 |k+1,hk2=>by
  have O:=UI hI hs F T hEf hq ho hw hk hp R hfree k (by omega);have C:q+1+k<sch.length:=by omega
  obtain⟨x,g⟩:∃x,sch[q+1+k]?=some x:=⟨sch[q+1+k],by simp⟩;obtain⟨j,c'⟩:=x;obtain⟨b,m,_⟩:=F.one _ _ _ g;obtain⟨_,D,B,Q,h⟩:=T.at_ _ _ _ _ g m;rw[<- Nat.add_assoc];cases n:W (q+1+k)with
  |false=>grind
  |true=>
   cases e:oT mP b.op with
   |pure=>grind[zJ]
   |rd=>grind[zJ]
   |Fq=>obtain⟨y,G,_⟩:=hEf _ _ _ _ g m n e;have y:H (q+1+k+1)=(Ef (q+1+k)).on (H (q+1+k)):=y;have z:=acV (R.ok _ (by omega)).1 (R.ok _ (by omega)).2 G;grind[BS]
   |Bn=>
    have s:=F.pair q (q+1+k) i c j c' o b (by omega) hq g ho m;have l:i∈c':=(s.2.2.2.2.2.2 hk e).resolve_left (hfree _ _ _ _ (by omega) (by omega) g m e);have a:=h i l;unfold again at a;rw[Array.getElem?_toList,ho]at a;simp only at a
    have u:mF ops.toList (E (q+1+k+1)) o=mF ops.toList (E q) o:=by
     unfold mF;split;·rfl
     ·rename_i S A U;split
      ·rename_i Y w;split
       ·rename_i J K;rw[Array.getElem?_toList]at w;have:J∈o.looksAt ops:=by grind[Oper.looksAt]
        have:=T.look F hq ho hk this (k+2) (by omega);grind
       ·rfl
      ·rfl
    rw[u,(T.at_ _ _ _ _ hq ho).1,hw]at a;simp only at a;split at a;·cases a
    ·rename_i d L
     have f:mT o.op X (E (q+1+k+1)) (H (q+1+k+1)) (some d)=mT o.op X (E q) (H (q+1+k+1)) (some d):=by
      refine FQ ?_;intro x M;cases x with
      |tmp t=>simp only[me];have:t∈o.looksAt ops:=anN _ (anO.2 ⟨.tmp t,by grind,rfl⟩);have:=T.look F hq ho hk this (k+2) (by omega);grind
      |_=>rfl
     rw[f]at a;unfold OD at a;split at a;·rename_i v Z N;have hv:=uS _ _ _ a;have:=T.val F hq ho L (k+1) (by omega);grind[BS]
     grind
end
end Go.Sx
namespace Go.Sx
open Go
variable [DD]
def filter_lt{p p':Nat->Bool}(h:∀x,p' x=true->p x=true){i:Nat}:∀{l:List Nat},i∈l->p i=true->p' i=false->(l.filter p').length<(l.filter p).length
 |[],a,_,_=>by cases a
 |x::l,a,h1,h2=>by
  have b:∀l:List Nat,(l.filter p').length<=(l.filter p).length:=by intro l;induction l<;>grind
  simp only[List.filter_cons];rcases ank.1 a with rfl|a
  ·grind
  ·have c:=filter_lt h a h1 h2;grind
def M8(U:List Nat)(e0 e:Env):Env:=U.map (λt=>(t,p3 e0 t))++e
theorem y4(e0 e:Env)(t:Nat):∀U:List Nat,p3 (M8 U e0 e) t=if t∈U then p3 e0 t else p3 e t
 |[]=>by rfl
 |x::U=>by
  have a:=y4 e0 e t U;unfold M8 at a ⊢;simp only[List.map_cons,List.cons_append,p3,a,List.mem_cons];cases b:Nat.beq t x with
  |true=>rw[Nat.eq_of_beq_eq_true b];simp
  |false=>have:t≠x:=anv b;simp[this]
def yo(ops:Array Oper)(mN:Array Bool):List Nat:=(List.range ops.size).filterMap λj=>if mN.getD j false then none else(ops[j]?).bind (·.dst)
theorem vk{ops:Array Oper}{mN:Array Bool}{t:Nat}:t∈yo ops mN↔∃(j:Nat)(b:Oper),ops[j]?=some b/\b.dst=some t/\mN.getD j false=false:=by grind[yo]
section
variable (P:Program)(N:Nat)(ops:Array Oper)(mP:List Nat)(sch:List (Nat×List Nat))
variable (E:Nat->Env)(H:Nat->aT)(V:Nat->AV)(W:Nat->Bool)(Ef:Nat->vS)(J:Ga->Act->Prop)(G0:Ga)
structure EH(p:Nat)(G:Ga)(mN:Array Bool)(a:Act):Prop where
 pn:p<=sch.length
 h:G.h=H p
 fr:Fr G0 G
 wr:WR G
 df:a.defers=[]
 sz:N<=a.tmps.size
 ls:mN.size=ops.size
 base:G0.h.size<=(H 0).size
 down:∀i,mN.getD i false=true->∀o,ops[i]?=some o->∀j∈direct o,mN.getD j false=true
 Rk:∀(q i:Nat) c o,q<p->sch[q]?=some (i,c)->ops[i]?=some o->oT mP o.op=.Bn->mN.getD i false=true
 er:ER G (M8 (yo ops mN) (E 0) (E sch.length)) a
 late:∀(q i:Nat) c o,q<p->sch[q]?=some (i,c)->ops[i]?=some o->W q=true->oT mP o.op=.Fq->mN.getD i false=false->u9 G (H q).size (Ef q)
 vL:Kg H p
 jj:J G a
structure Un:Prop where
 step:∀G G' a,J G a->Step G G'->J G' a
 put:∀G a (o:Oper) u,o∈ops.toList->J G a->J G (a.put o.dst u)
 fill:∀G G' a bs ds,J G a->z7 G G' bs ds->J G' a
def Stop(p:Nat)(mN:Array Bool):Prop:=∀(i:Nat) c,sch[p]?=some (i,c)->mN.getD i false=false/\∀o,ops[i]?=some o->oT mP o.op=.Bn
end
section
variable {P:Program}{X:Ctx}{N:Nat}{ops:Array Oper}{mP:List Nat}{sch:List (Nat×List Nat)}
variable {E:Nat->Env}{H:Nat->aT}{V:Nat->AV}{W:Nat->Bool}{Ef:Nat->vS}{J:Ga->Act->Prop}{G0:Ga}{Q:Exit->Act->World->Prop}
def adv(hJ:Un ops J)(hI:uP X.call)(hs:X.fa.mP=mP)(F:Az mP ops sch)(T:Trace X ops sch E H V W)(hEf:NN P mP ops sch E H V W Ef) :
  ∀(m p:Nat) (G:Ga) (mN:Array Bool) (a:Act),sch.length - p=m->EH N ops mP sch E H W Ef J G0 p G mN a ->
  (∀(q i:Nat) c,p<=q->sch[q]?=some (i,c)->mN.getD i false=false) ->
  ∃p' G',EH N ops mP sch E H W Ef J G0 p' G' mN a/\Stop ops mP sch p' mN/\G'.w=G.w:=by
 intro m;induction m with
 |zero=>intro p G mN a D b n;refine⟨p,G,b,?_,rfl⟩;intro i c K;grind
 |succ m ih=>
  intro p G mN a D b n;have r:p<sch.length:=by omega
  obtain⟨x,k⟩:∃x,sch[p]?=some x:=⟨sch[p],by simp⟩;obtain⟨i,c⟩:=x;obtain⟨o,l,_⟩:=F.one _ _ _ k;by_cases S:oT mP o.op=.Bn;·refine⟨p,G,b,?_,rfl⟩;intro i' c' K;grind
  ·
   have f:∀G1,Step G G1->WR G1->G1.h=H (p+1)->G1.w=G.w->(W p=true->oT mP o.op=.Fq->u9 G1 (H p).size (Ef p)) ->
     ∃p' G',EH N ops mP sch E H W Ef J G0 p' G' mN a/\Stop ops mP sch p' mN/\G'.w=G.w:=by
    intro G1 S1 W1 z M O
    have Q:EH N ops mP sch E H W Ef J G0 (p+1) G1 mN a:=by
     refine⟨r,z,b.fr.step S1,W1,b.df,b.sz,b.ls,b.base,b.down,?_,?_,?_,b.vL.next S1 W1 b.h z,hJ.step _ _ _ b.jj S1⟩
     ·intro q i' c' o' s k1 k2 k3;by_cases e:q=p;·grind
      ·exact b.Rk q i' c' o' (by omega) k1 k2 k3
     ·exact b.er.mono S1.ext
     ·intro q i' c' o' s k1 k2 k3 k4 k5;by_cases e:q=p;·grind
      ·exact(b.late q i' c' o' (by omega) k1 k2 k3 k4 k5).step b.wr S1
    grind
   cases A:W p with
   |false=>exact f G (.refl G) b.wr (by rw[b.h,zJ T hI hs k l (.inl A)]) rfl (by grind)
   |true=>
    cases t:oT mP o.op with
    |Bn=>grind
    |pure=>exact f G (.refl G) b.wr (by rw[b.h,zJ T hI hs k l (.inr (.inl t))]) rfl (by grind)
    |rd=>exact f G (.refl G) b.wr (by rw[b.h,zJ T hI hs k l (.inr (.inr t))]) rfl (by grind)
    |Fq=>
     obtain⟨g,R,_⟩:=hEf _ _ _ _ k l A t;have g:H (p+1)=(Ef p).on (H p):=g;cases j:Ef p with
     |obj ob=>rw[j]at g;obtain⟨u,y⟩:=Lk b.wr ob;refine f _ u y (by rw[g,<- b.h];rfl) rfl (λ_ _=>?_);rw[j,<- b.h];refine⟨?_,Ig b.wr (abs _)⟩;show(G.h.push ob).get G.h.size=some ob;rw[aT.uH _ _ _ b.wr.lo,if_pos rfl]
     |loc d cs=>
      rw[j]at g;have C:=R d cs j;rw[<- b.h]at C;obtain⟨u,y⟩:=ady b.wr cs C;refine f _ u y (by rw[g,<- b.h];rfl) rfl (λ_ _=>?_);rw[j];refine⟨by simp[nE],?_⟩;cases s:G.L d with
      |none=>rfl
      |some B=>have:=(b.wr.qL d B s).2;grind
     |none=>rw[j]at g;exact f G (.refl G) b.wr (by rw[b.h,g];rfl) rfl (λ_ _=>by rw[j];trivial)
theorem Fr.fill{G G':Ga}{bs ds:Nat->Prop}(h:Fr G0 G)(k:z7 G G' bs ds)(hb:∀b,bs b->G0.h.size<=b):Fr G0 G':=by
 have e:∀d B,G'.L d=some B->G0.w.heap.size<=B:=by
  intro d B a;rcases k.w7 d B a with f|c
  ·exact h.L d B f
  ·exact anh h.S.py c
 refine⟨?_,e⟩
 have g:z7 (G.nB [] λ_=>none) (G'.nB [] λ_=>none) bs (λ_=>False) :=
  ⟨⟨k.ext.T,k.ext.keep,k.ext.size,k.ext.lU,k.ext.map,λd B a=>by cases a⟩,k.os,k.output,k.tape,k.py,k.frame,k.si,k.tC,k.T,
    (by show({ G'.h with ca:=[] }:aT) = { G.h with ca:=[] };rw[k.h]),λd B a=>(by cases a),λd B a=>(by cases a)⟩
 exact h.S.fill g hb (λ_ h=>h.elim)
def AG{mN:Array Bool}(down:∀i,mN.getD i false=true->∀o,ops[i]?=some o->∀j∈direct o,mN.getD j false=true){i j:Nat}(h:Dl ops i j):mN.getD i false=true->mN.getD j false=true:=by induction h<;>grind
theorem Bp{mN:Array Bool}{i:Nat}(hi:i<mN.size)(j:Nat)(b:Bool):(mN.setIfInBounds i true).getD j b=if j=i then true else mN.getD j b:=by
 by_cases e:j=i;·simp_all
 ·rw[getD_set_ne b (Ne.symm e),if_neg e]
def EH.mN{p q i:Nat}{c:List Nat}{o:Oper}{G G':Ga}{mN:Array Bool}{a:Act}{u:Value}(F:Az mP ops sch)(T:Trace X ops sch E H V W)
  (hP:EH N ops mP sch E H W Ef J G0 p G mN a) (hq:sch[q]?=some (i,c)) (ho:ops[i]?=some o) (hdir:∀j∈direct o,mN.getD j false=true) (hlt:q<p\/q=p)
  (hN:vx N o=true) (hE:Ext G G') (hfr:Fr G0 G') (hwr:WR G') (hv:VR G' (V q) u) {p':Nat} (hp':p<=p') (hp2:p'<=p+1) (hpn:p'<=sch.length) (hh:G'.h=H p') (hrise:Kg H p')
  (hj:J G' (a.put o.dst u)) (hnew:p'≠p->q=p/\oT mP o.op=.Bn)
  (hlate:∀(r j:Nat) c' b,r<p->r≠q->sch[r]?=some (j,c')->ops[j]?=some b->W r=true->oT mP b.op=.Fq->mN.getD j false=false->u9 G' (H r).size (Ef r)) :
  EH N ops mP sch E H W Ef J G0 p' G' (mN.setIfInBounds i true) (a.put o.dst u):=by
 have L:i<mN.size:=by rw[hP.ls];grind
 have M:q<sch.length:=(alt.1 hq).1
 have B:∀(r:Nat) c',sch[r]?=some (i,c')->r=q:=by
  intro r c' s;rcases anE r q with h|h|h
  ·exact absurd rfl (F.pair r q i c' i c o o h s hq ho ho).1
  ·exact h
  ·exact absurd rfl (F.pair q r i c i c' o o h hq s ho ho).1
 have d:=λj b=>Bp L j b;refine⟨hpn,hh,hfr,hwr,by rw[Act.MX];exact hP.df,by rw[Act.HK];exact hP.sz,by simp[hP.ls],hP.base,?_,?_,?_,?_,hrise,hj⟩
 ·intro j hj b g k O;rw[d]at hj ⊢;by_cases P:k=i;·grind
  ·rw[if_neg P];by_cases e:j=i;·grind
   ·rw[if_neg e]at hj;exact hP.down j hj b g k O
 ·intro r j c' b s l z K;rw[d];by_cases e:j=i;·grind
  ·rw[if_neg e];by_cases C:r<p;·exact hP.Rk r j c' b C l z K
   grind
 ·constructor;intro t;rw[y4];by_cases y:o.dst=some t
  ·have D:t∉yo ops (mN.setIfInBounds i true):=by
    intro w;obtain⟨j,b,g,f,A⟩:=vk.1 w;rw[d]at A;by_cases e:j=i;·grind
    ·(obtain⟨r,c',s⟩:=F.cover j (ano.1 g).1;rcases anE r q with h|h|h);·exact(F.pair r q j c' i c b o h s hq g ho).2.2.2.1 t f y
     ·grind
     ·exact(F.pair q r i c j c' o b h hq s ho g).2.2.2.1 t y f
   rw[if_neg D];have m:=T.val F hq ho y (sch.length - (q+1)) (by omega);rw[show q+1+(sch.length - (q+1))=sch.length by omega]at m;rw[m,y,Act.NW (Nat.lt_of_lt_of_le (DK hN y) hP.sz),if_pos rfl];exact hv
  ·have l:=hP.er.rel t;rw[y4]at l
   have n:t∈yo ops (mN.setIfInBounds i true)↔t∈yo ops mN:=by
    rw[vk,vk];constructor;·rintro⟨j,b,g,f,A⟩;rw[d]at A;grind
    ·rintro⟨j,b,g,f,A⟩;refine⟨j,b,g,f,?_⟩;rw[d];grind
   (have z:(a.put o.dst u).eval (.tmp t)=a.eval (.tmp t):=by grind[Act.eval_put]);rw[z];by_cases w:t∈yo ops mN;·rw[if_pos (n.2 w)];rw[if_pos w]at l;exact l.mono hE
   ·rw[if_neg (λx=>w (n.1 x))];rw[if_neg w]at l;exact l.mono hE
 ·intro r j c' b s l z K R Q;rw[d]at Q;grind
end
end Go.Sx
namespace Go.Sx
open Go
variable [DD]
section
variable {P:Program}{X:Ctx}{N:Nat}{ops:Array Oper}{mP:List Nat}{sch:List (Nat×List Nat)}
variable {E:Nat->Env}{H:Nat->aT}{V:Nat->AV}{W:Nat->Bool}{Ef:Nat->vS}{J:Ga->Act->Prop}{G0:Ga}{Q:Exit->Act->World->Prop}
def Ul{G G':Ga}{bs ds:Nat->Prop}(k:z7 G G' bs ds){n:Nat}{E0:vS}(h:u9 G n E0)(h1:∀ob,E0=.obj ob->¬bs n)(h2:∀d cs,E0=.loc d cs->¬ds d):u9 G' n E0:=by
 cases E0 with
 |obj ob=>
  obtain⟨k1,k2⟩:=h;refine⟨by rw[k.h];exact k1,?_⟩;cases a:G'.pi n with
  |none=>rfl
  |some l=>rcases k.tC n l a with b|b<;>grind
 |loc d cs=>
  obtain⟨k1,k2⟩:=h;refine⟨by rw[k.h];exact k1,?_⟩;cases a:G'.L d with
  |none=>rfl
  |some B=>rcases k.yL d B a with b|b<;>grind
 |none=>trivial
def Xs(hJ:Un ops J)(hC:nV P X.C)(hK:tS P X.call)(hI:uP X.call)(hs:X.fa.mP=mP)(F:Az mP ops sch)(T:Trace X ops sch E H V W)(hEf:NN P mP ops sch E H V W Ef)
  (hN:ops.toList.all (vx N)=true) {p:Nat} {G:Ga} {mN:Array Bool} {a:Act} (hP:EH N ops mP sch E H W Ef J G0 p G mN a) (hst:Stop ops mP sch p mN)
  {i:Nat} (hi:i∈Region.ready .any ops mN) {K:Act->World->Prop}
  (hQ:∀p' G' a',EH N ops mP sch E H W Ef J G0 p' G' (mN.setIfInBounds i true) a'->Stop ops mP sch p' (mN.setIfInBounds i true)->K a' G'.w):wpOp P ops Q i K a G.w:=by
 obtain⟨hun,o,g,hall⟩:=mem_ready.1 hi;have hilt:i<ops.size:=(ano.1 g).1;have hil:i<mN.size:=by grind
 have hunf:mN.getD i false=false:=by grind
 have m:∀j∈direct o,mN.getD j false=true:=by grind[direct]
 have hbef:∀j,Dl ops i j->mN.getD j false=true:=by
  intro j R;cases R with
  |one f hj2=>grind
  |more f n hj2=>rw[g]at f;cases f;exact AG hP.down hj2 (m _ n)
 have hoL:o∈ops.toList:=anP.2 (anS g);have hNo:vx N o=true:=anD.1 hN o (anP.2 (anS g));obtain⟨q,c,k⟩:=F.cover i hilt;have hqn:q<sch.length:=(alt.1 k).1;obtain⟨o',ho',hself,hdr⟩:=F.one q i c k;rw[g]at ho';cases ho'
 have hqp:q<=p:=by
  rcases ans p q with h|h
  ·(have hpn:p<sch.length:=by omega);obtain⟨x,hx⟩:∃x,sch[p]?=some x:=⟨sch[p],by simp⟩;obtain⟨i0,c0⟩:=x;obtain⟨b,f,_⟩:=F.one _ _ _ hx;obtain⟨y,l⟩:=hst i0 c0 hx;have:=(F.pair p q i0 c0 i c b o h hx k f g).2.2.2.2.2.1 (l b f);grind
  ·exact h
 have S:=hP.er
 have hnow:∀t∈o.looksAt ops,p3 (M8 (yo ops mN) (E 0) (E sch.length)) t=p3 (E q) t:=by
  intro t ht;rw[y4];split
  ·rename_i hm;obtain⟨j,b,f,hd,hl⟩:=vk.1 hm;obtain⟨r,c',z⟩:=F.cover j (ano.1 f).1
   have hrq:q<=r:=by
    (rcases ans r q with h|h);·rw[hbef _ ((F.pair r q j c' i c b o h z k f g).2.2.1 t hd ht)]at hl;cases hl
    ·exact h
   refine(T.keep F q (by omega) ?_).symm;intro s2 j2 c2 b2 hs2 hsj hb2 hd2;exact(F.pair s2 r j2 c2 j c' b2 b (by omega) hsj z hb2 f).2.2.2.1 t hd2 hd
  ·rename_i hm;by_cases hex:∃(j:Nat) (b:Oper),ops[j]?=some b/\b.dst=some t
   ·(obtain⟨j,b,f,hd⟩:=hex;have hl:mN.getD j false=true:=by grind[vk]);obtain⟨r,c',z⟩:=F.cover j (ano.1 f).1;have hrn:r<sch.length:=(alt.1 z).1;rcases anE r q with h|h|h
    ·have e1:=T.val F z f hd (sch.length - (r+1)) (by omega);have e2:=T.val F z f hd (q - (r+1)) (by omega);grind
    ·grind
    ·have:=AG hP.down ((F.pair q r i c j c' o b h k z g f).2.1 t hd ht).1 hl;grind
   ·have hno:∀(q2 j:Nat) c2 o',sch[q2]?=some (j,c2)->ops[j]?=some o'->o'.dst≠some t:=λq2 j c2 o' _ y l=>hex ⟨j,o',y,l⟩;rw[T.keep F _ (Nat.le_refl _) (λq2 j c2 o' _=>hno q2 j c2 o'),T.keep F q (by omega) (λq2 j c2 o' _=>hno q2 j c2 o')]
 have hlook:∀t∈o.looksAt ops,VR G (p3 (E q) t) (a.eval (.tmp t)):=by intro t ht;rw[<- hnow t ht];exact S.rel t
 have A:∀x∈o.op.operands,me (M8 (yo ops mN) (E 0) (E sch.length)) x=me (E q) x:=by
  intro x hx;cases x with
  |tmp t=>simp only[me];exact hnow t (anN _ (anO.2 ⟨.tmp t,by grind,rfl⟩))
  |_=>rfl
 obtain⟨hw,hE1,hop,hsk,_⟩:=T.at_ q i c o k g;have B:Region.wanted o (yielded ops a.tmps)=W q:=by refine BD (e:=E q) (G:=G) ?_ hw;grind[Oper.looksAt]
 have D:q=p->∀(r j:Nat) c',p+1<=r->sch[r]?=some (j,c')->(mN.setIfInBounds i true).getD j false=false:=by
  intro e r j c' z R;subst e;obtain⟨b,f,_⟩:=F.one _ _ _ R;have hpr:=F.pair q r i c j c' o b (by omega) k R g f;rw[Bp hil,if_neg (λx=>hpr.1 x.symm)];cases hl:mN.getD j false with
  |false=>rfl
  |true=>have:=AG hP.down (hpr.2.2.2.2.2.1 ((hst i c k).2 o g)) hl;grind
 have M:q<p->∀(G':Ga) (u:Value),Step G G'->WR G'->G'.h=G.h->VR G' (V q) u->K (a.put o.dst u) G'.w:=by
  intro U G' u S' W' Y Z;refine hQ p G' _ (hP.mN F T k g m (.inl U) hNo S'.ext (hP.fr.step S') W' Z (abs _) (anF _) hP.pn (Y.trans hP.h) hP.vL (hJ.put _ _ _ _ hoL (hJ.step _ _ _ hP.jj S')) (λh=>absurd rfl h) ?_) ?_;·intro r j c' b z _ y l h3 h4 h5;exact(hP.late r j c' b z y l h3 h4 h5).step hP.wr S'
  ·intro j c' R;obtain⟨y,l⟩:=hst j c' R;refine⟨?_,l⟩;rw[Bp hil,if_neg];·exact y
   ·rintro rfl;obtain⟨b,f,_⟩:=F.one _ _ _ R;exact absurd rfl (F.pair q p j c j c' o b U k R g f).1
 have loud:q=p->∀(G':Ga) (u:Value),Step G G'->WR G'->G'.h=H (p+1)->VR G' (V q) u->K (a.put o.dst u) G'.w:=by
  intro e G' u S' W' Y Z;subst e
  have hP':=hP.mN F T k g m (.inr rfl) hNo S'.ext (hP.fr.step S') W' Z (anF _) (abs _) hqn Y (hP.vL.next S' W' hP.h Y) (hJ.put _ _ _ _ hoL (hJ.step _ _ _ hP.jj S')) (λ_=>⟨rfl,(hst i c k).2 o g⟩) (by
   intro r j c' b z _ y l h3 h4 h5
   exact(hP.late r j c' b z y l h3 h4 h5).step hP.wr S')
  obtain⟨p2,G2,k1,k2,k3⟩:=adv hJ hI hs F T hEf _ _ G' _ _ rfl hP' (D rfl);grind
 unfold wpOp;simp only[g,B];cases O:W q with
 |false=>
  simp only[Bool.false_eq_true,if_false];obtain⟨Z,Y⟩:=hsk O;rcases ans q p with h|h
  ·exact M h G undef (.refl G) hP.wr rfl (by grind[VR.R3])
  ·(have e:q=p:=by omega);exact loud e G undef (.refl G) hP.wr (by rw[hP.h,<- e];grind) (by grind[VR.R3])
 |true=>
  simp only[if_true];left;have hop:=hop O;rcases ans q p with h|h
  ·(have hne:oT mP o.op≠.Bn:=by intro n;have:=hP.Rk q i c o h k g n;grind);have value:∀(n:mT o.op X (E q) (H p) o.dst=some (V q,H p)),o.wp P a G.w K Q:=by intro n;rw[<- FQ A,<- hP.h]at n;exact El hP.wr hC S hK n K Q (λu G' Y S' W' Z=>M h G' u S' W' Y Z)
   cases n:oT mP o.op with
   |Bn=>grind
   |pure=>grind[Ha]
   |rd=>
    have:=UI hI hs F T hEf k g O n hP.pn hP.vL (by
     intro r j c' b hr1 hr2 y l h3 f;have:=AG hP.down f (hP.Rk r j c' b hr2 y l h3)
     grind) (p - (q+1)) (by omega)
    grind
   |Fq=>
    have hA:=hEf q i c o k g O n;obtain⟨e1,e2,s,hsx,hlate⟩:=hA;have e1:H (q+1)=(Ef q).on (H q):=e1;have hL:=hP.late q i c o h k g O n hunf;have L:=hlate G a _ A hP.wr S
    have fin:∀(u:Value) (G':Ga) (bs ds:Nat->Prop),(s a).run P G.w=.ok u G'.w->z7 G G' bs ds->(∀b,bs b->b=(H q).size/\∃ob,Ef q=.obj ob)->(∀d,ds d->∃cs,Ef q=.loc d cs)->WR G'->VR G' (V q) u->o.wp P a G.w K Q:=by
     intro u G' bs ds hrun hF hbs hds W' Z
     have hnew:K (a.put o.dst u) G'.w:=by
      refine hQ p G' _ (hP.mN F T k g m (.inl h) hNo hF.ext (hP.fr.fill hF ?_) W' Z (abs _) (anF _) hP.pn (hF.h.trans hP.h) hP.vL (hJ.put _ _ _ _ hoL (hJ.fill _ _ _ _ _ hP.jj hF)) (λh=>absurd rfl h) ?_) ?_;·intro b f;rw[(hbs b f).1];exact anh hP.base (hP.vL.size 0 q (ang _) (by omega))
      ·intro r j c' b z hrq y l h3 h4 h5;obtain⟨f1,f2,_⟩:=hEf r j c' b y l h3 h4;have f1:H (r+1)=(Ef r).on (H r):=f1;refine Ul hF (hP.late r j c' b z y l h3 h4 h5) ?_ ?_
       ·intro ob hob f;obtain⟨g1,ob2,g2⟩:=hbs _ f;rw[hob]at f1;rw[g2]at e1;have z1:(H (r+1)).size=(H r).size+1:=by rw[f1];exact aT.size_push _ _
        (have z2:(H (q+1)).size=(H q).size+1:=by rw[e1];exact aT.size_push _ _);rcases anJ hrq with U|hgt
        ·have:=hP.vL.size (r+1) q (by omega) (by omega);omega
        ·have:=hP.vL.size (q+1) r (by omega) (by omega);omega
       ·intro d cs hloc f;obtain⟨cs2,g2⟩:=hds d f;rw[hloc]at f1;rw[g2]at e1;have n1:=f2 d cs hloc;have n2:=e2 d cs2 g2;rcases anJ hrq with U|hgt
        ·have:=hP.vL.loc (r+1) q (by omega) (by omega) d (by rw[f1];simp[vS.on,nE]);grind
        ·have:=hP.vL.loc (q+1) r (by omega) (by omega) d (by rw[e1];simp[vS.on,nE]);grind
      ·intro j c' R;obtain⟨y,l⟩:=hst j c' R;refine⟨?_,l⟩;rw[Bp hil,if_neg]<;>grind
     grind[Oper.wp,Sem.run_bind,Result.andThen_ok,Sem.run_pure,Oper.upon_value]
    cases hE:Ef q with
    |obj ob=>rw[hE]at L hL;obtain⟨u,G',k1,k2,k3,k4⟩:=L hL.1 hL.2;grind
    |loc d cs=>rw[hE]at L hL;obtain⟨u,G',k1,k2,k3,k4⟩:=L hL.1 hL.2;exact fin u G' _ _ k1 k2 (λ_ h=>h.elim) (λb f=>⟨cs,by grind⟩) k3 k4
    |none=>rw[hE]at L;obtain⟨u,G',k1,k2,k3,k4,k5⟩:=L;grind[Oper.wp,Sem.run_bind,Result.andThen_ok,Sem.run_pure,Oper.upon_value]
  ·(have e:q=p:=by omega);have n:=hop;rw[<- FQ A,e,<- hP.h]at n;exact El hP.wr hC S hK n K Q (λu G' Y S' W' Z=>loud e G' u S' W' Y (by grind))
theorem Ub(hJ:Un ops J)(hC:nV P X.C)(hK:tS P X.call)(hI:uP X.call)(hs:X.fa.mP=mP)(F:Az mP ops sch)(T:Trace X ops sch E H V W)(hEf:NN P mP ops sch E H V W Ef)
  (hN:ops.toList.all (vx N)=true) (hQ:∀G' a',G'.h=H sch.length->St N G0 G' (E sch.length) a'->J G' a'->Q .normal a' G'.w) :
  ∀(fuel:Nat) (mN:Array Bool) (a:Act) (p:Nat) (G:Ga),((List.range ops.size).filter λi=>!mN.getD i true).length<=fuel ->
   EH N ops mP sch E H W Ef J G0 p G mN a->Stop ops mP sch p mN->wpAny P .any ops Q fuel mN a G.w:=by
 have n:∀(mN:Array Bool) (a:Act) (p:Nat) (G:Ga),EH N ops mP sch E H W Ef J G0 p G mN a->Stop ops mP sch p mN->Region.ready .any ops mN=[]->Q .normal a G.w:=by
  intro mN a p G d f g
  have R:∀(m q i:Nat) c,q<m->sch[q]?=some (i,c)->mN.getD i false=true:=by
   intro m;induction m with
   |zero=>omega
   |succ m ih=>
    intro q i c hq s;by_cases e:q<m;·grind
    ·(have:q=m:=by omega);subst this;cases U:mN.getD i false with
     |true=>rfl
     |false=>
      exfalso;obtain⟨o,u,_,A⟩:=F.one _ _ _ s;have y:i<mN.size:=by rw[d.ls];grind
      have:i∈Region.ready .any ops mN:=by
       rw[mem_ready];refine⟨?_,o,u,?_⟩;·grind
       ·intro e Y B;have S:e.on∈direct o:=anj.2 ⟨e,List.mem_filter.2 ⟨anP.2 Y,B⟩,rfl⟩;obtain⟨k,D⟩:=A _ S;obtain⟨r,c',g⟩:=F.cover _ D;obtain⟨b,K,_⟩:=F.one _ _ _ g;rcases anE r q with h|h|h
        ·grind
        ·grind
        ·exact absurd S (F.pair q r _ _ _ _ o b h s g u K).2.2.2.2.1
      grind
  have Z:p=sch.length:=by
   (rcases ans p sch.length with h|h);·obtain⟨x,L⟩:∃x,sch[p]?=some x:=⟨sch[p],by simp[h]⟩;obtain⟨i,c⟩:=x;have k:=(f i c L).1;grind
   ·exact Nat.le_antisymm d.pn h
  refine hQ G a (by rw[d.h,Z]) ⟨d.fr,d.wr,⟨λt=>?_⟩,d.df,d.sz⟩ d.jj;have k:=d.er.rel t;rw[y4,if_neg]at k;·exact k
  ·intro hm;obtain⟨j,b,B,_,U⟩:=vk.1 hm;obtain⟨r,c,g⟩:=F.cover j (ano.1 B).1;grind
 intro fuel;induction fuel with
 |zero=>
  intro mN a p G hf d f
  have g:Region.ready .any ops mN=[]:=by
   rw[List.eq_nil_iff_forall_not_mem];intro i z;obtain⟨M,o,u,_⟩:=mem_ready.1 z;have:i∈(List.range ops.size).filter λi=>!mN.getD i true:=by grind
   grind
  exact⟨g,n mN a p G d f g⟩
 |succ fuel ih=>
  intro mN a p G hf d f;refine⟨λg=>n mN a p G d f g,λi z=>?_⟩;refine Xs hJ hC hK hI hs F T hEf hN d f z (λp' G' a' k D=>ih _ a' p' G' ?_ k D);obtain⟨M,o,u,_⟩:=mem_ready.1 z;have O:i<ops.size:=(ano.1 u).1;have y:i<mN.size:=by grind
  have:=filter_lt (p:=λi=>!mN.getD i true) (p':=λj=>!(mN.setIfInBounds i true).getD j true) (i:=i) (l:=List.range ops.size) (by
   intro x L;rw[Bp y]at L
   grind) (List.mem_range.2 O) (by grind) (by simp)
  omega
def F2(hJ:Un ops J)(hm:P.follows .mixedOrders=true)(hC:nV P X.C)(hK:tS P X.call)(hI:uP X.call){id:Nat}(hreg:LR X.fa.mP ops sch=true)(hN:ops.toList.all (vx N)=true)
  {e e':Env} {h h':aT} (hr:Ak X ops.toList sch e h=some (e',h')) {G:Ga} {a:Act} (hG:G.h=h) (hS:St N G0 G e a) (hj:J G a)
  (hQ:∀G' a',G'.h=h'->St N G0 G' e' a'->J G' a'->Q .normal a' G'.w):(Code.region id ops true).wp P Q a G.w:=by
 have F:=Wq hreg;obtain⟨E,H,V,W,m,k,r,s,T⟩:=Mz sch e h e' h' hr;obtain⟨Ef,n⟩:=aih (P:=P) hC T;refine wp_region_any hm ?_;let G1:Ga:=⟨{ G.w with drawn:=G.w.drawn+1 },G.T,G.h,G.pi,G.L⟩;have d:Ext G G1:=⟨λ_ _ h=>h,λ_ _ _=>rfl,abs _,λ_ _ g z u h=>⟨g,z,u,h,abs _,λ_=>⟨rfl,λ_ h=>h⟩⟩,λ_ _ x c h=>⟨x,c,h,λ_ h=>h⟩,λ_ _ h=>h⟩;have S1:Step G G1:=⟨d,rfl,rfl,⟨rfl,λ_=>anF _⟩,abs _,λ_ _ _ _=>rfl,λ_ l h=>.inl ⟨l,h,rfl⟩,λ_ _ h=>.inl (by grind),λ_ _ h=>.inl h,rfl,λ_ _ _=>rfl,λ_ _ h=>.inl h,λ_ _ h=>.inl (by grind),λ_ _ _ h=>h⟩;have W1:WR G1:=by obtain⟨k1,k2,k3⟩:=hS.wr.keep d (λ_ _=>rfl);exact⟨k1,k2,k3,hS.wr.oW,hS.wr.rY,hS.wr.w0,hS.wr.uI,hS.wr.LT,hS.wr.u7,hS.wr.qL,hS.wr.sB,hS.wr.lo,hS.wr.lt⟩
 have f:Fr G0 G1:=hS.fr.step S1;have b:∀j,(Array.replicate ops.size false).getD j false=false:=by intro j;rw[Array.getD_eq_getD_getElem?,Array.getElem?_replicate];grind
 have o:EH N ops X.fa.mP sch E H W Ef J G0 0 G1 (Array.replicate ops.size false) a:=by
  refine⟨ang _,hG.trans k.symm,f,W1,hS.df,hS.sz,by simp,?_,?_,?_,?_,?_,?_,hJ.step _ _ _ hj S1⟩;·rw[k,<- hG];exact f.S.ext.size
  ·grind
  ·omega
  ·constructor;intro t;rw[y4];have p:=(hS.er.rel t).mono d;rw[<- m]at p;split;·exact p
   ·rename_i hm;rw[T.keep F _ (Nat.le_refl _) (λq j c o' _ _ y A=>hm (vk.2 ⟨j,o',y,A,b j⟩))];exact p
  ·omega
  ·refine⟨?_,?_,?_⟩
   ·intro q B;have:q=0:=by omega
    subst this;rw[k,<- hG];exact⟨W1.lo,W1.lt⟩
   ·grind
   grind
 obtain⟨p',G',k1,k2,k3⟩:=adv hJ hI rfl F T n _ _ G1 _ _ rfl o (λq i c _ _=>b i);grind[Ub]
def OV(hm:P.follows .mixedOrders=true)(hC:nV P X.C)(hK:tS P X.call)(hI:uP X.call){id:Nat}(hreg:LR X.fa.mP ops sch=true)(hN:ops.toList.all (vx N)=true)
  {e e':Env} {h h':aT} (hr:Ak X ops.toList sch e h=some (e',h')) {G:Ga} {a:Act} (hG:G.h=h) (hS:St N G0 G e a)
  (hQ:∀G' a',G'.h=h'->St N G0 G' e' a'->Q .normal a' G'.w):(Code.region id ops true).wp P Q a G.w :=
 F2 (J:=λ_ _=>True) ⟨λ_ _ _ _ _=>trivial,λ_ _ _ _ _ _=>trivial,λ_ _ _ _ _ _ _=>trivial⟩ hm hC hK hI hreg hN hr hG hS trivial (λG' a' b c _=>hQ G' a' b c)
end
end Go.Sx
namespace Go.Sx
open Go
variable [DD]
def HA:Ex->Exit
 |.oa=>.normal
 |.ext id=>.exit id
 |.ret=>.ret
def codeOk(N:Nat)(mP:List Nat):Code->mS->Bool
 |.region _ ops draw,an=>ops.toList.all (vx N)&&match draw,an with
  |true,.zO sch=>LR mP ops sch
  |_,_=>true
 |.seq a b,.seq _ x y=>codeOk N mP a x&&codeOk N mP b y
 |.seq a b,.sq x y=>codeOk N mP a x&&codeOk N mP b y
 |.cond _ a b,.two x y=>codeOk N mP a x&&codeOk N mP b y
 |.block _ a,an=>codeOk N mP a an
 |.loop a,.loop _ x=>codeOk N mP a x
 |.scope a,an=>codeOk N mP a an
 |_,_=>true
section
variable {P:Program}{X:Ctx}{N:Nat}{G0:Ga}{Q:Exit->Act->World->Prop}
def HO{c:Code}(J:Nat->Act->World->Prop)(round:∀n a w,J n a w->c.wp P (Exit.then (λa' w'=>∃m,m<n/\J m a' w') Q) a w) :
  ∀(n:Nat) (a:Act) (w:World),J n a w->(Code.loop c).wp P Q a w:=by
 intro n a w h₀ b k g
 have h:∀n a w,J n a w->∃e a' w',Q e a' w'/\Arrives P (lone (b.at a (.code c::.inLoop c::k)) g w) b k g e a' w':=by
  intro n;induction n using Nat.strongRecOn with
  |_ n ih=>
   intro a w j;obtain⟨e,a₁,w₁,f,d⟩:=round n a w j b (.inLoop c::k) g;cases e with
   |normal=>obtain⟨m,i,hI₁⟩:=f;obtain⟨e₂,a₂,w₂,hq₂,harr₂⟩:=ih m i a₁ w₁ hI₁;exact⟨e₂,a₂,w₂,hq₂,.of_steps (Steps.trans d (.one step_inLoop)) harr₂⟩
   |exit id=>exact⟨_,a₁,w₁,f,.pass (x:=.inLoop c) rfl (λ_ _=>.inl (by simp)) d⟩
   |goto l=>exact⟨_,a₁,w₁,f,.pass (x:=.inLoop c) rfl (λ_ _=>.inl (by simp)) d⟩
   |ret=>exact⟨_,a₁,w₁,f,.pass (x:=.inLoop c) rfl (λ_ _=>.inl (by simp)) d⟩
   |panic ch=>exact⟨_,a₁,w₁,f,.pass (x:=.inLoop c) rfl (λ_ _=>.inl (by simp)) d⟩
   |outgrown=>exact⟨_,a₁,w₁,f,.pass (x:=.inLoop c) rfl (λ_ _=>.inl (by simp)) d⟩
 obtain⟨e,a',w',f,d⟩:=h n a w h₀;exact⟨e,a',w',f,.of_steps (.one step_loop) d⟩
theorem KC(e:Env)(t:Nat):∀live:List Nat,p3 (proj live e) t=if t∈live then keep t (p3 e t)else .undef
 |[]=>rfl
 |x::l=>by
  have a:=KC e t l;unfold proj at a ⊢;simp only[List.map_cons,p3,List.mem_cons];cases b:Nat.beq t x with
  |true=>have:=acl b;subst this;simp
  |false=>have:t≠x:=anv b;simp only[a,this,false_or]
theorem AA(m:o1)(d:Nat):∀live:List Nat,d∈live->nE (pt live m) d=nE m d
 |[],h=>by cases h
 |x::l,h=>by
  simp only[pt];by_cases e:d=x
  ·subst e;cases a:nE m d with
   |some c=>simp[nE]
   |none=>
    simp only;by_cases b:d∈l;·rw[AA m d l b,a]
    ·have:∀l:List Nat,d∉l->nE (pt l m) d=none:=by
      intro l;induction l with
      |nil=>intro _;rfl
      |cons y l ih=>
       intro f;simp only[List.mem_cons,not_or]at f;simp only[pt];cases i:nE m y with
       |none=>exact ih f.2
       |some c=>
        simp only[nE];cases a:Nat.beq d y with
        |true=>exact absurd (acl a) f.1
        |false=>exact ih f.2
     exact this l b
  ·have b:d∈l:=(ank.1 h).resolve_left e
   have g:Nat.beq d x=false:=by
    cases a:Nat.beq d x with
    |true=>exact absurd (acl a) e
    |false=>rfl
   cases a:nE m x with
   |some c=>simp only[nE,g];exact AA m d l b
   |none=>exact AA m d l b
def vv(live:List Nat)(L:Nat->Option Nat):Nat->Option Nat:=λd=>if d∈live then L d else none
theorem St.qm{G:Ga}{e:Env}{a:Act}(h:St N G0 G e a)(live:List Nat):St N G0 (G.nB (pt live G.h.ca) (vv live G.L)) (proj live e) a:=by
 have g:∀d B,vv live G.L d=some B->d∈live/\G.L d=some B:=by grind[vv]
 refine⟨h.fr.nB (λd B b=>(g d B b).2),h.wr.LJ (λd B b=>(g d B b).2) (λd B b=>AA _ d live (g d B b).1),⟨?_⟩,h.df,h.sz⟩;intro t;rw[KC];split
 ·rename_i i;have c:=h.er.rel t;unfold keep;cases f:(p3 e t).CO t with
  |false=>exact .undef _
  |true=>
   simp only;generalize p3 e t=v at c f;generalize a.eval (.tmp t)=u at c;cases v with
   |la d o=>
    simp only[AV.CO,Bool.and_eq_true,Nat.beq_eq]at f;obtain⟨rfl,rfl⟩:=f;cases c with
    |mR hp _=>simp[AV.oI]at hp
    |la _ _ B b=>refine .la _ _ B ?_;show vv live G.L t=some B;grind[vv]
   |mw l=>simp[AV.CO]at f
   |_=>exact c.nB rfl
 ·exact .undef _
theorem uC(live:List Nat)(k:Env->aT->RC)(e:Env)(h:aT):Sx.qm live k e h=k (proj live e) { h with ca:=pt live h.ca }:=by unfold Sx.qm;simp
def B1(P:Program)(X:Ctx)(N:Nat)(G0:Ga)(lp:F8)(c:Code):Prop:=∀(an:mS)(e:Env) (h:aT) (x:Ex) (e':Env) (h':aT),nP X lp c an e h=some (x,e',h')->codeOk N X.fa.mP c an=true ->
 ∀(G:Ga) (a:Act) (Q:Exit->Act->World->Prop),G.h=h->St N G0 G e a->(∀G' a',G'.h=h'->St N G0 G' e' a'->Q (HA x) a' G'.w)->c.wp P Q a G.w
theorem Q9{c:Code}{n0:Nat}(ih:B1 P X N G0 (oU n0) c){live:List Nat}{y:mS}(hok:codeOk N X.fa.mP c y=true) :
  ∀(n:Nat) (e:Env) (h:aT) (x:Ex) (e':Env) (h':aT),oU n (qm live (nP X (oU n0) c y)) e h=some (x,e',h') ->
  ∀(G:Ga) (a:Act) (Q:Exit->Act->World->Prop),G.h=h->St N G0 G e a->(∀G' a',G'.h=h'->St N G0 G' e' a'->Q (HA x) a' G'.w)->(Code.loop c).wp P Q a G.w:=by
 intro n e h x e' h' f G a Q p g i;refine HO (λm a w=>∃G e,G.w=w/\St N G0 G e a/\oU m (qm live (nP X (oU n0) c y)) e G.h=some (x,e',h')) ?_ n a G.w ⟨G,e,rfl,g,by grind⟩;rintro m a _⟨G,e,rfl,g,f⟩;cases m with
 |zero=>cases f
 |succ m=>
  simp only[oU]at f;have j:=g.qm live;split at f;·rename_i l q k;rw[uC]at k;refine ih y _ _ _ _ _ k hok (G.nB (pt live G.h.ca) (vv live G.L)) a _ rfl j ?_;intro G' a' d b;exact⟨m,anT _,G',l,rfl,b,by grind⟩
  ·rename_i o;rw[uC]at f;refine ih y _ _ _ _ _ f hok (G.nB (pt live G.h.ca) (vv live G.L)) a _ rfl j ?_;intro G' a' d b;cases x with
   |oa=>grind[uC]
   |ext id=>exact i G' a' d b
   |ret=>exact i G' a' d b
def AQ(hm:P.follows .mixedOrders=true)(hC:nV P X.C)(hK:tS P X.call)(hI:uP X.call)(n:Nat):∀c:Code,B1 P X N G0 (oU n) c:=by
 intro c;induction c with
 |skip=>intro t e h x e' h' b _ G a Q o j i;simp only[nP,Option.some.injEq,Prod.mk.injEq]at b;obtain⟨rfl,rfl,rfl⟩:=b;exact wp_skip (i G a o j)
 |label l=>intro t e h x e' h' b _ G a Q o j i;simp only[nP,Option.some.injEq,Prod.mk.injEq]at b;obtain⟨rfl,rfl,rfl⟩:=b;exact wp_label (i G a o j)
 |exit id=>intro t e h x e' h' b _ G a Q o j i;simp only[nP,Option.some.injEq,Prod.mk.injEq]at b;obtain⟨rfl,rfl,rfl⟩:=b;exact wp_exit (i G a o j)
 |ret=>intro t e h x e' h' b _ G a Q o j i;simp only[nP,Option.some.injEq,Prod.mk.injEq]at b;obtain⟨rfl,rfl,rfl⟩:=b;exact wp_ret (i G a o j)
 |region id ops draw=>
  intro t e h x e' h' b d G a Q o j i;have oa:∀r:RE,D2 r=some (x,e',h')->x=.oa/\r=some (e',h'):=by intro r b;unfold D2 at b;grind
  cases draw with
  |false=>simp only[nP,Dp,Q2]at b;obtain⟨rfl,D⟩:=oa _ b;clear b;simp only[codeOk,Bool.and_eq_true]at d;refine wp_region ?_;have:=Ts rfl hC hK d.1 ops.toList 0 e h e' h' (by simp) D G a Q o j (λG' a' u O=>i G' a' u O);rw[Nat.sub_zero,<- List.range_eq_range']at this;exact this
  |true=>
   simp only[nP,Dp,FP]at b;split at b;·rename_i S;obtain⟨rfl,D⟩:=oa _ b;simp only[codeOk,Bool.and_eq_true]at d;exact OV hm hC hK hI d.2 d.1 D o j (λG' a' u O=>i G' a' u O)
   grind
 |seq p q ihp ihq=>
  intro t e h x e' h' b d G a Q o j i;simp only[nP,Fl]at b
  have J:∀(y:mS) (k:Env->aT->RC),codeOk N X.fa.mP p y=true->andThen k (nP X (oU n) p y e h)=some (x,e',h') ->
    (∀E u,k E u=some (x,e',h')->∀G1 m,G1.h=u->St N G0 G1 E m->q.wp P Q m G1.w)->(Code.seq p q).wp P Q a G.w:=by
   intro y k K b F;unfold andThen at b;split at b;·rename_i E u B;refine wp_seq (ihp y _ _ _ _ _ B K G a _ o j ?_);intro G1 m f g;exact F E u b G1 m f g
   ·rename_i R;refine wp_seq (ihp y _ _ _ _ _ b K G a _ o j ?_);intro G1 m f g;cases x with
    |oa=>grind
    |ext id=>exact i G1 m f g
    |ret=>exact i G1 m f g
  split at b;·rename_i A y z;simp only[codeOk,Bool.and_eq_true]at d;refine J y _ d.1 b ?_;intro E u F G1 m f g;rw[uC]at F;rw[<- f]at F;exact ihq z _ _ _ _ _ F d.2 (G1.nB (pt A G1.h.ca) (vv A G1.L)) m Q rfl (g.qm A) i
  ·rename_i y z;simp only[codeOk,Bool.and_eq_true]at d;refine J y _ d.1 b ?_;intro E u F G1 m f g;exact ihq z _ _ _ _ _ F d.2 G1 m Q f g i
  grind
 |cond c p q ihp ihq=>
  intro t e h x e' h' b d G a Q o j i;simp only[nP,Lo]at b;split at b
  ·rename_i y z;simp only[codeOk,Bool.and_eq_true]at d;unfold Lp at b;have M:=mQ j.er c;split at b;·rename_i B;rw[bool?_eq B]at M;exact wp_cond_true M.of_bool (ihp y _ _ _ _ _ b d.1 G a Q o j i)
   ·rename_i B;rw[bool?_eq B]at M;exact wp_cond_false M.of_bool (ihq z _ _ _ _ _ b d.2 G a Q o j i)
   grind
  grind
 |block id p ih=>
  intro t e h x e' h' b d G a Q o j i;simp only[nP,C2]at b;simp only[codeOk]at d;refine wp_block ?_;unfold atEnd at b;split at b
  ·rename_i H E u B;split at b;·rename_i s;have s:=acl s;simp only[Option.some.injEq,Prod.mk.injEq]at b;obtain⟨rfl,rfl,rfl⟩:=b;refine ih t _ _ _ _ _ B d G a _ o j ?_;intro G1 m f g;show Exit.inBlock id Q (.exit H) m G1.w;simp only[Exit.inBlock,s,if_true];exact i G1 m f g
   ·rename_i s;have s:=anv s;simp only[Option.some.injEq,Prod.mk.injEq]at b;obtain⟨rfl,rfl,rfl⟩:=b;refine ih t _ _ _ _ _ B d G a _ o j ?_;intro G1 m f g;show Exit.inBlock id Q (.exit H) m G1.w;simp only[Exit.inBlock,s,if_false];exact i G1 m f g
  ·rename_i R;refine ih t _ _ _ _ _ b d G a _ o j ?_;intro G1 m f g;cases x with
   |oa=>exact i G1 m f g
   |ext H=>grind
   |ret=>exact i G1 m f g
 |loop p ih=>intro t e h x e' h' b d G a Q o j i;simp only[nP,XC]at b;grind[codeOk,Q9]
 |scope p ih=>
  intro t e h x e' h' b d G a Q o j i;simp only[nP]at b;simp only[codeOk]at d;refine wp_scope_straight (ih t _ _ _ _ _ b d G a _ o j ?_);intro G1 m f g;cases x with
  |oa=>exact i G1 m f g
  |ext id=>exact i G1 m f g
  |ret=>exact i G1 m f g
 |_=>intro t e h x e' h' b;cases b
end
end Go.Sx
