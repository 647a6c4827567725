/- Proves rules for the walks and their soundness. -/
import Derived.Test.YtihofefpkjfmnaaGreatTad
set_option linter.all false
namespace Go.Sx
open Go
def Mv {G:Ga} (hW:WR G) (o:Obj) (s:Bool) :
  let G':Ga:=⟨G.w.alloc o,λs' B=>G.T s' B\/(s'=s/\B=G.w.heap.size),G.h,G.pi,G.L⟩
  Step G G'/\WR G':=by
 intro G'
 obtain ⟨S,W⟩:=BM hW o
 have hold:∀ B,B<G.w.heap.size->(G.w.alloc o).heap[B]?=G.w.heap[B]?:=λB hB=>(nc.alloc G.w o).sV (G:=G) hB
 have E:Ext G G':=⟨λ_ _ h=>.inl h,S.ext.mw,S.ext.size,S.ext.lN,S.ext.map,S.ext.cH⟩
 refine ⟨⟨E,S.os,S.output,S.tape,S.nh,S.frame,S.pa,S.pN,?_,S.lo,S.out,S.rQ,S.sR,S.th⟩,?_⟩
 ·grind
 ·obtain ⟨k1,k2,k3⟩:=hW.mw E hold
  refine ⟨k1,k2,k3,W.mX,W.oQ,?_,W.qo,?_,W.qI,W.nY,?_,W.lo,W.lt⟩
  ·rintro s' b l h (ht | ⟨_,ht⟩)
   ·exact hW.rO s' b l h ht
   ·have:=(hW.mX b l h).1
    omega
  ·rintro s' d B h (ht | ⟨_,ht⟩)
   ·exact hW.LT s' d B h ht
   ·have:=(hW.nY d B h).1
    omega
  ·rintro s' B (h | ⟨_,rfl⟩)
   ·exact W.pj s' B h
   ·show G.w.heap.size<(G.w.alloc o).heap.size
    simp
theorem yU {P : Program} {f : Nat} (hex : ∃ fn, P.funcs[f]? = some fn ∧ fn.body.isNone = false ∧ (fn.name == "runtime.NumGoroutine") = false)
  (h1:∀ b es clock (w:World),w.heap[b]?=some (.map es clock)->Calls P f #[.map (some b)] w λe w'=>e=.returned (.map (some w.heap.size))/\w'=w.alloc (.map es clock))
  (h0:∀ w:World,Calls P f #[.map none] w λe w'=>e=.returned (.map none)/\w'=w):sQ P f rp where
 call:=by
  intro shd args h v h' hc G args' hG hlo hL hW hl hr
  refine ⟨hex,?_⟩
  intro R hR
  subst hG
  have one:∀ x:AV,args=[x]->∃ y,args' = #[y]/\VC G x y:=by
   rintro x rfl
   cases args' with | mk l =>
   cases l with
   | nil=>simp at hl
   | cons y l =>
     cases l with
     | nil=>exact ⟨y,rfl,hr 0 x y rfl rfl⟩
     | cons _ _=>simp at hl
  unfold rp at hc
  split at hc
  ·obtain ⟨y,rfl,hy⟩:=one _ rfl
   cases hc
   have hv:=hy.vr
   cases hv with
   | lD _ hp =>
     cases hp
     refine (h0 G.w).mono ?_
     rintro e w' ⟨rfl,rfl⟩
     exact hR _ G (.refl G) hW (λm=>rfl) (λm L=>VR.mi (.lD rfl (.mD _)) rfl)
  ·rename_i es s
   obtain ⟨y,rfl,hy⟩:=one _ rfl
   cases hc
   have hv:=hy.vr
   cases hv with
   | lD _ hp =>
     cases hp with
     | fm _ _ _ r ents clk _ hB hI hll hyo hko hk hvv =>
       refine (h1 r ents clk G.w hB).mono ?_
       rintro e w' ⟨rfl,rfl⟩
       obtain ⟨S1,W1⟩:=Mv hW (.map ents clk) s
       refine hR _ _ S1 W1 (λm=>rfl) (λm L=>VR.mi (.lD rfl ?_) rfl)
       refine .fm _ es s G.w.heap.size ents clk (λ_=>rfl) ((nc.alloc G.w _).new (G:=G)) (.inr ⟨rfl,rfl⟩) hll hyo hko ?_ ?_
       ·exact λi p e hp he=>(hk i p e hp he).mono S1.ext.T S1.ext.mw
       ·exact λi p e hp he=>(hvv i p e hp he).mono S1.ext.T S1.ext.mw
  ·rename_i b
   obtain ⟨y,rfl,hy⟩:=one _ rfl
   split at hc
   ·split at hc
    ·rename_i es c hget
     cases hc
     obtain ⟨l,ents,hpi,rfl,hB,hent,hyo⟩:=sH hW hy.vr hget
     refine (h1 l.B ents c G.w hB).mono ?_
     rintro e w' ⟨rfl,rfl⟩
     obtain ⟨S1,W1⟩:=C1 (ob:=.map es c) (cap:=0) hW (nc.alloc G.w (.map ents c)) (by simp) (by
      intro es2 c2 e G' E hnew
      cases e
      have hent2:=hent.mono E
      exact ⟨ents,hnew,by simpa using hent2.1,hyo,λi p e hp he=>hent2.2 i p e hp (by grind)⟩)
     refine hR _ _ S1 W1 (λm=>rfl) (λm L=>VR.mi (.hm _ _ ?_ ?_) rfl)<;>grind [VR.mi,aT.size_push,nA]
    grind
   grind
  grind
 Fv:=by
  intro args h v h' hc
  unfold rp at hc
  split at hc
  ·cases hc; exact ⟨rfl,λ_ _=>rfl⟩
  ·cases hc; exact ⟨rfl,λ_ _=>rfl⟩
  ·cases hc
  grind
end Go.Sx
namespace Go.Sx
open Go
def abk (P:Program) (t n:Nat):Bool:=match P.info? t with
 | some i=>Nat.beq i.size n
 | none=>false
def FN (P:Program) (t:Nat) (k:TK):Bool:=match P.underlying t,k with
 | some .bool,.bool=>true
 | some (.int a),.int b=>pZ a b
 | some .string,.str=>true
 | _,_=>false
def HU (P:Program) (t:Nat):Option Nat:=match P.underlying t with
 | some (.struct _)=>(P.info? t).map (·.size)
 | _=>none
def tU (P:Program) (rec:Nat->List TK->Bool):List Field->Nat->List TK->Bool
 | [],_,ks=>ks.isEmpty
 | f :: fs, off, ks => (f.name != "_") && Nat.beq f.offset off && match HU P f.type with
   | some n=>Nat.ble n ks.length&&rec f.type (ks.take n)&&tU P rec fs (off+n) (ks.drop n)
   | none=>match ks with
     | k::ks=>FN P f.type k&&tU P rec fs (off+1) ks
     | []=>false
def tO (P:Program):Nat->Nat->List TK->Bool
 | 0,_,_=>false
 | d+1,t,ks=>match P.underlying t with
   | some (.struct F)=>!P.stoodInHeld t&&tU P (tO P d) F.toList 0 ks
   | _=>false
section
variable {P:Program}
def zV:∀ {a b:List AV} (c d:List AV),a.length=b.length->nR (a++c) (b++d)=match nR a b,nR c d with
  | some x,some y=>some (x&&y)
  | _,_=>none
 | [],[],c,d,_=>by
   simp only [List.nil_append,nR]
   cases nR c d<;>simp
 | [],_::_,_,_,h=>by simp at h
 | _::_,[],_,_,h=>by simp at h
 | x::a,y::b,c,d,h=>by
   have ih:=zV c d (a:=a) (b:=b) (by simpa using h)
   simp only [List.cons_append,nR]
   cases hs:og x y with
   | none=>rfl
   | some v =>
     cases v with
     | true=>simp only [ih]
     | false =>
       simp only [ih]
       cases nR a b<;>cases nR c d<;>simp
theorem Av:∀ {l m:List AV} {b:Bool},nR l m=some b->l.length=m.length
 | [],[],_,_=>rfl
 | [],_::_,_,h=>by cases h
 | _::_,[],_,h=>by cases h
 | x::l,y::m,b,h=>by
   simp only [nR] at h
   split at h
   ·simp [Av h]
   ·split at h
    ·rename_i q; simp [Av q]
    ·cases h
   ·cases h
theorem xo:∀ {ks:List TK} {l:List AV},fitAll ks l=true->l.length=ks.length
 | [],[],_=>rfl
 | [],_::_,h=>by cases h
 | _::_,[],h=>by cases h
 | _::ks,_::l,h=>by
   simp only [fitAll,Bool.and_eq_true] at h
   simp [xo h.2]
def y5:∀ (n:Nat) {ks:List TK} {l:List AV},fitAll ks l=true->fitAll (ks.take n) (l.take n)=true/\fitAll (ks.drop n) (l.drop n)=true
 | 0,ks,l,h=>⟨by rfl,by grind⟩
 | n+1,[],[],_=>⟨rfl,rfl⟩
 | _+1,[],_::_,h=>by cases h
 | _+1,_::_,[],h=>by cases h
 | n+1,k::ks,a::l,h=>by
   simp only [fitAll,Bool.and_eq_true] at h
   obtain ⟨h1,h2⟩:=y5 n h.2
   exact ⟨by simp [fitAll,h.1,h1],by simpa using h2⟩
def Rel (w:World) (T:Bool->Nat->Prop) (l:List AV) (xs:Array Value):Prop:=l.length=xs.size/\∀ (i:Nat) (x:AV) (y:Value),l[i]?=some x->xs[i]?=some y->PR w T true x y
theorem Rel.part {w:World} {T:Bool->Nat->Prop} {l:List AV} {xs:Array Value} (h:Rel w T l xs) (o n:Nat) (hle:o+n<=l.length):Rel w T ((l.drop o).take n) (xs.extract o (o+n)):=by
 refine ⟨by simp [<- h.1]; omega,?_⟩
 intro i x y hx hy
 rw [List.getElem?_take] at hx
 split at hx
 ·rw [List.getElem?_drop] at hx
  rw [Array.getElem?_extract] at hy
  split at hy
  ·exact h.2 (o+i) x y hx hy
  grind
 grind
theorem wB {t:Nat} {k:TK} (hk:FN P t k=true) {xs:Array Value} {o:Nat} {y:Value} (hy:xs[o]?=some y) (w:World):(Go.part t xs o).run P w=.ok y w:=by
 unfold FN at hk
 have:∃ d,P.underlying t=some d/\IH d=false:=by
  split at hk<;>first | exact ⟨_,by assumption,rfl⟩ | cases hk
 obtain ⟨d,hd,hag⟩:=this
 have hA:(Go.isAgg t).run P w=.ok false w:=by
  unfold Go.isAgg
  rw [Sem.run_bind,run_underlying hd w,<- hag]
  cases d<;>rfl
 simp_all [Go.part,Sem.run_bind]
theorem yc {t n:Nat} (hk:HU P t=some n) (xs:Array Value) (o:Nat) (w:World):(Go.part t xs o).run P w=.ok (.agg (xs.extract o (o+n))) w:=by
 unfold HU at hk
 split at hk
 ·rename_i F hF
  cases hi:P.info? t with
  | none=>grind
  | some i =>
    simp_all [Go.isAgg,Sem.run_bind,run_underlying,Go.part,Go.sizeOf,typeInfo]
 grind
theorem Ca {t:Nat} {k:TK} (hk:FN P t k=true) {a c:AV} {x y:Value} {b:Bool} {w:World} {T:Bool->Nat->Prop} (hf:sE k a=true) (hx:PR w T true a x) (hy:PR w T true c y) (h:og a c=some b) (d:Nat) :
  (Op.equalIn (d+1) t x y).run P w=.ok b w:=by
 unfold FN at hk
 split at hk
 ·rename_i hd
  cases a<;>simp only [sE,Bool.false_eq_true] at hf
  cases c<;>simp only [og,zf,AV.bool?,reduceCtorEq] at h
  cases hx; cases hy<;>grind [run_equalIn_bool]
 ·rename_i k1 k2 hd
  cases a<;>simp only [sE,Bool.false_eq_true] at hf
  cases c<;>simp only [og,wh,AV.int?,reduceCtorEq] at h
  split at h
  ·rename_i hkk
   rw [rJ] at hkk
   cases hx; cases hy<;>grind [run_equalIn_int,qV]
  ·cases h
 ·rename_i hd
  cases a<;>simp only [sE,Bool.false_eq_true] at hf
  cases c<;>simp only [og,zq,AV.str?,reduceCtorEq] at h
  cases hx with
  | str _ _ p hp =>
    cases hy with
    | str _ _ q hq =>
      have:(Op.equalIn (d+1) t (.string p) (.string q)).run P w=.ok (p==q) w:=by simp [Op.equalIn,run_underlying hd]
      grind [DP]
 grind
def rR {rec:Nat->List TK->Bool} {d:Nat}
  (hrec:∀ t ks,rec t ks=true->∀ (l m:List AV) (xs ys:Array Value) (b:Bool) (w:World) (T:Bool->Nat->Prop),fitAll ks l=true->Rel w T l xs->Rel w T m ys->nR l m=some b->(Op.equalIn d t (.agg xs) (.agg ys)).run P w=.ok b w)
  (hd:0<d) {l m:List AV} {xs ys:Array Value} {w:World} {T:Bool->Nat->Prop} (hx:Rel w T l xs) (hy:Rel w T m ys) :
  ∀ (fs:List Field) (off:Nat) (ks:List TK) (b:Bool),tU P rec fs off ks=true->fitAll ks (l.drop off)=true->nR (l.drop off) (m.drop off)=some b->off<=l.length->l.length=m.length ->
    (Op.eqFields d xs ys fs).run P w=.ok b w
 | [],off,ks,b,hfl,hfit,he,_,_=>by
   simp only [tU,List.isEmpty_iff] at hfl
   subst hfl
   have h0:=xo hfit
   have h1:l.drop off=[]:=List.eq_nil_of_length_eq_zero h0
   have h2:m.drop off=[]:=List.eq_nil_of_length_eq_zero (by grind)
   rw [h1,h2] at he
   cases he
   rfl
 | f::fs,off,ks,b,hfl,hfit,he,hol,hlm=>by
   simp only [tU,Bool.and_eq_true,bne_iff_ne,ne_eq] at hfl
   obtain ⟨⟨hname,hoff⟩,hrest⟩:=hfl
   have hoff:=Nat.eq_of_beq_eq_true hoff
   unfold Op.eqFields
   rw [if_pos hname,hoff]
   split at hrest
   ·rename_i n hn
    simp only [Bool.and_eq_true,Nat.ble_eq] at hrest
    obtain ⟨⟨hnk,hr⟩,hfs⟩:=hrest
    have hlen:=xo hfit
    rw [List.length_drop] at hlen
    obtain ⟨fit1,fit2⟩:=y5 n hfit
    rw [List.drop_drop] at fit2
    have hsplit:nR (l.drop off) (m.drop off)=match nR ((l.drop off).take n) ((m.drop off).take n),nR (l.drop (off+n)) (m.drop (off+n)) with
      | some x,some y=>some (x&&y)
      | _,_=>none:=by
     have:=zV (a:=(l.drop off).take n) (b:=(m.drop off).take n) (l.drop (off+n)) (m.drop (off+n)) (by simp [hlm])
     rw [<- List.drop_drop (i:=n) (j:=off),<- List.drop_drop (i:=n) (j:=off),List.take_append_drop,List.take_append_drop] at this
     simp_all
    rw [hsplit] at he
    split at he
    ·rename_i b1 b2 h1 h2
     cases he
     have e1:=hrec _ _ hr _ _ _ _ b1 w T fit1 (hx.part off n (by omega)) (hy.part off n (by omega)) h1
     have e2:=rR hrec hd hx hy fs (off+n) _ b2 hfs fit2 h2 (by omega) hlm
     simp only [Sem.run_bind,yc hn,Result.andThen_ok,e1,Sem.run_ite]
     cases b1<;>simp_all
    grind
   ·rename_i hn
    split at hrest
    ·rename_i k ks
     simp only [Bool.and_eq_true] at hrest
     obtain ⟨hk,hfs⟩:=hrest
     cases hld:l.drop off with
     | nil=>rw [hld] at hfit; cases hfit
     | cons a l' =>
       cases hmd:m.drop off with
       | nil=>rw [hld,hmd] at he; cases he
       | cons c m' =>
         have hl':l'=l.drop (off+1):=by rw [<- List.drop_drop,hld]; rfl
         have hm':m'=m.drop (off+1):=by rw [<- List.drop_drop,hmd]; rfl
         rw [hld] at hfit
         simp only [fitAll,Bool.and_eq_true] at hfit
         have hla:l[off]?=some a:=by
          have:(l.drop off)[0]?=some a:=by grind
          grind
         have hmc:m[off]?=some c:=by
          have:(m.drop off)[0]?=some c:=by grind
          grind
         have hlt:=(List.getElem?_eq_some_iff.1 hla).1
         have hmt:=(List.getElem?_eq_some_iff.1 hmc).1
         have hlx:off<xs.size:=by rw [<- hx.1]; exact hlt
         have hly:off<ys.size:=by rw [<- hy.1]; exact hmt
         have hxo:xs[off]?=some xs[off]:=by simp
         have hyo:ys[off]?=some ys[off]:=by simp
         rw [hld,hmd] at he
         simp only [nR] at he
         have next:∀ b2,nR l' m'=some b2->(Op.eqFields d xs ys fs).run P w=.ok b2 w:=by
          intro b2 h2
          rw [hl',hm'] at h2
          exact rR hrec hd hx hy fs (off+1) ks b2 hfs (by rw [<- hl']; exact hfit.2) h2 (by omega) hlm
         obtain ⟨d',rfl⟩:∃ d',d=d'+1:=⟨d - 1,by omega⟩
         simp only [Sem.run_bind,wB hk hxo,wB hk hyo,Result.andThen_ok]
         split at he
         ·rename_i hs
          rw [Ca hk hfit.1 (hx.2 off a _ hla hxo) (hy.2 off c _ hmc hyo) hs d']
          grind [Result.andThen_ok]
         ·rename_i hs
          rw [Ca hk hfit.1 (hx.2 off a _ hla hxo) (hy.2 off c _ hmc hyo) hs d']
          split at he<;>simp_all
         grind
    grind
def zW:∀ (d t:Nat) (ks:List TK),tO P d t ks=true->∀ (D:Nat) (l m:List AV) (xs ys:Array Value) (b:Bool) (w:World) (T:Bool->Nat->Prop),fitAll ks l=true->Rel w T l xs->Rel w T m ys->nR l m=some b ->
  (Op.equalIn (D+1+d) t (.agg xs) (.agg ys)).run P w=.ok b w
 | 0,_,_,h=>by cases h
 | d+1,t,ks,h=>by
   intro D l m xs ys b w T hfit hx hy he
   simp only [tO] at h
   split at h
   ·rename_i F hF
    simp only [Bool.and_eq_true,Bool.not_eq_true'] at h
    have hfo:P.fieldsOf t=F:=by simp [Program.fieldsOf,hF]
    rw [show D+1+(d+1)=(D+1+d)+1 by omega,run_equalIn_struct w (D+1+d) t xs ys (by rw [hfo]; exact hF) h.1,hfo]
    exact rR (λt' ks' h'=>zW d t' ks' h' D) (by omega) hx hy F.toList 0 ks b h.2 (by simpa using hfit) (by simpa using he) (Nat.zero_le _) (Av he)
   ·cases h
def wV:∀ (d t:Nat) (ks:List TK),tO P d t ks=true->∀ (D:Nat) (em:Bool) (xs:Array Value) (w:World),xs.size=ks.length->(Instr.checkKey em (D+1+d) t (.agg xs)).run P w=.ok () w
 | 0,_,_,h=>by cases h
 | d+1,t,ks,h=>by
   intro D em xs w hsz
   simp only [tO] at h
   split at h
   ·rename_i F hF
    simp only [Bool.and_eq_true] at h
    have hfl:=h.2
    rw [show D+1+(d+1)=(D+1+d)+1 by omega]
    unfold Instr.checkKey
    simp only [Sem.run_bind,run_underlying hF,Result.andThen_ok]
    rw [<- Array.forIn_toList]
    have go:∀ (fs:List Field) (off:Nat) (ks':List TK),tU P (tO P d) fs off ks'=true->off+ks'.length=xs.size ->
      (forIn (m := Sem) fs PUnit.unit (fun f _ => if f.name ≠ "_" then do
        Instr.checkKey em (D+1+d) f.type (<- Go.part f.type xs f.offset)
        pure (ForInStep.yield PUnit.unit) else pure (ForInStep.yield PUnit.unit))).run P w=.ok PUnit.unit w:=by
     intro fs
     induction fs with
     | nil=>simp
     | cons f fs ih =>
       intro off ks' hf ho
       simp only [tU,Bool.and_eq_true,bne_iff_ne,ne_eq] at hf
       obtain ⟨⟨hname,hoff⟩,hrest⟩:=hf
       have hoff:=Nat.eq_of_beq_eq_true hoff
       rw [List.forIn_cons]
       split at hrest
       ·rename_i n hn
        simp only [Bool.and_eq_true,Nat.ble_eq] at hrest
        obtain ⟨⟨hnk,hr⟩,hfs⟩:=hrest
        have e1:=wV d f.type _ hr D em (xs.extract f.offset (f.offset+n)) w (by grind)
        grind [Sem.run_bind,yc,Result.andThen_ok,Sem.run_pure]
       ·split at hrest
        ·rename_i k ks2
         simp only [Bool.and_eq_true] at hrest
         have hlt:f.offset<xs.size:=by grind
         have hxo:xs[f.offset]?=some xs[f.offset]:=by simp
         have e0:(Instr.checkKey em (D+1+d) f.type xs[f.offset]).run P w=.ok () w:=by
          have hk:=hrest.1
          unfold FN at hk
          grind [xU]
         have e2:=ih (off+1) _ hrest.2 (by grind)
         simp only [Sem.run_bind,if_pos hname,wB hrest.1 hxo,Result.andThen_ok,e0,Sem.run_pure]
         exact e2
        grind
    rw [go F.toList 0 ks hfl (by omega)]
    rfl
   ·cases h
def OL (P:Program) (d:TypeDesc) (k:TK):Bool:=match d,k with
 | .bool,.bool=>true
 | .int a,.int b=>pZ a b
 | .string,.str=>true
 | .pointer _,.ptr=>true
 | .slice a,.slice b=>Nat.beq a b
 | .array n a,.array m b=>Nat.beq n m&&Nat.beq a b
 | .map a b,.map c e=>Nat.beq a c&&Nat.beq b e
 | .struct F,.struct fs=>(fs==F.toList.map λf=>(f.offset,f.type))&&F.toList.all λf=>match P.info? f.type with
   | some i=>!(Nat.beq i.size 0)
   | none=>false
 | .func ..,.func=>true
 | _,.other=>true
 | _,_=>false
def OH (ti:TI) (z:Value):Bool:=pX (pV 2) ti.zero (z.cells.toList.map D4)&&Nat.beq z.cells.size ti.size&&z.cells.toList.all (·.oneCell')&&match ti.agg,z with
 | true,.agg _=>true
 | true,_=>false
 | false,z=>z.oneCell'
def KP (P:Program) (t:Nat) (ti:TI):Bool :=
 (match P.info? t with
 | some i=>Nat.beq i.size ti.size&&Nat.beq i.bytes ti.bytes&&match i.zero with
   | some z=>OH ti z
   | none=>false
 | none=>false) &&
 (match P.underlying t with
 | some d=>DC (IH d) ti.agg&&OL P d ti.kind
 | none=>false) &&
 Nat.ble ti.bytes 1048576 &&
 (!ti.flat||!(P.eqGuardType P.depth t)) &&
 (!(ti.flat&&ti.agg)||(tO P 3 t ti.sc&&Nat.beq ti.sc.length ti.size))
def Ro {t:Nat} {ti:TI} (h:KP P t ti=true):py P t ti:=by
 simp only [KP,Bool.and_eq_true] at h
 obtain ⟨⟨⟨⟨h1,h2⟩,h3⟩,h4⟩,h5⟩:=h
 have hflat:ti.flat=true->ti.agg=true->tO P 3 t ti.sc=true/\ti.sc.length=ti.size:=by
  intro hf ha
  simp_all
 refine ⟨?_,?_,Nat.le_of_ble_eq_true h3,?_,?_,?_⟩
 ·split at h1
  ·rename_i i hi
   simp only [Bool.and_eq_true] at h1
   obtain ⟨⟨a1,a2⟩,a3⟩:=h1
   split at a3
   ·rename_i z hz
    simp only [OH,Bool.and_eq_true,List.all_eq_true] at a3
    obtain ⟨⟨⟨z1,z2⟩,z3⟩,z4⟩:=a3
    refine ⟨i,z,hi,Nat.eq_of_beq_eq_true a1,Nat.eq_of_beq_eq_true a2,hz,pA (rF 2) _ _ z1,Nat.eq_of_beq_eq_true z2,z3,?_,?_⟩<;>grind
   grind
  grind
 ·split at h2
  ·rename_i d hd
   simp only [Bool.and_eq_true,Dc,beq_iff_eq] at h2
   refine ⟨d,hd,h2.1,?_⟩
   have hk:=h2.2
   generalize ti.kind=kk at hk ⊢
   unfold OL at hk
   split at hk<;>try (cases hk; done)
   ·exact rfl
   ·rw [rJ] at hk; subst hk; exact rfl
   ·exact rfl
   ·exact ⟨_,rfl⟩
   ·have:=Nat.eq_of_beq_eq_true hk; subst this; exact rfl
   ·simp only [Bool.and_eq_true] at hk
    have e1:=Nat.eq_of_beq_eq_true hk.1
    have e2:=Nat.eq_of_beq_eq_true hk.2
    subst e1; subst e2; exact rfl
   ·simp only [Bool.and_eq_true] at hk
    have e1:=Nat.eq_of_beq_eq_true hk.1
    have e2:=Nat.eq_of_beq_eq_true hk.2
    subst e1; subst e2; exact rfl
   ·simp only [Bool.and_eq_true,beq_iff_eq,List.all_eq_true] at hk
    refine ⟨_,rfl,hk.1,?_⟩
    intro f hf
    have:=hk.2 f hf
    split at this
    ·rename_i i hi
     refine ⟨i,hi,?_⟩
     intro h0
     simp_all
    grind
   ·exact ⟨_,_,_,rfl⟩
   ·trivial
  grind
 ·grind
 ·intro hf ha l m xs ys b w T hfit hl hm hx hy he
  obtain ⟨f1,f2⟩:=hflat hf ha
  have rel:∀ {l:List AV} {xs:Array Value},PR w T true (.agg l) (.agg xs)->Rel w T l xs:=by
   intro l xs h
   cases h with
   | agg _ _ _ hl h1 hr=>exact ⟨hl,hr⟩
  exact zW 3 t ti.sc f1 9996 l m xs ys b w T hfit (rel hx) (rel hy) he
 ·intro hf ha e xs w hsz
  obtain ⟨f1,f2⟩:=hflat hf ha
  exact wV 3 t ti.sc f1 9996 e xs w (by omega)
def Tr.B0 {α:Type} (p:Nat->α->Bool):Tr α->(Nat->Nat)->Bool
 | .leaf,_=>true
 | .node l v r,f=>(match v with
   | some x=>p (f 0) x
   | none=>true)&&Tr.B0 p l (λn=>f (2*n+1))&&Tr.B0 p r (λn=>f (2*n+2))
def Tr.Ao {α:Type} (p:Nat->α->Bool):∀ (t:Tr α) (f:Nat->Nat),Tr.B0 p t f=true->∀ (n:Nat) (x : α),t.get n=some x->p (f n) x=true
 | .leaf,_,_,n,x,h=>by simp [Tr.get] at h
 | .node l v r,f,ha,n,x,h=>by
   simp only [Tr.B0,Bool.and_eq_true] at ha
   obtain ⟨⟨h1,h2⟩,h3⟩:=ha
   cases n with
   | zero =>
     simp only [Tr.get] at h
     rw [h] at h1
     exact h1
   | succ m =>
     simp only [Tr.get] at h
     split at h
     ·rename_i hm
      have hm:=Nat.eq_of_beq_eq_true hm
      have:=Tr.Ao p l _ h2 (m / 2) x h
      rw [show 2*(m / 2)+1=m+1 by omega] at this
      exact this
     ·rename_i hm
      have hm:m % 2≠0:=Nat.ne_of_beq_eq_false hm
      have:=Tr.Ao p r _ h3 (m / 2) x h
      rw [show 2*(m / 2)+2=m+1 by omega] at this
      exact this
def Tr.Df {α:Type} (q:Nat->α->Prop):Tr α->(Nat->Nat)->Prop
 | .leaf,_=>True
 | .node l v r,f=>(match v with
   | some x=>q (f 0) x
   | none=>True)/\Tr.Df q l (λn=>f (2*n+1))/\Tr.Df q r (λn=>f (2*n+2))
def Tr.Au {α:Type} (q:Nat->α->Prop):∀ (t:Tr α) (f:Nat->Nat),Tr.Df q t f->∀ (n:Nat) (x : α),t.get n=some x->q (f n) x
 | .leaf,_,_,n,x,h=>by simp [Tr.get] at h
 | .node l v r,f,ha,n,x,h=>by
   simp only [Tr.Df] at ha
   obtain ⟨h1,h2,h3⟩:=ha
   cases n with
   | zero =>
     simp only [Tr.get] at h
     rw [h] at h1
     exact h1
   | succ m =>
     simp only [Tr.get] at h
     split at h
     ·rename_i hm
      have hm:=Nat.eq_of_beq_eq_true hm
      have:=Tr.Au q l _ h2 (m / 2) x h
      rw [show 2*(m / 2)+1=m+1 by omega] at this
      exact this
     ·rename_i hm
      have hm:m % 2≠0:=Nat.ne_of_beq_eq_false hm
      have:=Tr.Au q r _ h3 (m / 2) x h
      rw [show 2*(m / 2)+2=m+1 by omega] at this
      exact this
def Q8 {t:Tr TI} (h:Tr.B0 (KP P) t id=true):mu P ⟨t.get⟩ :=
 ⟨λn ti hn=>Ro (Tr.Ao (KP P) t id h n ti hn)⟩
end
end Go.Sx
namespace Go.Sx
open Go
section
variable (C:lW) (F:nd) (Pr:mO)
def ka (shd:Bool) (f:Nat) (args:List AV) (h:aT) (v:AV) (h':aT):Prop:=∃ m,∀ k,m<=k->nM C F Pr k shd f args h=some (v,h')
abbrev XN (fa:kb) (k:Nat):Ctx:=⟨C,fa,nM C F Pr k⟩
def Wp (fa:kb) (c:Code) (an:ou) (Q:Ex->Env->aT->Prop) (e:Env) (h:aT):Prop :=
 ∃ x e' h',(∃ m,∀ k,m<=k->mN (XN C F Pr fa k) (pO k) c an e h=some (x,e',h'))/\Q x e' h'
def mH (fa:kb) (all ops:List Oper) (Q:Env->aT->Prop) (e:Env) (h:aT):Prop :=
 ∃ e' h',(∃ m,∀ k,m<=k->yE (XN C F Pr fa k) all ops e h=some (e',h'))/\Q e' h'
def mz (fa:kb) (all:List Oper) (sch:List (Nat×List Nat)) (Q:Env->aT->Prop) (e:Env) (h:aT):Prop :=
 ∃ e' h',(∃ m,∀ k,m<=k->uh (XN C F Pr fa k) all sch e h=some (e',h'))/\Q e' h'
end
section
variable {C:lW} {F:nd} {Pr:mO} {fa:kb} {Q:Ex->Env->aT->Prop} {e:Env} {h:aT}
def Wp.mono {c:Code} {an:ou} {Q':Ex->Env->aT->Prop} (w:Wp C F Pr fa c an Q e h) (hq:∀ x e h,Q x e h->Q' x e h):Wp C F Pr fa c an Q' e h :=
 let ⟨x,e',h',m,q⟩:=w; ⟨x,e',h',m,hq _ _ _ q⟩
def Ld {an:ou} (q:Q .ns e h):Wp C F Pr fa .skip an Q e h:=⟨_,_,_,⟨0,λ_ _=>rfl⟩,q⟩
def Ks {l:Nat} {an:ou} (q:Q .ns e h):Wp C F Pr fa (.label l) an Q e h:=⟨_,_,_,⟨0,λ_ _=>rfl⟩,q⟩
def Nt {id:Nat} {an:ou} (q:Q (.ext id) e h):Wp C F Pr fa (.exit id) an Q e h:=⟨_,_,_,⟨0,λ_ _=>rfl⟩,q⟩
def PI {an:ou} (q:Q .ret e h):Wp C F Pr fa .ret an Q e h:=⟨_,_,_,⟨0,λ_ _=>rfl⟩,q⟩
def tW {c:Code} {an:ou} (w:Wp C F Pr fa c an Q e h):Wp C F Pr fa (.scope c) an Q e h:=w
def vN (next:Env->aT->Prop) (Q:Ex->Env->aT->Prop):Ex->Env->aT->Prop
 | .ns,e,h=>next e h
 | x,e,h=>Q x e h
def Qe {a b:Code} {x y:ou} (w:Wp C F Pr fa a x (vN (Wp C F Pr fa b y Q) Q) e h):Wp C F Pr fa (.seq a b) (.sq x y) Q e h:=by
 obtain ⟨x1,e1,h1,⟨m1,hm1⟩,q1⟩:=w
 cases x1 with
 | ns =>
   obtain ⟨x2,e2,h2,⟨m2,hm2⟩,q2⟩:=q1
   refine ⟨x2,e2,h2,⟨max m1 m2,λk hk=>?_⟩,q2⟩
   simp only [mN,yB,hm1 k (by omega),andThen]
   grind
 | ext id=>exact ⟨_,e1,h1,⟨m1,λk hk=>by simp_all [mN,yB,andThen]⟩,q1⟩
 | ret=>exact ⟨_,e1,h1,⟨m1,λk hk=>by simp_all [mN,yB,andThen]⟩,q1⟩
def E7 {a b:Code} {live:List Nat} {x y:ou} (w:Wp C F Pr fa a x (vN (λe h=>Wp C F Pr fa b y Q (proj live e) { h with cH:=nv live h.cH }) Q) e h):Wp C F Pr fa (.seq a b) (.seq live x y) Q e h:=by
 obtain ⟨x1,e1,h1,⟨m1,hm1⟩,q1⟩:=w
 cases x1 with
 | ns =>
   obtain ⟨x2,e2,h2,⟨m2,hm2⟩,q2⟩:=q1
   refine ⟨x2,e2,h2,⟨max m1 m2,λk hk=>?_⟩,q2⟩
   simp only [mN,yB,hm1 k (by omega),andThen,sk]
   grind
 | ext id=>exact ⟨_,e1,h1,⟨m1,λk hk=>by simp_all [mN,yB,andThen]⟩,q1⟩
 | ret=>exact ⟨_,e1,h1,⟨m1,λk hk=>by simp_all [mN,yB,andThen]⟩,q1⟩
def De {c:Operand} {a b:Code} {x y:ou} {t:Bool} (hc:ky e c=.bool t) (w1:t=true->Wp C F Pr fa a x Q e h) (w2:t=false->Wp C F Pr fa b y Q e h):Wp C F Pr fa (.cond c a b) (.two x y) Q e h:=by
 cases t with
 | true =>
   obtain ⟨x1,e1,h1,⟨m1,hm1⟩,q1⟩:=w1 rfl
   exact ⟨x1,e1,h1,⟨m1,λk hk=>by simp_all [mN,CM,CO,AV.bool?]⟩,q1⟩
 | false =>
   obtain ⟨x1,e1,h1,⟨m1,hm1⟩,q1⟩:=w2 rfl
   exact ⟨x1,e1,h1,⟨m1,λk hk=>by simp_all [mN,CM,CO,AV.bool?]⟩,q1⟩
def GZ (id:Nat) (Q:Ex->Env->aT->Prop):Ex->Env->aT->Prop
 | .ext i,e,h=>if i=id then Q .ns e h else Q (.ext i) e h
 | x,e,h=>Q x e h
def KA {id:Nat} {a:Code} {an:ou} (w:Wp C F Pr fa a an (GZ id Q) e h):Wp C F Pr fa (.block id a) an Q e h:=by
 obtain ⟨x1,e1,h1,⟨m1,hm1⟩,q1⟩:=w
 cases x1 with
 | ns=>exact ⟨_,e1,h1,⟨m1,λk hk=>by simp_all [mN,wR,atEnd]⟩,q1⟩
 | ret=>exact ⟨_,e1,h1,⟨m1,λk hk=>by simp_all [mN,wR,atEnd]⟩,q1⟩
 | ext i =>
   simp only [GZ] at q1
   split at q1
   ·rename_i hi
    subst hi
    exact ⟨_,e1,h1,⟨m1,λk hk=>by simp_all [mN,wR,atEnd]⟩,q1⟩
   ·rename_i hi
    have hb:Nat.beq i id=false:=by
     cases hq:Nat.beq i id<;>simp_all
    exact ⟨_,e1,h1,⟨m1,λk hk=>by simp_all [mN,wR,atEnd]⟩,q1⟩
def oe {c:Code} {live:List Nat} {an:ou} (I:Nat->Env->aT->Prop)
  (round:∀ n e h,I n e h->Wp C F Pr fa c an (vN (λe' h'=>∃ m,m<n/\I m e' h') Q) (proj live e) { h with cH:=nv live h.cH }) :
  ∀ (n:Nat) (e:Env) (h:aT),I n e h->Wp C F Pr fa (.loop c) (.loop live an) Q e h:=by
 have key:∀ (n:Nat) (e:Env) (h:aT),I n e h->∃ x e' h',(∃ M,∀ k j,M<=k->M<=j->pO j (qw live (mN (XN C F Pr fa k) (pO k) c an)) e h=some (x,e',h'))/\Q x e' h':=by
  intro n
  induction n using Nat.strongRecOn with
  | _ n ih =>
    intro e h hI
    obtain ⟨x1,e1,h1,⟨m1,hm1⟩,q1⟩:=round n e h hI
    have other:∀ x1,(∀ e h,vN (λe' h'=>∃ m,m<n/\I m e' h') Q x1 e h=Q x1 e h)->x1≠.ns->(∀ k,m1<=k->mN (XN C F Pr fa k) (pO k) c an (proj live e) { h with cH:=nv live h.cH }=some (x1,e1,h1))->Q x1 e1 h1 ->
      ∃ x e' h',(∃ M,∀ k j,M<=k->M<=j->pO j (qw live (mN (XN C F Pr fa k) (pO k) c an)) e h=some (x,e',h'))/\Q x e' h':=by
     intro x1 _ hne hm q
     refine ⟨x1,e1,h1,⟨m1+1,λk j hk hj=>?_⟩,q⟩
     obtain ⟨j,rfl⟩:∃ j',j=j'+1:=⟨j - 1,by omega⟩
     grind [pO,sk]
    cases x1 with
    | ns =>
      obtain ⟨m,hlt,hI1⟩:=q1
      obtain ⟨x2,e2,h2,⟨M,hM⟩,q2⟩:=ih m hlt e1 h1 hI1
      refine ⟨x2,e2,h2,⟨max m1 M+1,λk j hk hj=>?_⟩,q2⟩
      obtain ⟨j,rfl⟩:∃ j',j=j'+1:=⟨j - 1,by omega⟩
      grind [pO,sk]
    | ext id=>exact other (.ext id) (λ_ _=>rfl) (by simp) hm1 q1
    | ret=>exact other .ret (λ_ _=>rfl) (by simp) hm1 q1
 intro n e h hI
 obtain ⟨x,e',h',⟨M,hM⟩,q⟩:=key n e h hI
 exact ⟨x,e',h',⟨M,λk hk=>hM k k hk hk⟩,q⟩
def Ij {id:Nat} {ops:Array Oper} {an:ou} (w:mH C F Pr fa ops.toList ops.toList (Q .ns) e h):Wp C F Pr fa (.region id ops false) an Q e h:=by
 obtain ⟨e1,h1,⟨m1,hm1⟩,q1⟩:=w
 exact ⟨.ns,e1,h1,⟨m1,λk hk=>by simp_all [mN,xa,Ie,xM]⟩,q1⟩
def Kb {id:Nat} {ops:Array Oper} {sch:List (Nat×List Nat)} (w:mz C F Pr fa ops.toList sch (Q .ns) e h):Wp C F Pr fa (.region id ops true) (.sD sch) Q e h:=by
 obtain ⟨e1,h1,⟨m1,hm1⟩,q1⟩:=w
 exact ⟨.ns,e1,h1,⟨m1,λk hk=>by simp_all [mN,xa,yR,xM]⟩,q1⟩
variable {all rest:List Oper} {o:Oper} {q:Env->aT->Prop}
def Pw (w:q e h):mH C F Pr fa all [] q e h:=⟨e,h,⟨0,λ_ _=>rfl⟩,w⟩
def zk {v:AV} {h1:aT} (hw:kT all e o=some true) (hop:∃ m,∀ k,m<=k->lB o.op (XN C F Pr fa k) e h o.dst=some (v,h1)) (w:mH C F Pr fa all rest q (kJ e o v) h1):mH C F Pr fa all (o::rest) q e h:=by
 obtain ⟨m,hm⟩:=hop
 obtain ⟨e2,h2,⟨m2,hm2⟩,q2⟩:=w
 refine ⟨e2,h2,⟨max m m2,λk hk=>?_⟩,q2⟩
 grind [yE,rl,zh]
theorem jP {v:AV} {h1:aT} (hw:kT all e o=some true) (hop:∀ call,lB o.op ⟨C,fa,call⟩ e h o.dst=some (v,h1)) (w:mH C F Pr fa all rest q (kJ e o v) h1):mH C F Pr fa all (o::rest) q e h :=
 zk hw ⟨0,λ_ _=>hop _⟩ w
def LP (hw:kT all e o=some false) (w:mH C F Pr fa all rest q (kJ e o (.kq [])) h):mH C F Pr fa all (o::rest) q e h:=by
 obtain ⟨e2,h2,⟨m2,hm2⟩,q2⟩:=w
 refine ⟨e2,h2,⟨m2,λk hk=>?_⟩,q2⟩
 grind [yE,rl]
def Pl (w:q e h):mz C F Pr fa all [] q e h:=⟨e,h,⟨0,λ_ _=>rfl⟩,w⟩
def zj {i:Nat} {sch:List (Nat×List Nat)} {v:AV} {h1:aT} (ho:all[i]?=some o) (hw:kT all e o=some true) (hop:∃ m,∀ k,m<=k->lB o.op (XN C F Pr fa k) e h o.dst=some (v,h1))
  (w:mz C F Pr fa all sch q (kJ e o v) h1):mz C F Pr fa all ((i,[])::sch) q e h:=by
 obtain ⟨m,hm⟩:=hop
 obtain ⟨e2,h2,⟨m2,hm2⟩,q2⟩:=w
 refine ⟨e2,h2,⟨max m m2,λk hk=>?_⟩,q2⟩
 grind [uh,rl,zh]
theorem kp {i:Nat} {sch:List (Nat×List Nat)} {v:AV} {h1:aT} (ho:all[i]?=some o) (hw:kT all e o=some true) (hop:∀ call,lB o.op ⟨C,fa,call⟩ e h o.dst=some (v,h1))
  (w:mz C F Pr fa all sch q (kJ e o v) h1):mz C F Pr fa all ((i,[])::sch) q e h :=
 zj ho hw ⟨0,λ_ _=>hop _⟩ w
def L8 {i:Nat} {sch:List (Nat×List Nat)} (ho:all[i]?=some o) (hw:kT all e o=some false) (w:mz C F Pr fa all sch q (kJ e o (.kq [])) h):mz C F Pr fa all ((i,[])::sch) q e h:=by
 obtain ⟨e2,h2,⟨m2,hm2⟩,q2⟩:=w
 refine ⟨e2,h2,⟨m2,λk hk=>?_⟩,q2⟩
 grind [uh,rl]
def Ds {f:Nat} {g:Operand} {c:Call} {args:List AV} {v:AV} {d:Option Nat} (hf:c.callee=.value g) (hg:ky e g=.kY f [] []) (ha:c.args.toList.map (ky e)=args) (hok:args.all AV.pq=true) (hs:fa.lh.elem f=false)
  (w:ka C F Pr false f args { h with cH:=[] } v { h with cH:=[] }):∃ m,∀ k,m<=k->lB (.call c) (XN C F Pr fa k) e h d=some (v,h):=by
 obtain ⟨m,hm⟩:=w
 refine ⟨m,λk hk=>?_⟩
 simp only [lB,qx,pY,hf,hg,ha,vi,BE,List.nil_append,List.append_nil,hok,hs,hm k hk,xb]
def Ax {f:Nat} {g:Operand} {c:Call} {args p q:List AV} {v:AV} {d:Option Nat} {h':aT} (hf:c.callee=.value g) (hg:ky e g=.kY f p q) (ha:c.args.toList.map (ky e)=args) (hok:(p++args++q).all AV.pq=true) (hs:fa.lh.elem f=true)
  (w:ka C F Pr true f (p++args++q) { h with cH:=[] } v h'):∃ m,∀ k,m<=k->lB (.call c) (XN C F Pr fa k) e h d=some (v,{ h' with cH:=h.cH }):=by
 obtain ⟨m,hm⟩:=w
 refine ⟨m,λk hk=>?_⟩
 simp only [lB,qx,pY,hf,hg,ha,vi,BE,hok,hs,hm k hk,xb]
def Leaves (C:lW) (res:List ResultVar) (R:AV->aT->Prop):Ex->Env->aT->Prop
 | .ext _,_,_=>False
 | _,e,h=>∃ v,leave.leave1 C res e h=some (v,h)/\R v h
def yQ {f:Nat} {args:List AV} {R:AV->aT->Prop} (hP:Pr f=none) (hF:F f=some fa) (hi:fa.iter=false) (w:Wp C F Pr fa fa.body fa.oo (Leaves C fa.res R) (params 0 args) h) :
  ∃ v h',ka C F Pr true f args h v h'/\R v h':=by
 obtain ⟨x,e1,h1,⟨m,hm⟩,q⟩:=w
 have fin:∀ x:Ex,(x=.ns\/x=.ret)->(∀ k,m<=k->mN (XN C F Pr fa k) (pO k) fa.body fa.oo (params 0 args) h=some (x,e1,h1))->(∃ v,leave.leave1 C fa.res e1 h1=some (v,h1)/\R v h1)->∃ v h',ka C F Pr true f args h v h'/\R v h':=by
  rintro x hx hm ⟨v,hv,hR⟩
  refine ⟨v,h1,⟨m+1,λk hk=>?_⟩,hR⟩
  obtain ⟨k,rfl⟩:∃ k',k=k'+1:=⟨k - 1,by omega⟩
  simp only [nM,hP,hF,tu,uv,hi,AM,hm k (by omega)]
  rcases hx with rfl | rfl<;>exact hv
 cases x with
 | ns=>exact fin .ns (.inl rfl) hm q
 | ret=>exact fin .ret (.inr rfl) hm q
 | ext id=>exact q.elim
def KR {f:Nat} {args qL:List AV} {R:AV->Prop} (hP:Pr f=none) (hF:F f=some fa) (hi:fa.iter=false) (ha:oJ h args=some qL)
  (w:Wp C F Pr fa fa.body fa.oo (Leaves C fa.res λv h'=>∃ v1,freeze false h' 8 v=some v1/\R v1) (params 0 qL) aT.empty) :
  ∃ v,ka C F Pr false f args h v h/\R v:=by
 obtain ⟨v,h1,⟨m,hm⟩,v1,hv1,hR⟩:=yQ hP hF hi w
 refine ⟨v1,⟨m+1,λk hk=>?_⟩,hR⟩
 have hb:=hm k (by omega)
 obtain ⟨k,rfl⟩:∃ k',k=k'+1:=⟨k - 1,by omega⟩
 grind [nM,tu,frozen]
end
end Go.Sx
namespace Go.Sx
open Go
section
variable {C:lW} {F:nd} {Pr:mO} {fa:kb} {e:Env} {h:aT} {all rest:List Oper} {o:Oper} {q:Env->aT->Prop}
variable {t u:Nat} {x y:Operand} {k k':IntKind} {a b:Int}
def me {c:BinOp} {X:Ctx} {d:Option Nat} {v:AV} (hx:ky e x=.int k a) (hy:ky e y=.int k' b) (hk:pZ k k'=true) (hv:m3 c k a b=some v):lB (.binOp c t x y u) X e h d=some (v,h):=by
 simp_all [lB,xK,binOp,AV.int?,AF,mA]
def Fz (k:IntKind) (a b:Int):m3 .lss k a b=some (.bool (decide (a<b))):=by
 simp only [m3,Ji,xL,tV,tz]
 grind
def Fy (k:IntKind) (a b:Int):m3 .leq k a b=some (.bool (decide (a<=b))):=by
 simp only [m3,F9,xL,tV,Ac]
def E5 (k:IntKind) (a b:Int):m3 .gtr k a b=some (.bool (decide (a > b))):=by
 simp only [m3,Iu,xL,tV,tz]
 grind
def Ff (k:IntKind) (a b:Int):m3 .geq k a b=some (.bool (decide (a>=b))):=by
 simp_all [m3,Gv,xL,tV,Ac]
def E9 (k:IntKind) (a b:Int):m3 .eql k a b=some (.bool (decide (a=b))):=by
 simp only [m3,Hi,xL,qV,Ac]
 rfl
def FH (k:IntKind) (a b:Int):m3 .neq k a b=some (.bool (decide (a≠b))):=by
 simp only [m3,Je,xL,qV,tz]
 grind
def oZ {p:Prop} [Decidable p] (hw:kT all e o=some true) (hop:∀ call,lB o.op ⟨C,fa,call⟩ e h o.dst=some (.bool (decide p),h))
  (w1:p->mH C F Pr fa all rest q (kJ e o (.bool true)) h) (w2:¬ p->mH C F Pr fa all rest q (kJ e o (.bool false)) h):mH C F Pr fa all (o::rest) q e h:=by
 by_cases hp:p<;>grind [jP]
def sv {X:Ctx} {d:Option Nat} {s r:List UInt8} (hx:ky e x=.str s) (hy:ky e y=.str r):lB (.binOp .eql t x y u) X e h d=some (.bool (decide (s=r)),h):=by
 simp only [lB,xK,binOp,hx,hy,AV.int?,AV.str?,CV,A0,mA]
 grind
theorem tR (k:IntKind) (a b:Int):m3 .add k a b=some (.int k (k.wrap (a+b))):=by
 simp only [m3,I9,sB,pH,qR,BT]
theorem ru (k:IntKind) (a b:Int):m3 .sub k a b=some (.int k (k.wrap (a - b))):=by
 simp only [m3,HW,sB,pH,qR,BT,BR]
 rfl
def zL (a b:Int) (h1 : -9223372036854775808<=a+b) (h2:a+b<=9223372036854775807):m3 .add .i64 a b=some (.int .i64 (a+b)):=by
 rw [tR,zv _ h1 h2]
def E4 (a b:Int) (h1 : -9223372036854775808<=a - b) (h2:a - b<=9223372036854775807):m3 .sub .i64 a b=some (.int .i64 (a - b)):=by
 rw [ru,zv _ h1 h2]
def Of {X:Ctx} {d:Option Nat} {el:Nat} {ti te:TI} {xs:List (List AV)} {c:pb} {n:Int} {r:List AV} (hT:X.C.T t=some ti) (hk:ti.kind=.slice el) (hE:X.C.T el=some te) (hx:ky e x=.sl xs c) (hi:ky e y=.int k n) (h0:0<=n)
  (hr:xs[n.toNat]?=some r) (hl:r.length=te.size):lB (.indexAddr t x y) X e h d=some (.ip r 0 (qW c),h):=by
 obtain ⟨m,rfl⟩:=Int.eq_ofNat_of_zero_le h0
 simp only [Int.toNat_natCast] at hr
 have hai:qy (.int k (m:Int))=some m:=rfl
 simp_all [lB,qU,qj,rU]
end
end Go.Sx
namespace Go.Sx
open Go
section
variable {C:lW} {F:nd} {Pr:mO} {fa:kb} {e:Env} {h:aT} {all rest:List Oper} {o:Oper} {q:Env->aT->Prop} {Q:Ex->Env->aT->Prop}
def jW {c:Code} {live:List Nat} {an:ou} (N:Nat) (I:Nat->Env->aT->Prop)
  (round:∀ k e h,k<=N->I k e h->Wp C F Pr fa c an (vN (λe' h'=>k<N/\I (k+1) e' h') Q) (proj live e) { h with cH:=nv live h.cH }) {k0:Nat} (hk:k0<=N) (h0:I k0 e h):Wp C F Pr fa (.loop c) (.loop live an) Q e h:=by
 refine oe (λn e h=>∃ k,k<=N/\n=N - k/\I k e h) ?_ (N - k0) e h ⟨k0,hk,rfl,h0⟩
 rintro n e h ⟨k,hk,rfl,hI⟩
 refine (round k e h hk hI).mono ?_
 intro x e' h' hx
 cases x with
 | ns =>
   obtain ⟨hlt,hI'⟩:=hx
   exact ⟨N - (k+1),by omega,k+1,by omega,rfl,hI'⟩
 | ext id=>exact hx
 | ret=>exact hx
def ML {f:Nat} {g:Operand} {c:Call} {args:List AV} {R:AV->Prop} (ho:o.op=.call c) (hw:kT all e o=some true) (hf:c.callee=.value g) (hg:ky e g=.kY f [] []) (ha:c.args.toList.map (ky e)=args) (hok:args.all AV.pq=true) (hs:fa.lh.elem f=false)
  (w:∀ h:aT,∃ v,ka C F Pr false f args h v h/\R v) (next:∀ v,R v->mH C F Pr fa all rest q (kJ e o v) h):mH C F Pr fa all (o::rest) q e h:=by
 obtain ⟨v,hc,hR⟩:=w { h with cH:=[] }
 refine zk hw ?_ (next v hR)
 rw [ho]
 exact Ds hf hg ha hok hs hc
end
def DA {C:lW} {F:nd} {Pr:mO} {fa:kb} {f:Nat} {args:List AV} {h:aT} {R:AV->Prop} (hP:Pr f=none) (hF:F f=some fa) (hi:fa.iter=false) (ha:oJ h args=some args)
  (w:Wp C F Pr fa fa.body fa.oo (Leaves C fa.res λv0 h'=>∃ v1,freeze false h' 8 v0=some v1/\R v1) (params 0 args) aT.empty):∃ v,ka C F Pr false f args h v h/\R v:=KR hP hF hi ha w
abbrev ry:Nat:=9223372036854775807
structure abn (R:List AV->Prop) (xs:List (List AV)) (c:pb):Prop where
 row:∀ r∈xs,R r
 len:xs.length<=ry
 sn:qW c=false
end Go.Sx
namespace Go.Sx
open Go
structure Row (α:Type) where
 l:List α
 c:pb
 ok:l.length<=ry
 sn:qW c=false
 nl:c=.nil->l=[]
def Row.av {α:Type} (enc : α->List AV) (r:Row α):AV:=.sl (r.l.map enc) r.c
structure pv where
 l:List UInt8
 ok:l.length<=ry
def j6 (n:Int):List AV:=[.int .i64 n]
def oL (s:pv):List AV:=[.str s.l]
def mI (b:Bool):List AV:=[.bool b]
structure jT where
 elem:Int
 en:Int
 deriving DecidableEq
def jT.ag (x:jT):List AV:=[.int .i64 x.elem,.int .i64 x.en]
structure lV where
 name:pv
 kind:Int
 len:Int
def lV.ag (x:lV):List AV:=[.str x.name.l,.int .i64 x.kind,.int .i64 x.len]
structure lQ where
 a:jT
 b:jT
def lQ.ag (x:lQ):List AV:=[.int .i64 x.a.elem,.int .i64 x.a.en,.int .i64 x.b.elem,.int .i64 x.b.en]
structure lP where
 name:pv
 at_:jT
 auto:Bool
def lP.ag (x:lP):List AV:=[.str x.name.l,.int .i64 x.at_.elem,.int .i64 x.at_.en,.bool x.auto]
structure lr where
 name:pv
 elems:Row Int
def lr.ag (x:lr):List AV:=[.str x.name.l,x.elems.av j6]
structure iF where
 elems:Row lV
 kg:Row lQ
 signals:Row lP
 lines:Row lr
 top:Int
 kU:Int
 kK:Int
 kM:Int
 lq:Bool
def iF.ag (p:iF):List AV:=[p.elems.av lV.ag,p.kg.av lQ.ag,p.signals.av lP.ag,p.lines.av lr.ag,.int .i64 p.top,.int .i64 p.kU,.int .i64 p.kK,.int .i64 p.kM,.bool p.lq]
structure j4 where
 name:pv
 len:Int
 top:Int
 acc:Int
 kU:Int
def j4.ag (x:j4):List AV:=[.str x.name.l,.int .i64 x.len,.int .i64 x.top,.int .i64 x.acc,.int .i64 x.kU]
structure lU where
 xW:Bool
 at_:Int
 end_:Int
 to:Int
def lU.ag (x:lU):List AV:=[.bool x.xW,.int .i64 x.at_,.int .i64 x.end_,.int .i64 x.to]
structure lj where
 name:pv
 j3:Int
 from_:Int
 left:Int
 kH:Row lU
def lj.ag (x:lj):List AV:=[.str x.name.l,.int .i64 x.j3,.int .i64 x.from_,.int .i64 x.left,x.kH.av lU.ag]
structure jV where
 mR:Int
 j3:Row j4
 runs:Row lj
def jV.ag (x:jV):List AV:=[.int .i64 x.mR,x.j3.av j4.ag,x.runs.av lj.ag]
structure kr where
 mode:Int
 lJ:Row jT
 left:Int
 wG:Int
 v:Int
def kr.ag (x:kr):List AV:=[.int .i64 x.mode,x.lJ.av jT.ag,.int .i64 x.left,.int .i64 x.wG,.int .i64 x.v]
structure jY where
 name:pv
 j3:Int
 at_:jT
 left:Int
def jY.ag (x:jY):List AV:=[.str x.name.l,.int .i64 x.j3,.int .i64 x.at_.elem,.int .i64 x.at_.en,.int .i64 x.left]
structure lX where
 out:Int
 pos:Int
def lX.ag (x:lX):List AV:=[.int .i64 x.out,.int .i64 x.pos]
structure kL where
 elem:Int
 qv:Int
 out:Int
def kL.ag (x:kL):List AV:=[.int .i64 x.elem,.int .i64 x.qv,.int .i64 x.out]
structure lI where
 elem:Int
 pos:Int
def lI.ag (x:lI):List AV:=[.int .i64 x.elem,.int .i64 x.pos]
structure kz where
 from_:Int
 to:Int
 end_:Int
 steps:Row kL
 nm:Row lI
 guards:Row lI
 nr:Row Int
 holds:Row Int
 bare:Bool
def kz.ag (x:kz):List AV:=[.int .i64 x.from_,.int .i64 x.to,.int .i64 x.end_,x.steps.av kL.ag,x.nm.av lI.ag,x.guards.av lI.ag,x.nr.av j6,x.holds.av j6,.bool x.bare]
section
variable {C:lW} {F:nd} {Pr:mO} {fa:kb} {e:Env} {h:aT} {all rest:List Oper} {o:Oper} {q:Env->aT->Prop} {Q:Ex->Env->aT->Prop}
variable {α:Type} {enc : α->List AV}
def FX {c:Code} {an:ou} {e':Env} {h':aT} (he:e=e') (hh:h=h') (w:Wp C F Pr fa c an Q e' h'):Wp C F Pr fa c an Q e h:=by grind
def lS {b:Bool} (hw:kT all e o=some true) (hop:∀ call,lB o.op ⟨C,fa,call⟩ e h o.dst=some (.bool b,h))
  (w1:b=true->mH C F Pr fa all rest q (kJ e o (.bool true)) h) (w2:b=false->mH C F Pr fa all rest q (kJ e o (.bool false)) h):mH C F Pr fa all (o::rest) q e h:=by
 cases b<;>grind [jP]
def p9 {i:Nat} {sch:List (Nat×List Nat)} {p:Prop} [Decidable p] (ho:all[i]?=some o) (hw:kT all e o=some true) (hop:∀ call,lB o.op ⟨C,fa,call⟩ e h o.dst=some (.bool (decide p),h))
  (w1:p->mz C F Pr fa all sch q (kJ e o (.bool true)) h) (w2:¬ p->mz C F Pr fa all sch q (kJ e o (.bool false)) h):mz C F Pr fa all ((i,[])::sch) q e h:=by
 by_cases hp:p<;>grind [kp]
def Em {i:Nat} {sch:List (Nat×List Nat)} {b:Bool} (ho:all[i]?=some o) (hw:kT all e o=some true) (hop:∀ call,lB o.op ⟨C,fa,call⟩ e h o.dst=some (.bool b,h))
  (w1:b=true->mz C F Pr fa all sch q (kJ e o (.bool true)) h) (w2:b=false->mz C F Pr fa all sch q (kJ e o (.bool false)) h):mz C F Pr fa all ((i,[])::sch) q e h:=by
 cases b<;>grind [kp]
def Mw {i:Nat} {sch:List (Nat×List Nat)} {f:Nat} {g:Operand} {c:Call} {args:List AV} {R:AV->Prop} (hi:all[i]?=some o) (hw:kT all e o=some true) (ho:o.op=.call c) (hf:c.callee=.value g) (hg:ky e g=.kY f [] []) (ha:c.args.toList.map (ky e)=args) (hok:args.all AV.pq=true) (hs:fa.lh.elem f=false)
  (w:∀ h:aT,∃ v,ka C F Pr false f args h v h/\R v) (next:∀ v,R v->mz C F Pr fa all sch q (kJ e o v) h):mz C F Pr fa all ((i,[])::sch) q e h:=by
 obtain ⟨v,hc,hR⟩:=w { h with cH:=[] }
 refine zj hi hw ?_ (next v hR)
 rw [ho]
 exact Ds hf hg ha hok hs hc
def FL {X:Ctx} {d:Option Nat} {t el:Nat} {x:Operand} {cl:Call} {ti:TI} {r:Row α} (hc:cl.callee=.builtin .len) (ha:cl.args.toList=[x]) (hts:cl.argTypes.toList=[t]) (hT:X.C.T t=some ti) (hk:ti.kind=.slice el) (hx:ky e x=r.av enc) :
  lB (.call cl) X e h d=some (.int .i64 r.l.length,h):=by
 simp_all [lB,qx,pY,oi,xz,vj,wD,Row.av,vP,qX]
theorem wO {X:Ctx} {d:Option Nat} {t el:Nat} {x y:Operand} {ti te:TI} {r:Row α} {k:IntKind} {n:Nat} (hT:X.C.T t=some ti) (hk:ti.kind=.slice el) (hE:X.C.T el=some te) (hx:ky e x=r.av enc) (hi:ky e y=.int k (n:Int))
  (hn:n<r.l.length) (hl:(enc r.l[n]).length=te.size):lB (.indexAddr t x y) X e h d=some (.ip (enc r.l[n]) 0 false,h):=by
 rw [<- r.sn]
 exact Of hT hk hE hx hi (by omega) (r:=enc r.l[n]) (by simp [hn]) hl
def ld {X:Ctx} {d:Option Nat} {t el:Nat} {x y:Operand} {ti te:TI} {r:Row α} {k:IntKind} {n:Int} (hT:X.C.T t=some ti) (hk:ti.kind=.slice el) (hE:X.C.T el=some te) (hx:ky e x=r.av enc) (hi:ky e y=.int k n) (h0:0<=n)
  (hn:n.toNat<r.l.length) (hl:(enc r.l[n.toNat]).length=te.size):lB (.indexAddr t x y) X e h d=some (.ip (enc r.l[n.toNat]) 0 false,h):=by
 grind [wO]
theorem J4 (a b c d:Int):nR [.int .i64 a,.int .i64 b] [.int .i64 c,.int .i64 d]=some (decide (a=c/\b=d)):=by
 simp only [nR,og,wh,AV.int?,pZ,qV]
 have e1:(a==c)=decide (a=c):=rfl
 have e2:(b==d)=decide (b=d):=rfl
 rw [e1,e2]
 by_cases h1:a=c<;>by_cases h2:b=d<;>simp [h1,h2]
def tY {X:Ctx} {dd:Option Nat} {t u:Nat} {x y:Operand} {ti:TI} {a b c d:Int} (hx:ky e x=.agg [.int .i64 a,.int .i64 b]) (hy:ky e y=.agg [.int .i64 c,.int .i64 d])
  (hT:X.C.T t=some ti) (hf:∀ a b:Int,vX ti (.agg [.int .i64 a,.int .i64 b]) (.agg [.int .i64 c,.int .i64 d])=nR [.int .i64 a,.int .i64 b] [.int .i64 c,.int .i64 d]) :
  lB (.binOp .eql t x y u) X e h dd=some (.bool (decide (a=c/\b=d)),h):=by
 simp_all [lB,xK,binOp,AV.int?,AV.str?,yY,J4,mA]
theorem nf {sn:Bool} {hp:aT} {n:Nat} (r:Row α):freeze sn hp (n+1) (Row.av enc r)=some (Row.av enc r):=by
 have:=r.sn
 grind [Row.av,freeze,qW]
theorem np {sn:Bool} {hp:aT} {n:Nat} (k:IntKind) (a:Int):freeze sn hp (n+1) (.int k a)=some (.int k a):=rfl
theorem mY {sn:Bool} {hp:aT} {n:Nat} (a:Bool):freeze sn hp (n+1) (.bool a)=some (.bool a):=rfl
theorem nj {sn:Bool} {hp:aT} {n:Nat} (a:List UInt8):freeze sn hp (n+1) (.str a)=some (.str a):=rfl
theorem PE {sn:Bool} {hp:aT} {n:Nat} (l:List AV):freeze sn hp (n+1) (.agg l)=(match kG (freeze sn hp n) l with
   | some l=>some (.agg l)
   | none=>none):=rfl
def yy {X:Ctx} {d:Option Nat} {t:Nat} {x y:Operand} {ti:TI} {s:List UInt8} {k:IntKind} {n:Nat} (hT:X.C.T t=some ti) (hk:ti.kind=.str) (hx:ky e x=.str s) (hi:ky e y=.int k (n:Int)) (hn:n<s.length):lB (.index t x y) X e h d=some (.int .u8 s[n].toNat,h):=by
 have hai:qy (.int k (n:Int))=some n:=rfl
 simp_all [lB,Bp,yF,AV.str?]
def Row.isNil (r:Row α):Bool:=match r.c with
 | .nil=>true
 | _=>false
def Row.of_nil {r:Row α} (h:r.isNil=true):r.l=[]:=by
 apply r.nl
 grind [Row.isNil]
end
end Go.Sx
namespace Go.Sx
open Go
def nq:AV->Option Nat
 | .hs b _ _ _=>some b
 | .hm b=>some b
 | .ptr b _ _ _=>some b
 | _=>none
def zY {α:Type} (H:aT) (n:Nat) (enc : α->List AV) (v:AV) (l:List α):Prop :=
 (l=[]/\v=.sl [] .nil)\/(v=.sl (l.map enc) (.exact l.length))\/∃ b g,b<H.size/\v=.hs b g 0 l.length/\H.get b=some (.lN g n (l.map enc))
structure zx (H H':aT) (v v':AV):Prop where
 lo:H'.lo=H.lo
 size:H.size<=H'.size
 get:∀ b,b<H.size->nq v≠some b->H'.get b=H.get b
 own:∀ b,nq v'=some b->nq v=some b\/H.size<=b
theorem aT.mU (H:aT) (ls:mW) (b:Nat):({ H with cH:=ls }:aT).get b=H.get b:=rfl
theorem aT.tP (H:aT) (ls:mW) (o:oR):({ H with cH:=ls }:aT).push o = { H.push o with cH:=ls }:=by simp [aT.wZ]
theorem aT.qm (H:aT) (ls:mW) (b:Nat) (o:oR):({ H with cH:=ls }:aT).set b o = { H.set b o with cH:=ls }:=by simp [aT.yN]
def zx.refl (H:aT) (v:AV):zx H H v v:=⟨rfl,Nat.le_refl _,λ_ _ _=>rfl,λ_ h=>.inl h⟩
theorem zY.mw {α:Type} {H H':aT} {n:Nat} {enc : α->List AV} {v v' w:AV} {l:List α} (h:zY H n enc w l) (k:zx H H' v v') (hd:∀ b,nq w=some b->nq v≠some b):zY H' n enc w l:=by
 rcases h with h | h | ⟨b,g,hb,rfl,hg⟩
 ·exact .inl h
 ·exact .inr (.inl h)
 ·exact .inr (.inr ⟨b,g,Nat.lt_of_lt_of_le hb k.size,rfl,by rw [k.get b hb (hd b rfl)]; exact hg⟩)
def zY.lt {α:Type} {H:aT} {n:Nat} {enc : α->List AV} {w:AV} {l:List α} (h:zY H n enc w l):∀ b,nq w=some b->b<H.size:=by
 rcases h with ⟨_,rfl⟩ | rfl | ⟨b,g,hb,rfl,hg⟩<;>grind [nq]
def zx.apart {H H':aT} {v v' w:AV} (k:zx H H' v v') (hd:∀ b,nq w=some b->nq v≠some b) (hl:∀ b,nq w=some b->b<H.size):∀ b,nq w=some b->nq v'≠some b:=by
 intro b hw hv
 rcases k.own b hv with h | h<;>grind
def yi (v w:AV):Prop:=∀ b,nq v=some b->nq w≠some b
theorem yi.symm {v w:AV} (h:yi v w):yi w v:=λb hw hv=>h b hv hw
def yi.nil {w:AV} {xs:List (List AV)} {c:pb}:yi (.sl xs c) w:=λb h=>by simp [nq] at h
theorem yi.mw {α:Type} {H H':aT} {n:Nat} {enc : α->List AV} {v v' w:AV} {l:List α} (hd:yi v w) (k:zx H H' v v') (h:zY H n enc w l):yi v' w:=yi.symm (k.apart hd.symm h.lt)
theorem zY.I2 {α:Type} {H:aT} {n:Nat} {enc : α->List AV} {v:AV} {l:List α} (h:zY H n enc v l) (t:Nat):Go.Sx.mw t v=v:=by
 rcases h with ⟨_,rfl⟩ | rfl | ⟨_,_,_,rfl,_⟩<;>rfl
section
variable {C:lW} {F:nd} {Pr:mO} {fa:kb} {e:Env} {all rest:List Oper} {o:Oper} {q:Env->aT->Prop}
variable {α:Type} {enc : α->List AV}
theorem zY.pq {H:aT} {n:Nat} {v:AV} {l:List α} (hb:zY H n enc v l):AV.pq v=true:=by
 rcases hb with ⟨rfl,rfl⟩ | rfl | ⟨b,g,hlt,rfl,hg⟩<;>rfl
def lL {C:lW} {res:List ResultVar} {e:Env} {h:aT} {vs:List AV} (h1:BY C e h res=some vs) (h2:vs.all AV.pq=true):leave.leave1 C res e h=some (result vs,h):=by
 grind [leave.leave1]
def Row.take (r:Row α) (k:Nat):Row α:=⟨r.l.take k,r.c,by have:=r.ok; grind,r.sn,λh=>by rw [r.nl h]; simp⟩
def xw {X:Ctx} {d:Option Nat} {t el n k:Nat} {x y:Operand} {ti te:TI} {h:aT} {r:Row α} {kd:IntKind} (hT:X.C.T t=some ti) (hk:ti.kind=.slice el) (hE:X.C.T el=some te) (hx:ky e x=r.av enc) (hy:ky e y=.int kd (k:Int)) (hn:te.size=n) (hkl:k<=r.l.length) (henc:∀ x,(enc x).length=n) :
  lB (.slice t x none (some y) none) X e h d=some ((r.take k).av enc,h):=by
 have hai:qy (.int kd (k:Int))=some k:=rfl
 have h0:Nat.ble 0 k=true:=Nat.ble_eq.mpr (Nat.zero_le _)
 have h1:Nat.ble k (r.l.map enc).length=true:=Nat.ble_eq.mpr (by grind)
 have h2:pE n (r.l.map enc)=true:=by
  cases r.l with
  | nil=>rfl
  | cons a l=>simp_all [pE]
 have h3:qD 0 r.c=r.c:=by cases r.c<;>rfl
 simp only [lB,qG,qa,hT,hk,hE,hx,hy,Row.av,slice,uq,po,bound,hai,qQ,hn,h1,h2,h0,Bool.true_and,Bool.and_true,List.drop_zero,Nat.sub_zero,qB,h3,mA,Row.take,List.map_take]
end
end Go.Sx
namespace Go.Sx
open Go
def look {κ β:Type} [DecidableEq κ] (k : κ):List (κ×β)->Option β
 | []=>none
 | x::l=>if k=x.1 then some x.2 else look k l
def lE {κ β:Type} (ek : κ->AV) (ev : β->AV) (l:List (κ×β)):List (AV×AV):=l.map λx=>(ek x.1,ev x.2)
def pK (p:jT):AV:=.agg p.ag
def iK (n:Int):AV:=.int .i64 n
def tg (p:Int×Int):AV:=.agg [.int .i64 p.1,.int .i64 p.2]
structure iS where
 p:iF
 next:List (jT×jT)
 reads:List (jT×Int)
 line:List (Int×Int×Int)
 lead:List (Int×Int)
def iS.ag (n:iS):List AV:=[n.p.elems.av lV.ag,n.p.kg.av lQ.ag,n.p.signals.av lP.ag,n.p.lines.av lr.ag,.int .i64 n.p.top,.int .i64 n.p.kU,.int .i64 n.p.kK,.int .i64 n.p.kM,.bool n.p.lq,
 .fm (lE pK pK n.next) false,.fm (lE pK iK n.reads) false,.fm (lE iK tg n.line) false,.fm (lE iK iK n.lead) false]
def nD (a b:jT):nG (pK a) (pK b)=some (decide (a=b)):=by
 have h:(a=b)↔(a.elem=b.elem/\a.en=b.en):=by cases a; cases b; simp
 grind [nG,pK,jT.ag,AV.agg?,Bi,J4]
def pB (a b:Int):nG (iK a) (iK b)=some (decide (a=b)):=by
 simp only [nG,iK,AV.agg?,og,wh,AV.int?,pZ,qV]
 rfl
theorem D9 {κ β:Type} [DecidableEq κ] {ek : κ->AV} {ev : β->AV} (hk:∀ a b,nG (ek a) (ek b)=some (decide (a=b))) (k : κ) (l:List (κ×β)):si (ek k) (lE ek ev l)=some ((look k l).map ev):=by
 induction l<;>grind [lE,si,look]
section
variable {C:lW} {F:nd} {Pr:mO} {fa:kb} {e:Env} {h:aT} {all rest:List Oper} {o:Oper} {q:Env->aT->Prop}
variable {κ β:Type} [DecidableEq κ] {ek : κ->AV} {ev : β->AV}
theorem zp {X:Ctx} {d:Option Nat} {t kt el:Nat} {m k:Operand} {tm te:TI} {key : κ} {l:List (κ×β)} {z:AV} {s:Bool} (hT:X.C.T t=some tm) (hk:tm.kind=.map kt el) (hE:X.C.T el=some te) (hm:ky e m=.fm (lE ek ev l) s) (hkk:ky e k=ek key) (hK:rZ X.C kt (ek key)=true) (hz:asAgg te te.zero=some z) (hke:∀ a b,nG (ek a) (ek b)=some (decide (a=b))) :
  lB (.lookup t m k true) X e h d=some (match look key l with
   | some v=>.kq [ev v,.bool true]
   | none=>.kq [z,.bool false],h):=by
 simp only [lB,uL,sy,hT,hk,hE,hkk,hK,hm,rW,D9 hke]
 grind [look,zA,mA]
def vv {t kt el:Nat} {m k:Operand} {tm te:TI} {key : κ} {l:List (κ×β)} {z:AV} {s:Bool} (hw:kT all e o=some true) (ho:o.op=.lookup t m k true) (hT:C.T t=some tm) (hk:tm.kind=.map kt el) (hE:C.T el=some te) (hm:ky e m=.fm (lE ek ev l) s) (hkk:ky e k=ek key) (hK:rZ C kt (ek key)=true) (hz:asAgg te te.zero=some z) (hke:∀ a b,nG (ek a) (ek b)=some (decide (a=b)))
  (w1:∀ v,look key l=some v->mH C F Pr fa all rest q (kJ e o (.kq [ev v,.bool true])) h) (w2:look key l=none->mH C F Pr fa all rest q (kJ e o (.kq [z,.bool false])) h):mH C F Pr fa all (o::rest) q e h:=by
 cases hl:look key l with
 | none=>exact jP hw (λcall=>by rw [ho,zp hT hk hE hm hkk hK hz hke,hl]) (w2 hl)
 | some v=>exact jP hw (λcall=>by rw [ho,zp hT hk hE hm hkk hK hz hke,hl]) (w1 v hl)
def Et {i:Nat} {sch:List (Nat×List Nat)} {t kt el:Nat} {m k:Operand} {tm te:TI} {key : κ} {l:List (κ×β)} {z:AV} {s:Bool} (hi:all[i]?=some o) (hw:kT all e o=some true) (ho:o.op=.lookup t m k true) (hT:C.T t=some tm) (hk:tm.kind=.map kt el) (hE:C.T el=some te) (hm:ky e m=.fm (lE ek ev l) s) (hkk:ky e k=ek key) (hK:rZ C kt (ek key)=true) (hz:asAgg te te.zero=some z) (hke:∀ a b,nG (ek a) (ek b)=some (decide (a=b)))
  (w1:∀ v,look key l=some v->mz C F Pr fa all sch q (kJ e o (.kq [ev v,.bool true])) h) (w2:look key l=none->mz C F Pr fa all sch q (kJ e o (.kq [z,.bool false])) h):mz C F Pr fa all ((i,[])::sch) q e h:=by
 cases hl:look key l with
 | none=>exact kp hi hw (λcall=>by rw [ho,zp hT hk hE hm hkk hK hz hke,hl]) (w2 hl)
 | some v=>exact kp hi hw (λcall=>by rw [ho,zp hT hk hE hm hkk hK hz hke,hl]) (w1 v hl)
end
end Go.Sx
namespace Go.Sx
open Go
inductive lC where
 | sl (w t:Bool) (v:AV) (n:Nat) (xs:List (List AV))
 | map (v:AV) (es:List (AV×AV))
 | obj (v:AV) (cs:List AV)
def lC.v:lC->AV
 | .sl _ _ v _ _=>v
 | .map v _=>v
 | .obj v _=>v
def pr (es:List (AV×AV×Nat)):List (AV×AV):=es.map λx=>(x.1,x.2.1)
def vJ (es:List (AV×AV×Nat)) (c:Nat):Prop:=(∀ x∈es,x.2.2<c)/\es.Pairwise λa b=>a.2.2≠b.2.2
def vJ.snoc {es:List (AV×AV×Nat)} {c:Nat} (h:vJ es c) (k v:AV):vJ (es++[(k,v,c)]) (c+1):=by
 refine ⟨λx hx=>?_,List.pairwise_append.mpr ⟨h.2,by simp,λa ha b hb=>?_⟩⟩
 ·rcases List.mem_append.mp hx with hx | hx
  ·have:=h.1 x hx; omega
  grind
 ·simp at hb; subst hb; have:=h.1 a ha; grind
def vJ.modify {es:List (AV×AV×Nat)} {c:Nat} (h:vJ es c) (i:Nat) (f:AV×AV×Nat->AV×AV×Nat) (hf:∀ e,(f e).2.2=e.2.2):vJ (es.modify i f) c:=by
 have hm:(es.modify i f).map (λx=>x.2.2)=es.map (λx=>x.2.2):=by
  apply List.ext_getElem (by simp)
  grind
 have h1:∀ x∈(es.modify i f).map (λx=>x.2.2),x<c:=by
  rw [hm]; intro x hx; obtain ⟨y,hy,rfl⟩:=List.mem_map.mp hx; exact h.1 y hy
 refine ⟨λx hx=>h1 _ (List.mem_map_of_mem hx),?_⟩
 have h2:((es.modify i f).map (λx=>x.2.2)).Pairwise (·≠·):=by
  rw [hm,List.pairwise_map]; exact h.2
 grind
def lC.ok (H:aT):lC->Prop
 | .sl w t v n xs=>(∀ x∈xs,x.length=n)/\((xs=[]/\v=.sl [] .nil)\/((w=false\/xs=[])/\v=.sl xs (.exact xs.length))\/∃ b g j,b<H.size/\v=.hs b g 0 xs.length/\H.get b=some (.lN g n (xs++j))/\(t=true->j=[]))
 | .map v es=>∃ b es' c,b<H.size/\v=.hm b/\H.get b=some (.map es' c)/\pr es'=es/\vJ es' c
 | .obj v cs=>∃ b z,b<H.size/\v=.ptr b 0 0 0/\H.get b=some (.lN 0 z [cs])
structure Sep (H:aT) (L:List lC):Prop where
 lo:H.lo<=H.size
 ok:∀ r∈L,r.ok H
 AP:L.Pairwise λa b=>yi a.v b.v
def kV:Sep aT.empty []:=⟨Nat.le_refl _,by simp,.nil⟩
theorem lC.ok.mw {H H':aT} {r:lC} (h:r.ok H) (hs:H.size<=H'.size) (hg:∀ b,b<H.size->nq r.v=some b->H'.get b=H.get b):r.ok H':=by
 cases r with
 | sl w t v n xs =>
   obtain ⟨hl,h | h | ⟨b,g,j,hb,rfl,hq,ht⟩⟩:=h
   ·exact ⟨hl,.inl h⟩
   ·exact ⟨hl,.inr (.inl h)⟩
   ·exact ⟨hl,.inr (.inr ⟨b,g,j,by omega,rfl,by rw [hg b hb rfl]; exact hq,ht⟩)⟩
 | map v es =>
   obtain ⟨b,es',c,hb,rfl,hq,he,hst⟩:=h
   exact ⟨b,es',c,by omega,rfl,by rw [hg b hb rfl]; exact hq,he,hst⟩
 | obj v cs =>
   obtain ⟨b,z,hb,rfl,hq⟩:=h
   exact ⟨b,z,by omega,rfl,by rw [hg b hb rfl]; exact hq⟩
def lC.ok.lt {H:aT} {r:lC} (h:r.ok H):∀ b,nq r.v=some b->b<H.size:=by
 intro b0 hb0
 cases r with
 | sl w t v n xs =>
   obtain ⟨hl,⟨_,rfl⟩ | ⟨_,rfl⟩ | ⟨b,g,j,hb,rfl,hq,ht⟩⟩:=h<;>simp [nq,lC.v] at hb0
   omega
 | map v es =>
   obtain ⟨b,es',c,hb,rfl,hq,he,hst⟩:=h
   grind [nq,lC.v]
 | obj v cs =>
   obtain ⟨b,z,hb,rfl,hq⟩:=h
   grind [nq,lC.v]
def lC.ok.DD {H:aT} {r:lC} (h:r.ok H):AV.mC r.v=true/\(∀ t,Go.Sx.mw t r.v=r.v)/\AV.pq r.v=true:=by
 cases r with
 | sl w t v n xs =>
   obtain ⟨hl,⟨_,rfl⟩ | ⟨_,rfl⟩ | ⟨b,g,j,hb,rfl,hq,ht⟩⟩:=h<;>exact ⟨rfl,λ_=>rfl,rfl⟩
 | map v es=>obtain ⟨b,es',c,hb,rfl,hq,he,hst⟩:=h; exact ⟨rfl,λ_=>rfl,rfl⟩
 | obj v cs=>obtain ⟨b,z,hb,rfl,hq⟩:=h; exact ⟨rfl,λ_=>rfl,rfl⟩
theorem Sep.at {H:aT} {L:List lC} (h:Sep H L) {i:Nat} {r:lC} (hi:L[i]?=some r):r.ok H:=h.ok r (List.mem_of_getElem? hi)
theorem Sep.I2 {H:aT} {L:List lC} (h:Sep H L) {i:Nat} {r:lC} (hi:L[i]?=some r) (t:Nat):Go.Sx.mw t r.v=r.v:=(h.at hi).DD.2.1 t
def Sep.cell {H:aT} {L:List lC} (h:Sep H L) {i:Nat} {r:lC} (hi:L[i]?=some r):AV.mC r.v=true:=(h.at hi).DD.1
def Sep.arg {H:aT} {L:List lC} (h:Sep H L) {i:Nat} {r:lC} (hi:L[i]?=some r):AV.pq r.v=true:=(h.at hi).DD.2.2
theorem Sep.oO {H H':aT} {L:List lC} (h:Sep H L) {i:Nat} {r r':lC} (hi:L[i]?=some r) (hlo:H'.lo<=H'.size) (hs:H.size<=H'.size) (hr:r'.ok H') (hg:∀ b,b<H.size->nq r.v≠some b->H'.get b=H.get b) (ho:∀ b,nq r'.v=some b->nq r.v=some b\/H.size<=b):Sep H' (L.set i r'):=by
 have hil:i<L.length:=(List.getElem?_eq_some_iff.mp hi).1
 have hri:L[i]=r:=(List.getElem?_eq_some_iff.mp hi).2
 have hp:=List.pairwise_iff_getElem.mp h.AP
 have AP:∀ j (hj:j<L.length),j≠i->yi r.v L[j].v:=by
  intro j hj hne
  rcases Nat.lt_or_gt_of_ne hne with hlt | hlt
  ·have:=hp j i hj hil hlt; rw [hri] at this; exact this.symm
  grind
 have apt':∀ j (hj:j<L.length),j≠i->yi r'.v L[j].v:=by
  intro j hj hne b hb hb'
  rcases ho b hb with hx | hx
  ·exact AP j hj hne b hx hb'
  ·exact absurd ((h.ok _ (List.getElem_mem hj)).lt b hb') (by omega)
 refine ⟨hlo,?_,?_⟩
 ·intro x hx
  obtain ⟨j,hj,rfl⟩:=List.mem_iff_getElem.mp hx
  rw [List.length_set] at hj
  rw [List.getElem_set]
  split
  ·exact hr
  ·rename_i hne
   refine (h.ok _ (List.getElem_mem hj)).mw hs ?_
   intro b hb hbl
   exact hg b hb λhq=>AP j hj (Ne.symm hne) b hq hbl
 ·rw [List.pairwise_iff_getElem]
  intro j k hj hk hjk
  rw [List.length_set] at hj hk
  simp only [List.getElem_set]
  split
  ·grind
  ·split
   ·rename_i h1 h2; exact (apt' j hj (Ne.symm h1)).symm
   grind
def Sep.new {H H':aT} {L:List lC} (h:Sep H L) {r':lC} (hlo:H'.lo<=H'.size) (hs:H.size<=H'.size) (hr:r'.ok H') (hg:∀ b,b<H.size->H'.get b=H.get b) (ho:∀ b,nq r'.v=some b->H.size<=b):Sep H' (r'::L):=by
 refine ⟨hlo,?_,.cons ?_ h.AP⟩
 ·intro x hx
  rcases List.mem_cons.mp hx with rfl | hx
  ·exact hr
  ·exact (h.ok x hx).mw hs λb hb _=>hg b hb
 ·intro x hx b hb hb'
  exact absurd ((h.ok x hx).lt b hb') (by grind)
def Sep.mf {H:aT} {L:List lC} (h:Sep H L) (n:Nat):Sep H (.sl true true (.sl [] .nil) n []::L):=h.new h.lo (Nat.le_refl _) ⟨by simp,.inl ⟨rfl,rfl⟩⟩ (λ_ _=>rfl) (λb hb=>by simp [nq,lC.v] at hb)
def Sep.OP {H:aT} {L:List lC} (h:Sep H L) (n:Nat) (xs:List (List AV)) (hn:∀ x∈xs,x.length=n) {k:Nat} (hk:k=xs.length):Sep H (.sl false true (.sl xs (.exact k)) n xs::L):=by
 subst hk
 exact h.new h.lo (Nat.le_refl _) ⟨hn,.inr (.inl ⟨.inl rfl,rfl⟩)⟩ (λ_ _=>rfl) (λb hb=>by simp [nq,lC.v] at hb)
def Sep.oq {H:aT} {L:List lC} (h:Sep H L) (n:Nat):Sep H (.sl true true (.sl [] (.exact 0)) n []::L):=h.new h.lo (Nat.le_refl _) ⟨by simp,.inr (.inl ⟨.inr rfl,rfl⟩)⟩ (λ_ _=>rfl) (λb hb=>by simp [nq,lC.v] at hb)
def Pe {α:Type} {R : α->α->Prop} (hs:∀ a b,R a b->R b a) {L:List α} (h:L.Pairwise R) {i j:Nat} (hi:i<L.length) (hj:j<L.length) (hne:i≠j):R L[i] L[j]:=by
 have hp:=List.pairwise_iff_getElem.mp h
 grind
def U9 (is:List Nat) (n:Nat) (L:List lC):List lC:=is.filterMap (L[·]?)++L.drop n
def Sep.pick {H:aT} {L:List lC} (h:Sep H L) (is:List Nat) (n:Nat) (hn:is.Nodup) (hlt:∀ i∈is,i<n):Sep H (U9 is n L):=by
 have hp:=List.pairwise_iff_getElem.mp h.AP
 refine ⟨h.lo,?_,List.pairwise_append.mpr ⟨?_,h.AP.sublist (List.drop_sublist _ _),?_⟩⟩
 ·intro x hx
  rcases List.mem_append.mp hx with hx | hx
  ·obtain ⟨i,_,hi⟩:=List.mem_filterMap.mp hx
   exact h.ok x (List.mem_of_getElem? hi)
  ·exact h.ok x (List.mem_of_mem_drop hx)
 ·rw [List.pairwise_filterMap]
  refine hn.imp ?_
  intro i j hne x hx y hy
  obtain ⟨hi,rfl⟩:=List.getElem?_eq_some_iff.mp hx
  obtain ⟨hj,rfl⟩:=List.getElem?_eq_some_iff.mp hy
  exact Pe (λa b hab=>hab.symm) h.AP hi hj hne
 ·intro x hx y hy
  obtain ⟨i,hmem,hi⟩:=List.mem_filterMap.mp hx
  obtain ⟨hil,rfl⟩:=List.getElem?_eq_some_iff.mp hi
  obtain ⟨j,hj,rfl⟩:=List.mem_iff_getElem.mp hy
  grind
theorem Sep.cH {H:aT} {L:List lC} (h:Sep H L) (ls:mW):Sep { H with cH:=ls } L:=by
 refine ⟨h.lo,λr hr=>(h.ok r hr).mw (Nat.le_refl _) λ_ _ _=>rfl,h.AP⟩
section
variable {κ β:Type} [DecidableEq κ] {ek : κ->AV} {ev : β->AV}
def put (k : κ) (x : β):List (κ×β)->List (κ×β)
 | []=>[(k,x)]
 | p::l=>if k=p.1 then (k,x)::l else p::put k x l
theorem tq (k k' : κ) (x : β) (l:List (κ×β)):look k (put k' x l)=if k=k' then some x else look k l:=by
 induction l<;>grind [put,look]
def tw (hk:∀ a b,nG (ek a) (ek b)=some (decide (a=b))) (k : κ) (l:List (κ×β)) (es:List (AV×AV×Nat)) (he:pr es=lE ek ev l) (i:Nat) :
  (look k l=none->findKey (ek k) es i=some none)/\(∀ x,look k l=some x->∃ j,findKey (ek k) es i=some (some (i+j,ev x))/\j<es.length/\∀ y (f:AV×AV×Nat->AV×AV×Nat),(∀ e,(f e).1=ek k/\(f e).2.1=ev y)->pr (es.modify j f)=lE ek ev (put k y l))/\(look k l=none->∀ y c,pr (es++[(ek k,ev y,c)])=lE ek ev (put k y l)):=by
 induction l generalizing es i with
 | nil =>
   cases es with
   | nil=>exact ⟨λ_=>rfl,λ_ h=>by simp [look] at h,λ_ _ _=>rfl⟩
   | cons e es=>simp [pr,lE] at he
 | cons p l ih =>
   cases es with
   | nil=>simp [pr,lE] at he
   | cons e es =>
     obtain ⟨a,b,c⟩:=e
     simp only [pr,lE,List.map_cons,List.cons.injEq,Prod.mk.injEq] at he
     obtain ⟨⟨rfl,rfl⟩,he⟩:=he
     obtain ⟨i1,i2,i3⟩:=ih es he (i+1)
     by_cases h:k=p.1
     ·simp_all [look,findKey,f1,pr,put,lE]
     ·refine ⟨λhn=>?_,λx hx=>?_,λhn y c'=>?_⟩
      ·grind [look,findKey]
      ·simp only [look,h,if_false] at hx
       obtain ⟨j,hj,hl,hm⟩:=i2 x hx
       refine ⟨j+1,?_,by simpa using hl,λy f hf=>?_⟩<;>grind [findKey,pr,put,lE]
      grind [look,pr,put,lE]
end
section
variable {C:lW} {F:nd} {Pr:mO} {fa:kb} {e:Env} {all rest:List Oper} {o:Oper} {q:Env->aT->Prop}
variable {H:aT} {ls:mW} {L:List lC} {i:Nat}
def kn {P:AV->aT->Prop} (hw:kT all e o=some true) (hop:∃ v H',(∀ call,lB o.op ⟨C,fa,call⟩ e { H with cH:=ls } o.dst=some (v,{ H' with cH:=ls }))/\P v H') (next:∀ v H',P v H'->mH C F Pr fa all rest q (kJ e o v) { H' with cH:=ls }):mH C F Pr fa all (o::rest) q e { H with cH:=ls }:=by
 grind [jP]
def lH {j:Nat} {sch:List (Nat×List Nat)} {P:AV->aT->Prop} (hj:all[j]?=some o) (hw:kT all e o=some true) (hop:∃ v H',(∀ call,lB o.op ⟨C,fa,call⟩ e { H with cH:=ls } o.dst=some (v,{ H' with cH:=ls }))/\P v H') (next:∀ v H',P v H'->mz C F Pr fa all sch q (kJ e o v) { H' with cH:=ls }):mz C F Pr fa all ((j,[])::sch) q e { H with cH:=ls }:=by
 grind [kp]
def nP {t:Nat} {d:Option Nat} (hS:Sep H L):∃ v H',(∀ call,lB (.makeMap t none) ⟨C,fa,call⟩ e { H with cH:=ls } d=some (v,{ H' with cH:=ls }))/\∃ b,v=.hm b/\Sep H' (.map (.hm b) []::L):=by
 have hlo:=hS.lo
 refine ⟨.hm H.size,H.push (.map [] 0),λcall=>?_,H.size,rfl,?_⟩
 ·simp only [lB,Dw,aT.tP]
 ·refine hS.new (by simp; omega) (by simp) ⟨H.size,[],0,by simp,rfl,?_,rfl,by simp,by simp⟩ ?_ ?_<;>grind [aT.pG,nq,lC.v]
variable {κ β:Type} [DecidableEq κ] {ek : κ->AV} {ev : β->AV}
def oY {t:Nat} {m k x:Operand} {d:Option Nat} {v:AV} {l:List (κ×β)} (key : κ) (y : β) (hS:Sep H L) (hi:L[i]?=some (.map v (lE ek ev l))) (hm:ky e m=v) (hk:ky e k=ek key) (hx:ky e x=ev y) (hK:mapKey C t (ek key)=true) (hV:AV.zy (ev y)=true) (hke:∀ a b,nG (ek a) (ek b)=some (decide (a=b))) :
  ∃ w H',(∀ call,lB (.mapUpdate t m k x) ⟨C,fa,call⟩ e { H with cH:=ls } d=some (w,{ H' with cH:=ls }))/\w=.undef/\Sep H' (L.set i (.map v (lE ek ev (put key y l)))):=by
 obtain ⟨b,es,c,hb,rfl,hg,he,hst⟩:=hS.at hi
 have hlob:H.lo<=b:=aT.pz hg
 obtain ⟨f1,f2,f3⟩:=tw (ek:=ek) (ev:=ev) hke key l es he 0
 have fin:∀ es' c',yZ (ek key) (ev y) es c=some (es',c')->pr es'=lE ek ev (put key y l)->vJ es' c'->∃ w H',(∀ call,lB (.mapUpdate t m k x) ⟨C,fa,call⟩ e { H with cH:=ls } d=some (w,{ H' with cH:=ls }))/\w=.undef/\Sep H' (L.set i (.map (.hm b) (lE ek ev (put key y l)))):=by
  intro es' c' hu hun hst'
  refine ⟨.undef,H.set b (.map es' c'),λcall=>?_,rfl,?_⟩
  ·simp_all [lB,uD,uw,aT.mU,aT.qm]
  ·refine hS.oO hi (by simpa using hS.lo) (by simp) ⟨b,es',c',by simp_all,rfl,?_,hun,hst'⟩ ?_ ?_
   ·grind [aT.nI]
   ·intro b' hb' hne
    rw [aT.nI,if_neg (by rintro ⟨rfl,_⟩; exact hne rfl)]
   ·intro b' hb'; exact .inl hb'
 cases hl:look key l with
 | none=>exact fin (es++[(ek key,ev y,c)]) (c+1) (by grind [yZ,f1]) (f3 hl y c) (hst.snoc _ _)
 | some x0 =>
   obtain ⟨j,hj,hjl,hjm⟩:=f2 x0 hl
   exact fin _ c (by grind [yZ]) (hjm y (λe=>(ek key,ev y,e.2.2)) λ_=>⟨rfl,rfl⟩) (hst.modify _ _ λ_=>rfl)
theorem xY {t kt el:Nat} {m k:Operand} {tm te:TI} {d:Option Nat} {v z:AV} {l:List (κ×β)} {ok:Bool} (key : κ) (hS:Sep H L) (hi:L[i]?=some (.map v (lE ek ev l))) (hT:C.T t=some tm) (hkd:tm.kind=.map kt el) (hE:C.T el=some te) (hm:ky e m=v) (hk:ky e k=ek key) (hK:rZ C kt (ek key)=true) (hz:asAgg te te.zero=some z) (hke:∀ a b,nG (ek a) (ek b)=some (decide (a=b))) (call:se) :
  lB (.lookup t m k ok) ⟨C,fa,call⟩ e { H with cH:=ls } d=match zA ok (look key l).isSome (match look key l with
   | some x=>ev x
   | none=>z) with
   | some r=>some (r,{ H with cH:=ls })
   | none=>none:=by
 obtain ⟨b,es,c,hb,rfl,hg,he,hst⟩:=hS.at hi
 obtain ⟨f1,f2,f3⟩:=tw (ek:=ek) (ev:=ev) hke key l es he 0
 cases hl:look key l with
 | none=>simp only [lB,uL,sy,hT,hkd,hE,hk,hK,hm,rW,aT.mU,hg,f1 hl,hz,Option.isSome_none]; rfl
 | some x0 =>
   obtain ⟨j,hj,_⟩:=f2 x0 hl
   simp only [lB,uL,sy,hT,hkd,hE,hk,hK,hm,rW,aT.mU,hg,hj,Option.isSome_some]
   rfl
end
section
variable {C:lW} {F:nd} {Pr:mO} {fa:kb} {e:Env} {all rest:List Oper} {o:Oper} {q:Env->aT->Prop}
variable {H:aT} {ls:mW} {L:List lC} {i:Nat}
variable {κ β:Type} [DecidableEq κ] {ek : κ->AV} {ev : β->AV}
def OS (ok b:Bool) (v:AV):AV:=match ok with
 | true=>.kq [v,.bool b]
 | false=>v
def nW {t kt el:Nat} {m k:Operand} {tm te:TI} {v z:AV} {l:List (κ×β)} {ok:Bool} (key : κ) (hw:kT all e o=some true) (ho:o.op=.lookup t m k ok) (hS:Sep H L) (hi:L[i]?=some (.map v (lE ek ev l))) (hT:C.T t=some tm) (hkd:tm.kind=.map kt el) (hE:C.T el=some te) (hm:ky e m=v) (hk:ky e k=ek key) (hK:rZ C kt (ek key)=true) (hz:asAgg te te.zero=some z) (hke:∀ a b,nG (ek a) (ek b)=some (decide (a=b)))
  (w1:∀ x,look key l=some x->mH C F Pr fa all rest q (kJ e o (OS ok true (ev x))) { H with cH:=ls }) (w2:look key l=none->mH C F Pr fa all rest q (kJ e o (OS ok false z)) { H with cH:=ls }):mH C F Pr fa all (o::rest) q e { H with cH:=ls }:=by
 cases hl:look key l with
 | none=>exact jP hw (λcall=>by rw [ho,xY key hS hi hT hkd hE hm hk hK hz hke call,hl]; cases ok<;>rfl) (w2 hl)
 | some x=>exact jP hw (λcall=>by rw [ho,xY key hS hi hT hkd hE hm hk hK hz hke call,hl]; cases ok<;>rfl) (w1 x hl)
def KF {j:Nat} {sch:List (Nat×List Nat)} {t kt el:Nat} {m k:Operand} {tm te:TI} {v z:AV} {l:List (κ×β)} {ok:Bool} (key : κ) (hj:all[j]?=some o) (hw:kT all e o=some true) (ho:o.op=.lookup t m k ok) (hS:Sep H L) (hi:L[i]?=some (.map v (lE ek ev l))) (hT:C.T t=some tm) (hkd:tm.kind=.map kt el) (hE:C.T el=some te) (hm:ky e m=v) (hk:ky e k=ek key) (hK:rZ C kt (ek key)=true) (hz:asAgg te te.zero=some z) (hke:∀ a b,nG (ek a) (ek b)=some (decide (a=b)))
  (w1:∀ x,look key l=some x->mz C F Pr fa all sch q (kJ e o (OS ok true (ev x))) { H with cH:=ls }) (w2:look key l=none->mz C F Pr fa all sch q (kJ e o (OS ok false z)) { H with cH:=ls }):mz C F Pr fa all ((j,[])::sch) q e { H with cH:=ls }:=by
 cases hl:look key l with
 | none=>exact kp hj hw (λcall=>by rw [ho,xY key hS hi hT hkd hE hm hk hK hz hke call,hl]; cases ok<;>rfl) (w2 hl)
 | some x=>exact kp hj hw (λcall=>by rw [ho,xY key hS hi hT hkd hE hm hk hK hz hke call,hl]; cases ok<;>rfl) (w1 x hl)
def yl {es:List (AV×AV×Nat)} (hp:es.Pairwise λa b=>a.2.2≠b.2.2) {j:Nat} (hj:j<es.length) (v:AV):rv (es[j].2.2:Int) v es=some (es.modify j λe=>(e.1,v,e.2.2)):=by
 induction es generalizing j with
 | nil=>simp at hj
 | cons e es ih =>
   obtain ⟨a,b,c⟩:=e
   cases j with
   | zero=>simp [rv]
   | succ j =>
     have hj':j<es.length:=by grind
     have hne:c≠es[j].2.2:=(List.pairwise_cons.mp hp).1 _ (List.getElem_mem hj')
     grind [rv]
def sr {t kt el:Nat} {m k:Operand} {tm te:TI} {d:Option Nat} {v z:AV} {l:List (κ×β)} (key : κ) (y : β) (hS:Sep H L) (hi:L[i]?=some (.map v (lE ek ev l))) (hT:C.T t=some tm) (hkd:tm.kind=.map kt el) (hE:C.T el=some te) (hm:ky e m=v) (hk:ky e k=ek key) (hK:rZ C kt (ek key)=true) (hz:asAgg te te.zero=some z) (hV:AV.zy (ev y)=true) (hke:∀ a b,nG (ek a) (ek b)=some (decide (a=b))) :
  ∃ (u:AV) (H1:aT),(∀ call,lB (.mapEntry t m k) ⟨C,fa,call⟩ e { H with cH:=ls } d=some (u,{ H1 with cH:=ls }))/\∃ (w:AV) (st:Int) (H2:aT),u=.kq [w,.int .i64 st] /\
    (∀ (e2:Env) (ls2:mW) (t2:Nat) (m2 s2 x2:Operand) (X:Ctx) (d2:Option Nat),ky e2 m2=v->ky e2 s2=.int .i64 st->ky e2 x2=ev y->lB (.entryStore t2 m2 s2 x2) X e2 { H1 with cH:=ls2 } d2=some (.undef,{ H2 with cH:=ls2 }))/\Sep H2 (L.set i (.map v (lE ek ev (put key y l)))):=by
 obtain ⟨b,es,c,hb,rfl,hg,he,hst⟩:=hS.at hi
 have hlob:H.lo<=b:=aT.pz hg
 obtain ⟨f1,f2,f3⟩:=tw (ek:=ek) (ev:=ev) hke key l es he 0
 have fin:∀ es1 c1 es2 (st:Int) w,(∀ call,lB (.mapEntry t m k) ⟨C,fa,call⟩ e { H with cH:=ls } d=some (.kq [w,.int .i64 st],{ H.set b (.map es1 c1) with cH:=ls }))->rv st (ev y) es1=some es2->pr es2=lE ek ev (put key y l)->vJ es2 c1 ->
   ∃ (u:AV) (H1:aT),(∀ call,lB (.mapEntry t m k) ⟨C,fa,call⟩ e { H with cH:=ls } d=some (u,{ H1 with cH:=ls }))/\∃ (w:AV) (st:Int) (H2:aT),u=.kq [w,.int .i64 st] /\
   (∀ (e2:Env) (ls2:mW) (t2:Nat) (m2 s2 x2:Operand) (X:Ctx) (d2:Option Nat),ky e2 m2=.hm b->ky e2 s2=.int .i64 st->ky e2 x2=ev y->lB (.entryStore t2 m2 s2 x2) X e2 { H1 with cH:=ls2 } d2=some (.undef,{ H2 with cH:=ls2 }))/\Sep H2 (L.set i (.map (.hm b) (lE ek ev (put key y l)))):=by
  intro es1 c1 es2 st w h1 h2 h3 h4
  have hg1:(H.set b (.map es1 c1)).get b=some (.map es1 c1):=by grind [aT.nI]
  refine ⟨_,H.set b (.map es1 c1),h1,w,st,(H.set b (.map es1 c1)).set b (.map es2 c1),rfl,?_,?_⟩
  ·intro e2 ls2 t2 m2 s2 x2 X d2 hm2 hs2 hx2
   simp only [lB,wv,tA,hm2,hs2,hx2,AV.int?,aT.mU,hg1,hV,h2,aT.qm]
  ·refine hS.oO hi (by simpa using hS.lo) (by simp) ⟨b,es2,c1,by simp_all,rfl,?_,h3,h4⟩ ?_ ?_
   ·simp_all [aT.nI]
   ·intro b' hb' hne
    rw [aT.nI,if_neg (by rintro ⟨rfl,_⟩; exact hne rfl),aT.nI,if_neg (by rintro ⟨rfl,_⟩; exact hne rfl)]
   ·intro b' hb'; exact .inl hb'
 cases hl:look key l with
 | none =>
   refine fin (es++[(ek key,z,c)]) (c+1) (es++[(ek key,ev y,c)]) c z ?_ ?_ (f3 hl y c) (hst.snoc _ _)
   ·intro call
    simp only [lB,vG,tK,hT,hkd,hm,hE,aT.mU,hg,hk,hK,f1 hl,hz,aT.qm]
   ·have h0:=yl (hst.snoc (ek key) z).2 (j:=es.length) (by simp) (ev y)
    simp only [List.getElem_concat_length] at h0
    rw [h0]
    congr 1
    apply List.ext_getElem (by simp)
    grind
 | some x0 =>
   obtain ⟨j,hj,hjl,hjm⟩:=f2 x0 hl
   rw [Nat.zero_add] at hj
   have hst1:vJ (es.modify j λx=>(ek key,x.2)) c:=hst.modify _ _ λ_=>rfl
   refine fin (es.modify j λx=>(ek key,x.2)) c ((es.modify j λx=>(ek key,x.2)).modify j λe=>(e.1,ev y,e.2.2)) (es[j].2.2:Nat) (ev x0) ?_ ?_ ?_ (hst1.modify _ _ λ_=>rfl)
   ·intro call
    have hso:w6 es j=es[j].2.2:=by simp [w6,hjl]
    simp only [lB,vG,tK,hT,hkd,hm,hE,aT.mU,hg,hk,hK,hj,hso,aT.qm]
   ·have h0:=yl hst1.2 (j:=j) (by grind) (ev y)
    grind
   grind
end
section
variable {C:lW} {F:nd} {Pr:mO} {fa:kb} {e:Env} {all rest:List Oper} {o:Oper} {q:Env->aT->Prop}
variable {H:aT} {ls:mW} {L:List lC} {i:Nat}
variable {α:Type} {enc : α->List AV} {w tt:Bool} {v:AV} {n:Nat} {l:List α}
def Fl {n:Nat} {xs:List (List AV)} (h:∀ x∈xs,x.length=n):pW n xs=true:=by
 simp_all [pW]
def DH {xs ys:List (List AV)} (hS:Sep H L) (hi:L[i]?=some (.sl w tt v n xs)) (hys:∀ x∈ys,x.length=n) (ht:tt=true\/ys.length=1) (hm:xs.length+ys.length<=sj) :
  ∃ v' H',append n { H with cH:=ls } v ys=some (v',{ H' with cH:=ls })/\Sep H' (L.set i (.sl w tt v' n (xs++ys))):=by
 have hlo:=hS.lo
 obtain ⟨hxl,hc⟩:=hS.at hi
 have hal:pW n ys=true:=Fl hys
 have hxal:pW n xs=true:=Fl hxl
 have hxy:∀ x∈xs++ys,x.length=n:=by
  grind
 have hset:∀ v',v'=v->Sep H (L.set i (.sl w tt v' n xs)):=by
  rintro v' rfl
  exact hS.oO hi hlo (Nat.le_refl _) ⟨hxl,hc⟩ (λ_ _ _=>rfl) (λb hb=>.inl hb)
 cases ys with
 | nil =>
   rw [List.append_nil]
   refine ⟨v,H,?_,hset v rfl⟩
   rcases hc with ⟨rfl,rfl⟩ | ⟨_,rfl⟩ | ⟨b,g,j,hb,rfl,hg,htj⟩<;>rfl
 | cons y ys =>
   have new:∀ (hle:Nat.ble (xs.length+(ys.length+1)) sj=true),append n { H with cH:=ls } v (y::ys)=sG n { H with cH:=ls } xs (y::ys)->∃ v' H',append n { H with cH:=ls } v (y::ys)=some (v',{ H' with cH:=ls })/\Sep H' (L.set i (.sl w tt v' n (xs++(y::ys)))):=by
    intro hle hap
    refine ⟨.hs H.size 0 0 (xs.length+(ys.length+1)),H.push (.lN 0 n (xs++(y::ys))),?_,?_⟩
    ·rw [hap]
     simp [sG,hxal,hle,aT.tP]
    ·refine hS.oO hi (by simp; omega) (by simp) ⟨hxy,.inr (.inr ⟨H.size,0,[],by simp,by simp,?_,λ_=>rfl⟩)⟩ ?_ ?_<;>grind [aT.pG,nq,lC.v]
   have hle:Nat.ble (xs.length+(ys.length+1)) sj=true:=Nat.ble_eq.mpr (by omega)
   rcases hc with ⟨rfl,rfl⟩ | ⟨_,rfl⟩ | ⟨b,g,j,hb,rfl,hg,htj⟩
   ·grind [append]
   ·have hbt:Nat.blt xs.length (xs.length+(ys.length+1))=true:=by simp
    grind [append]
   ·have hlob:H.lo<=b:=aT.pz hg
    have grow:j=[]->∃ v' H',append n { H with cH:=ls } (.hs b g 0 xs.length) (y::ys)=some (v',{ H' with cH:=ls })/\Sep H' (L.set i (.sl w tt v' n (xs++(y::ys)))):=by
     rintro rfl
     rw [List.append_nil] at hg
     refine ⟨.hs b (g+1) 0 (xs.length+(y::ys).length),H.set b (.lN (g+1) n (xs++(y::ys))),?_,?_⟩
     ·have h2:Nat.ble (xs.length+(ys.length+1)) xs.length=false:=by
       cases hq:Nat.ble (xs.length+(ys.length+1)) xs.length with
       | false=>rfl
       | true=>exact absurd (Nat.ble_eq.mp hq) (by omega)
      simp [append,hal,Bw,aT.mU,hg,hle,h2,aT.qm]
     ·refine hS.oO hi (by simp_all) (by simp) ⟨hxy,.inr (.inr ⟨b,g+1,[],by simp_all,by simp,?_,λ_=>rfl⟩)⟩ ?_ ?_
      ·grind [aT.nI]
      ·intro b' hb' hne; rw [aT.nI,if_neg (by rintro ⟨rfl,_⟩; exact hne rfl)]
      ·intro b' hb'; exact .inl hb'
    cases j with
    | nil=>grind
    | cons j0 j =>
      have htt:tt=false:=by grind
      have hy:ys=[]:=by
       grind
      subst hy
      refine ⟨.hs b g 0 (xs.length+1),H.set b (.lN g n (xs++y::j)),?_,?_⟩
      ·have h1:Nat.ble (xs.length+1) (xs++j0::j).length=true:=Nat.ble_eq.mpr (by simp)
       have h3:Nat.ble (xs.length+1) sj=true:=hle
       have h2:overwrite (xs++j0::j) xs.length [y]=xs++y::j:=by
        simp_all [overwrite]
       simp only [append,hal,Bw,aT.mU,hg,Nat.zero_add,List.length_singleton,h1,h2,h3,Nat.beq_refl,Bool.and_self,pk,aT.qm,Bool.and_true]
      ·refine hS.oO hi (by simp_all) (by simp) ⟨hxy,.inr (.inr ⟨b,g,j,by simp_all,by simp,?_,λh=>absurd h (by simp [htt])⟩)⟩ ?_ ?_
       ·grind [aT.nI]
       ·intro b' hb' hne; rw [aT.nI,if_neg (by rintro ⟨rfl,_⟩; exact hne rfl)]
       ·intro b' hb'; exact .inl hb'
def kZ {cl:Call} {s x:Operand} {t u:Nat} {ti:TI} {d:Option Nat} (ys:List α) (hS:Sep H L) (hi:L[i]?=some (.sl w tt v n (l.map enc))) (hc:cl.callee=.builtin .append) (ha:cl.args.toList=[s,x]) (hts:cl.argTypes.toList=[t,u]) (hT:rG C [t,u]=some ti) (hSr:BO C [t,u]=true) (hn:ti.size=n)
  (hs:ky e s=v) (hx:pT { H with cH:=ls } (ky e x)=some (ys.map enc)) (hok:∀ y,(enc y).all AV.mC=true) (ht:tt=true\/ys.length=1) (hm:l.length+ys.length<=sj) (henc:∀ x,(enc x).length=n) :
  ∃ v' H',(∀ call,lB (.call cl) ⟨C,fa,call⟩ e { H with cH:=ls } d=some (v',{ H' with cH:=ls }))/\Sep H' (L.set i (.sl w tt v' n ((l++ys).map enc))):=by
 obtain ⟨v',H',h1,h2⟩:=DH (ls:=ls) (ys:=ys.map enc) hS hi (by grind) (by grind) (by grind)
 refine ⟨v',H',λcall=>?_,by grind⟩
 have hall:zF (ys.map enc)=true:=by
  grind [zF]
 simp only [lB,qx,pY,hc,ha,hts,oi,Aw,s7,List.map_cons,List.map_nil,hT,hSr,hn,hs,hx,hall,h1]
def nb {X:Ctx} {d:Option Nat} {cl:Call} {t el:Nat} {x:Operand} {ti:TI} {h:aT} (hS:Sep H L) (hi:L[i]?=some (.sl w tt v n (l.map enc))) (hc:cl.callee=.builtin .len) (ha:cl.args.toList=[x]) (hts:cl.argTypes.toList=[t]) (hT:X.C.T t=some ti) (hk:ti.kind=.slice el) (hx:ky e x=v) :
  lB (.call cl) X e h d=some (.int .i64 l.length,h):=by
 obtain ⟨hxl,⟨h0,rfl⟩ | ⟨_,rfl⟩ | ⟨b,g,j,hb,rfl,hg,htj⟩⟩:=hS.at hi
 ·simp_all [lB,qx,pY,oi,xz,vj,wD,vP,qX]
 ·simp_all [lB,qx,pY,oi,xz,vj,wD,vP,qX]
 simp_all [lB,qx,pY,oi,xz,vj,wD,vP,qX]
def EA (v:AV) (m:Nat) (a:AV) (cs:List AV):Prop:=(∃ xs k,v=.sl xs (.exact k)/\a=.ip cs 0 false)\/∃ b g len,v=.hs b g 0 len/\a=.ptr b g m 0
def pg (a:AV) (o:Nat):AV:=match a with
 | .ip cs _ s=>.ip cs o s
 | .ptr b g i _=>.ptr b g i o
 | v=>v
def lA {m:Nat} {x : α} (h:m<l.length) (hx:l[m]=x):(l.map enc)[m]?=some (enc x):=by grind
def mv {P:AV->Prop} {h:aT} (hw:kT all e o=some true) (hop:∃ v,(∀ call,lB o.op ⟨C,fa,call⟩ e h o.dst=some (v,h))/\P v) (next:∀ v,P v->mH C F Pr fa all rest q (kJ e o v) h):mH C F Pr fa all (o::rest) q e h:=by
 grind [jP]
def nk {j:Nat} {sch:List (Nat×List Nat)} {P:AV->Prop} {h:aT} (hj:all[j]?=some o) (hw:kT all e o=some true) (hop:∃ v,(∀ call,lB o.op ⟨C,fa,call⟩ e h o.dst=some (v,h))/\P v) (next:∀ v,P v->mz C F Pr fa all sch q (kJ e o v) h):mz C F Pr fa all ((j,[])::sch) q e h:=by
 grind [kp]
def lO {t el:Nat} {x y:Operand} {ti te:TI} {k:IntKind} {m:Nat} {d:Option Nat} {cs:List AV} {xs:List (List AV)} (hS:Sep H L) (hi:L[i]?=some (.sl w tt v n xs)) (hT:C.T t=some ti) (hk:ti.kind=.slice el) (hE:C.T el=some te) (hn:te.size=n) (hx:ky e x=v) (hy:ky e y=.int k (m:Int)) (hm:xs[m]?=some cs) :
  ∃ a,(∀ call,lB (.indexAddr t x y) ⟨C,fa,call⟩ e { H with cH:=ls } d=some (a,{ H with cH:=ls }))/\a=pg a 0/\EA v m a cs:=by
 have hml:m<xs.length:=(List.getElem?_eq_some_iff.mp hm).1
 have hai:qy (.int k (m:Int))=some m:=rfl
 obtain ⟨hxl,⟨h0,rfl⟩ | ⟨_,rfl⟩ | ⟨b,g,j,hb,rfl,hg,htj⟩⟩:=hS.at hi
 ·grind
 ·refine ⟨.ip cs 0 false,λcall=>?_,rfl,.inl ⟨xs,_,rfl,rfl⟩⟩
  have hl:Nat.beq cs.length te.size=true:=by
   rw [hn,hxl _ (List.mem_of_getElem? hm)]; simp
  simp_all [lB,qU,qj,rU,qW]
 ·refine ⟨.ptr b g m 0,λcall=>?_,rfl,.inr ⟨b,g,_,rfl,rfl⟩⟩
  have h1:Nat.blt m xs.length=true:=by simp_all
  simp only [lB,qU,qj,hT,hy,hai,hk,hE,hx,rU,aT.mU,hg,h1,hn,Nat.beq_refl,Bool.and_self,pk,Nat.zero_add]
def EA.yq {m o off ft f t:Nat} {a:AV} {cs:List AV} {x:Operand} {X:Ctx} {d:Option Nat} {ti:TI} {fs:List (Nat×Nat)} {h:aT} (hE:EA v m a cs) (hT:X.C.T t=some ti) (hk:ti.kind=.struct fs) (hf:fs[f]?=some (off,ft)) (hx:ky e x=pg a o):lB (.fieldAddr t x f) X e h d=some (pg a (o+off),h):=by
 rcases hE with ⟨xs,k,rfl,rfl⟩ | ⟨b,g,len,rfl,rfl⟩<;>simp only [lB,sU,rI,hT,hk,hf,hx,pg,Ap,Nl,Bk,pk,mA]
def mK {m o t:Nat} {a r:AV} {cs:List AV} {x:Operand} {X:Ctx} {d:Option Nat} {ti:TI} {xs:List (List AV)} (hS:Sep H L) (hi:L[i]?=some (.sl w tt v n xs)) (hm:xs[m]?=some cs) (hE:EA v m a cs) (hT:X.C.T t=some ti) (hp:part ti cs o=some r) (hx:ky e x=pg a o):lB (.load t x) X e { H with cH:=ls } d=some (r,{ H with cH:=ls }):=by
 have hml:m<xs.length:=(List.getElem?_eq_some_iff.mp hm).1
 obtain ⟨hxl,hc⟩:=hS.at hi
 rcases hE with ⟨xs',k,rfl,rfl⟩ | ⟨b,g,len,rfl,rfl⟩
 ·simp_all [lB,zg,xn,pg,tI,Qg,mA]
 ·rcases hc with ⟨h0,hv⟩ | ⟨_,hv⟩ | ⟨b',g',j,hb,hv,hg,htj⟩
  ·cases hv
  ·cases hv
  ·cases hv
   have hmj:(xs++j)[m]?=some cs:=by grind
   simp_all [lB,zg,xn,pg,tI,Bq,aT.mU,mA]
theorem Hq {cs new cs':List AV} {o:Nat} (h:pe cs o new=some cs'):cs'.length=cs.length:=by
 unfold pe at h
 split at h
 ·rename_i hle
  have hle:=Nat.ble_eq.mp hle
  grind [qB]
 ·cases h
def P1 {m o t:Nat} {a r:AV} {cs new cs':List AV} {x y:Operand} {d:Option Nat} {ti:TI} {xs:List (List AV)} (hS:Sep H L) (hi:L[i]?=some (.sl true tt v n xs)) (hm:xs[m]?=some cs) (hE:EA v m a cs) (hT:C.T t=some ti) (hx:ky e x=pg a o) (hy:ky e y=r) (hnew:cellsOf ti r=some new) (hok:new.all AV.mC=true) (hsp:pe cs o new=some cs') :
  ∃ u H',(∀ call,lB (.store t x y) ⟨C,fa,call⟩ e { H with cH:=ls } d=some (u,{ H' with cH:=ls }))/\u=.undef/\Sep H' (L.set i (.sl true tt v n (xs.set m cs'))):=by
 have hml:m<xs.length:=(List.getElem?_eq_some_iff.mp hm).1
 obtain ⟨hxl,hc⟩:=hS.at hi
 rcases hc with ⟨h0,rfl⟩ | ⟨h0 | h0,_⟩ | ⟨b,g,j,hb,rfl,hg,htj⟩
 ·grind
 ·cases h0
 ·grind
 ·rcases hE with ⟨xs',k,h0,_⟩ | ⟨b',g',len,hv,rfl⟩
  ·cases h0
  ·cases hv
   have hlob:H.lo<=b:=aT.pz hg
   have hmj:(xs++j)[m]?=some cs:=by grind
   refine ⟨.undef,H.set b (.lN g n ((xs.set m cs')++j)),λcall=>?_,rfl,?_⟩
   ·have hse:(xs++j).set m cs'=xs.set m cs'++j:=by grind
    simp only [lB,yV,w9,hT,hx,hy,wI,hnew,hok,pg,yJ,Cy,aT.mU,hg,Nat.beq_refl,hmj,hsp,aT.qm,hse]
   ·refine hS.oO hi (by simpa using hS.lo) (by simp) ⟨?_,.inr (.inr ⟨b,g,j,by simp_all,by simp,?_,htj⟩)⟩ ?_ ?_
    ·intro z hz
     rcases List.mem_or_eq_of_mem_set hz with hz | rfl
     ·grind
     ·rw [Hq hsp]; grind
    ·grind [aT.nI]
    ·intro b' hb' hne; rw [aT.nI,if_neg (by rintro ⟨rfl,_⟩; exact hne rfl)]
    ·intro b' hb'; exact .inl hb'
def nH {m o t:Nat} {a r:AV} {new:List AV} {x y:Operand} {d:Option Nat} {ti:TI} (z z' : α) (hS:Sep H L) (hi:L[i]?=some (.sl true tt v n (l.map enc))) (hml:m<l.length) (hz:l[m]=z) (hE:EA v m a (enc z)) (hT:C.T t=some ti) (hx:ky e x=pg a o) (hy:ky e y=r) (hnew:cellsOf ti r=some new) (hok:new.all AV.mC=true) (hsp:pe (enc z) o new=some (enc z')) :
  ∃ u H',(∀ call,lB (.store t x y) ⟨C,fa,call⟩ e { H with cH:=ls } d=some (u,{ H' with cH:=ls }))/\u=.undef/\Sep H' (L.set i (.sl true tt v n ((l.set m z').map enc))):=by
 rw [List.map_set]
 exact P1 hS hi (lA hml hz) hE hT hx hy hnew hok hsp
def Qd (v:AV) (k:Nat) (v':AV):Prop:=(v=.sl [] .nil/\v'=.sl [] .nil/\k=0)\/(v=.sl [] (.exact 0)/\v'=.sl [] (.exact 0)/\k=0)\/∃ b g len,v=.hs b g 0 len/\v'=.hs b g 0 k
def PJ {t el k:Nat} {x y:Operand} {ti te:TI} {kd:IntKind} {d:Option Nat} {xs:List (List AV)} (hS:Sep H L) (hi:L[i]?=some (.sl true tt v n xs)) (hT:C.T t=some ti) (hk:ti.kind=.slice el) (hE:C.T el=some te) (hn:te.size=n) (hx:ky e x=v) (hy:ky e y=.int kd (k:Int)) (hkl:k<=xs.length) :
  ∃ v' H',(∀ call,lB (.slice t x none (some y) none) ⟨C,fa,call⟩ e { H with cH:=ls } d=some (v',{ H' with cH:=ls }))/\Qd v k v'/\Sep H' (L.set i (.sl true false v' n (xs.take k))):=by
 obtain ⟨hxl,hc⟩:=hS.at hi
 have hai:qy (.int kd (k:Int))=some k:=rfl
 rcases hc with ⟨h0,rfl⟩ | ⟨h0 | h0,rfl⟩ | ⟨b,g,j,hb,rfl,hg,htj⟩
 ·subst h0
  have hk0:k=0:=by grind
  subst hk0
  refine ⟨.sl [] .nil,H,λcall=>?_,.inl ⟨rfl,rfl,rfl⟩,?_⟩
  ·simp only [lB,qG,qa,hT,hk,hE,hx,hy,slice,uq,po,bound,hai,qQ,pE,qD]
   rfl
  ·exact hS.oO hi hS.lo (Nat.le_refl _) ⟨by simp,.inl ⟨by simp,rfl⟩⟩ (λ_ _ _=>rfl) (λb hb=>by simp [nq,lC.v] at hb)
 ·cases h0
 ·subst h0
  have hk0:k=0:=by grind
  subst hk0
  refine ⟨.sl [] (.exact 0),H,λcall=>?_,.inr (.inl ⟨rfl,rfl,rfl⟩),?_⟩
  ·simp only [lB,qG,qa,hT,hk,hE,hx,hy,slice,uq,po,bound,hai,qQ,pE,qD]
   rfl
  ·exact hS.oO hi hS.lo (Nat.le_refl _) ⟨by simp,.inr (.inl ⟨.inr (by simp),rfl⟩)⟩ (λ_ _ _=>rfl) (λb hb=>by simp [nq,lC.v] at hb)
 ·have h0:Nat.ble 0 k=true:=Nat.ble_eq.mpr (Nat.zero_le _)
  have h1:Nat.ble k (xs++j).length=true:=Nat.ble_eq.mpr (by grind)
  have h2:Nat.ble 0 (xs++j).length=true:=Nat.ble_eq.mpr (Nat.zero_le _)
  refine ⟨.hs b g 0 k,H,λcall=>?_,.inr (.inr ⟨b,g,_,rfl,rfl⟩),?_⟩
  ·simp only [lB,qG,qa,hT,hk,hE,hx,hy,slice,BF,aT.mU,hg,hn,Nat.beq_refl,Bool.and_self,po,bound,hai,qQ,Option.getD_none,Nat.zero_add,h0,h1,h2,Bool.and_true,Bool.true_and,AU,pk,Nat.sub_zero,mA]
  ·refine hS.oO hi hS.lo (Nat.le_refl _) ⟨λz hz=>hxl z (List.mem_of_mem_take hz),.inr (.inr ⟨b,g,xs.drop k++j,hb,?_,?_,λh=>by cases h⟩)⟩ (λ_ _ _=>rfl) (λb' hb'=>.inl hb')
   ·grind
   ·rw [hg,<- List.append_assoc,List.take_append_drop]
def tn {t el k:Nat} {x y:Operand} {ti te:TI} {kd:IntKind} {d:Option Nat} (hS:Sep H L) (hi:L[i]?=some (.sl true tt v n (l.map enc))) (hT:C.T t=some ti) (hk:ti.kind=.slice el) (hE:C.T el=some te) (hn:te.size=n) (hx:ky e x=v) (hy:ky e y=.int kd (k:Int)) (hkl:k<=l.length) :
  ∃ v' H',(∀ call,lB (.slice t x none (some y) none) ⟨C,fa,call⟩ e { H with cH:=ls } d=some (v',{ H' with cH:=ls }))/\Qd v k v'/\Sep H' (L.set i (.sl true false v' n ((l.take k).map enc))):=by
 rw [List.map_take]
 exact PJ hS hi hT hk hE hn hx hy (by grind)
def ub {t el k:Nat} {x y:Operand} {ti te:TI} {kd:IntKind} {d:Option Nat} {v':AV} {ys:List (List AV)} {X:Ctx} (hS:Sep H L) (hi:L[i]?=some (.sl true tt v' n ys)) (hc:Qd v k v') (hT:X.C.T t=some ti) (hk:ti.kind=.slice el) (hE:X.C.T el=some te) (hn:te.size=n) (hx:ky e x=v) (hy:ky e y=.int kd (k:Int)) :
  lB (.slice t x none (some y) none) X e { H with cH:=ls } d=some (v',{ H with cH:=ls }):=by
 have hai:qy (.int kd (k:Int))=some k:=rfl
 obtain ⟨hxl,hq⟩:=hS.at hi
 rcases hc with ⟨rfl,rfl,rfl⟩ | ⟨rfl,rfl,rfl⟩ | ⟨b,g,len,rfl,rfl⟩
 ·simp only [lB,qG,qa,hT,hk,hE,hx,hy,slice,uq,po,bound,hai,qQ,pE,qD]
  rfl
 ·simp only [lB,qG,qa,hT,hk,hE,hx,hy,slice,uq,po,bound,hai,qQ,pE,qD]
  rfl
 ·rcases hq with ⟨_,hv⟩ | ⟨_,hv⟩ | ⟨b',g',j,hb,hv,hg,htj⟩
  ·cases hv
  ·cases hv
  ·cases hv
   have h0:Nat.ble 0 ys.length=true:=Nat.ble_eq.mpr (Nat.zero_le _)
   have h1:Nat.ble ys.length (ys++j).length=true:=Nat.ble_eq.mpr (by simp)
   have h2:Nat.ble 0 (ys++j).length=true:=Nat.ble_eq.mpr (Nat.zero_le _)
   simp only [lB,qG,qa,hT,hk,hE,hx,hy,slice,BF,aT.mU,hg,hn,Nat.beq_refl,Bool.and_self,po,bound,hai,qQ,Option.getD_none,Nat.zero_add,h0,h1,h2,Bool.and_true,Bool.true_and,AU,pk,Nat.sub_zero,mA]
def qn {t m:Nat} {x y:Operand} {te:TI} {k k':IntKind} {d:Option Nat} (hS:Sep H L) (hT:tQ C t=some te) (hx:ky e x=.int k (m:Int)) (hy:ky e y=.int k' (m:Int)) (hn:te.size=n) (hz:te.zero.length=n) (hm:m<=1048576) (hb:te.bytes<=1024) :
  ∃ v H',(∀ call,lB (.makeSlice t x y) ⟨C,fa,call⟩ e { H with cH:=ls } d=some (v,{ H' with cH:=ls }))/\Sep H' (.sl true true v n (List.replicate m te.zero)::L):=by
 have hlo:=hS.lo
 refine ⟨.hs H.size 0 0 m,H.push (.lN 0 n (List.replicate m te.zero)),λcall=>?_,?_⟩
 ·have h1:yg 0 (m:Int)=true:=by rfl
  have h2:yg (m:Int) (m:Int)=true:=by rw [tV]; simp
  have h3:yg (m:Int) 4294967295=true:=by grind [tV]
  have h4:Nat.ble ((m:Int).toNat*te.bytes) 140737488355328=true:=by
   apply Nat.ble_eq.mpr
   calc (m:Int).toNat*te.bytes<=1048576*1024:=Nat.mul_le_mul (by omega) hb
    _<=_:=by decide
  simp only [lB,xQ,uG,hT,hx,hy,AV.int?,h1,h2,h3,h4,Bool.and_self,hn,aT.tP]
  rfl
 ·refine hS.new (by simp; omega) (by simp) ⟨?_,.inr (.inr ⟨H.size,0,[],by simp,by simp,?_,λ_=>rfl⟩)⟩ ?_ ?_<;>grind [aT.pG,nq,lC.v]
end
section
variable {C:lW} {F:nd} {Pr:mO} {fa:kb} {e:Env} {all rest:List Oper} {o:Oper} {q:Env->aT->Prop}
variable {H:aT} {ls:mW} {L:List lC} {i:Nat} {v:AV} {cs:List AV}
def AX {d:Nat} (hS:Sep H L) (hd:fa.cH.elem d=false):∃ v H',newVar fa d { H with cH:=ls } cs=some (v,{ H' with cH:=ls })/\∃ b,v=.ptr b 0 0 0/\Sep H' (.obj (.ptr b 0 0 0) cs::L):=by
 have hlo:=hS.lo
 refine ⟨.ptr H.size 0 0 0,H.push (.lN 0 cs.length [cs]),?_,H.size,rfl,?_⟩
 ·grind [newVar,aT.tP]
 ·refine hS.new (by simp; omega) (by simp) ⟨H.size,cs.length,by simp,rfl,?_⟩ ?_ ?_<;>grind [aT.pG,nq,lC.v]
def rz {t d:Nat} {ti:TI} (hS:Sep H L) (hd:fa.cH.elem d=false) (hT:C.T t=some ti):∃ v H',(∀ call,lB (.alloc t) ⟨C,fa,call⟩ e { H with cH:=ls } (some d)=some (v,{ H' with cH:=ls }))/\∃ b,v=.ptr b 0 0 0/\Sep H' (.obj (.ptr b 0 0 0) ti.zero::L):=by
 obtain ⟨v,H',h1,h2⟩:=AX (ls:=ls) (cs:=ti.zero) hS hd
 refine ⟨v,H',λcall=>?_,h2⟩
 simp_all [lB,KN,AA]
def mP {t d:Nat} {ti:TI} {x:Operand} {r:AV} (hS:Sep H L) (hd:fa.cH.elem d=false) (hT:C.T t=some ti) (hx:ky e x=r) (hc:cellsOf ti r=some cs) (hok:cs.all AV.mC=true):∃ v H',(∀ call,lB (.box t x) ⟨C,fa,call⟩ e { H with cH:=ls } (some d)=some (v,{ H' with cH:=ls }))/\∃ b,v=.ptr b 0 0 0/\Sep H' (.obj (.ptr b 0 0 0) cs::L):=by
 obtain ⟨v,H',h1,h2⟩:=AX (ls:=ls) (cs:=cs) hS hd
 refine ⟨v,H',λcall=>?_,h2⟩
 simp only [lB,M9,GF,hT,hx,hc,hok,h1]
def Sep.p0 (hS:Sep H L) (hi:L[i]?=some (.obj v cs)):v=pg v 0:=by
 obtain ⟨b,z,hb,rfl,hg⟩:=hS.at hi; rfl
def nw {o off ft f t:Nat} {x:Operand} {X:Ctx} {d:Option Nat} {ti:TI} {fs:List (Nat×Nat)} {h:aT} (hS:Sep H L) (hi:L[i]?=some (.obj v cs)) (hT:X.C.T t=some ti) (hk:ti.kind=.struct fs) (hf:fs[f]?=some (off,ft)) (hx:ky e x=pg v o):lB (.fieldAddr t x f) X e h d=some (pg v (o+off),h):=by
 obtain ⟨b,z,hb,rfl,hg⟩:=hS.at hi
 simp_all [lB,sU,rI,pg,Ap,Bk,pk,mA]
def oG {x:Operand} {X:Ctx} {d:Option Nat} {h:aT} {o:Nat} (hS:Sep H L) (hi:L[i]?=some (.obj v cs)) (hx:ky e x=pg v o):lB (.nilCheck x) X e h d=some (pg v o,h):=by
 obtain ⟨b,z,hb,rfl,hg⟩:=hS.at hi
 simp only [lB,vH,hx,pg,A1,mA]
def mj {o t:Nat} {r:AV} {x:Operand} {X:Ctx} {d:Option Nat} {ti:TI} (hS:Sep H L) (hi:L[i]?=some (.obj v cs)) (hT:X.C.T t=some ti) (hp:part ti cs o=some r) (hx:ky e x=pg v o):lB (.load t x) X e { H with cH:=ls } d=some (r,{ H with cH:=ls }):=by
 obtain ⟨b,z,hb,rfl,hg⟩:=hS.at hi
 simp_all [lB,zg,xn,pg,tI,Bq,aT.mU,mA]
def lY {o t:Nat} {r:AV} {new cs':List AV} {x y:Operand} {d:Option Nat} {ti:TI} (hS:Sep H L) (hi:L[i]?=some (.obj v cs)) (hT:C.T t=some ti) (hx:ky e x=pg v o) (hy:ky e y=r) (hnew:cellsOf ti r=some new) (hok:new.all AV.mC=true) (hsp:pe cs o new=some cs') :
  ∃ u H',(∀ call,lB (.store t x y) ⟨C,fa,call⟩ e { H with cH:=ls } d=some (u,{ H' with cH:=ls }))/\u=.undef/\Sep H' (L.set i (.obj v cs')):=by
 obtain ⟨b,z,hb,rfl,hg⟩:=hS.at hi
 have hlob:H.lo<=b:=aT.pz hg
 refine ⟨.undef,H.set b (.lN 0 z [cs']),λcall=>?_,rfl,?_⟩
 ·simp only [lB,yV,w9,hT,hx,hy,wI,hnew,hok,pg,yJ,Cy,aT.mU,hg,Nat.beq_refl,List.getElem?_cons_zero,hsp,aT.qm,List.set_cons_zero]
 ·refine hS.oO hi (by simpa using hS.lo) (by simp) ⟨b,z,by simp_all,rfl,?_⟩ ?_ ?_
  ·grind [aT.nI]
  ·intro b' hb' hne; rw [aT.nI,if_neg (by rintro ⟨rfl,_⟩; exact hne rfl)]
  ·intro b' hb'; exact .inl hb'
end
def wY {H:aT} {L:List lC} {i:Nat} {n:Nat} {tt:Bool} {v:AV} {m:Nat} {xs:List (List AV)} (hS:Sep H L) (hi:L[i]?=some (.sl true tt v m xs)):pV (n+1) v v=true:=by
 obtain ⟨hxl,⟨h0,rfl⟩ | ⟨h0 | h0,rfl⟩ | ⟨b,g,j,hb,rfl,hg,htj⟩⟩:=hS.at hi
 ·rfl
 ·cases h0
 ·subst h0; rfl
 ·simp [pV]
def nB {X:Ctx} {all:List Oper} {e:Env} {h h':aT} {i d:Nat} {o:Oper} {v:AV} (ho:all[i]?=some o) (hw:kT all e o=some true) (hd:o.dst=some d) (hop:lB o.op X e h (some d)=some (v,h')) (hv:nJ e d=v) (hq:pV 8 v v=true):again X all e h i=true:=by
 grind [again,Ez]
section
variable {C:lW} {F:nd} {Pr:mO} {fa:kb} {e:Env} {h:aT} {all rest:List Oper} {o:Oper} {q:Env->aT->Prop} {H:aT} {ls:mW}
def Ak {i:Nat} {chk:List Nat} {sch:List (Nat×List Nat)} {v:AV} {h1:aT} (ho:all[i]?=some o) (hw:kT all e o=some true) (hop:∃ m,∀ k,m<=k->lB o.op (XN C F Pr fa k) e h o.dst=some (v,h1))
  (hc:∀ call,∀ j∈chk,again ⟨C,fa,call⟩ all (kJ e o v) h1 j=true) (w:mz C F Pr fa all sch q (kJ e o v) h1):mz C F Pr fa all ((i,chk)::sch) q e h:=by
 obtain ⟨m,hm⟩:=hop
 obtain ⟨e2,h2,⟨m2,hm2⟩,q2⟩:=w
 refine ⟨e2,h2,⟨max m m2,λk hk=>?_⟩,q2⟩
 grind [again,kJ,uh,rl,zh]
def sm {j:Nat} {chk:List Nat} {sch:List (Nat×List Nat)} {P:AV->aT->Prop} (hj:all[j]?=some o) (hw:kT all e o=some true) (hop:∃ v H',(∀ call,lB o.op ⟨C,fa,call⟩ e { H with cH:=ls } o.dst=some (v,{ H' with cH:=ls }))/\P v H')
  (next:∀ v H',P v H'->(∀ call,∀ j∈chk,again ⟨C,fa,call⟩ all (kJ e o v) { H' with cH:=ls } j=true)/\mz C F Pr fa all sch q (kJ e o v) { H' with cH:=ls }):mz C F Pr fa all ((j,chk)::sch) q e { H with cH:=ls }:=by
 obtain ⟨v,H',h1,h2⟩:=hop
 obtain ⟨n1,n2⟩:=next v H' h2
 exact Ak hj hw ⟨0,λk _=>h1 _⟩ n1 n2
end
def ug {p:Nat->Prop} {a:Nat} (h:p a):∀ j∈[a],p j:=by grind
def ze {p:Nat->Prop} {a:Nat} {l:List Nat} (h:p a) (hl:∀ j∈l,p j):∀ j∈a::l,p j:=by
 grind
structure jS (α:Type) where
 l:List α
 c:pb
 ok:l.length<=ry
 nl:c=.nil->l=[]
def jS.av {α:Type} (enc : α->List AV) (r:jS α):AV:=.sl (r.l.map enc) r.c
def Row.mg {α:Type} (r:Row α):jS α:=⟨r.l,r.c,r.ok,r.nl⟩
section
variable {H:aT} {L:List lC} {i:Nat} {v:AV} {cs:List AV} {w tt:Bool} {n:Nat}
variable {α:Type} {enc : α->List AV} {l:List α}
def FK {xs:List (List AV)} {sn:Bool} (hS:Sep H L) (hi:L[i]?=some (.sl w tt v n xs)):∃ c,(qW c=true->sn=true)/\(c=.nil->xs=[])/\∀ ls m,(∀ x∈xs,kG (freeze sn { H with cH:=ls } m) x=some x)->freeze sn { H with cH:=ls } (m+1) v=some (.sl xs c):=by
 obtain ⟨hxl,⟨h0,rfl⟩ | ⟨_,rfl⟩ | ⟨b,g,j,hb,rfl,hg,htj⟩⟩:=hS.at hi
 ·subst h0; exact ⟨.nil,λh=>(by cases h),λ_=>rfl,λ_ _ _=>rfl⟩
 ·exact ⟨.exact xs.length,λh=>(by cases h),λh=>(by cases h),λ_ _ _=>rfl⟩
 ·refine ⟨xD sn,?_,?_,λls m hm=>?_⟩
  ·cases sn
   ·intro h; cases h
   simp
  ·cases sn<;>exact λh=>by cases h
  ·have h2:Nat.ble (0+xs.length) (xs++j).length=true:=Nat.ble_eq.mpr (by simp)
   have h3:((xs++j).drop 0).take xs.length=xs:=by simp
   have h5:∀ ys:List (List AV),(∀ x∈ys,kG (freeze sn { H with cH:=ls } m) x=some x)->oX (freeze sn { H with cH:=ls } m) ys=some ys:=by
    intro ys
    induction ys<;>grind [oX]
   simp only [freeze,aT.mU,hg,Nat.beq_refl,h2,Bool.and_self,h3,h5 xs hm]
def lK (hS:Sep H L) (hi:L[i]?=some (.sl w tt v n (l.map enc))) (hl:l.length<=ry):∃ r:Row α,r.l=l/\∀ ls m,(∀ x,kG (freeze false { H with cH:=ls } m) (enc x)=some (enc x))->freeze false { H with cH:=ls } (m+1) v=some (r.av enc):=by
 obtain ⟨c,h1,h2,h3⟩:=FK (sn:=false) hS hi
 refine ⟨⟨l,c,hl,?_,λh=>List.map_eq_nil_iff.mp (h2 h)⟩,rfl,λls m hm=>h3 ls m ?_⟩<;>grind
def PD (hS:Sep H L) (hi:L[i]?=some (.sl w tt v n (l.map enc))) (hl:l.length<=ry):∃ r:jS α,r.l=l/\∀ ls m,(∀ x,kG (freeze true { H with cH:=ls } m) (enc x)=some (enc x))->freeze true { H with cH:=ls } (m+1) v=some (r.av enc):=by
 obtain ⟨c,h1,h2,h3⟩:=FK (sn:=true) hS hi
 refine ⟨⟨l,c,hl,λh=>List.map_eq_nil_iff.mp (h2 h)⟩,rfl,λls m hm=>h3 ls m ?_⟩
 grind
theorem FI {f:AV->Option AV}:∀ {es:List (AV×AV×Nat)},(∀ x∈pr es,f x.2=some x.2)->qH f es=some (pr es)
 | [],_=>rfl
 | (k,v,c)::es,h=>by
   have h1:f v=some v:=h (k,v) (by simp [pr])
   have h2:qH f es=some (pr es):=FI λx hx=>h x (by simp only [pr,List.map_cons,List.mem_cons]; exact .inr hx)
   simp only [qH,h1,h2,pr,List.map_cons]
def qt {sn:Bool} {es:List (AV×AV)} (hS:Sep H L) (hi:L[i]?=some (.map v es)) (ls:mW) (m:Nat) (hm:∀ x∈es,freeze sn { H with cH:=ls } m x.2=some x.2):freeze sn { H with cH:=ls } (m+1) v=some (.fm es sn):=by
 obtain ⟨b,es',c,hb,rfl,hg,rfl,hst⟩:=hS.at hi
 grind [freeze,aT.mU,FI]
def mh {sn:Bool} {cs':List AV} (hS:Sep H L) (hi:L[i]?=some (.obj v cs)) (ls:mW) (m:Nat) (hm:kG (freeze sn { H with cH:=ls } m) cs=some cs'):freeze sn { H with cH:=ls } (m+1) v=some (.ip cs' 0 sn):=by
 obtain ⟨b,z,hb,rfl,hg⟩:=hS.at hi
 grind [freeze,aT.mU]
end
def AV.qC:AV->Bool
 | .agg l=>l.all AV.mC
 | .kq _=>false
 | _=>true
theorem KW {sn:Bool} {h:aT} {n:Nat} {v w:AV} (hp:v.nO=true) (hf:freeze sn h n v=some w):w=v:=by
 cases n with
 | zero=>simp [freeze] at hf
 | succ n =>
   cases v<;>simp only [AV.nO,Bool.false_eq_true] at hp<;>simp only [freeze,Option.some.injEq] at hf<;>try exact hf.symm
   ·grind
   ·grind
   grind
theorem wm {f:AV->Option AV}:∀ {l l':List AV},(∀ x∈l,∀ y,f x=some y->y=x)->kG f l=some l'->l'=l
 | [],_,_,h=>by grind [kG]
 | a::l,l',hx,h=>by
   simp only [kG] at h
   split at h
   ·cases h
   ·rename_i w hw
    split at h
    ·cases h
    ·rename_i r hr
     simp only [Option.some.injEq] at h
     subst h
     rw [hx a (by simp) w hw,wm (λx hm=>hx x (by simp [hm])) hr]
theorem FM {hp:aT} {n:Nat} (c:List AV) (o:Nat) (s:Bool):freeze true hp (n+1) (.ip c o s)=some (.ip c o s):=by simp [freeze]
theorem FA {hp:aT} {n:Nat} (c:List (AV×AV)) (s:Bool):freeze true hp (n+1) (.fm c s)=some (.fm c s):=by simp [freeze]
theorem Dr {h:aT} {n:Nat} {v w:AV} (hr:v.sg=false) (hc:v.mC=true) (hf:freeze true h n v=some w):w=v:=by
 cases n with
 | zero=>simp [freeze] at hf
 | succ n =>
   cases v with
   | undef=>cases hc
   | la _ _=>cases hc
   | agg _=>cases hc
   | kq _=>cases hc
   | ptr _ _ _ _=>cases hr
   | hs _ _ _ _=>cases hr
   | hm _=>cases hr
   | sl xs c=>cases c<;>exact (Option.some.inj hf).symm
   | ip c o s=>grind [FM]
   | fm c s=>grind [FA]
   | kY f a c =>
     simp only [AV.sg,Bool.not_eq_false',Bool.and_eq_true,List.all_eq_true] at hr
     grind [freeze,wm,KW]
   | _=>exact (Option.some.inj hf).symm
theorem J1 {l:List AV} (hr:(AV.agg l).sg=false) {x:AV} (hx:x∈l) (hc:x.mC=true):x.sg=false:=by
 simp only [AV.sg,List.any_eq_false] at hr
 have h1:=hr x hx
 cases x with
 | ptr _ _ _ _=>simp at h1
 | hs _ _ _ _=>simp at h1
 | hm _=>simp at h1
 | kY f a c=>grind [AV.sg]
 | agg _=>cases hc
 | _=>rfl
theorem M3 {h:aT} {n:Nat} {v w:AV} (hr:v.sg=false) (hfi:v.qC=true) (hf:freeze true h n v=some w):w=v:=by
 cases n with
 | zero=>simp [freeze] at hf
 | succ n =>
   cases v with
   | agg l =>
     rw [PE] at hf
     split at hf
     ·rename_i l' hl
      simp only [Option.some.injEq] at hf
      subst hf
      simp only [AV.qC,List.all_eq_true] at hfi
      rw [wm (λx hx y hy=>Dr (J1 hr hx (hfi x hx)) (hfi x hx) hy) hl]
     grind
   | kq l=>cases hfi
   | undef=>cases hf
   | la _ _=>cases hf
   | _=>exact Dr hr rfl hf
def lx {h:aT} {args args':List AV} (hf:kG (freeze true h 8) args=some args') (hfi:args.all AV.qC=true):oJ h args=some args':=by
 grind [oJ,AV.sg,wm,M3]
theorem Sep.qC {H:aT} {L:List lC} (h:Sep H L) {i:Nat} {r:lC} (hi:L[i]?=some r):AV.qC r.v=true:=by
 cases r with
 | sl w t v n xs=>obtain ⟨hl,⟨_,rfl⟩ | ⟨_,rfl⟩ | ⟨b,g,j,hb,rfl,hq,ht⟩⟩:=h.at hi<;>rfl
 | map v es=>obtain ⟨b,es',c,hb,rfl,hq,he,hst⟩:=h.at hi; rfl
 | obj v cs=>obtain ⟨b,z,hb,rfl,hq⟩:=h.at hi; rfl
def Ek {α:Type} {enc : α->List AV} {hp:aT} {n:Nat} (r:jS α):freeze true hp (n+1) (jS.av enc r)=some (jS.av enc r):=by
 grind [jS.av,freeze]
theorem m0 {α:Type} {enc : α->List AV} {hp:aT} {n:Nat} (r:Row α):freeze true hp (n+1) (Row.av enc r)=some (Row.av enc r):=Ek r.mg
def Pq {sn:Bool} {hp:aT} {n:Nat} (c:List AV) (o:Nat):freeze sn hp (n+1) (.ip c o false)=some (.ip c o false):=by rfl
def Pm {sn:Bool} {hp:aT} {n:Nat} (c:List (AV×AV)):freeze sn hp (n+1) (.fm c false)=some (.fm c false):=by rfl
def sf {C:lW} {fa:kb} {e:Env} {h:aT} {call:se} {f:Nat} {a c:Array Operand} {as cs:List AV} {d:Option Nat} (ha:a.toList.map (ky e)=as) (hc:c.toList.map (ky e)=cs) (hok:(as.all AV.mC&&cs.all AV.mC)=true):lB (.makeFunc (.func f) a c) ⟨C,fa,call⟩ e h d=some (.kY f as cs,h):=by
 simp only [lB,vF,tX,ha,hc,hok]
section
variable {C:lW} {fa:kb} {e:Env} {h:aT} {α:Type} {enc : α->List AV}
def m8 {X:Ctx} {d:Option Nat} {t el:Nat} {x:Operand} {cl:Call} {ti:TI} {r:jS α} (hc:cl.callee=.builtin .len) (ha:cl.args.toList=[x]) (hts:cl.argTypes.toList=[t]) (hT:X.C.T t=some ti) (hk:ti.kind=.slice el) (hx:ky e x=r.av enc) :
  lB (.call cl) X e h d=some (.int .i64 r.l.length,h):=by
 simp_all [lB,qx,pY,oi,xz,vj,wD,jS.av,vP,qX]
def mJ {X:Ctx} {d:Option Nat} {t el:Nat} {x y:Operand} {ti te:TI} {r:jS α} {k:IntKind} {n:Nat} (hT:X.C.T t=some ti) (hk:ti.kind=.slice el) (hE:X.C.T el=some te) (hx:ky e x=r.av enc) (hi:ky e y=.int k (n:Int))
  (hn:n<r.l.length) (hl:(enc r.l[n]).length=te.size):lB (.indexAddr t x y) X e h d=some (.ip (enc r.l[n]) 0 (qW r.c),h) :=
 Of hT hk hE hx hi (by omega) (r:=enc r.l[n]) (by simp [hn]) hl
def Row.drop (r:Row α) (k:Nat):Row α:=⟨r.l.drop k,qD k r.c,by have:=r.ok; grind,by have:=r.sn; cases hc:r.c<;>rw [hc] at this<;>first | rfl | exact this,λh=>by
 cases hc:r.c<;>rw [hc] at h<;>first | (rw [r.nl hc]; simp) | cases h⟩
def Af {X:Ctx} {d:Option Nat} {t el n k:Nat} {x y:Operand} {ti te:TI} {r:Row α} {kd:IntKind} (hT:X.C.T t=some ti) (hk:ti.kind=.slice el) (hE:X.C.T el=some te) (hx:ky e x=r.av enc) (hy:ky e y=.int kd (k:Int)) (hn:te.size=n) (hkl:k<=r.l.length) (henc:∀ x,(enc x).length=n) :
  lB (.slice t x (some y) none none) X e h d=some ((r.drop k).av enc,h):=by
 have hai:qy (.int kd (k:Int))=some k:=rfl
 have h0:Nat.ble k (r.l.map enc).length=true:=Nat.ble_eq.mpr (by grind)
 have h1:Nat.ble (r.l.map enc).length (r.l.map enc).length=true:=Nat.ble_eq.mpr (Nat.le_refl _)
 have h2:pE n (r.l.map enc)=true:=by
  cases r.l with
  | nil=>rfl
  | cons a l=>simp_all [pE]
 have h3:((r.l.map enc).drop k).take ((r.l.map enc).length - k)=(r.l.drop k).map enc:=by
  rw [List.take_of_length_le (by simp),List.map_drop]
 simp only [lB,qG,qa,hT,hk,hE,hx,hy,Row.av,slice,uq,po,bound,hai,qQ,hn,h1,h2,h0,Bool.and_true,h3,qB,mA,Row.drop]
end
section
variable {C:lW} {F:nd} {Pr:mO} {fa:kb} {e:Env} {h:aT} {all rest:List Oper} {o:Oper} {q:Env->aT->Prop}
def FE {f:Nat} {args args':List AV} {v:AV} {h h':aT} (hP:Pr f=none) (h1:oJ h args=some args') (h2:oJ h' args'=some args') (w:ka C F Pr false f args' h' v h'):ka C F Pr false f args h v h:=by
 obtain ⟨m,hm⟩:=w
 refine ⟨m+1,λk hk=>?_⟩
 obtain ⟨k,rfl⟩:∃ k',k=k'+1:=⟨k - 1,by omega⟩
 have:=hm (k+1) (by omega)
 simp only [nM,hP] at this ⊢
 cases hF:F f with
 | none=>grind
 | some fb =>
   simp only [hF,tu,h1,h2] at this ⊢
   cases hb:uv C fb (nM C F Pr k) k args' aT.empty<;>grind [uv,nM,aT.empty,frozen,freeze]
def Ch {f:Nat} {g:Operand} {c:Call} {args p r:List AV} {v:AV} {d:Option Nat} (hf:c.callee=.value g) (hg:ky e g=.kY f p r) (ha:c.args.toList.map (ky e)=args) (hok:(p++args++r).all AV.pq=true) (hs:fa.lh.elem f=false)
  (w:ka C F Pr false f (p++args++r) { h with cH:=[] } v { h with cH:=[] }):∃ m,∀ k,m<=k->lB (.call c) (XN C F Pr fa k) e h d=some (v,h):=by
 obtain ⟨m,hm⟩:=w
 refine ⟨m,λk hk=>?_⟩
 simp only [lB,qx,pY,hf,hg,ha,vi,BE,hok,hs,hm k hk,xb]
def mM {f:Nat} {g:Operand} {c:Call} {args p r args':List AV} {R:AV->Prop} (ho:o.op=.call c) (hw:kT all e o=some true) (hf:c.callee=.value g) (hg:ky e g=.kY f p r) (ha:c.args.toList.map (ky e)=args) (hok:(p++args++r).all AV.pq=true) (hs:fa.lh.elem f=false)
  (hP:Pr f=none) (h1:oJ { h with cH:=[] } (p++args++r)=some args') (h2:oJ aT.empty args'=some args')
  (w:∀ h:aT,∃ v,ka C F Pr false f args' h v h/\R v) (next:∀ v,R v->mH C F Pr fa all rest q (kJ e o v) h):mH C F Pr fa all (o::rest) q e h:=by
 obtain ⟨v,hc,hR⟩:=w aT.empty
 refine zk hw ?_ (next v hR)
 rw [ho]
 exact Ch hf hg ha hok hs (FE hP h1 h2 hc)
def rk {j:Nat} {sch:List (Nat×List Nat)} {f:Nat} {g:Operand} {c:Call} {args p r args':List AV} {R:AV->Prop} (hj:all[j]?=some o) (ho:o.op=.call c) (hw:kT all e o=some true) (hf:c.callee=.value g) (hg:ky e g=.kY f p r) (ha:c.args.toList.map (ky e)=args) (hok:(p++args++r).all AV.pq=true) (hs:fa.lh.elem f=false)
  (hP:Pr f=none) (h1:oJ { h with cH:=[] } (p++args++r)=some args') (h2:oJ aT.empty args'=some args')
  (w:∀ h:aT,∃ v,ka C F Pr false f args' h v h/\R v) (next:∀ v,R v->mz C F Pr fa all sch q (kJ e o v) h):mz C F Pr fa all ((j,[])::sch) q e h:=by
 obtain ⟨v,hc,hR⟩:=w aT.empty
 refine zj hj hw ?_ (next v hR)
 rw [ho]
 exact Ch hf hg ha hok hs (FE hP h1 h2 hc)
variable {H:aT} {ls:mW}
def kI {f:Nat} {g:Operand} {c:Call} {args p r:List AV} {R:AV->aT->Prop} (ho:o.op=.call c) (hw:kT all e o=some true) (hf:c.callee=.value g) (hg:ky e g=.kY f p r) (ha:c.args.toList.map (ky e)=args) (hok:(p++args++r).all AV.pq=true) (hs:fa.lh.elem f=true)
  (w:∃ v H',ka C F Pr true f (p++args++r) { H with cH:=[] } v H'/\R v H') (next:∀ v H',R v H'->mH C F Pr fa all rest q (kJ e o v) { H' with cH:=ls }):mH C F Pr fa all (o::rest) q e { H with cH:=ls }:=by
 obtain ⟨v,H',hc,hR⟩:=w
 refine zk hw ?_ (next v H' hR)
 rw [ho]
 exact Ax hf hg ha hok hs hc
def BJ {j:Nat} {sch:List (Nat×List Nat)} {f:Nat} {g:Operand} {c:Call} {args p r:List AV} {R:AV->aT->Prop} (hj:all[j]?=some o) (ho:o.op=.call c) (hw:kT all e o=some true) (hf:c.callee=.value g) (hg:ky e g=.kY f p r) (ha:c.args.toList.map (ky e)=args) (hok:(p++args++r).all AV.pq=true) (hs:fa.lh.elem f=true)
  (w:∃ v H',ka C F Pr true f (p++args++r) { H with cH:=[] } v H'/\R v H') (next:∀ v H',R v H'->mz C F Pr fa all sch q (kJ e o v) { H' with cH:=ls }):mz C F Pr fa all ((j,[])::sch) q e { H with cH:=ls }:=by
 obtain ⟨v,H',hc,hR⟩:=w
 refine zj hj hw ?_ (next v H' hR)
 rw [ho]
 exact Ax hf hg ha hok hs hc
end
def nZ {α:Type} (enc : α->List AV) (r:Row α):List AV:=[r.av enc]
structure pP where
 wj:Int
 steps:jS kL
 pos:jS Int
 left:jS (Row lX)
def pP.ag (x:pP):List AV:=[.int .i64 x.wj,x.steps.av kL.ag,x.pos.av j6,x.left.av (nZ lX.ag)]
structure tZ where
 from_:Int
 to:Int
 end_:Int
 steps:jS kL
 nm:jS lI
 guards:jS lI
 nr:jS Int
 holds:jS Int
 bare:Bool
def tZ.ag (x:tZ):List AV:=[.int .i64 x.from_,.int .i64 x.to,.int .i64 x.end_,x.steps.av kL.ag,x.nm.av lI.ag,x.guards.av lI.ag,x.nr.av j6,x.holds.av j6,.bool x.bare]
structure j5 where
 dO:iF
 roads:Row kz
def j5.ag (x:j5):List AV:=x.dO.ag++[x.roads.av kz.ag]
def sK (s:List UInt8):AV:=.str s
def bK (b:Bool):AV:=.bool b
def rH (a b:List UInt8):nG (sK a) (sK b)=some (decide (a=b)):=by
 simp only [nG,sK,AV.agg?,og,zq,AV.str?]
 grind
def Sep.pf {H:aT} {L:List lC} {i:Nat} {w t:Bool} {v:AV} {n:Nat} {xs:List (List AV)} (h:Sep H L) (hi:L[i]?=some (.sl w t v n xs)):Sep H (L.set i (.sl w false v n xs)):=by
 obtain ⟨hxl,hc⟩:=h.at hi
 refine h.oO hi h.lo (Nat.le_refl _) ⟨hxl,?_⟩ (λ_ _ _=>rfl) (λb hb=>.inl hb)
 grind
def mF {ti:TI} {v:AV} (ha:ti.agg=false) (hs:ti.size=1) (hc:v.mC=true):cellsOf ti v=some [v]:=by
 simp_all [cellsOf]
def kE {p:AV->Bool}:([]:List AV).all p=true:=rfl
def jU {p:AV->Bool} {a:AV} {l:List AV} (h:p a=true) (hl:l.all p=true):(a::l).all p=true:=by grind
def rY {a b:Bool} (h:a=true) (hl:b=true):(a&&b)=true:=by grind
def Tv {l:List AV} (h:l.all AV.mC=true):AV.qC (.agg l)=true:=h
def wT {κ β:Type} {ek : κ->AV} {ev : β->AV} {p:AV×AV->Prop} {l:List (κ×β)} (h:∀ x : κ×β,p (ek x.1,ev x.2)):∀ x∈lE ek ev l,p x:=by
 intro x hx; obtain ⟨y,_,rfl⟩:=List.mem_map.mp hx; exact h y
def mZ {α:Type} {enc : α->List AV} (r:Row α):AV.zw (r.av enc)=true:=by
 have h:=r.sn
 unfold Row.av
 cases hc:r.c<;>rw [hc] at h<;>first | rfl | cases h
def sA {X:Ctx} {e:Env} {h:aT} {t n d:Nat} {ps:Array (Nat×Operand)} {ti:TI} {xs:List (List AV)} (hT:tQ X.C t=some ti) (hle:Nat.ble (n*ti.size) 16777216=true) (hf:uz ti (qY e ps) (List.replicate n ti.zero)=some xs) (hd:X.fa.yK.elem d=false) (hp:tj xs=true):lB (.buildSlice t n ps) X e h (some d)=some (.sl xs (.exact xs.length),h):=by
 simp only [lB,wE,tH,hT,hle,hf,Ar,hd,hp,Bool.not_true,Bool.or_self]
def jS.isNil {α:Type} (r:jS α):Bool:=match r.c with
 | .nil=>true
 | _=>false
def jS.of_nil {α:Type} {r:jS α} (h:r.isNil=true):r.l=[]:=by
 apply r.nl
 grind [jS.isNil]
def nS {α:Type} {enc : α->List AV} {e:Env} {h:aT} {X:Ctx} {d:Option Nat} {t u el:Nat} {x y:Operand} {ti:TI} {r:jS α} (hT:X.C.T t=some ti) (hk:ti.kind=.slice el) (hx:ky e x=r.av enc) (hy:ky e y=.sl [] .nil):lB (.binOp .eql t x y u) X e h d=some (.bool r.isNil,h):=by
 simp only [lB,xK,binOp,hx,hy,jS.av,AV.int?,AV.str?,yY,hT,vX,hk,uE,jS.isNil]
 cases r.c<;>rfl
def Sep.vQ {H:aT} {L:List lC} {i:Nat} {t:Bool} {v:AV} {n:Nat} {xs:List (List AV)} (h:Sep H L) (hi:L[i]?=some (.sl true t v n xs)):(v=.sl [] .nil/\xs=[])\/(v=.sl [] (.exact 0)/\xs=[])\/∃ b g,v=.hs b g 0 xs.length:=by
 obtain ⟨hxl,h1 | ⟨h1 | h1,h2⟩ | ⟨b,g,j,h1,h2,h3,h4⟩⟩:=h.at hi<;>grind
end Go.Sx
