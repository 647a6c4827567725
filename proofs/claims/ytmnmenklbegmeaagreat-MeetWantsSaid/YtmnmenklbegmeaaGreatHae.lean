/- Proves rules for the walks and their soundness. -/
import Derived.Test.YtmnmenklbegmeaaGreatHad
set_option linter.all false
namespace Go.Sx
open Go
def Mw {G:Ga} (hW:WR G) (o:Obj) (s:Bool) :
  let G':Ga:=⟨G.w.alloc o,λs' B=>G.T s' B\/(s'=s/\B=G.w.heap.size),G.h,G.pi,G.L⟩
  Step G G'/\WR G':=by
 intro G'
 obtain ⟨S,W⟩:=Cu hW o
 have hold:∀ B,B<G.w.heap.size->(G.w.alloc o).heap[B]?=G.w.heap[B]?:=λB hB=>(kO.alloc G.w o).rY (G:=G) hB
 have E:Ext G G':=⟨λ_ _ h=>.inl h,S.ext.keep,S.ext.size,S.ext.iH,S.ext.map,S.ext.iq⟩
 refine ⟨⟨E,S.os,S.output,S.tape,S.kT,S.frame,S.mT,S.nz,?_,S.lo,S.out,S.qf,S.rH,S.sp⟩,?_⟩
 ·grind
 ·obtain ⟨k1,k2,k3⟩:=hW.keep E hold
  refine ⟨k1,k2,k3,W.kC,W.mL,?_,W.oh,?_,W.oO,W.lT,?_,W.lo,W.lt⟩
  ·rintro s' b l h (ht | ⟨_,ht⟩)
   ·exact hW.p6 s' b l h ht
   ·have:=(hW.kC b l h).1
    omega
  ·rintro s' d B h (ht | ⟨_,ht⟩)
   ·exact hW.LT s' d B h ht
   ·have:=(hW.lT d B h).1
    omega
  ·rintro s' B (h | ⟨_,rfl⟩)
   ·exact W.nb s' B h
   ·show G.w.heap.size<(G.w.alloc o).heap.size
    simp
theorem yM {P : Program} {f : Nat} (hex : ∃ fn, P.funcs[f]? = some fn ∧ fn.body.isNone = false ∧ (fn.name == "runtime.NumGoroutine") = false)
  (h1:∀ b es clock (w:World),w.heap[b]?=some (.map es clock)->Calls P f #[.map (some b)] w λe w'=>e=.returned (.map (some w.heap.size))/\w'=w.alloc (.map es clock))
  (h0:∀ w:World,Calls P f #[.map none] w λe w'=>e=.returned (.map none)/\w'=w):mq P f rO where
 call:=by
  intro shd args h v h' hc G args' hG hlo hL hW hl hr
  refine ⟨hex,?_⟩
  intro R hR
  subst hG
  have one:∀ x:AV,args=[x]->∃ y,args' = #[y]/\VC G x y:=by
   rintro x rfl
   cases args' with | mk l =>
   cases l with
   | nil=>simp at hl
   | cons y l =>
     cases l with
     | nil=>exact ⟨y,rfl,hr 0 x y rfl rfl⟩
     | cons _ _=>simp at hl
  unfold rO at hc
  split at hc
  ·obtain ⟨y,rfl,hy⟩:=one _ rfl
   cases hc
   have hv:=hy.vr
   cases hv with
   | jm _ hp =>
     cases hp
     refine (h0 G.w).mono ?_
     rintro e w' ⟨rfl,rfl⟩
     exact hR _ G (.refl G) hW (λm=>rfl) (λm L=>VR.jI (.jm rfl (.ka _)) rfl)
  ·rename_i es s
   obtain ⟨y,rfl,hy⟩:=one _ rfl
   cases hc
   have hv:=hy.vr
   cases hv with
   | jm _ hp =>
     cases hp with
     | fm _ _ _ r ents clk _ hB hI hll hyo hko hk hvv =>
       refine (h1 r ents clk G.w hB).mono ?_
       rintro e w' ⟨rfl,rfl⟩
       obtain ⟨S1,W1⟩:=Mw hW (.map ents clk) s
       refine hR _ _ S1 W1 (λm=>rfl) (λm L=>VR.jI (.jm rfl ?_) rfl)
       refine .fm _ es s G.w.heap.size ents clk (λ_=>rfl) ((kO.alloc G.w _).new (G:=G)) (.inr ⟨rfl,rfl⟩) hll hyo hko ?_ ?_
       ·exact λi p e hp he=>(hk i p e hp he).mono S1.ext.T S1.ext.keep
       ·exact λi p e hp he=>(hvv i p e hp he).mono S1.ext.T S1.ext.keep
  ·rename_i b
   obtain ⟨y,rfl,hy⟩:=one _ rfl
   split at hc
   ·split at hc
    ·rename_i es c hget
     cases hc
     obtain ⟨l,ents,hpi,rfl,hB,hent,hyo⟩:=rW hW hy.vr hget
     refine (h1 l.B ents c G.w hB).mono ?_
     rintro e w' ⟨rfl,rfl⟩
     obtain ⟨S1,W1⟩:=Ev (ob:=.map es c) (cap:=0) hW (kO.alloc G.w (.map ents c)) (by simp) (by
      intro es2 c2 e G' E hnew
      cases e
      have hent2:=hent.mono E
      exact ⟨ents,hnew,by simpa using hent2.1,hyo,λi p e hp he=>hent2.2 i p e hp (by grind)⟩)
     refine hR _ _ S1 W1 (λm=>rfl) (λm L=>VR.jI (.hm _ _ ?_ ?_) rfl)<;>grind [VR.jI,aT.size_push,lu]
    grind
   grind
  grind
 wU:=by
  intro args h v h' hc
  unfold rO at hc
  split at hc
  ·cases hc; exact ⟨rfl,λ_ _=>rfl⟩
  ·cases hc; exact ⟨rfl,λ_ _=>rfl⟩
  ·cases hc
  grind
end Go.Sx
namespace Go.Sx
open Go
def ahv (P:Program) (t n:Nat):Bool:=match P.info? t with
 | some i=>Nat.beq i.size n
 | none=>false
def HD (P:Program) (t:Nat) (k:TK):Bool:=match P.underlying t,k with
 | some .bool,.bool=>true
 | some (.int a),.int b=>oA a b
 | some .string,.str=>true
 | _,_=>false
def IV (P:Program) (t:Nat):Option Nat:=match P.underlying t with
 | some (.struct _)=>(P.info? t).map (·.size)
 | _=>none
def sQ (P:Program) (rec:Nat->List TK->Bool):List Field->Nat->List TK->Bool
 | [],_,ks=>ks.isEmpty
 | f :: fs, off, ks => (f.name != "_") && Nat.beq f.offset off && match IV P f.type with
   | some n=>Nat.ble n ks.length&&rec f.type (ks.take n)&&sQ P rec fs (off+n) (ks.drop n)
   | none=>match ks with
     | k::ks=>HD P f.type k&&sQ P rec fs (off+1) ks
     | []=>false
def sY (P:Program):Nat->Nat->List TK->Bool
 | 0,_,_=>false
 | d+1,t,ks=>match P.underlying t with
   | some (.struct F)=>!P.stoodInHeld t&&sQ P (sY P d) F.toList 0 ks
   | _=>false
section
variable {P:Program}
def Am:∀ {a b:List AV} (c d:List AV),a.length=b.length->lU (a++c) (b++d)=match lU a b,lU c d with
  | some x,some y=>some (x&&y)
  | _,_=>none
 | [],[],c,d,_=>by
   simp only [List.nil_append,lU]
   cases lU c d<;>simp
 | [],_::_,_,_,h=>by simp at h
 | _::_,[],_,_,h=>by simp at h
 | x::a,y::b,c,d,h=>by
   have ih:=Am c d (a:=a) (b:=b) (by simpa using h)
   simp only [List.cons_append,lU]
   cases hs:mu x y with
   | none=>rfl
   | some v =>
     cases v with
     | true=>simp only [ih]
     | false =>
       simp only [ih]
       cases lU a b<;>cases lU c d<;>simp
theorem AO:∀ {l m:List AV} {b:Bool},lU l m=some b->l.length=m.length
 | [],[],_,_=>rfl
 | [],_::_,_,h=>by cases h
 | _::_,[],_,h=>by cases h
 | x::l,y::m,b,h=>by
   simp only [lU] at h
   split at h
   ·simp [AO h]
   ·split at h
    ·rename_i q; simp [AO q]
    ·cases h
   ·cases h
theorem xf:∀ {ks:List TK} {l:List AV},fitAll ks l=true->l.length=ks.length
 | [],[],_=>rfl
 | [],_::_,h=>by cases h
 | _::_,[],h=>by cases h
 | _::ks,_::l,h=>by
   simp only [fitAll,Bool.and_eq_true] at h
   simp [xf h.2]
def yD:∀ (n:Nat) {ks:List TK} {l:List AV},fitAll ks l=true->fitAll (ks.take n) (l.take n)=true/\fitAll (ks.drop n) (l.drop n)=true
 | 0,ks,l,h=>⟨by rfl,by grind⟩
 | n+1,[],[],_=>⟨rfl,rfl⟩
 | _+1,[],_::_,h=>by cases h
 | _+1,_::_,[],h=>by cases h
 | n+1,k::ks,a::l,h=>by
   simp only [fitAll,Bool.and_eq_true] at h
   obtain ⟨h1,h2⟩:=yD n h.2
   exact ⟨by simp [fitAll,h.1,h1],by simpa using h2⟩
def Rel (w:World) (T:Bool->Nat->Prop) (l:List AV) (xs:Array Value):Prop:=l.length=xs.size/\∀ (i:Nat) (x:AV) (y:Value),l[i]?=some x->xs[i]?=some y->PR w T true x y
theorem Rel.part {w:World} {T:Bool->Nat->Prop} {l:List AV} {xs:Array Value} (h:Rel w T l xs) (o n:Nat) (hle:o+n<=l.length):Rel w T ((l.drop o).take n) (xs.extract o (o+n)):=by
 refine ⟨by simp [<- h.1]; omega,?_⟩
 intro i x y hx hy
 rw [List.getElem?_take] at hx
 split at hx
 ·rw [List.getElem?_drop] at hx
  rw [Array.getElem?_extract] at hy
  split at hy
  ·exact h.2 (o+i) x y hx hy
  grind
 grind
theorem vY {t:Nat} {k:TK} (hk:HD P t k=true) {xs:Array Value} {o:Nat} {y:Value} (hy:xs[o]?=some y) (w:World):(Go.part t xs o).run P w=.ok y w:=by
 unfold HD at hk
 have:∃ d,P.underlying t=some d/\Ie d=false:=by
  split at hk<;>first | exact ⟨_,by assumption,rfl⟩ | cases hk
 obtain ⟨d,hd,hag⟩:=this
 have hA:(Go.isAgg t).run P w=.ok false w:=by
  unfold Go.isAgg
  rw [Sem.run_bind,run_underlying hd w,<- hag]
  cases d<;>rfl
 simp_all [Go.part,Sem.run_bind]
theorem xS {t n:Nat} (hk:IV P t=some n) (xs:Array Value) (o:Nat) (w:World):(Go.part t xs o).run P w=.ok (.agg (xs.extract o (o+n))) w:=by
 unfold IV at hk
 split at hk
 ·rename_i F hF
  cases hi:P.info? t with
  | none=>grind
  | some i =>
    simp_all [Go.isAgg,Sem.run_bind,run_underlying,Go.part,Go.sizeOf,typeInfo]
 grind
theorem Ds {t:Nat} {k:TK} (hk:HD P t k=true) {a c:AV} {x y:Value} {b:Bool} {w:World} {T:Bool->Nat->Prop} (hf:rR k a=true) (hx:PR w T true a x) (hy:PR w T true c y) (h:mu a c=some b) (d:Nat) :
  (Op.equalIn (d+1) t x y).run P w=.ok b w:=by
 unfold HD at hk
 split at hk
 ·rename_i hd
  cases a<;>simp only [rR,Bool.false_eq_true] at hf
  cases c<;>simp only [mu,yS,AV.bool?,reduceCtorEq] at h
  cases hx; cases hy<;>grind [run_equalIn_bool]
 ·rename_i k1 k2 hd
  cases a<;>simp only [rR,Bool.false_eq_true] at hf
  cases c<;>simp only [mu,vK,AV.int?,reduceCtorEq] at h
  split at h
  ·rename_i hkk
   rw [qX] at hkk
   cases hx; cases hy<;>grind [run_equalIn_int,pH]
  ·cases h
 ·rename_i hd
  cases a<;>simp only [rR,Bool.false_eq_true] at hf
  cases c<;>simp only [mu,zH,AV.str?,reduceCtorEq] at h
  cases hx with
  | str _ _ p hp =>
    cases hy with
    | str _ _ q hq =>
      have:(Op.equalIn (d+1) t (.string p) (.string q)).run P w=.ok (p==q) w:=by simp [Op.equalIn,run_underlying hd]
      grind [Fq]
 grind
def qh {rec:Nat->List TK->Bool} {d:Nat}
  (hrec:∀ t ks,rec t ks=true->∀ (l m:List AV) (xs ys:Array Value) (b:Bool) (w:World) (T:Bool->Nat->Prop),fitAll ks l=true->Rel w T l xs->Rel w T m ys->lU l m=some b->(Op.equalIn d t (.agg xs) (.agg ys)).run P w=.ok b w)
  (hd:0<d) {l m:List AV} {xs ys:Array Value} {w:World} {T:Bool->Nat->Prop} (hx:Rel w T l xs) (hy:Rel w T m ys) :
  ∀ (fs:List Field) (off:Nat) (ks:List TK) (b:Bool),sQ P rec fs off ks=true->fitAll ks (l.drop off)=true->lU (l.drop off) (m.drop off)=some b->off<=l.length->l.length=m.length ->
    (Op.eqFields d xs ys fs).run P w=.ok b w
 | [],off,ks,b,hfl,hfit,he,_,_=>by
   simp only [sQ,List.isEmpty_iff] at hfl
   subst hfl
   have h0:=xf hfit
   have h1:l.drop off=[]:=List.eq_nil_of_length_eq_zero h0
   have h2:m.drop off=[]:=List.eq_nil_of_length_eq_zero (by grind)
   rw [h1,h2] at he
   cases he
   rfl
 | f::fs,off,ks,b,hfl,hfit,he,hol,hlm=>by
   simp only [sQ,Bool.and_eq_true,bne_iff_ne,ne_eq] at hfl
   obtain ⟨⟨hname,hoff⟩,hrest⟩:=hfl
   have hoff:=Nat.eq_of_beq_eq_true hoff
   unfold Op.eqFields
   rw [if_pos hname,hoff]
   split at hrest
   ·rename_i n hn
    simp only [Bool.and_eq_true,Nat.ble_eq] at hrest
    obtain ⟨⟨hnk,hr⟩,hfs⟩:=hrest
    have hlen:=xf hfit
    rw [List.length_drop] at hlen
    obtain ⟨fit1,fit2⟩:=yD n hfit
    rw [List.drop_drop] at fit2
    have hsplit:lU (l.drop off) (m.drop off)=match lU ((l.drop off).take n) ((m.drop off).take n),lU (l.drop (off+n)) (m.drop (off+n)) with
      | some x,some y=>some (x&&y)
      | _,_=>none:=by
     have:=Am (a:=(l.drop off).take n) (b:=(m.drop off).take n) (l.drop (off+n)) (m.drop (off+n)) (by simp [hlm])
     rw [<- List.drop_drop (i:=n) (j:=off),<- List.drop_drop (i:=n) (j:=off),List.take_append_drop,List.take_append_drop] at this
     simp_all
    rw [hsplit] at he
    split at he
    ·rename_i b1 b2 h1 h2
     cases he
     have e1:=hrec _ _ hr _ _ _ _ b1 w T fit1 (hx.part off n (by omega)) (hy.part off n (by omega)) h1
     have e2:=qh hrec hd hx hy fs (off+n) _ b2 hfs fit2 h2 (by omega) hlm
     simp only [Sem.run_bind,xS hn,Result.andThen_ok,e1,Sem.run_ite]
     cases b1<;>simp_all
    grind
   ·rename_i hn
    split at hrest
    ·rename_i k ks
     simp only [Bool.and_eq_true] at hrest
     obtain ⟨hk,hfs⟩:=hrest
     cases hld:l.drop off with
     | nil=>rw [hld] at hfit; cases hfit
     | cons a l' =>
       cases hmd:m.drop off with
       | nil=>rw [hld,hmd] at he; cases he
       | cons c m' =>
         have hl':l'=l.drop (off+1):=by rw [<- List.drop_drop,hld]; rfl
         have hm':m'=m.drop (off+1):=by rw [<- List.drop_drop,hmd]; rfl
         rw [hld] at hfit
         simp only [fitAll,Bool.and_eq_true] at hfit
         have hla:l[off]?=some a:=by
          have:(l.drop off)[0]?=some a:=by grind
          grind
         have hmc:m[off]?=some c:=by
          have:(m.drop off)[0]?=some c:=by grind
          grind
         have hlt:=(List.getElem?_eq_some_iff.1 hla).1
         have hmt:=(List.getElem?_eq_some_iff.1 hmc).1
         have hlx:off<xs.size:=by rw [<- hx.1]; exact hlt
         have hly:off<ys.size:=by rw [<- hy.1]; exact hmt
         have hxo:xs[off]?=some xs[off]:=by simp
         have hyo:ys[off]?=some ys[off]:=by simp
         rw [hld,hmd] at he
         simp only [lU] at he
         have next:∀ b2,lU l' m'=some b2->(Op.eqFields d xs ys fs).run P w=.ok b2 w:=by
          intro b2 h2
          rw [hl',hm'] at h2
          exact qh hrec hd hx hy fs (off+1) ks b2 hfs (by rw [<- hl']; exact hfit.2) h2 (by omega) hlm
         obtain ⟨d',rfl⟩:∃ d',d=d'+1:=⟨d - 1,by omega⟩
         simp only [Sem.run_bind,vY hk hxo,vY hk hyo,Result.andThen_ok]
         split at he
         ·rename_i hs
          rw [Ds hk hfit.1 (hx.2 off a _ hla hxo) (hy.2 off c _ hmc hyo) hs d']
          grind [Result.andThen_ok]
         ·rename_i hs
          rw [Ds hk hfit.1 (hx.2 off a _ hla hxo) (hy.2 off c _ hmc hyo) hs d']
          split at he<;>simp_all
         grind
    grind
def Ak:∀ (d t:Nat) (ks:List TK),sY P d t ks=true->∀ (D:Nat) (l m:List AV) (xs ys:Array Value) (b:Bool) (w:World) (T:Bool->Nat->Prop),fitAll ks l=true->Rel w T l xs->Rel w T m ys->lU l m=some b ->
  (Op.equalIn (D+1+d) t (.agg xs) (.agg ys)).run P w=.ok b w
 | 0,_,_,h=>by cases h
 | d+1,t,ks,h=>by
   intro D l m xs ys b w T hfit hx hy he
   simp only [sY] at h
   split at h
   ·rename_i F hF
    simp only [Bool.and_eq_true,Bool.not_eq_true'] at h
    have hfo:P.fieldsOf t=F:=by simp [Program.fieldsOf,hF]
    rw [show D+1+(d+1)=(D+1+d)+1 by omega,run_equalIn_struct w (D+1+d) t xs ys (by rw [hfo]; exact hF) h.1,hfo]
    exact qh (λt' ks' h'=>Ak d t' ks' h' D) (by omega) hx hy F.toList 0 ks b h.2 (by simpa using hfit) (by simpa using he) (Nat.zero_le _) (AO he)
   ·cases h
def wP:∀ (d t:Nat) (ks:List TK),sY P d t ks=true->∀ (D:Nat) (em:Bool) (xs:Array Value) (w:World),xs.size=ks.length->(Instr.checkKey em (D+1+d) t (.agg xs)).run P w=.ok () w
 | 0,_,_,h=>by cases h
 | d+1,t,ks,h=>by
   intro D em xs w hsz
   simp only [sY] at h
   split at h
   ·rename_i F hF
    simp only [Bool.and_eq_true] at h
    have hfl:=h.2
    rw [show D+1+(d+1)=(D+1+d)+1 by omega]
    unfold Instr.checkKey
    simp only [Sem.run_bind,run_underlying hF,Result.andThen_ok]
    rw [<- Array.forIn_toList]
    have go:∀ (fs:List Field) (off:Nat) (ks':List TK),sQ P (sY P d) fs off ks'=true->off+ks'.length=xs.size ->
      (forIn (m := Sem) fs PUnit.unit (fun f _ => if f.name ≠ "_" then do
        Instr.checkKey em (D+1+d) f.type (<- Go.part f.type xs f.offset)
        pure (ForInStep.yield PUnit.unit) else pure (ForInStep.yield PUnit.unit))).run P w=.ok PUnit.unit w:=by
     intro fs
     induction fs with
     | nil=>simp
     | cons f fs ih =>
       intro off ks' hf ho
       simp only [sQ,Bool.and_eq_true,bne_iff_ne,ne_eq] at hf
       obtain ⟨⟨hname,hoff⟩,hrest⟩:=hf
       have hoff:=Nat.eq_of_beq_eq_true hoff
       rw [List.forIn_cons]
       split at hrest
       ·rename_i n hn
        simp only [Bool.and_eq_true,Nat.ble_eq] at hrest
        obtain ⟨⟨hnk,hr⟩,hfs⟩:=hrest
        have e1:=wP d f.type _ hr D em (xs.extract f.offset (f.offset+n)) w (by grind)
        grind [Sem.run_bind,xS,Result.andThen_ok,Sem.run_pure]
       ·split at hrest
        ·rename_i k ks2
         simp only [Bool.and_eq_true] at hrest
         have hlt:f.offset<xs.size:=by grind
         have hxo:xs[f.offset]?=some xs[f.offset]:=by simp
         have e0:(Instr.checkKey em (D+1+d) f.type xs[f.offset]).run P w=.ok () w:=by
          have hk:=hrest.1
          unfold HD at hk
          grind [xu]
         have e2:=ih (off+1) _ hrest.2 (by grind)
         simp only [Sem.run_bind,if_pos hname,vY hrest.1 hxo,Result.andThen_ok,e0,Sem.run_pure]
         exact e2
        grind
    rw [go F.toList 0 ks hfl (by omega)]
    rfl
   ·cases h
def QY (P:Program) (d:TypeDesc) (k:TK):Bool:=match d,k with
 | .bool,.bool=>true
 | .int a,.int b=>oA a b
 | .string,.str=>true
 | .pointer _,.ptr=>true
 | .slice a,.slice b=>Nat.beq a b
 | .array n a,.array m b=>Nat.beq n m&&Nat.beq a b
 | .map a b,.map c e=>Nat.beq a c&&Nat.beq b e
 | .struct F,.struct fs=>(fs==F.toList.map λf=>(f.offset,f.type))&&F.toList.all λf=>match P.info? f.type with
   | some i=>!(Nat.beq i.size 0)
   | none=>false
 | .func ..,.func=>true
 | _,.other=>true
 | _,_=>false
def QC (ti:TI) (z:Value):Bool:=nq (lM 2) ti.zero (z.cells.toList.map EF)&&Nat.beq z.cells.size ti.size&&z.cells.toList.all (·.oneCell')&&match ti.agg,z with
 | true,.agg _=>true
 | true,_=>false
 | false,z=>z.oneCell'
def Lu (P:Program) (t:Nat) (ti:TI):Bool :=
 (match P.info? t with
 | some i=>Nat.beq i.size ti.size&&Nat.beq i.bytes ti.bytes&&match i.zero with
   | some z=>QC ti z
   | none=>false
 | none=>false) &&
 (match P.underlying t with
 | some d=>CZ (Ie d) ti.agg&&QY P d ti.kind
 | none=>false) &&
 Nat.ble ti.bytes 1048576 &&
 (!ti.flat||!(P.eqGuardType P.depth t)) &&
 (!(ti.flat&&ti.agg)||(sY P 3 t ti.sc&&Nat.beq ti.sc.length ti.size))
def WA {t:Nat} {ti:TI} (h:Lu P t ti=true):nj P t ti:=by
 simp only [Lu,Bool.and_eq_true] at h
 obtain ⟨⟨⟨⟨h1,h2⟩,h3⟩,h4⟩,h5⟩:=h
 have hflat:ti.flat=true->ti.agg=true->sY P 3 t ti.sc=true/\ti.sc.length=ti.size:=by
  intro hf ha
  simp_all
 refine ⟨?_,?_,Nat.le_of_ble_eq_true h3,?_,?_,?_⟩
 ·split at h1
  ·rename_i i hi
   simp only [Bool.and_eq_true] at h1
   obtain ⟨⟨a1,a2⟩,a3⟩:=h1
   split at a3
   ·rename_i z hz
    simp only [QC,Bool.and_eq_true,List.all_eq_true] at a3
    obtain ⟨⟨⟨z1,z2⟩,z3⟩,z4⟩:=a3
    refine ⟨i,z,hi,Nat.eq_of_beq_eq_true a1,Nat.eq_of_beq_eq_true a2,hz,mO (oK 2) _ _ z1,Nat.eq_of_beq_eq_true z2,z3,?_,?_⟩<;>grind
   grind
  grind
 ·split at h2
  ·rename_i d hd
   simp only [Bool.and_eq_true,EC,beq_iff_eq] at h2
   refine ⟨d,hd,h2.1,?_⟩
   have hk:=h2.2
   generalize ti.kind=kk at hk ⊢
   unfold QY at hk
   split at hk<;>try (cases hk; done)
   ·exact rfl
   ·rw [qX] at hk; subst hk; exact rfl
   ·exact rfl
   ·exact ⟨_,rfl⟩
   ·have:=Nat.eq_of_beq_eq_true hk; subst this; exact rfl
   ·simp only [Bool.and_eq_true] at hk
    have e1:=Nat.eq_of_beq_eq_true hk.1
    have e2:=Nat.eq_of_beq_eq_true hk.2
    subst e1; subst e2; exact rfl
   ·simp only [Bool.and_eq_true] at hk
    have e1:=Nat.eq_of_beq_eq_true hk.1
    have e2:=Nat.eq_of_beq_eq_true hk.2
    subst e1; subst e2; exact rfl
   ·simp only [Bool.and_eq_true,beq_iff_eq,List.all_eq_true] at hk
    refine ⟨_,rfl,hk.1,?_⟩
    intro f hf
    have:=hk.2 f hf
    split at this
    ·rename_i i hi
     refine ⟨i,hi,?_⟩
     intro h0
     simp_all
    grind
   ·exact ⟨_,_,_,rfl⟩
   ·trivial
  grind
 ·grind
 ·intro hf ha l m xs ys b w T hfit hl hm hx hy he
  obtain ⟨f1,f2⟩:=hflat hf ha
  have rel:∀ {l:List AV} {xs:Array Value},PR w T true (.agg l) (.agg xs)->Rel w T l xs:=by
   intro l xs h
   cases h with
   | agg _ _ _ hl h1 hr=>exact ⟨hl,hr⟩
  exact Ak 3 t ti.sc f1 9996 l m xs ys b w T hfit (rel hx) (rel hy) he
 ·intro hf ha e xs w hsz
  obtain ⟨f1,f2⟩:=hflat hf ha
  exact wP 3 t ti.sc f1 9996 e xs w (by omega)
def Tr.CN {α:Type} (p:Nat->α->Bool):Tr α->(Nat->Nat)->Bool
 | .leaf,_=>true
 | .node l v r,f=>(match v with
   | some x=>p (f 0) x
   | none=>true)&&Tr.CN p l (λn=>f (2*n+1))&&Tr.CN p r (λn=>f (2*n+2))
def Tr.AT {α:Type} (p:Nat->α->Bool):∀ (t:Tr α) (f:Nat->Nat),Tr.CN p t f=true->∀ (n:Nat) (x : α),t.get n=some x->p (f n) x=true
 | .leaf,_,_,n,x,h=>by simp [Tr.get] at h
 | .node l v r,f,ha,n,x,h=>by
   simp only [Tr.CN,Bool.and_eq_true] at ha
   obtain ⟨⟨h1,h2⟩,h3⟩:=ha
   cases n with
   | zero =>
     simp only [Tr.get] at h
     rw [h] at h1
     exact h1
   | succ m =>
     simp only [Tr.get] at h
     split at h
     ·rename_i hm
      have hm:=Nat.eq_of_beq_eq_true hm
      have:=Tr.AT p l _ h2 (m / 2) x h
      rw [show 2*(m / 2)+1=m+1 by omega] at this
      exact this
     ·rename_i hm
      have hm:m % 2≠0:=Nat.ne_of_beq_eq_false hm
      have:=Tr.AT p r _ h3 (m / 2) x h
      rw [show 2*(m / 2)+2=m+1 by omega] at this
      exact this
def Tr.EL {α:Type} (q:Nat->α->Prop):Tr α->(Nat->Nat)->Prop
 | .leaf,_=>True
 | .node l v r,f=>(match v with
   | some x=>q (f 0) x
   | none=>True)/\Tr.EL q l (λn=>f (2*n+1))/\Tr.EL q r (λn=>f (2*n+2))
def Tr.AJ {α:Type} (q:Nat->α->Prop):∀ (t:Tr α) (f:Nat->Nat),Tr.EL q t f->∀ (n:Nat) (x : α),t.get n=some x->q (f n) x
 | .leaf,_,_,n,x,h=>by simp [Tr.get] at h
 | .node l v r,f,ha,n,x,h=>by
   simp only [Tr.EL] at ha
   obtain ⟨h1,h2,h3⟩:=ha
   cases n with
   | zero =>
     simp only [Tr.get] at h
     rw [h] at h1
     exact h1
   | succ m =>
     simp only [Tr.get] at h
     split at h
     ·rename_i hm
      have hm:=Nat.eq_of_beq_eq_true hm
      have:=Tr.AJ q l _ h2 (m / 2) x h
      rw [show 2*(m / 2)+1=m+1 by omega] at this
      exact this
     ·rename_i hm
      have hm:m % 2≠0:=Nat.ne_of_beq_eq_false hm
      have:=Tr.AJ q r _ h3 (m / 2) x h
      rw [show 2*(m / 2)+2=m+1 by omega] at this
      exact this
def Wg {t:Tr TI} (h:Tr.CN (Lu P) t id=true):jR P ⟨t.get⟩ :=
 ⟨λn ti hn=>WA (Tr.AT (Lu P) t id h n ti hn)⟩
end
end Go.Sx
namespace Go.Sx
open Go
section
variable (C:jE) (F:kJ) (Pr:ko)
def iZ (shd:Bool) (f:Nat) (args:List AV) (h:aT) (v:AV) (h':aT):Prop:=∃ m,∀ k,m<=k->mg C F Pr k shd f args h=some (v,h')
abbrev XN (fa:iC) (k:Nat):Ctx:=⟨C,fa,mg C F Pr k⟩
def Wp (fa:iC) (c:Code) (an:lz) (Q:Ex->Env->aT->Prop) (e:Env) (h:aT):Prop :=
 ∃ x e' h',(∃ m,∀ k,m<=k->jN (XN C F Pr fa k) (kA k) c an e h=some (x,e',h'))/\Q x e' h'
def kh (fa:iC) (all ops:List Oper) (Q:Env->aT->Prop) (e:Env) (h:aT):Prop :=
 ∃ e' h',(∃ m,∀ k,m<=k->ya (XN C F Pr fa k) all ops e h=some (e',h'))/\Q e' h'
def ky (fa:iC) (all:List Oper) (sch:List (Nat×List Nat)) (Q:Env->aT->Prop) (e:Env) (h:aT):Prop :=
 ∃ e' h',(∃ m,∀ k,m<=k->tg (XN C F Pr fa k) all sch e h=some (e',h'))/\Q e' h'
end
section
variable {C:jE} {F:kJ} {Pr:ko} {fa:iC} {Q:Ex->Env->aT->Prop} {e:Env} {h:aT}
def Wp.mono {c:Code} {an:lz} {Q':Ex->Env->aT->Prop} (w:Wp C F Pr fa c an Q e h) (hq:∀ x e h,Q x e h->Q' x e h):Wp C F Pr fa c an Q' e h :=
 let ⟨x,e',h',m,q⟩:=w; ⟨x,e',h',m,hq _ _ _ q⟩
def Oo {an:lz} (q:Q .j1 e h):Wp C F Pr fa .skip an Q e h:=⟨_,_,_,⟨0,λ_ _=>rfl⟩,q⟩
def Kv {l:Nat} {an:lz} (q:Q .j1 e h):Wp C F Pr fa (.label l) an Q e h:=⟨_,_,_,⟨0,λ_ _=>rfl⟩,q⟩
def Nl {id:Nat} {an:lz} (q:Q (.ext id) e h):Wp C F Pr fa (.exit id) an Q e h:=⟨_,_,_,⟨0,λ_ _=>rfl⟩,q⟩
def T9 {an:lz} (q:Q .ret e h):Wp C F Pr fa .ret an Q e h:=⟨_,_,_,⟨0,λ_ _=>rfl⟩,q⟩
def va {c:Code} {an:lz} (w:Wp C F Pr fa c an Q e h):Wp C F Pr fa (.scope c) an Q e h:=w
def vf (next:Env->aT->Prop) (Q:Ex->Env->aT->Prop):Ex->Env->aT->Prop
 | .j1,e,h=>next e h
 | x,e,h=>Q x e h
def WC {a b:Code} {x y:lz} (w:Wp C F Pr fa a x (vf (Wp C F Pr fa b y Q) Q) e h):Wp C F Pr fa (.seq a b) (.sq x y) Q e h:=by
 obtain ⟨x1,e1,h1,⟨m1,hm1⟩,q1⟩:=w
 cases x1 with
 | j1 =>
   obtain ⟨x2,e2,h2,⟨m2,hm2⟩,q2⟩:=q1
   refine ⟨x2,e2,h2,⟨max m1 m2,λk hk=>?_⟩,q2⟩
   simp only [jN,yV,hm1 k (by omega),andThen]
   grind
 | ext id=>exact ⟨_,e1,h1,⟨m1,λk hk=>by simp_all [jN,yV,andThen]⟩,q1⟩
 | ret=>exact ⟨_,e1,h1,⟨m1,λk hk=>by simp_all [jN,yV,andThen]⟩,q1⟩
def GJ {a b:Code} {live:List Nat} {x y:lz} (w:Wp C F Pr fa a x (vf (λe h=>Wp C F Pr fa b y Q (proj live e) { h with iq:=kS live h.iq }) Q) e h):Wp C F Pr fa (.seq a b) (.seq live x y) Q e h:=by
 obtain ⟨x1,e1,h1,⟨m1,hm1⟩,q1⟩:=w
 cases x1 with
 | j1 =>
   obtain ⟨x2,e2,h2,⟨m2,hm2⟩,q2⟩:=q1
   refine ⟨x2,e2,h2,⟨max m1 m2,λk hk=>?_⟩,q2⟩
   simp only [jN,yV,hm1 k (by omega),andThen,og]
   grind
 | ext id=>exact ⟨_,e1,h1,⟨m1,λk hk=>by simp_all [jN,yV,andThen]⟩,q1⟩
 | ret=>exact ⟨_,e1,h1,⟨m1,λk hk=>by simp_all [jN,yV,andThen]⟩,q1⟩
def EI {c:Operand} {a b:Code} {x y:lz} {t:Bool} (hc:iP e c=.bool t) (w1:t=true->Wp C F Pr fa a x Q e h) (w2:t=false->Wp C F Pr fa b y Q e h):Wp C F Pr fa (.cond c a b) (.two x y) Q e h:=by
 cases t with
 | true =>
   obtain ⟨x1,e1,h1,⟨m1,hm1⟩,q1⟩:=w1 rfl
   exact ⟨x1,e1,h1,⟨m1,λk hk=>by simp_all [jN,DY,D5,AV.bool?]⟩,q1⟩
 | false =>
   obtain ⟨x1,e1,h1,⟨m1,hm1⟩,q1⟩:=w2 rfl
   exact ⟨x1,e1,h1,⟨m1,λk hk=>by simp_all [jN,DY,D5,AV.bool?]⟩,q1⟩
def HT (id:Nat) (Q:Ex->Env->aT->Prop):Ex->Env->aT->Prop
 | .ext i,e,h=>if i=id then Q .j1 e h else Q (.ext i) e h
 | x,e,h=>Q x e h
def LH {id:Nat} {a:Code} {an:lz} (w:Wp C F Pr fa a an (HT id Q) e h):Wp C F Pr fa (.block id a) an Q e h:=by
 obtain ⟨x1,e1,h1,⟨m1,hm1⟩,q1⟩:=w
 cases x1 with
 | j1=>exact ⟨_,e1,h1,⟨m1,λk hk=>by simp_all [jN,wR,atEnd]⟩,q1⟩
 | ret=>exact ⟨_,e1,h1,⟨m1,λk hk=>by simp_all [jN,wR,atEnd]⟩,q1⟩
 | ext i =>
   simp only [HT] at q1
   split at q1
   ·rename_i hi
    subst hi
    exact ⟨_,e1,h1,⟨m1,λk hk=>by simp_all [jN,wR,atEnd]⟩,q1⟩
   ·rename_i hi
    have hb:Nat.beq i id=false:=by
     cases hq:Nat.beq i id<;>simp_all
    exact ⟨_,e1,h1,⟨m1,λk hk=>by simp_all [jN,wR,atEnd]⟩,q1⟩
def mw {c:Code} {live:List Nat} {an:lz} (I:Nat->Env->aT->Prop)
  (round:∀ n e h,I n e h->Wp C F Pr fa c an (vf (λe' h'=>∃ m,m<n/\I m e' h') Q) (proj live e) { h with iq:=kS live h.iq }) :
  ∀ (n:Nat) (e:Env) (h:aT),I n e h->Wp C F Pr fa (.loop c) (.loop live an) Q e h:=by
 have key:∀ (n:Nat) (e:Env) (h:aT),I n e h->∃ x e' h',(∃ M,∀ k j,M<=k->M<=j->kA j (lH live (jN (XN C F Pr fa k) (kA k) c an)) e h=some (x,e',h'))/\Q x e' h':=by
  intro n
  induction n using Nat.strongRecOn with
  | _ n ih =>
    intro e h hI
    obtain ⟨x1,e1,h1,⟨m1,hm1⟩,q1⟩:=round n e h hI
    have other:∀ x1,(∀ e h,vf (λe' h'=>∃ m,m<n/\I m e' h') Q x1 e h=Q x1 e h)->x1≠.j1->(∀ k,m1<=k->jN (XN C F Pr fa k) (kA k) c an (proj live e) { h with iq:=kS live h.iq }=some (x1,e1,h1))->Q x1 e1 h1 ->
      ∃ x e' h',(∃ M,∀ k j,M<=k->M<=j->kA j (lH live (jN (XN C F Pr fa k) (kA k) c an)) e h=some (x,e',h'))/\Q x e' h':=by
     intro x1 _ hne hm q
     refine ⟨x1,e1,h1,⟨m1+1,λk j hk hj=>?_⟩,q⟩
     obtain ⟨j,rfl⟩:∃ j',j=j'+1:=⟨j - 1,by omega⟩
     grind [kA,og]
    cases x1 with
    | j1 =>
      obtain ⟨m,hlt,hI1⟩:=q1
      obtain ⟨x2,e2,h2,⟨M,hM⟩,q2⟩:=ih m hlt e1 h1 hI1
      refine ⟨x2,e2,h2,⟨max m1 M+1,λk j hk hj=>?_⟩,q2⟩
      obtain ⟨j,rfl⟩:∃ j',j=j'+1:=⟨j - 1,by omega⟩
      grind [kA,og]
    | ext id=>exact other (.ext id) (λ_ _=>rfl) (by simp) hm1 q1
    | ret=>exact other .ret (λ_ _=>rfl) (by simp) hm1 q1
 intro n e h hI
 obtain ⟨x,e',h',⟨M,hM⟩,q⟩:=key n e h hI
 exact ⟨x,e',h',⟨M,λk hk=>hM k k hk hk⟩,q⟩
def HI {id:Nat} {ops:Array Oper} {an:lz} (w:kh C F Pr fa ops.toList ops.toList (Q .j1) e h):Wp C F Pr fa (.region id ops false) an Q e h:=by
 obtain ⟨e1,h1,⟨m1,hm1⟩,q1⟩:=w
 exact ⟨.j1,e1,h1,⟨m1,λk hk=>by simp_all [jN,wa,Ir,xz]⟩,q1⟩
def L3 {id:Nat} {ops:Array Oper} {sch:List (Nat×List Nat)} (w:ky C F Pr fa ops.toList sch (Q .j1) e h):Wp C F Pr fa (.region id ops true) (.pV sch) Q e h:=by
 obtain ⟨e1,h1,⟨m1,hm1⟩,q1⟩:=w
 exact ⟨.j1,e1,h1,⟨m1,λk hk=>by simp_all [jN,wa,ym,xz]⟩,q1⟩
variable {all rest:List Oper} {o:Oper} {q:Env->aT->Prop}
def Ts (w:q e h):kh C F Pr fa all [] q e h:=⟨e,h,⟨0,λ_ _=>rfl⟩,w⟩
def zD {v:AV} {h1:aT} (hw:jg all e o=some true) (hop:∃ m,∀ k,m<=k->jq o.op (XN C F Pr fa k) e h o.dst=some (v,h1)) (w:kh C F Pr fa all rest q (iW e o v) h1):kh C F Pr fa all (o::rest) q e h:=by
 obtain ⟨m,hm⟩:=hop
 obtain ⟨e2,h2,⟨m2,hm2⟩,q2⟩:=w
 refine ⟨e2,h2,⟨max m m2,λk hk=>?_⟩,q2⟩
 grind [ya,pL,zn]
theorem iI {v:AV} {h1:aT} (hw:jg all e o=some true) (hop:∀ call,jq o.op ⟨C,fa,call⟩ e h o.dst=some (v,h1)) (w:kh C F Pr fa all rest q (iW e o v) h1):kh C F Pr fa all (o::rest) q e h :=
 zD hw ⟨0,λ_ _=>hop _⟩ w
def Oi (hw:jg all e o=some false) (w:kh C F Pr fa all rest q (iW e o (.je [])) h):kh C F Pr fa all (o::rest) q e h:=by
 obtain ⟨e2,h2,⟨m2,hm2⟩,q2⟩:=w
 refine ⟨e2,h2,⟨m2,λk hk=>?_⟩,q2⟩
 grind [ya,pL]
def TD (w:q e h):ky C F Pr fa all [] q e h:=⟨e,h,⟨0,λ_ _=>rfl⟩,w⟩
def Cr {i:Nat} {sch:List (Nat×List Nat)} {v:AV} {h1:aT} (ho:all[i]?=some o) (hw:jg all e o=some true) (hop:∃ m,∀ k,m<=k->jq o.op (XN C F Pr fa k) e h o.dst=some (v,h1))
  (w:ky C F Pr fa all sch q (iW e o v) h1):ky C F Pr fa all ((i,[])::sch) q e h:=by
 obtain ⟨m,hm⟩:=hop
 obtain ⟨e2,h2,⟨m2,hm2⟩,q2⟩:=w
 refine ⟨e2,h2,⟨max m m2,λk hk=>?_⟩,q2⟩
 grind [tg,pL,zn]
theorem iU {i:Nat} {sch:List (Nat×List Nat)} {v:AV} {h1:aT} (ho:all[i]?=some o) (hw:jg all e o=some true) (hop:∀ call,jq o.op ⟨C,fa,call⟩ e h o.dst=some (v,h1))
  (w:ky C F Pr fa all sch q (iW e o v) h1):ky C F Pr fa all ((i,[])::sch) q e h :=
 Cr ho hw ⟨0,λ_ _=>hop _⟩ w
def Ot {i:Nat} {sch:List (Nat×List Nat)} (ho:all[i]?=some o) (hw:jg all e o=some false) (w:ky C F Pr fa all sch q (iW e o (.je [])) h):ky C F Pr fa all ((i,[])::sch) q e h:=by
 obtain ⟨e2,h2,⟨m2,hm2⟩,q2⟩:=w
 refine ⟨e2,h2,⟨m2,λk hk=>?_⟩,q2⟩
 grind [tg,pL]
def FK {f:Nat} {g:Operand} {c:Call} {args:List AV} {v:AV} {d:Option Nat} (hf:c.callee=.value g) (hg:iP e g=.jz f [] []) (ha:c.args.toList.map (iP e)=args) (hok:args.all AV.nA=true) (hs:fa.jl.elem f=false)
  (w:iZ C F Pr false f args { h with iq:=[] } v { h with iq:=[] }):∃ m,∀ k,m<=k->jq (.call c) (XN C F Pr fa k) e h d=some (v,h):=by
 obtain ⟨m,hm⟩:=w
 refine ⟨m,λk hk=>?_⟩
 simp only [jq,ow,nO,hf,hg,ha,uw,B5,List.nil_append,List.append_nil,hok,hs,hm k hk,wM]
def Ez {f:Nat} {g:Operand} {c:Call} {args p q:List AV} {v:AV} {d:Option Nat} {h':aT} (hf:c.callee=.value g) (hg:iP e g=.jz f p q) (ha:c.args.toList.map (iP e)=args) (hok:(p++args++q).all AV.nA=true) (hs:fa.jl.elem f=true)
  (w:iZ C F Pr true f (p++args++q) { h with iq:=[] } v h'):∃ m,∀ k,m<=k->jq (.call c) (XN C F Pr fa k) e h d=some (v,{ h' with iq:=h.iq }):=by
 obtain ⟨m,hm⟩:=w
 refine ⟨m,λk hk=>?_⟩
 simp only [jq,ow,nO,hf,hg,ha,uw,B5,hok,hs,hm k hk,wM]
def Leaves (C:jE) (res:List ResultVar) (R:AV->aT->Prop):Ex->Env->aT->Prop
 | .ext _,_,_=>False
 | _,e,h=>∃ v,leave.leave1 C res e h=some (v,h)/\R v h
def yK {f:Nat} {args:List AV} {R:AV->aT->Prop} (hP:Pr f=none) (hF:F f=some fa) (hi:fa.iter=false) (w:Wp C F Pr fa fa.body fa.mv (Leaves C fa.res R) (params 0 args) h) :
  ∃ v h',iZ C F Pr true f args h v h'/\R v h':=by
 obtain ⟨x,e1,h1,⟨m,hm⟩,q⟩:=w
 have fin:∀ x:Ex,(x=.j1\/x=.ret)->(∀ k,m<=k->jN (XN C F Pr fa k) (kA k) fa.body fa.mv (params 0 args) h=some (x,e1,h1))->(∃ v,leave.leave1 C fa.res e1 h1=some (v,h1)/\R v h1)->∃ v h',iZ C F Pr true f args h v h'/\R v h':=by
  rintro x hx hm ⟨v,hv,hR⟩
  refine ⟨v,h1,⟨m+1,λk hk=>?_⟩,hR⟩
  obtain ⟨k,rfl⟩:∃ k',k=k'+1:=⟨k - 1,by omega⟩
  simp only [mg,hP,hF,sE,tJ,hi,A8,hm k (by omega)]
  rcases hx with rfl | rfl<;>exact hv
 cases x with
 | j1=>exact fin .j1 (.inl rfl) hm q
 | ret=>exact fin .ret (.inr rfl) hm q
 | ext id=>exact q.elim
def La {f:Nat} {args nR:List AV} {R:AV->Prop} (hP:Pr f=none) (hF:F f=some fa) (hi:fa.iter=false) (ha:kR h args=some nR)
  (w:Wp C F Pr fa fa.body fa.mv (Leaves C fa.res λv h'=>∃ v1,freeze false h' 8 v=some v1/\R v1) (params 0 nR) aT.empty) :
  ∃ v,iZ C F Pr false f args h v h/\R v:=by
 obtain ⟨v,h1,⟨m,hm⟩,v1,hv1,hR⟩:=yK hP hF hi w
 refine ⟨v1,⟨m+1,λk hk=>?_⟩,hR⟩
 have hb:=hm k (by omega)
 obtain ⟨k,rfl⟩:∃ k',k=k'+1:=⟨k - 1,by omega⟩
 grind [mg,sE,frozen]
end
end Go.Sx
namespace Go.Sx
open Go
section
variable {C:jE} {F:kJ} {Pr:ko} {fa:iC} {e:Env} {h:aT} {all rest:List Oper} {o:Oper} {q:Env->aT->Prop}
variable {t u:Nat} {x y:Operand} {k k':IntKind} {a b:Int}
def kj {c:BinOp} {X:Ctx} {d:Option Nat} {v:AV} (hx:iP e x=.int k a) (hy:iP e y=.int k' b) (hk:oA k k'=true) (hv:lQ c k a b=some v):jq (.binOp c t x y u) X e h d=some (v,h):=by
 simp_all [jq,y8,binOp,AV.int?,FF,kB]
def GH (k:IntKind) (a b:Int):lQ .lss k a b=some (.bool (decide (a<b))):=by
 simp only [lQ,Jy,w7,wX,sF]
 grind
def T3 (k:IntKind) (a b:Int):lQ .leq k a b=some (.bool (decide (a<=b))):=by
 simp only [lQ,IQ,w7,wX,AP]
def Hm (k:IntKind) (a b:Int):lQ .gtr k a b=some (.bool (decide (a > b))):=by
 simp only [lQ,JW,w7,wX,sF]
 grind
def GS (k:IntKind) (a b:Int):lQ .geq k a b=some (.bool (decide (a>=b))):=by
 simp_all [lQ,HH,w7,wX,AP]
def Hw (k:IntKind) (a b:Int):lQ .eql k a b=some (.bool (decide (a=b))):=by
 simp only [lQ,Io,w7,pH,AP]
 rfl
def GX (k:IntKind) (a b:Int):lQ .neq k a b=some (.bool (decide (a≠b))):=by
 simp only [lQ,IJ,w7,pH,sF]
 grind
def oJ {p:Prop} [Decidable p] (hw:jg all e o=some true) (hop:∀ call,jq o.op ⟨C,fa,call⟩ e h o.dst=some (.bool (decide p),h))
  (w1:p->kh C F Pr fa all rest q (iW e o (.bool true)) h) (w2:¬ p->kh C F Pr fa all rest q (iW e o (.bool false)) h):kh C F Pr fa all (o::rest) q e h:=by
 by_cases hp:p<;>grind [iI]
def zo {X:Ctx} {d:Option Nat} {s r:List UInt8} (hx:iP e x=.str s) (hy:iP e y=.str r):jq (.binOp .eql t x y u) X e h d=some (.bool (decide (s=r)),h):=by
 simp only [jq,y8,binOp,hx,hy,AV.int?,AV.str?,Fw,BB,kB]
 grind
theorem uR (k:IntKind) (a b:Int):lQ .add k a b=some (.int k (k.wrap (a+b))):=by
 simp only [lQ,Jk,u6,oc,sf,CS]
theorem pb (k:IntKind) (a b:Int):lQ .sub k a b=some (.int k (k.wrap (a - b))):=by
 simp only [lQ,Kb,u6,oc,sf,CS,CI]
 rfl
def TO (a b:Int) (h1 : -9223372036854775808<=a+b) (h2:a+b<=9223372036854775807):lQ .add .i64 a b=some (.int .i64 (a+b)):=by
 rw [uR,ug _ h1 h2]
def Hj (a b:Int) (h1 : -9223372036854775808<=a - b) (h2:a - b<=9223372036854775807):lQ .sub .i64 a b=some (.int .i64 (a - b)):=by
 rw [pb,ug _ h1 h2]
def SG {X:Ctx} {d:Option Nat} {el:Nat} {ti te:TI} {xs:List (List AV)} {c:mV} {n:Int} {r:List AV} (hT:X.C.T t=some ti) (hk:ti.kind=.slice el) (hE:X.C.T el=some te) (hx:iP e x=.sl xs c) (hi:iP e y=.int k n) (h0:0<=n)
  (hr:xs[n.toNat]?=some r) (hl:r.length=te.size):jq (.indexAddr t x y) X e h d=some (.ip r 0 (pU c),h):=by
 obtain ⟨m,rfl⟩:=Int.eq_ofNat_of_zero_le h0
 simp only [Int.toNat_natCast] at hr
 have hai:oX (.int k (m:Int))=some m:=rfl
 simp_all [jq,oT,nZ,pQ]
end
end Go.Sx
namespace Go.Sx
open Go
section
variable {C:jE} {F:kJ} {Pr:ko} {fa:iC} {e:Env} {h:aT} {all rest:List Oper} {o:Oper} {q:Env->aT->Prop} {Q:Ex->Env->aT->Prop}
def iL {c:Code} {live:List Nat} {an:lz} (N:Nat) (I:Nat->Env->aT->Prop)
  (round:∀ k e h,k<=N->I k e h->Wp C F Pr fa c an (vf (λe' h'=>k<N/\I (k+1) e' h') Q) (proj live e) { h with iq:=kS live h.iq }) {k0:Nat} (hk:k0<=N) (h0:I k0 e h):Wp C F Pr fa (.loop c) (.loop live an) Q e h:=by
 refine mw (λn e h=>∃ k,k<=N/\n=N - k/\I k e h) ?_ (N - k0) e h ⟨k0,hk,rfl,h0⟩
 rintro n e h ⟨k,hk,rfl,hI⟩
 refine (round k e h hk hI).mono ?_
 intro x e' h' hx
 cases x with
 | j1 =>
   obtain ⟨hlt,hI'⟩:=hx
   exact ⟨N - (k+1),by omega,k+1,by omega,rfl,hI'⟩
 | ext id=>exact hx
 | ret=>exact hx
def MR {f:Nat} {g:Operand} {c:Call} {args:List AV} {R:AV->Prop} (ho:o.op=.call c) (hw:jg all e o=some true) (hf:c.callee=.value g) (hg:iP e g=.jz f [] []) (ha:c.args.toList.map (iP e)=args) (hok:args.all AV.nA=true) (hs:fa.jl.elem f=false)
  (w:∀ h:aT,∃ v,iZ C F Pr false f args h v h/\R v) (next:∀ v,R v->kh C F Pr fa all rest q (iW e o v) h):kh C F Pr fa all (o::rest) q e h:=by
 obtain ⟨v,hc,hR⟩:=w { h with iq:=[] }
 refine zD hw ?_ (next v hR)
 rw [ho]
 exact FK hf hg ha hok hs hc
end
def F5 {C:jE} {F:kJ} {Pr:ko} {fa:iC} {f:Nat} {args:List AV} {h:aT} {R:AV->Prop} (hP:Pr f=none) (hF:F f=some fa) (hi:fa.iter=false) (ha:kR h args=some args)
  (w:Wp C F Pr fa fa.body fa.mv (Leaves C fa.res λv0 h'=>∃ v1,freeze false h' 8 v0=some v1/\R v1) (params 0 args) aT.empty):∃ v,iZ C F Pr false f args h v h/\R v:=La hP hF hi ha w
abbrev rT:Nat:=9223372036854775807
structure ahy (R:List AV->Prop) (xs:List (List AV)) (c:mV):Prop where
 row:∀ r∈xs,R r
 len:xs.length<=rT
 sn:pU c=false
end Go.Sx
namespace Go.Sx
open Go
structure Row (α:Type) where
 l:List α
 c:mV
 ok:l.length<=rT
 sn:pU c=false
 nl:c=.nil->l=[]
def Row.av {α:Type} (enc : α->List AV) (r:Row α):AV:=.sl (r.l.map enc) r.c
structure nu where
 l:List UInt8
 ok:l.length<=rT
def jL (n:Int):List AV:=[.int .i64 n]
def mD (s:nu):List AV:=[.str s.l]
def YO (b:Bool):List AV:=[.bool b]
structure iz where
 elem:Int
 en:Int
 deriving DecidableEq
def iz.af (x:iz):List AV:=[.int .i64 x.elem,.int .i64 x.en]
structure jZ where
 name:nu
 kind:Int
 len:Int
def jZ.af (x:jZ):List AV:=[.str x.name.l,.int .i64 x.kind,.int .i64 x.len]
structure jX where
 a:iz
 b:iz
def jX.af (x:jX):List AV:=[.int .i64 x.a.elem,.int .i64 x.a.en,.int .i64 x.b.elem,.int .i64 x.b.en]
structure jY where
 name:nu
 at_:iz
 auto:Bool
def jY.af (x:jY):List AV:=[.str x.name.l,.int .i64 x.at_.elem,.int .i64 x.at_.en,.bool x.auto]
structure ju where
 name:nu
 elems:Row Int
def ju.af (x:ju):List AV:=[.str x.name.l,x.elems.av jL]
structure bY where
 elems:Row jZ
 iQ:Row jX
 signals:Row jY
 lines:Row ju
 top:Int
 jT:Int
 jS:Int
 j4:Int
 j9:Bool
def bY.af (p:bY):List AV:=[p.elems.av jZ.af,p.iQ.av jX.af,p.signals.av jY.af,p.lines.av ju.af,.int .i64 p.top,.int .i64 p.jT,.int .i64 p.jS,.int .i64 p.j4,.bool p.j9]
structure jF where
 name:nu
 len:Int
 top:Int
 acc:Int
 jT:Int
def jF.af (x:jF):List AV:=[.str x.name.l,.int .i64 x.len,.int .i64 x.top,.int .i64 x.acc,.int .i64 x.jT]
structure jJ where
 Ax:Bool
 at_:Int
 end_:Int
 to:Int
def jJ.af (x:jJ):List AV:=[.bool x.Ax,.int .i64 x.at_,.int .i64 x.end_,.int .i64 x.to]
structure j7 where
 name:nu
 jb:Int
 from_:Int
 left:Int
 iS:Row jJ
def j7.af (x:j7):List AV:=[.str x.name.l,.int .i64 x.jb,.int .i64 x.from_,.int .i64 x.left,x.iS.av jJ.af]
structure iB where
 yb:Int
 jb:Row jF
 runs:Row j7
def iB.af (x:iB):List AV:=[.int .i64 x.yb,x.jb.av jF.af,x.runs.av j7.af]
structure nS where
 mode:Int
 Bg:Row iz
 left:Int
 yF:Int
 v:Int
def nS.af (x:nS):List AV:=[.int .i64 x.mode,x.Bg.av iz.af,.int .i64 x.left,.int .i64 x.yF,.int .i64 x.v]
structure kU where
 name:nu
 jb:Int
 at_:iz
 left:Int
def kU.af (x:kU):List AV:=[.str x.name.l,.int .i64 x.jb,.int .i64 x.at_.elem,.int .i64 x.at_.en,.int .i64 x.left]
structure jC where
 out:Int
 pos:Int
def jC.af (x:jC):List AV:=[.int .i64 x.out,.int .i64 x.pos]
structure iR where
 elem:Int
 lN:Int
 out:Int
def iR.af (x:iR):List AV:=[.int .i64 x.elem,.int .i64 x.lN,.int .i64 x.out]
structure iu where
 elem:Int
 pos:Int
 deriving DecidableEq,Inhabited
def iu.af (x:iu):List AV:=[.int .i64 x.elem,.int .i64 x.pos]
structure iG where
 from_:Int
 to:Int
 end_:Int
 steps:Row iR
 jK:Row iu
 guards:Row iu
 my:Row Int
 holds:Row Int
 bare:Bool
def iG.af (x:iG):List AV:=[.int .i64 x.from_,.int .i64 x.to,.int .i64 x.end_,x.steps.av iR.af,x.jK.av iu.af,x.guards.av iu.af,x.my.av jL,x.holds.av jL,.bool x.bare]
section
variable {C:jE} {F:kJ} {Pr:ko} {fa:iC} {e:Env} {h:aT} {all rest:List Oper} {o:Oper} {q:Env->aT->Prop} {Q:Ex->Env->aT->Prop}
variable {α:Type} {enc : α->List AV}
def abh {c:Code} {an:lz} {e':Env} {h':aT} (he:e=e') (hh:h=h') (w:Wp C F Pr fa c an Q e' h'):Wp C F Pr fa c an Q e h:=by grind
def kY {b:Bool} (hw:jg all e o=some true) (hop:∀ call,jq o.op ⟨C,fa,call⟩ e h o.dst=some (.bool b,h))
  (w1:b=true->kh C F Pr fa all rest q (iW e o (.bool true)) h) (w2:b=false->kh C F Pr fa all rest q (iW e o (.bool false)) h):kh C F Pr fa all (o::rest) q e h:=by
 cases b<;>grind [iI]
def mC {i:Nat} {sch:List (Nat×List Nat)} {p:Prop} [Decidable p] (ho:all[i]?=some o) (hw:jg all e o=some true) (hop:∀ call,jq o.op ⟨C,fa,call⟩ e h o.dst=some (.bool (decide p),h))
  (w1:p->ky C F Pr fa all sch q (iW e o (.bool true)) h) (w2:¬ p->ky C F Pr fa all sch q (iW e o (.bool false)) h):ky C F Pr fa all ((i,[])::sch) q e h:=by
 by_cases hp:p<;>grind [iU]
def NO {i:Nat} {sch:List (Nat×List Nat)} {b:Bool} (ho:all[i]?=some o) (hw:jg all e o=some true) (hop:∀ call,jq o.op ⟨C,fa,call⟩ e h o.dst=some (.bool b,h))
  (w1:b=true->ky C F Pr fa all sch q (iW e o (.bool true)) h) (w2:b=false->ky C F Pr fa all sch q (iW e o (.bool false)) h):ky C F Pr fa all ((i,[])::sch) q e h:=by
 cases b<;>grind [iU]
def MD {i:Nat} {sch:List (Nat×List Nat)} {f:Nat} {g:Operand} {c:Call} {args:List AV} {R:AV->Prop} (hi:all[i]?=some o) (hw:jg all e o=some true) (ho:o.op=.call c) (hf:c.callee=.value g) (hg:iP e g=.jz f [] []) (ha:c.args.toList.map (iP e)=args) (hok:args.all AV.nA=true) (hs:fa.jl.elem f=false)
  (w:∀ h:aT,∃ v,iZ C F Pr false f args h v h/\R v) (next:∀ v,R v->ky C F Pr fa all sch q (iW e o v) h):ky C F Pr fa all ((i,[])::sch) q e h:=by
 obtain ⟨v,hc,hR⟩:=w { h with iq:=[] }
 refine Cr hi hw ?_ (next v hR)
 rw [ho]
 exact FK hf hg ha hok hs hc
def GW {X:Ctx} {d:Option Nat} {t el:Nat} {x:Operand} {cl:Call} {ti:TI} {r:Row α} (hc:cl.callee=.builtin .len) (ha:cl.args.toList=[x]) (hts:cl.argTypes.toList=[t]) (hT:X.C.T t=some ti) (hk:ti.kind=.slice el) (hx:iP e x=r.av enc) :
  jq (.call cl) X e h d=some (.int .i64 r.l.length,h):=by
 simp_all [jq,ow,nO,l3,u9,tl,uy,Row.av,tI,oG]
theorem wh {X:Ctx} {d:Option Nat} {t el:Nat} {x y:Operand} {ti te:TI} {r:Row α} {k:IntKind} {n:Nat} (hT:X.C.T t=some ti) (hk:ti.kind=.slice el) (hE:X.C.T el=some te) (hx:iP e x=r.av enc) (hi:iP e y=.int k (n:Int))
  (hn:n<r.l.length) (hl:(enc r.l[n]).length=te.size):jq (.indexAddr t x y) X e h d=some (.ip (enc r.l[n]) 0 false,h):=by
 rw [<- r.sn]
 exact SG hT hk hE hx hi (by omega) (r:=enc r.l[n]) (by simp [hn]) hl
def jo {X:Ctx} {d:Option Nat} {t el:Nat} {x y:Operand} {ti te:TI} {r:Row α} {k:IntKind} {n:Int} (hT:X.C.T t=some ti) (hk:ti.kind=.slice el) (hE:X.C.T el=some te) (hx:iP e x=r.av enc) (hi:iP e y=.int k n) (h0:0<=n)
  (hn:n.toNat<r.l.length) (hl:(enc r.l[n.toNat]).length=te.size):jq (.indexAddr t x y) X e h d=some (.ip (enc r.l[n.toNat]) 0 false,h):=by
 grind [wh]
theorem ED (a b c d:Int):lU [.int .i64 a,.int .i64 b] [.int .i64 c,.int .i64 d]=some (decide (a=c/\b=d)):=by
 simp only [lU,mu,vK,AV.int?,oA,pH]
 have e1:(a==c)=decide (a=c):=rfl
 have e2:(b==d)=decide (b=d):=rfl
 rw [e1,e2]
 by_cases h1:a=c<;>by_cases h2:b=d<;>simp [h1,h2]
def rG {X:Ctx} {dd:Option Nat} {t u:Nat} {x y:Operand} {ti:TI} {a b c d:Int} (hx:iP e x=.agg [.int .i64 a,.int .i64 b]) (hy:iP e y=.agg [.int .i64 c,.int .i64 d])
  (hT:X.C.T t=some ti) (hf:∀ a b:Int,xh ti (.agg [.int .i64 a,.int .i64 b]) (.agg [.int .i64 c,.int .i64 d])=lU [.int .i64 a,.int .i64 b] [.int .i64 c,.int .i64 d]) :
  jq (.binOp .eql t x y u) X e h dd=some (.bool (decide (a=c/\b=d)),h):=by
 simp_all [jq,y8,binOp,AV.int?,AV.str?,yv,ED,kB]
theorem sB {sn:Bool} {hp:aT} {n:Nat} (r:Row α):freeze sn hp (n+1) (Row.av enc r)=some (Row.av enc r):=by
 have:=r.sn
 grind [Row.av,freeze,pU]
theorem tY {sn:Bool} {hp:aT} {n:Nat} (k:IntKind) (a:Int):freeze sn hp (n+1) (.int k a)=some (.int k a):=rfl
theorem sg {sn:Bool} {hp:aT} {n:Nat} (a:Bool):freeze sn hp (n+1) (.bool a)=some (.bool a):=rfl
theorem tW {sn:Bool} {hp:aT} {n:Nat} (a:List UInt8):freeze sn hp (n+1) (.str a)=some (.str a):=rfl
theorem S9 {sn:Bool} {hp:aT} {n:Nat} (l:List AV):freeze sn hp (n+1) (.agg l)=(match js (freeze sn hp n) l with
   | some l=>some (.agg l)
   | none=>none):=rfl
def y9 {X:Ctx} {d:Option Nat} {t:Nat} {x y:Operand} {ti:TI} {s:List UInt8} {k:IntKind} {n:Nat} (hT:X.C.T t=some ti) (hk:ti.kind=.str) (hx:iP e x=.str s) (hi:iP e y=.int k (n:Int)) (hn:n<s.length):jq (.index t x y) X e h d=some (.int .u8 s[n].toNat,h):=by
 have hai:oX (.int k (n:Int))=some n:=rfl
 simp_all [jq,Bh,yX,AV.str?]
def Row.isNil (r:Row α):Bool:=match r.c with
 | .nil=>true
 | _=>false
def Row.of_nil {r:Row α} (h:r.isNil=true):r.l=[]:=by
 apply r.nl
 grind [Row.isNil]
end
end Go.Sx
namespace Go.Sx
open Go
def lv:AV->Option Nat
 | .hs b _ _ _=>some b
 | .hm b=>some b
 | .ptr b _ _ _=>some b
 | _=>none
def zZ {α:Type} (H:aT) (n:Nat) (enc : α->List AV) (v:AV) (l:List α):Prop :=
 (l=[]/\v=.sl [] .nil)\/(v=.sl (l.map enc) (.exact l.length))\/∃ b g,b<H.size/\v=.hs b g 0 l.length/\H.get b=some (.iH g n (l.map enc))
structure zW (H H':aT) (v v':AV):Prop where
 lo:H'.lo=H.lo
 size:H.size<=H'.size
 get:∀ b,b<H.size->lv v≠some b->H'.get b=H.get b
 own:∀ b,lv v'=some b->lv v=some b\/H.size<=b
theorem aT.kK (H:aT) (ls:kI) (b:Nat):({ H with iq:=ls }:aT).get b=H.get b:=rfl
theorem aT.y6 (H:aT) (ls:kI) (o:jP):({ H with iq:=ls }:aT).push o = { H.push o with iq:=ls }:=by simp [aT.wc]
theorem aT.oj (H:aT) (ls:kI) (b:Nat) (o:jP):({ H with iq:=ls }:aT).set b o = { H.set b o with iq:=ls }:=by simp [aT.zi]
def zW.refl (H:aT) (v:AV):zW H H v v:=⟨rfl,Nat.le_refl _,λ_ _ _=>rfl,λ_ h=>.inl h⟩
theorem zZ.keep {α:Type} {H H':aT} {n:Nat} {enc : α->List AV} {v v' w:AV} {l:List α} (h:zZ H n enc w l) (k:zW H H' v v') (hd:∀ b,lv w=some b->lv v≠some b):zZ H' n enc w l:=by
 rcases h with h | h | ⟨b,g,hb,rfl,hg⟩
 ·exact .inl h
 ·exact .inr (.inl h)
 ·exact .inr (.inr ⟨b,g,Nat.lt_of_lt_of_le hb k.size,rfl,by rw [k.get b hb (hd b rfl)]; exact hg⟩)
def zZ.lt {α:Type} {H:aT} {n:Nat} {enc : α->List AV} {w:AV} {l:List α} (h:zZ H n enc w l):∀ b,lv w=some b->b<H.size:=by
 rcases h with ⟨_,rfl⟩ | rfl | ⟨b,g,hb,rfl,hg⟩<;>grind [lv]
def zW.apart {H H':aT} {v v' w:AV} (k:zW H H' v v') (hd:∀ b,lv w=some b->lv v≠some b) (hl:∀ b,lv w=some b->b<H.size):∀ b,lv w=some b->lv v'≠some b:=by
 intro b hw hv
 rcases k.own b hv with h | h<;>grind
def xM (v w:AV):Prop:=∀ b,lv v=some b->lv w≠some b
theorem xM.symm {v w:AV} (h:xM v w):xM w v:=λb hw hv=>h b hv hw
def xM.nil {w:AV} {xs:List (List AV)} {c:mV}:xM (.sl xs c) w:=λb h=>by simp [lv] at h
theorem xM.keep {α:Type} {H H':aT} {n:Nat} {enc : α->List AV} {v v' w:AV} {l:List α} (hd:xM v w) (k:zW H H' v v') (h:zZ H n enc w l):xM v' w:=xM.symm (k.apart hd.symm h.lt)
theorem zZ.IH {α:Type} {H:aT} {n:Nat} {enc : α->List AV} {v:AV} {l:List α} (h:zZ H n enc v l) (t:Nat):Go.Sx.keep t v=v:=by
 rcases h with ⟨_,rfl⟩ | rfl | ⟨_,_,_,rfl,_⟩<;>rfl
section
variable {C:jE} {F:kJ} {Pr:ko} {fa:iC} {e:Env} {all rest:List Oper} {o:Oper} {q:Env->aT->Prop}
variable {α:Type} {enc : α->List AV}
theorem zZ.nA {H:aT} {n:Nat} {v:AV} {l:List α} (hb:zZ H n enc v l):AV.nA v=true:=by
 rcases hb with ⟨rfl,rfl⟩ | rfl | ⟨b,g,hlt,rfl,hg⟩<;>rfl
def kr {C:jE} {res:List ResultVar} {e:Env} {h:aT} {vs:List AV} (h1:CL C e h res=some vs) (h2:vs.all AV.nA=true):leave.leave1 C res e h=some (result vs,h):=by
 grind [leave.leave1]
def Row.take (r:Row α) (k:Nat):Row α:=⟨r.l.take k,r.c,by have:=r.ok; grind,r.sn,λh=>by rw [r.nl h]; simp⟩
def Nz {X:Ctx} {d:Option Nat} {t el n k:Nat} {x y:Operand} {ti te:TI} {h:aT} {r:Row α} {kd:IntKind} (hT:X.C.T t=some ti) (hk:ti.kind=.slice el) (hE:X.C.T el=some te) (hx:iP e x=r.av enc) (hy:iP e y=.int kd (k:Int)) (hn:te.size=n) (hkl:k<=r.l.length) (henc:∀ x,(enc x).length=n) :
  jq (.slice t x none (some y) none) X e h d=some ((r.take k).av enc,h):=by
 have hai:oX (.int kd (k:Int))=some k:=rfl
 have h0:Nat.ble 0 k=true:=Nat.ble_eq.mpr (Nat.zero_le _)
 have h1:Nat.ble k (r.l.map enc).length=true:=Nat.ble_eq.mpr (by grind)
 have h2:nW n (r.l.map enc)=true:=by
  cases r.l with
  | nil=>rfl
  | cons a l=>simp_all [nW]
 have h3:pa 0 r.c=r.c:=by cases r.c<;>rfl
 simp only [jq,pd,oI,hT,hk,hE,hx,hy,Row.av,slice,vC,np,bound,hai,pB,hn,h1,h2,h0,Bool.true_and,Bool.and_true,List.drop_zero,Nat.sub_zero,pS,h3,kB,Row.take,List.map_take]
end
end Go.Sx
namespace Go.Sx
open Go
def look {κ β:Type} [DecidableEq κ] (k : κ):List (κ×β)->Option β
 | []=>none
 | x::l=>if k=x.1 then some x.2 else look k l
def jO {κ β:Type} (ek : κ->AV) (ev : β->AV) (l:List (κ×β)):List (AV×AV):=l.map λx=>(ek x.1,ev x.2)
def pK (p:iz):AV:=.agg p.af
def iK (n:Int):AV:=.int .i64 n
def sr (p:Int×Int):AV:=.agg [.int .i64 p.1,.int .i64 p.2]
structure iD where
 p:bY
 next:List (iz×iz)
 reads:List (iz×Int)
 line:List (Int×Int×Int)
 lead:List (Int×Int)
def iD.af (n:iD):List AV:=[n.p.elems.av jZ.af,n.p.iQ.av jX.af,n.p.signals.av jY.af,n.p.lines.av ju.af,.int .i64 n.p.top,.int .i64 n.p.jT,.int .i64 n.p.jS,.int .i64 n.p.j4,.bool n.p.j9,
 .fm (jO pK pK n.next) false,.fm (jO pK iK n.reads) false,.fm (jO iK sr n.line) false,.fm (jO iK iK n.lead) false]
def lq (a b:iz):lC (pK a) (pK b)=some (decide (a=b)):=by
 have h:(a=b)↔(a.elem=b.elem/\a.en=b.en):=by cases a; cases b; simp
 grind [lC,pK,iz.af,AV.agg?,BO,ED]
def qW (a b:Int):lC (iK a) (iK b)=some (decide (a=b)):=by
 simp only [lC,iK,AV.agg?,mu,vK,AV.int?,oA,pH]
 rfl
theorem FL {κ β:Type} [DecidableEq κ] {ek : κ->AV} {ev : β->AV} (hk:∀ a b,lC (ek a) (ek b)=some (decide (a=b))) (k : κ) (l:List (κ×β)):qI (ek k) (jO ek ev l)=some ((look k l).map ev):=by
 induction l<;>grind [jO,qI,look]
section
variable {C:jE} {F:kJ} {Pr:ko} {fa:iC} {e:Env} {h:aT} {all rest:List Oper} {o:Oper} {q:Env->aT->Prop}
variable {κ β:Type} [DecidableEq κ] {ek : κ->AV} {ev : β->AV}
theorem zq {X:Ctx} {d:Option Nat} {t kt el:Nat} {m k:Operand} {tm te:TI} {key : κ} {l:List (κ×β)} {z:AV} {s:Bool} (hT:X.C.T t=some tm) (hk:tm.kind=.map kt el) (hE:X.C.T el=some te) (hm:iP e m=.fm (jO ek ev l) s) (hkk:iP e k=ek key) (hK:qD X.C kt (ek key)=true) (hz:asAgg te te.zero=some z) (hke:∀ a b,lC (ek a) (ek b)=some (decide (a=b))) :
  jq (.lookup t m k true) X e h d=some (match look key l with
   | some v=>.je [ev v,.bool true]
   | none=>.je [z,.bool false],h):=by
 simp only [jq,uc,qY,hT,hk,hE,hkk,hK,hm,qo,FL hke]
 grind [look,zP,kB]
def sj {t kt el:Nat} {m k:Operand} {tm te:TI} {key : κ} {l:List (κ×β)} {z:AV} {s:Bool} (hw:jg all e o=some true) (ho:o.op=.lookup t m k true) (hT:C.T t=some tm) (hk:tm.kind=.map kt el) (hE:C.T el=some te) (hm:iP e m=.fm (jO ek ev l) s) (hkk:iP e k=ek key) (hK:qD C kt (ek key)=true) (hz:asAgg te te.zero=some z) (hke:∀ a b,lC (ek a) (ek b)=some (decide (a=b)))
  (w1:∀ v,look key l=some v->kh C F Pr fa all rest q (iW e o (.je [ev v,.bool true])) h) (w2:look key l=none->kh C F Pr fa all rest q (iW e o (.je [z,.bool false])) h):kh C F Pr fa all (o::rest) q e h:=by
 cases hl:look key l with
 | none=>exact iI hw (λcall=>by rw [ho,zq hT hk hE hm hkk hK hz hke,hl]) (w2 hl)
 | some v=>exact iI hw (λcall=>by rw [ho,zq hT hk hE hm hkk hK hz hke,hl]) (w1 v hl)
def EM {i:Nat} {sch:List (Nat×List Nat)} {t kt el:Nat} {m k:Operand} {tm te:TI} {key : κ} {l:List (κ×β)} {z:AV} {s:Bool} (hi:all[i]?=some o) (hw:jg all e o=some true) (ho:o.op=.lookup t m k true) (hT:C.T t=some tm) (hk:tm.kind=.map kt el) (hE:C.T el=some te) (hm:iP e m=.fm (jO ek ev l) s) (hkk:iP e k=ek key) (hK:qD C kt (ek key)=true) (hz:asAgg te te.zero=some z) (hke:∀ a b,lC (ek a) (ek b)=some (decide (a=b)))
  (w1:∀ v,look key l=some v->ky C F Pr fa all sch q (iW e o (.je [ev v,.bool true])) h) (w2:look key l=none->ky C F Pr fa all sch q (iW e o (.je [z,.bool false])) h):ky C F Pr fa all ((i,[])::sch) q e h:=by
 cases hl:look key l with
 | none=>exact iU hi hw (λcall=>by rw [ho,zq hT hk hE hm hkk hK hz hke,hl]) (w2 hl)
 | some v=>exact iU hi hw (λcall=>by rw [ho,zq hT hk hE hm hkk hK hz hke,hl]) (w1 v hl)
end
end Go.Sx
namespace Go.Sx
open Go
inductive jH where
 | sl (w t:Bool) (v:AV) (n:Nat) (xs:List (List AV))
 | map (v:AV) (es:List (AV×AV))
 | obj (v:AV) (cs:List AV)
def jH.v:jH->AV
 | .sl _ _ v _ _=>v
 | .map v _=>v
 | .obj v _=>v
def nP (es:List (AV×AV×Nat)):List (AV×AV):=es.map λx=>(x.1,x.2.1)
def wJ (es:List (AV×AV×Nat)) (c:Nat):Prop:=(∀ x∈es,x.2.2<c)/\es.Pairwise λa b=>a.2.2≠b.2.2
def wJ.snoc {es:List (AV×AV×Nat)} {c:Nat} (h:wJ es c) (k v:AV):wJ (es++[(k,v,c)]) (c+1):=by
 refine ⟨λx hx=>?_,List.pairwise_append.mpr ⟨h.2,by simp,λa ha b hb=>?_⟩⟩
 ·rcases List.mem_append.mp hx with hx | hx
  ·have:=h.1 x hx; omega
  grind
 ·simp at hb; subst hb; have:=h.1 a ha; grind
def wJ.modify {es:List (AV×AV×Nat)} {c:Nat} (h:wJ es c) (i:Nat) (f:AV×AV×Nat->AV×AV×Nat) (hf:∀ e,(f e).2.2=e.2.2):wJ (es.modify i f) c:=by
 have hm:(es.modify i f).map (λx=>x.2.2)=es.map (λx=>x.2.2):=by
  apply List.ext_getElem (by simp)
  grind
 have h1:∀ x∈(es.modify i f).map (λx=>x.2.2),x<c:=by
  rw [hm]; intro x hx; obtain ⟨y,hy,rfl⟩:=List.mem_map.mp hx; exact h.1 y hy
 refine ⟨λx hx=>h1 _ (List.mem_map_of_mem hx),?_⟩
 have h2:((es.modify i f).map (λx=>x.2.2)).Pairwise (·≠·):=by
  rw [hm,List.pairwise_map]; exact h.2
 grind
def jH.ok (H:aT):jH->Prop
 | .sl w t v n xs=>(∀ x∈xs,x.length=n)/\((xs=[]/\v=.sl [] .nil)\/((w=false\/xs=[])/\v=.sl xs (.exact xs.length))\/∃ b g j,b<H.size/\v=.hs b g 0 xs.length/\H.get b=some (.iH g n (xs++j))/\(t=true->j=[]))
 | .map v es=>∃ b es' c,b<H.size/\v=.hm b/\H.get b=some (.map es' c)/\nP es'=es/\wJ es' c
 | .obj v cs=>∃ b z,b<H.size/\v=.ptr b 0 0 0/\H.get b=some (.iH 0 z [cs])
structure Sep (H:aT) (L:List jH):Prop where
 lo:H.lo<=H.size
 ok:∀ r∈L,r.ok H
 A5:L.Pairwise λa b=>xM a.v b.v
def jW:Sep aT.empty []:=⟨Nat.le_refl _,by simp,.nil⟩
theorem jH.ok.keep {H H':aT} {r:jH} (h:r.ok H) (hs:H.size<=H'.size) (hg:∀ b,b<H.size->lv r.v=some b->H'.get b=H.get b):r.ok H':=by
 cases r with
 | sl w t v n xs =>
   obtain ⟨hl,h | h | ⟨b,g,j,hb,rfl,hq,ht⟩⟩:=h
   ·exact ⟨hl,.inl h⟩
   ·exact ⟨hl,.inr (.inl h)⟩
   ·exact ⟨hl,.inr (.inr ⟨b,g,j,by omega,rfl,by rw [hg b hb rfl]; exact hq,ht⟩)⟩
 | map v es =>
   obtain ⟨b,es',c,hb,rfl,hq,he,hst⟩:=h
   exact ⟨b,es',c,by omega,rfl,by rw [hg b hb rfl]; exact hq,he,hst⟩
 | obj v cs =>
   obtain ⟨b,z,hb,rfl,hq⟩:=h
   exact ⟨b,z,by omega,rfl,by rw [hg b hb rfl]; exact hq⟩
def jH.ok.lt {H:aT} {r:jH} (h:r.ok H):∀ b,lv r.v=some b->b<H.size:=by
 intro b0 hb0
 cases r with
 | sl w t v n xs =>
   obtain ⟨hl,⟨_,rfl⟩ | ⟨_,rfl⟩ | ⟨b,g,j,hb,rfl,hq,ht⟩⟩:=h<;>simp [lv,jH.v] at hb0
   omega
 | map v es =>
   obtain ⟨b,es',c,hb,rfl,hq,he,hst⟩:=h
   grind [lv,jH.v]
 | obj v cs =>
   obtain ⟨b,z,hb,rfl,hq⟩:=h
   grind [lv,jH.v]
def jH.ok.Ey {H:aT} {r:jH} (h:r.ok H):AV.j5 r.v=true/\(∀ t,Go.Sx.keep t r.v=r.v)/\AV.nA r.v=true:=by
 cases r with
 | sl w t v n xs =>
   obtain ⟨hl,⟨_,rfl⟩ | ⟨_,rfl⟩ | ⟨b,g,j,hb,rfl,hq,ht⟩⟩:=h<;>exact ⟨rfl,λ_=>rfl,rfl⟩
 | map v es=>obtain ⟨b,es',c,hb,rfl,hq,he,hst⟩:=h; exact ⟨rfl,λ_=>rfl,rfl⟩
 | obj v cs=>obtain ⟨b,z,hb,rfl,hq⟩:=h; exact ⟨rfl,λ_=>rfl,rfl⟩
theorem Sep.at {H:aT} {L:List jH} (h:Sep H L) {i:Nat} {r:jH} (hi:L[i]?=some r):r.ok H:=h.ok r (List.mem_of_getElem? hi)
theorem Sep.IH {H:aT} {L:List jH} (h:Sep H L) {i:Nat} {r:jH} (hi:L[i]?=some r) (t:Nat):Go.Sx.keep t r.v=r.v:=(h.at hi).Ey.2.1 t
def Sep.cell {H:aT} {L:List jH} (h:Sep H L) {i:Nat} {r:jH} (hi:L[i]?=some r):AV.j5 r.v=true:=(h.at hi).Ey.1
def Sep.arg {H:aT} {L:List jH} (h:Sep H L) {i:Nat} {r:jH} (hi:L[i]?=some r):AV.nA r.v=true:=(h.at hi).Ey.2.2
theorem Sep.mG {H H':aT} {L:List jH} (h:Sep H L) {i:Nat} {r r':jH} (hi:L[i]?=some r) (hlo:H'.lo<=H'.size) (hs:H.size<=H'.size) (hr:r'.ok H') (hg:∀ b,b<H.size->lv r.v≠some b->H'.get b=H.get b) (ho:∀ b,lv r'.v=some b->lv r.v=some b\/H.size<=b):Sep H' (L.set i r'):=by
 have hil:i<L.length:=(List.getElem?_eq_some_iff.mp hi).1
 have hri:L[i]=r:=(List.getElem?_eq_some_iff.mp hi).2
 have hp:=List.pairwise_iff_getElem.mp h.A5
 have A5:∀ j (hj:j<L.length),j≠i->xM r.v L[j].v:=by
  intro j hj hne
  rcases Nat.lt_or_gt_of_ne hne with hlt | hlt
  ·have:=hp j i hj hil hlt; rw [hri] at this; exact this.symm
  grind
 have apt':∀ j (hj:j<L.length),j≠i->xM r'.v L[j].v:=by
  intro j hj hne b hb hb'
  rcases ho b hb with hx | hx
  ·exact A5 j hj hne b hx hb'
  ·exact absurd ((h.ok _ (List.getElem_mem hj)).lt b hb') (by omega)
 refine ⟨hlo,?_,?_⟩
 ·intro x hx
  obtain ⟨j,hj,rfl⟩:=List.mem_iff_getElem.mp hx
  rw [List.length_set] at hj
  rw [List.getElem_set]
  split
  ·exact hr
  ·rename_i hne
   refine (h.ok _ (List.getElem_mem hj)).keep hs ?_
   intro b hb hbl
   exact hg b hb λhq=>A5 j hj (Ne.symm hne) b hq hbl
 ·rw [List.pairwise_iff_getElem]
  intro j k hj hk hjk
  rw [List.length_set] at hj hk
  simp only [List.getElem_set]
  split
  ·grind
  ·split
   ·rename_i h1 h2; exact (apt' j hj (Ne.symm h1)).symm
   grind
def Sep.new {H H':aT} {L:List jH} (h:Sep H L) {r':jH} (hlo:H'.lo<=H'.size) (hs:H.size<=H'.size) (hr:r'.ok H') (hg:∀ b,b<H.size->H'.get b=H.get b) (ho:∀ b,lv r'.v=some b->H.size<=b):Sep H' (r'::L):=by
 refine ⟨hlo,?_,.cons ?_ h.A5⟩
 ·intro x hx
  rcases List.mem_cons.mp hx with rfl | hx
  ·exact hr
  ·exact (h.ok x hx).keep hs λb hb _=>hg b hb
 ·intro x hx b hb hb'
  exact absurd ((h.ok x hx).lt b hb') (by grind)
def Sep.lX {H:aT} {L:List jH} (h:Sep H L) (n:Nat):Sep H (.sl true true (.sl [] .nil) n []::L):=h.new h.lo (Nat.le_refl _) ⟨by simp,.inl ⟨rfl,rfl⟩⟩ (λ_ _=>rfl) (λb hb=>by simp [lv,jH.v] at hb)
def Sep.acX {H:aT} {L:List jH} (h:Sep H L) (n:Nat) (xs:List (List AV)) (hn:∀ x∈xs,x.length=n) {k:Nat} (hk:k=xs.length):Sep H (.sl false true (.sl xs (.exact k)) n xs::L):=by
 subst hk
 exact h.new h.lo (Nat.le_refl _) ⟨hn,.inr (.inl ⟨.inl rfl,rfl⟩)⟩ (λ_ _=>rfl) (λb hb=>by simp [lv,jH.v] at hb)
def Sep.s8 {H:aT} {L:List jH} (h:Sep H L) (n:Nat):Sep H (.sl true true (.sl [] (.exact 0)) n []::L):=h.new h.lo (Nat.le_refl _) ⟨by simp,.inr (.inl ⟨.inr rfl,rfl⟩)⟩ (λ_ _=>rfl) (λb hb=>by simp [lv,jH.v] at hb)
def TC {α:Type} {R : α->α->Prop} (hs:∀ a b,R a b->R b a) {L:List α} (h:L.Pairwise R) {i j:Nat} (hi:i<L.length) (hj:j<L.length) (hne:i≠j):R L[i] L[j]:=by
 have hp:=List.pairwise_iff_getElem.mp h
 grind
def aaK (is:List Nat) (n:Nat) (L:List jH):List jH:=is.filterMap (L[·]?)++L.drop n
def Sep.pick {H:aT} {L:List jH} (h:Sep H L) (is:List Nat) (n:Nat) (hn:is.Nodup) (hlt:∀ i∈is,i<n):Sep H (aaK is n L):=by
 have hp:=List.pairwise_iff_getElem.mp h.A5
 refine ⟨h.lo,?_,List.pairwise_append.mpr ⟨?_,h.A5.sublist (List.drop_sublist _ _),?_⟩⟩
 ·intro x hx
  rcases List.mem_append.mp hx with hx | hx
  ·obtain ⟨i,_,hi⟩:=List.mem_filterMap.mp hx
   exact h.ok x (List.mem_of_getElem? hi)
  ·exact h.ok x (List.mem_of_mem_drop hx)
 ·rw [List.pairwise_filterMap]
  refine hn.imp ?_
  intro i j hne x hx y hy
  obtain ⟨hi,rfl⟩:=List.getElem?_eq_some_iff.mp hx
  obtain ⟨hj,rfl⟩:=List.getElem?_eq_some_iff.mp hy
  exact TC (λa b hab=>hab.symm) h.A5 hi hj hne
 ·intro x hx y hy
  obtain ⟨i,hmem,hi⟩:=List.mem_filterMap.mp hx
  obtain ⟨hil,rfl⟩:=List.getElem?_eq_some_iff.mp hi
  obtain ⟨j,hj,rfl⟩:=List.mem_iff_getElem.mp hy
  grind
theorem Sep.iq {H:aT} {L:List jH} (h:Sep H L) (ls:kI):Sep { H with iq:=ls } L:=by
 refine ⟨h.lo,λr hr=>(h.ok r hr).keep (Nat.le_refl _) λ_ _ _=>rfl,h.A5⟩
section
variable {κ β:Type} [DecidableEq κ] {ek : κ->AV} {ev : β->AV}
def put (k : κ) (x : β):List (κ×β)->List (κ×β)
 | []=>[(k,x)]
 | p::l=>if k=p.1 then (k,x)::l else p::put k x l
theorem ma (k k' : κ) (x : β) (l:List (κ×β)):look k (put k' x l)=if k=k' then some x else look k l:=by
 induction l<;>grind [put,look]
def vW (hk:∀ a b,lC (ek a) (ek b)=some (decide (a=b))) (k : κ) (l:List (κ×β)) (es:List (AV×AV×Nat)) (he:nP es=jO ek ev l) (i:Nat) :
  (look k l=none->findKey (ek k) es i=some none)/\(∀ x,look k l=some x->∃ j,findKey (ek k) es i=some (some (i+j,ev x))/\j<es.length/\∀ y (f:AV×AV×Nat->AV×AV×Nat),(∀ e,(f e).1=ek k/\(f e).2.1=ev y)->nP (es.modify j f)=jO ek ev (put k y l))/\(look k l=none->∀ y c,nP (es++[(ek k,ev y,c)])=jO ek ev (put k y l)):=by
 induction l generalizing es i with
 | nil =>
   cases es with
   | nil=>exact ⟨λ_=>rfl,λ_ h=>by simp [look] at h,λ_ _ _=>rfl⟩
   | cons e es=>simp [nP,jO] at he
 | cons p l ih =>
   cases es with
   | nil=>simp [nP,jO] at he
   | cons e es =>
     obtain ⟨a,b,c⟩:=e
     simp only [nP,jO,List.map_cons,List.cons.injEq,Prod.mk.injEq] at he
     obtain ⟨⟨rfl,rfl⟩,he⟩:=he
     obtain ⟨i1,i2,i3⟩:=ih es he (i+1)
     by_cases h:k=p.1
     ·simp_all [look,findKey,f1,nP,put,jO]
     ·refine ⟨λhn=>?_,λx hx=>?_,λhn y c'=>?_⟩
      ·grind [look,findKey]
      ·simp only [look,h,if_false] at hx
       obtain ⟨j,hj,hl,hm⟩:=i2 x hx
       refine ⟨j+1,?_,by simpa using hl,λy f hf=>?_⟩<;>grind [findKey,nP,put,jO]
      grind [look,nP,put,jO]
end
section
variable {C:jE} {F:kJ} {Pr:ko} {fa:iC} {e:Env} {all rest:List Oper} {o:Oper} {q:Env->aT->Prop}
variable {H:aT} {ls:kI} {L:List jH} {i:Nat}
def jt {P:AV->aT->Prop} (hw:jg all e o=some true) (hop:∃ v H',(∀ call,jq o.op ⟨C,fa,call⟩ e { H with iq:=ls } o.dst=some (v,{ H' with iq:=ls }))/\P v H') (next:∀ v H',P v H'->kh C F Pr fa all rest q (iW e o v) { H' with iq:=ls }):kh C F Pr fa all (o::rest) q e { H with iq:=ls }:=by
 grind [iI]
def lR {j:Nat} {sch:List (Nat×List Nat)} {P:AV->aT->Prop} (hj:all[j]?=some o) (hw:jg all e o=some true) (hop:∃ v H',(∀ call,jq o.op ⟨C,fa,call⟩ e { H with iq:=ls } o.dst=some (v,{ H' with iq:=ls }))/\P v H') (next:∀ v H',P v H'->ky C F Pr fa all sch q (iW e o v) { H' with iq:=ls }):ky C F Pr fa all ((j,[])::sch) q e { H with iq:=ls }:=by
 grind [iU]
def oi {t:Nat} {d:Option Nat} (hS:Sep H L):∃ v H',(∀ call,jq (.makeMap t none) ⟨C,fa,call⟩ e { H with iq:=ls } d=some (v,{ H' with iq:=ls }))/\∃ b,v=.hm b/\Sep H' (.map (.hm b) []::L):=by
 have hlo:=hS.lo
 refine ⟨.hm H.size,H.push (.map [] 0),λcall=>?_,H.size,rfl,?_⟩
 ·simp only [jq,Em,aT.y6]
 ·refine hS.new (by simp; omega) (by simp) ⟨H.size,[],0,by simp,rfl,?_,rfl,by simp,by simp⟩ ?_ ?_<;>grind [aT.o5,lv,jH.v]
variable {κ β:Type} [DecidableEq κ] {ek : κ->AV} {ev : β->AV}
def nV {t:Nat} {m k x:Operand} {d:Option Nat} {v:AV} {l:List (κ×β)} (key : κ) (y : β) (hS:Sep H L) (hi:L[i]?=some (.map v (jO ek ev l))) (hm:iP e m=v) (hk:iP e k=ek key) (hx:iP e x=ev y) (hK:mapKey C t (ek key)=true) (hV:AV.zX (ev y)=true) (hke:∀ a b,lC (ek a) (ek b)=some (decide (a=b))) :
  ∃ w H',(∀ call,jq (.mapUpdate t m k x) ⟨C,fa,call⟩ e { H with iq:=ls } d=some (w,{ H' with iq:=ls }))/\w=.undef/\Sep H' (L.set i (.map v (jO ek ev (put key y l)))):=by
 obtain ⟨b,es,c,hb,rfl,hg,he,hst⟩:=hS.at hi
 have hlob:H.lo<=b:=aT.mQ hg
 obtain ⟨f1,f2,f3⟩:=vW (ek:=ek) (ev:=ev) hke key l es he 0
 have fin:∀ es' c',yz (ek key) (ev y) es c=some (es',c')->nP es'=jO ek ev (put key y l)->wJ es' c'->∃ w H',(∀ call,jq (.mapUpdate t m k x) ⟨C,fa,call⟩ e { H with iq:=ls } d=some (w,{ H' with iq:=ls }))/\w=.undef/\Sep H' (L.set i (.map (.hm b) (jO ek ev (put key y l)))):=by
  intro es' c' hu hun hst'
  refine ⟨.undef,H.set b (.map es' c'),λcall=>?_,rfl,?_⟩
  ·simp_all [jq,tU,tP,aT.kK,aT.oj]
  ·refine hS.mG hi (by simpa using hS.lo) (by simp) ⟨b,es',c',by simp_all,rfl,?_,hun,hst'⟩ ?_ ?_
   ·grind [aT.lb]
   ·intro b' hb' hne
    rw [aT.lb,if_neg (by rintro ⟨rfl,_⟩; exact hne rfl)]
   ·intro b' hb'; exact .inl hb'
 cases hl:look key l with
 | none=>exact fin (es++[(ek key,ev y,c)]) (c+1) (by grind [yz,f1]) (f3 hl y c) (hst.snoc _ _)
 | some x0 =>
   obtain ⟨j,hj,hjl,hjm⟩:=f2 x0 hl
   exact fin _ c (by grind [yz]) (hjm y (λe=>(ek key,ev y,e.2.2)) λ_=>⟨rfl,rfl⟩) (hst.modify _ _ λ_=>rfl)
theorem xK {t kt el:Nat} {m k:Operand} {tm te:TI} {d:Option Nat} {v z:AV} {l:List (κ×β)} {ok:Bool} (key : κ) (hS:Sep H L) (hi:L[i]?=some (.map v (jO ek ev l))) (hT:C.T t=some tm) (hkd:tm.kind=.map kt el) (hE:C.T el=some te) (hm:iP e m=v) (hk:iP e k=ek key) (hK:qD C kt (ek key)=true) (hz:asAgg te te.zero=some z) (hke:∀ a b,lC (ek a) (ek b)=some (decide (a=b))) (call:qA) :
  jq (.lookup t m k ok) ⟨C,fa,call⟩ e { H with iq:=ls } d=match zP ok (look key l).isSome (match look key l with
   | some x=>ev x
   | none=>z) with
   | some r=>some (r,{ H with iq:=ls })
   | none=>none:=by
 obtain ⟨b,es,c,hb,rfl,hg,he,hst⟩:=hS.at hi
 obtain ⟨f1,f2,f3⟩:=vW (ek:=ek) (ev:=ev) hke key l es he 0
 cases hl:look key l with
 | none=>simp only [jq,uc,qY,hT,hkd,hE,hk,hK,hm,qo,aT.kK,hg,f1 hl,hz,Option.isSome_none]; rfl
 | some x0 =>
   obtain ⟨j,hj,_⟩:=f2 x0 hl
   simp only [jq,uc,qY,hT,hkd,hE,hk,hK,hm,qo,aT.kK,hg,hj,Option.isSome_some]
   rfl
end
section
variable {C:jE} {F:kJ} {Pr:ko} {fa:iC} {e:Env} {all rest:List Oper} {o:Oper} {q:Env->aT->Prop}
variable {H:aT} {ls:kI} {L:List jH} {i:Nat}
variable {κ β:Type} [DecidableEq κ] {ek : κ->AV} {ev : β->AV}
def Sk (ok b:Bool) (v:AV):AV:=match ok with
 | true=>.je [v,.bool b]
 | false=>v
def mB {t kt el:Nat} {m k:Operand} {tm te:TI} {v z:AV} {l:List (κ×β)} {ok:Bool} (key : κ) (hw:jg all e o=some true) (ho:o.op=.lookup t m k ok) (hS:Sep H L) (hi:L[i]?=some (.map v (jO ek ev l))) (hT:C.T t=some tm) (hkd:tm.kind=.map kt el) (hE:C.T el=some te) (hm:iP e m=v) (hk:iP e k=ek key) (hK:qD C kt (ek key)=true) (hz:asAgg te te.zero=some z) (hke:∀ a b,lC (ek a) (ek b)=some (decide (a=b)))
  (w1:∀ x,look key l=some x->kh C F Pr fa all rest q (iW e o (Sk ok true (ev x))) { H with iq:=ls }) (w2:look key l=none->kh C F Pr fa all rest q (iW e o (Sk ok false z)) { H with iq:=ls }):kh C F Pr fa all (o::rest) q e { H with iq:=ls }:=by
 cases hl:look key l with
 | none=>exact iI hw (λcall=>by rw [ho,xK key hS hi hT hkd hE hm hk hK hz hke call,hl]; cases ok<;>rfl) (w2 hl)
 | some x=>exact iI hw (λcall=>by rw [ho,xK key hS hi hT hkd hE hm hk hK hz hke call,hl]; cases ok<;>rfl) (w1 x hl)
def LR {j:Nat} {sch:List (Nat×List Nat)} {t kt el:Nat} {m k:Operand} {tm te:TI} {v z:AV} {l:List (κ×β)} {ok:Bool} (key : κ) (hj:all[j]?=some o) (hw:jg all e o=some true) (ho:o.op=.lookup t m k ok) (hS:Sep H L) (hi:L[i]?=some (.map v (jO ek ev l))) (hT:C.T t=some tm) (hkd:tm.kind=.map kt el) (hE:C.T el=some te) (hm:iP e m=v) (hk:iP e k=ek key) (hK:qD C kt (ek key)=true) (hz:asAgg te te.zero=some z) (hke:∀ a b,lC (ek a) (ek b)=some (decide (a=b)))
  (w1:∀ x,look key l=some x->ky C F Pr fa all sch q (iW e o (Sk ok true (ev x))) { H with iq:=ls }) (w2:look key l=none->ky C F Pr fa all sch q (iW e o (Sk ok false z)) { H with iq:=ls }):ky C F Pr fa all ((j,[])::sch) q e { H with iq:=ls }:=by
 cases hl:look key l with
 | none=>exact iU hj hw (λcall=>by rw [ho,xK key hS hi hT hkd hE hm hk hK hz hke call,hl]; cases ok<;>rfl) (w2 hl)
 | some x=>exact iU hj hw (λcall=>by rw [ho,xK key hS hi hT hkd hE hm hk hK hz hke call,hl]; cases ok<;>rfl) (w1 x hl)
def yu {es:List (AV×AV×Nat)} (hp:es.Pairwise λa b=>a.2.2≠b.2.2) {j:Nat} (hj:j<es.length) (v:AV):pG (es[j].2.2:Int) v es=some (es.modify j λe=>(e.1,v,e.2.2)):=by
 induction es generalizing j with
 | nil=>simp at hj
 | cons e es ih =>
   obtain ⟨a,b,c⟩:=e
   cases j with
   | zero=>simp [pG]
   | succ j =>
     have hj':j<es.length:=by grind
     have hne:c≠es[j].2.2:=(List.pairwise_cons.mp hp).1 _ (List.getElem_mem hj')
     grind [pG]
def qZ {t kt el:Nat} {m k:Operand} {tm te:TI} {d:Option Nat} {v z:AV} {l:List (κ×β)} (key : κ) (y : β) (hS:Sep H L) (hi:L[i]?=some (.map v (jO ek ev l))) (hT:C.T t=some tm) (hkd:tm.kind=.map kt el) (hE:C.T el=some te) (hm:iP e m=v) (hk:iP e k=ek key) (hK:qD C kt (ek key)=true) (hz:asAgg te te.zero=some z) (hV:AV.zX (ev y)=true) (hke:∀ a b,lC (ek a) (ek b)=some (decide (a=b))) :
  ∃ (u:AV) (H1:aT),(∀ call,jq (.mapEntry t m k) ⟨C,fa,call⟩ e { H with iq:=ls } d=some (u,{ H1 with iq:=ls }))/\∃ (w:AV) (st:Int) (H2:aT),u=.je [w,.int .i64 st] /\
    (∀ (e2:Env) (ls2:kI) (t2:Nat) (m2 s2 x2:Operand) (X:Ctx) (d2:Option Nat),iP e2 m2=v->iP e2 s2=.int .i64 st->iP e2 x2=ev y->jq (.entryStore t2 m2 s2 x2) X e2 { H1 with iq:=ls2 } d2=some (.undef,{ H2 with iq:=ls2 }))/\Sep H2 (L.set i (.map v (jO ek ev (put key y l)))):=by
 obtain ⟨b,es,c,hb,rfl,hg,he,hst⟩:=hS.at hi
 have hlob:H.lo<=b:=aT.mQ hg
 obtain ⟨f1,f2,f3⟩:=vW (ek:=ek) (ev:=ev) hke key l es he 0
 have fin:∀ es1 c1 es2 (st:Int) w,(∀ call,jq (.mapEntry t m k) ⟨C,fa,call⟩ e { H with iq:=ls } d=some (.je [w,.int .i64 st],{ H.set b (.map es1 c1) with iq:=ls }))->pG st (ev y) es1=some es2->nP es2=jO ek ev (put key y l)->wJ es2 c1 ->
   ∃ (u:AV) (H1:aT),(∀ call,jq (.mapEntry t m k) ⟨C,fa,call⟩ e { H with iq:=ls } d=some (u,{ H1 with iq:=ls }))/\∃ (w:AV) (st:Int) (H2:aT),u=.je [w,.int .i64 st] /\
   (∀ (e2:Env) (ls2:kI) (t2:Nat) (m2 s2 x2:Operand) (X:Ctx) (d2:Option Nat),iP e2 m2=.hm b->iP e2 s2=.int .i64 st->iP e2 x2=ev y->jq (.entryStore t2 m2 s2 x2) X e2 { H1 with iq:=ls2 } d2=some (.undef,{ H2 with iq:=ls2 }))/\Sep H2 (L.set i (.map (.hm b) (jO ek ev (put key y l)))):=by
  intro es1 c1 es2 st w h1 h2 h3 h4
  have hg1:(H.set b (.map es1 c1)).get b=some (.map es1 c1):=by grind [aT.lb]
  refine ⟨_,H.set b (.map es1 c1),h1,w,st,(H.set b (.map es1 c1)).set b (.map es2 c1),rfl,?_,?_⟩
  ·intro e2 ls2 t2 m2 s2 x2 X d2 hm2 hs2 hx2
   simp only [jq,vQ,sI,hm2,hs2,hx2,AV.int?,aT.kK,hg1,hV,h2,aT.oj]
  ·refine hS.mG hi (by simpa using hS.lo) (by simp) ⟨b,es2,c1,by simp_all,rfl,?_,h3,h4⟩ ?_ ?_
   ·simp_all [aT.lb]
   ·intro b' hb' hne
    rw [aT.lb,if_neg (by rintro ⟨rfl,_⟩; exact hne rfl),aT.lb,if_neg (by rintro ⟨rfl,_⟩; exact hne rfl)]
   ·intro b' hb'; exact .inl hb'
 cases hl:look key l with
 | none =>
   refine fin (es++[(ek key,z,c)]) (c+1) (es++[(ek key,ev y,c)]) c z ?_ ?_ (f3 hl y c) (hst.snoc _ _)
   ·intro call
    simp only [jq,uY,sT,hT,hkd,hm,hE,aT.kK,hg,hk,hK,f1 hl,hz,aT.oj]
   ·have h0:=yu (hst.snoc (ek key) z).2 (j:=es.length) (by simp) (ev y)
    simp only [List.getElem_concat_length] at h0
    rw [h0]
    congr 1
    apply List.ext_getElem (by simp)
    grind
 | some x0 =>
   obtain ⟨j,hj,hjl,hjm⟩:=f2 x0 hl
   rw [Nat.zero_add] at hj
   have hst1:wJ (es.modify j λx=>(ek key,x.2)) c:=hst.modify _ _ λ_=>rfl
   refine fin (es.modify j λx=>(ek key,x.2)) c ((es.modify j λx=>(ek key,x.2)).modify j λe=>(e.1,ev y,e.2.2)) (es[j].2.2:Nat) (ev x0) ?_ ?_ ?_ (hst1.modify _ _ λ_=>rfl)
   ·intro call
    have hso:wm es j=es[j].2.2:=by simp [wm,hjl]
    simp only [jq,uY,sT,hT,hkd,hm,hE,aT.kK,hg,hk,hK,hj,hso,aT.oj]
   ·have h0:=yu hst1.2 (j:=j) (by grind) (ev y)
    grind
   grind
end
section
variable {C:jE} {F:kJ} {Pr:ko} {fa:iC} {e:Env} {all rest:List Oper} {o:Oper} {q:Env->aT->Prop}
variable {H:aT} {ls:kI} {L:List jH} {i:Nat}
variable {α:Type} {enc : α->List AV} {w tt:Bool} {v:AV} {n:Nat} {l:List α}
def HB {n:Nat} {xs:List (List AV)} (h:∀ x∈xs,x.length=n):nM n xs=true:=by
 simp_all [nM]
def E8 {xs ys:List (List AV)} (hS:Sep H L) (hi:L[i]?=some (.sl w tt v n xs)) (hys:∀ x∈ys,x.length=n) (ht:tt=true\/ys.length=1) (hm:xs.length+ys.length<=qQ) :
  ∃ v' H',append n { H with iq:=ls } v ys=some (v',{ H' with iq:=ls })/\Sep H' (L.set i (.sl w tt v' n (xs++ys))):=by
 have hlo:=hS.lo
 obtain ⟨hxl,hc⟩:=hS.at hi
 have hal:nM n ys=true:=HB hys
 have hxal:nM n xs=true:=HB hxl
 have hxy:∀ x∈xs++ys,x.length=n:=by
  grind
 have hset:∀ v',v'=v->Sep H (L.set i (.sl w tt v' n xs)):=by
  rintro v' rfl
  exact hS.mG hi hlo (Nat.le_refl _) ⟨hxl,hc⟩ (λ_ _ _=>rfl) (λb hb=>.inl hb)
 cases ys with
 | nil =>
   rw [List.append_nil]
   refine ⟨v,H,?_,hset v rfl⟩
   rcases hc with ⟨rfl,rfl⟩ | ⟨_,rfl⟩ | ⟨b,g,j,hb,rfl,hg,htj⟩<;>rfl
 | cons y ys =>
   have new:∀ (hle:Nat.ble (xs.length+(ys.length+1)) qQ=true),append n { H with iq:=ls } v (y::ys)=rn n { H with iq:=ls } xs (y::ys)->∃ v' H',append n { H with iq:=ls } v (y::ys)=some (v',{ H' with iq:=ls })/\Sep H' (L.set i (.sl w tt v' n (xs++(y::ys)))):=by
    intro hle hap
    refine ⟨.hs H.size 0 0 (xs.length+(ys.length+1)),H.push (.iH 0 n (xs++(y::ys))),?_,?_⟩
    ·rw [hap]
     simp [rn,hxal,hle,aT.y6]
    ·refine hS.mG hi (by simp; omega) (by simp) ⟨hxy,.inr (.inr ⟨H.size,0,[],by simp,by simp,?_,λ_=>rfl⟩)⟩ ?_ ?_<;>grind [aT.o5,lv,jH.v]
   have hle:Nat.ble (xs.length+(ys.length+1)) qQ=true:=Nat.ble_eq.mpr (by omega)
   rcases hc with ⟨rfl,rfl⟩ | ⟨_,rfl⟩ | ⟨b,g,j,hb,rfl,hg,htj⟩
   ·grind [append]
   ·have hbt:Nat.blt xs.length (xs.length+(ys.length+1))=true:=by simp
    grind [append]
   ·have hlob:H.lo<=b:=aT.mQ hg
    have grow:j=[]->∃ v' H',append n { H with iq:=ls } (.hs b g 0 xs.length) (y::ys)=some (v',{ H' with iq:=ls })/\Sep H' (L.set i (.sl w tt v' n (xs++(y::ys)))):=by
     rintro rfl
     rw [List.append_nil] at hg
     refine ⟨.hs b (g+1) 0 (xs.length+(y::ys).length),H.set b (.iH (g+1) n (xs++(y::ys))),?_,?_⟩
     ·have h2:Nat.ble (xs.length+(ys.length+1)) xs.length=false:=by
       cases hq:Nat.ble (xs.length+(ys.length+1)) xs.length with
       | false=>rfl
       | true=>exact absurd (Nat.ble_eq.mp hq) (by omega)
      simp [append,hal,BX,aT.kK,hg,hle,h2,aT.oj]
     ·refine hS.mG hi (by simp_all) (by simp) ⟨hxy,.inr (.inr ⟨b,g+1,[],by simp_all,by simp,?_,λ_=>rfl⟩)⟩ ?_ ?_
      ·grind [aT.lb]
      ·intro b' hb' hne; rw [aT.lb,if_neg (by rintro ⟨rfl,_⟩; exact hne rfl)]
      ·intro b' hb'; exact .inl hb'
    cases j with
    | nil=>grind
    | cons j0 j =>
      have htt:tt=false:=by grind
      have hy:ys=[]:=by
       grind
      subst hy
      refine ⟨.hs b g 0 (xs.length+1),H.set b (.iH g n (xs++y::j)),?_,?_⟩
      ·have h1:Nat.ble (xs.length+1) (xs++j0::j).length=true:=Nat.ble_eq.mpr (by simp)
       have h3:Nat.ble (xs.length+1) qQ=true:=hle
       have h2:overwrite (xs++j0::j) xs.length [y]=xs++y::j:=by
        simp_all [overwrite]
       simp only [append,hal,BX,aT.kK,hg,Nat.zero_add,List.length_singleton,h1,h2,h3,Nat.beq_refl,Bool.and_self,nf,aT.oj,Bool.and_true]
      ·refine hS.mG hi (by simp_all) (by simp) ⟨hxy,.inr (.inr ⟨b,g,j,by simp_all,by simp,?_,λh=>absurd h (by simp [htt])⟩)⟩ ?_ ?_
       ·grind [aT.lb]
       ·intro b' hb' hne; rw [aT.lb,if_neg (by rintro ⟨rfl,_⟩; exact hne rfl)]
       ·intro b' hb'; exact .inl hb'
def kq {cl:Call} {s x:Operand} {t u:Nat} {ti:TI} {d:Option Nat} (ys:List α) (hS:Sep H L) (hi:L[i]?=some (.sl w tt v n (l.map enc))) (hc:cl.callee=.builtin .append) (ha:cl.args.toList=[s,x]) (hts:cl.argTypes.toList=[t,u]) (hT:pX C [t,u]=some ti) (hSr:CG C [t,u]=true) (hn:ti.size=n)
  (hs:iP e s=v) (hx:o1 { H with iq:=ls } (iP e x)=some (ys.map enc)) (hok:∀ y,(enc y).all AV.j5=true) (ht:tt=true\/ys.length=1) (hm:l.length+ys.length<=qQ) (henc:∀ x,(enc x).length=n) :
  ∃ v' H',(∀ call,jq (.call cl) ⟨C,fa,call⟩ e { H with iq:=ls } d=some (v',{ H' with iq:=ls }))/\Sep H' (L.set i (.sl w tt v' n ((l++ys).map enc))):=by
 obtain ⟨v',H',h1,h2⟩:=E8 (ls:=ls) (ys:=ys.map enc) hS hi (by grind) (by grind) (by grind)
 refine ⟨v',H',λcall=>?_,by grind⟩
 have hall:zE (ys.map enc)=true:=by
  grind [zE]
 simp only [jq,ow,nO,hc,ha,hts,l3,AL,sx,List.map_cons,List.map_nil,hT,hSr,hn,hs,hx,hall,h1]
def mZ {X:Ctx} {d:Option Nat} {cl:Call} {t el:Nat} {x:Operand} {ti:TI} {h:aT} (hS:Sep H L) (hi:L[i]?=some (.sl w tt v n (l.map enc))) (hc:cl.callee=.builtin .len) (ha:cl.args.toList=[x]) (hts:cl.argTypes.toList=[t]) (hT:X.C.T t=some ti) (hk:ti.kind=.slice el) (hx:iP e x=v) :
  jq (.call cl) X e h d=some (.int .i64 l.length,h):=by
 obtain ⟨hxl,⟨h0,rfl⟩ | ⟨_,rfl⟩ | ⟨b,g,j,hb,rfl,hg,htj⟩⟩:=hS.at hi
 ·simp_all [jq,ow,nO,l3,u9,tl,uy,tI,oG]
 ·simp_all [jq,ow,nO,l3,u9,tl,uy,tI,oG]
 simp_all [jq,ow,nO,l3,u9,tl,uy,tI,oG]
def EA (v:AV) (m:Nat) (a:AV) (cs:List AV):Prop:=(∃ xs k,v=.sl xs (.exact k)/\a=.ip cs 0 false)\/∃ b g len,v=.hs b g 0 len/\a=.ptr b g m 0
def nm (a:AV) (o:Nat):AV:=match a with
 | .ip cs _ s=>.ip cs o s
 | .ptr b g i _=>.ptr b g i o
 | v=>v
def jU {m:Nat} {x : α} (h:m<l.length) (hx:l[m]=x):(l.map enc)[m]?=some (enc x):=by grind
def mX {P:AV->Prop} {h:aT} (hw:jg all e o=some true) (hop:∃ v,(∀ call,jq o.op ⟨C,fa,call⟩ e h o.dst=some (v,h))/\P v) (next:∀ v,P v->kh C F Pr fa all rest q (iW e o v) h):kh C F Pr fa all (o::rest) q e h:=by
 grind [iI]
def mj {j:Nat} {sch:List (Nat×List Nat)} {P:AV->Prop} {h:aT} (hj:all[j]?=some o) (hw:jg all e o=some true) (hop:∃ v,(∀ call,jq o.op ⟨C,fa,call⟩ e h o.dst=some (v,h))/\P v) (next:∀ v,P v->ky C F Pr fa all sch q (iW e o v) h):ky C F Pr fa all ((j,[])::sch) q e h:=by
 grind [iU]
def lS {t el:Nat} {x y:Operand} {ti te:TI} {k:IntKind} {m:Nat} {d:Option Nat} {cs:List AV} {xs:List (List AV)} (hS:Sep H L) (hi:L[i]?=some (.sl w tt v n xs)) (hT:C.T t=some ti) (hk:ti.kind=.slice el) (hE:C.T el=some te) (hn:te.size=n) (hx:iP e x=v) (hy:iP e y=.int k (m:Int)) (hm:xs[m]?=some cs) :
  ∃ a,(∀ call,jq (.indexAddr t x y) ⟨C,fa,call⟩ e { H with iq:=ls } d=some (a,{ H with iq:=ls }))/\a=nm a 0/\EA v m a cs:=by
 have hml:m<xs.length:=(List.getElem?_eq_some_iff.mp hm).1
 have hai:oX (.int k (m:Int))=some m:=rfl
 obtain ⟨hxl,⟨h0,rfl⟩ | ⟨_,rfl⟩ | ⟨b,g,j,hb,rfl,hg,htj⟩⟩:=hS.at hi
 ·grind
 ·refine ⟨.ip cs 0 false,λcall=>?_,rfl,.inl ⟨xs,_,rfl,rfl⟩⟩
  have hl:Nat.beq cs.length te.size=true:=by
   rw [hn,hxl _ (List.mem_of_getElem? hm)]; simp
  simp_all [jq,oT,nZ,pQ,pU]
 ·refine ⟨.ptr b g m 0,λcall=>?_,rfl,.inr ⟨b,g,_,rfl,rfl⟩⟩
  have h1:Nat.blt m xs.length=true:=by simp_all
  simp only [jq,oT,nZ,hT,hy,hai,hk,hE,hx,pQ,aT.kK,hg,h1,hn,Nat.beq_refl,Bool.and_self,nf,Nat.zero_add]
def EA.R0 {m o off ft f t:Nat} {a:AV} {cs:List AV} {x:Operand} {X:Ctx} {d:Option Nat} {ti:TI} {fs:List (Nat×Nat)} {h:aT} (hE:EA v m a cs) (hT:X.C.T t=some ti) (hk:ti.kind=.struct fs) (hf:fs[f]?=some (off,ft)) (hx:iP e x=nm a o):jq (.fieldAddr t x f) X e h d=some (nm a (o+off),h):=by
 rcases hE with ⟨xs,k,rfl,rfl⟩ | ⟨b,g,len,rfl,rfl⟩<;>simp only [jq,ru,pY,hT,hk,hf,hx,nm,Cz,MM,DU,nf,kB]
def lZ {m o t:Nat} {a r:AV} {cs:List AV} {x:Operand} {X:Ctx} {d:Option Nat} {ti:TI} {xs:List (List AV)} (hS:Sep H L) (hi:L[i]?=some (.sl w tt v n xs)) (hm:xs[m]?=some cs) (hE:EA v m a cs) (hT:X.C.T t=some ti) (hp:part ti cs o=some r) (hx:iP e x=nm a o):jq (.load t x) X e { H with iq:=ls } d=some (r,{ H with iq:=ls }):=by
 have hml:m<xs.length:=(List.getElem?_eq_some_iff.mp hm).1
 obtain ⟨hxl,hc⟩:=hS.at hi
 rcases hE with ⟨xs',k,rfl,rfl⟩ | ⟨b,g,len,rfl,rfl⟩
 ·simp_all [jq,zL,xp,nm,sD,Vn,kB]
 ·rcases hc with ⟨h0,hv⟩ | ⟨_,hv⟩ | ⟨b',g',j,hb,hv,hg,htj⟩
  ·cases hv
  ·cases hv
  ·cases hv
   have hmj:(xs++j)[m]?=some cs:=by grind
   simp_all [jq,zL,xp,nm,sD,BG,aT.kK,kB]
theorem HX {cs new cs':List AV} {o:Nat} (h:nv cs o new=some cs'):cs'.length=cs.length:=by
 unfold nv at h
 split at h
 ·rename_i hle
  have hle:=Nat.ble_eq.mp hle
  grind [pS]
 ·cases h
def Vk {m o t:Nat} {a r:AV} {cs new cs':List AV} {x y:Operand} {d:Option Nat} {ti:TI} {xs:List (List AV)} (hS:Sep H L) (hi:L[i]?=some (.sl true tt v n xs)) (hm:xs[m]?=some cs) (hE:EA v m a cs) (hT:C.T t=some ti) (hx:iP e x=nm a o) (hy:iP e y=r) (hnew:cellsOf ti r=some new) (hok:new.all AV.j5=true) (hsp:nv cs o new=some cs') :
  ∃ u H',(∀ call,jq (.store t x y) ⟨C,fa,call⟩ e { H with iq:=ls } d=some (u,{ H' with iq:=ls }))/\u=.undef/\Sep H' (L.set i (.sl true tt v n (xs.set m cs'))):=by
 have hml:m<xs.length:=(List.getElem?_eq_some_iff.mp hm).1
 obtain ⟨hxl,hc⟩:=hS.at hi
 rcases hc with ⟨h0,rfl⟩ | ⟨h0 | h0,_⟩ | ⟨b,g,j,hb,rfl,hg,htj⟩
 ·grind
 ·cases h0
 ·grind
 ·rcases hE with ⟨xs',k,h0,_⟩ | ⟨b',g',len,hv,rfl⟩
  ·cases h0
  ·cases hv
   have hlob:H.lo<=b:=aT.mQ hg
   have hmj:(xs++j)[m]?=some cs:=by grind
   refine ⟨.undef,H.set b (.iH g n ((xs.set m cs')++j)),λcall=>?_,rfl,?_⟩
   ·have hse:(xs++j).set m cs'=xs.set m cs'++j:=by grind
    simp only [jq,yA,wG,hT,hx,hy,wv,hnew,hok,nm,y4,D8,aT.kK,hg,Nat.beq_refl,hmj,hsp,aT.oj,hse]
   ·refine hS.mG hi (by simpa using hS.lo) (by simp) ⟨?_,.inr (.inr ⟨b,g,j,by simp_all,by simp,?_,htj⟩)⟩ ?_ ?_
    ·intro z hz
     rcases List.mem_or_eq_of_mem_set hz with hz | rfl
     ·grind
     ·rw [HX hsp]; grind
    ·grind [aT.lb]
    ·intro b' hb' hne; rw [aT.lb,if_neg (by rintro ⟨rfl,_⟩; exact hne rfl)]
    ·intro b' hb'; exact .inl hb'
def si {m o t:Nat} {a r:AV} {new:List AV} {x y:Operand} {d:Option Nat} {ti:TI} (z z' : α) (hS:Sep H L) (hi:L[i]?=some (.sl true tt v n (l.map enc))) (hml:m<l.length) (hz:l[m]=z) (hE:EA v m a (enc z)) (hT:C.T t=some ti) (hx:iP e x=nm a o) (hy:iP e y=r) (hnew:cellsOf ti r=some new) (hok:new.all AV.j5=true) (hsp:nv (enc z) o new=some (enc z')) :
  ∃ u H',(∀ call,jq (.store t x y) ⟨C,fa,call⟩ e { H with iq:=ls } d=some (u,{ H' with iq:=ls }))/\u=.undef/\Sep H' (L.set i (.sl true tt v n ((l.set m z').map enc))):=by
 rw [List.map_set]
 exact Vk hS hi (jU hml hz) hE hT hx hy hnew hok hsp
def Ug (v:AV) (k:Nat) (v':AV):Prop:=(v=.sl [] .nil/\v'=.sl [] .nil/\k=0)\/(v=.sl [] (.exact 0)/\v'=.sl [] (.exact 0)/\k=0)\/∃ b g len,v=.hs b g 0 len/\v'=.hs b g 0 k
def Tm {t el k:Nat} {x y:Operand} {ti te:TI} {kd:IntKind} {d:Option Nat} {xs:List (List AV)} (hS:Sep H L) (hi:L[i]?=some (.sl true tt v n xs)) (hT:C.T t=some ti) (hk:ti.kind=.slice el) (hE:C.T el=some te) (hn:te.size=n) (hx:iP e x=v) (hy:iP e y=.int kd (k:Int)) (hkl:k<=xs.length) :
  ∃ v' H',(∀ call,jq (.slice t x none (some y) none) ⟨C,fa,call⟩ e { H with iq:=ls } d=some (v',{ H' with iq:=ls }))/\Ug v k v'/\Sep H' (L.set i (.sl true false v' n (xs.take k))):=by
 obtain ⟨hxl,hc⟩:=hS.at hi
 have hai:oX (.int kd (k:Int))=some k:=rfl
 rcases hc with ⟨h0,rfl⟩ | ⟨h0 | h0,rfl⟩ | ⟨b,g,j,hb,rfl,hg,htj⟩
 ·subst h0
  have hk0:k=0:=by grind
  subst hk0
  refine ⟨.sl [] .nil,H,λcall=>?_,.inl ⟨rfl,rfl,rfl⟩,?_⟩
  ·simp only [jq,pd,oI,hT,hk,hE,hx,hy,slice,vC,np,bound,hai,pB,nW,pa]
   rfl
  ·exact hS.mG hi hS.lo (Nat.le_refl _) ⟨by simp,.inl ⟨by simp,rfl⟩⟩ (λ_ _ _=>rfl) (λb hb=>by simp [lv,jH.v] at hb)
 ·cases h0
 ·subst h0
  have hk0:k=0:=by grind
  subst hk0
  refine ⟨.sl [] (.exact 0),H,λcall=>?_,.inr (.inl ⟨rfl,rfl,rfl⟩),?_⟩
  ·simp only [jq,pd,oI,hT,hk,hE,hx,hy,slice,vC,np,bound,hai,pB,nW,pa]
   rfl
  ·exact hS.mG hi hS.lo (Nat.le_refl _) ⟨by simp,.inr (.inl ⟨.inr (by simp),rfl⟩)⟩ (λ_ _ _=>rfl) (λb hb=>by simp [lv,jH.v] at hb)
 ·have h0:Nat.ble 0 k=true:=Nat.ble_eq.mpr (Nat.zero_le _)
  have h1:Nat.ble k (xs++j).length=true:=Nat.ble_eq.mpr (by grind)
  have h2:Nat.ble 0 (xs++j).length=true:=Nat.ble_eq.mpr (Nat.zero_le _)
  refine ⟨.hs b g 0 k,H,λcall=>?_,.inr (.inr ⟨b,g,_,rfl,rfl⟩),?_⟩
  ·simp only [jq,pd,oI,hT,hk,hE,hx,hy,slice,Cx,aT.kK,hg,hn,Nat.beq_refl,Bool.and_self,np,bound,hai,pB,Option.getD_none,Nat.zero_add,h0,h1,h2,Bool.and_true,Bool.true_and,Bo,nf,Nat.sub_zero,kB]
  ·refine hS.mG hi hS.lo (Nat.le_refl _) ⟨λz hz=>hxl z (List.mem_of_mem_take hz),.inr (.inr ⟨b,g,xs.drop k++j,hb,?_,?_,λh=>by cases h⟩)⟩ (λ_ _ _=>rfl) (λb' hb'=>.inl hb')
   ·grind
   ·rw [hg,<- List.append_assoc,List.take_append_drop]
def sm {t el k:Nat} {x y:Operand} {ti te:TI} {kd:IntKind} {d:Option Nat} (hS:Sep H L) (hi:L[i]?=some (.sl true tt v n (l.map enc))) (hT:C.T t=some ti) (hk:ti.kind=.slice el) (hE:C.T el=some te) (hn:te.size=n) (hx:iP e x=v) (hy:iP e y=.int kd (k:Int)) (hkl:k<=l.length) :
  ∃ v' H',(∀ call,jq (.slice t x none (some y) none) ⟨C,fa,call⟩ e { H with iq:=ls } d=some (v',{ H' with iq:=ls }))/\Ug v k v'/\Sep H' (L.set i (.sl true false v' n ((l.take k).map enc))):=by
 rw [List.map_take]
 exact Tm hS hi hT hk hE hn hx hy (by grind)
def ta {t el k:Nat} {x y:Operand} {ti te:TI} {kd:IntKind} {d:Option Nat} {v':AV} {ys:List (List AV)} {X:Ctx} (hS:Sep H L) (hi:L[i]?=some (.sl true tt v' n ys)) (hc:Ug v k v') (hT:X.C.T t=some ti) (hk:ti.kind=.slice el) (hE:X.C.T el=some te) (hn:te.size=n) (hx:iP e x=v) (hy:iP e y=.int kd (k:Int)) :
  jq (.slice t x none (some y) none) X e { H with iq:=ls } d=some (v',{ H with iq:=ls }):=by
 have hai:oX (.int kd (k:Int))=some k:=rfl
 obtain ⟨hxl,hq⟩:=hS.at hi
 rcases hc with ⟨rfl,rfl,rfl⟩ | ⟨rfl,rfl,rfl⟩ | ⟨b,g,len,rfl,rfl⟩
 ·simp only [jq,pd,oI,hT,hk,hE,hx,hy,slice,vC,np,bound,hai,pB,nW,pa]
  rfl
 ·simp only [jq,pd,oI,hT,hk,hE,hx,hy,slice,vC,np,bound,hai,pB,nW,pa]
  rfl
 ·rcases hq with ⟨_,hv⟩ | ⟨_,hv⟩ | ⟨b',g',j,hb,hv,hg,htj⟩
  ·cases hv
  ·cases hv
  ·cases hv
   have h0:Nat.ble 0 ys.length=true:=Nat.ble_eq.mpr (Nat.zero_le _)
   have h1:Nat.ble ys.length (ys++j).length=true:=Nat.ble_eq.mpr (by simp)
   have h2:Nat.ble 0 (ys++j).length=true:=Nat.ble_eq.mpr (Nat.zero_le _)
   simp only [jq,pd,oI,hT,hk,hE,hx,hy,slice,Cx,aT.kK,hg,hn,Nat.beq_refl,Bool.and_self,np,bound,hai,pB,Option.getD_none,Nat.zero_add,h0,h1,h2,Bool.and_true,Bool.true_and,Bo,nf,Nat.sub_zero,kB]
end
section
variable {C:jE} {F:kJ} {Pr:ko} {fa:iC} {e:Env} {all rest:List Oper} {o:Oper} {q:Env->aT->Prop}
variable {H:aT} {ls:kI} {L:List jH} {i:Nat} {v:AV} {cs:List AV}
def BA {d:Nat} (hS:Sep H L) (hd:fa.iq.elem d=false):∃ v H',newVar fa d { H with iq:=ls } cs=some (v,{ H' with iq:=ls })/\∃ b,v=.ptr b 0 0 0/\Sep H' (.obj (.ptr b 0 0 0) cs::L):=by
 have hlo:=hS.lo
 refine ⟨.ptr H.size 0 0 0,H.push (.iH 0 cs.length [cs]),?_,H.size,rfl,?_⟩
 ·grind [newVar,aT.y6]
 ·refine hS.new (by simp; omega) (by simp) ⟨H.size,cs.length,by simp,rfl,?_⟩ ?_ ?_<;>grind [aT.o5,lv,jH.v]
def Dm {t d:Nat} {ti:TI} (hS:Sep H L) (hd:fa.iq.elem d=false) (hT:C.T t=some ti):∃ v H',(∀ call,jq (.alloc t) ⟨C,fa,call⟩ e { H with iq:=ls } (some d)=some (v,{ H' with iq:=ls }))/\∃ b,v=.ptr b 0 0 0/\Sep H' (.obj (.ptr b 0 0 0) ti.zero::L):=by
 obtain ⟨v,H',h1,h2⟩:=BA (ls:=ls) (cs:=ti.zero) hS hd
 refine ⟨v,H',λcall=>?_,h2⟩
 simp_all [jq,LW,B9]
def wb {t d:Nat} {ti:TI} {x:Operand} {r:AV} (hS:Sep H L) (hd:fa.iq.elem d=false) (hT:C.T t=some ti) (hx:iP e x=r) (hc:cellsOf ti r=some cs) (hok:cs.all AV.j5=true):∃ v H',(∀ call,jq (.box t x) ⟨C,fa,call⟩ e { H with iq:=ls } (some d)=some (v,{ H' with iq:=ls }))/\∃ b,v=.ptr b 0 0 0/\Sep H' (.obj (.ptr b 0 0 0) cs::L):=by
 obtain ⟨v,H',h1,h2⟩:=BA (ls:=ls) (cs:=cs) hS hd
 refine ⟨v,H',λcall=>?_,h2⟩
 simp only [jq,Mn,J3,hT,hx,hc,hok,h1]
def Sep.p0 (hS:Sep H L) (hi:L[i]?=some (.obj v cs)):v=nm v 0:=by
 obtain ⟨b,z,hb,rfl,hg⟩:=hS.at hi; rfl
def pe {o off ft f t:Nat} {x:Operand} {X:Ctx} {d:Option Nat} {ti:TI} {fs:List (Nat×Nat)} {h:aT} (hS:Sep H L) (hi:L[i]?=some (.obj v cs)) (hT:X.C.T t=some ti) (hk:ti.kind=.struct fs) (hf:fs[f]?=some (off,ft)) (hx:iP e x=nm v o):jq (.fieldAddr t x f) X e h d=some (nm v (o+off),h):=by
 obtain ⟨b,z,hb,rfl,hg⟩:=hS.at hi
 simp_all [jq,ru,pY,nm,Cz,DU,nf,kB]
def pN {x:Operand} {X:Ctx} {d:Option Nat} {h:aT} {o:Nat} (hS:Sep H L) (hi:L[i]?=some (.obj v cs)) (hx:iP e x=nm v o):jq (.nilCheck x) X e h d=some (nm v o,h):=by
 obtain ⟨b,z,hb,rfl,hg⟩:=hS.at hi
 simp only [jq,vF,hx,nm,A6,kB]
def pj {o t:Nat} {r:AV} {x:Operand} {X:Ctx} {d:Option Nat} {ti:TI} (hS:Sep H L) (hi:L[i]?=some (.obj v cs)) (hT:X.C.T t=some ti) (hp:part ti cs o=some r) (hx:iP e x=nm v o):jq (.load t x) X e { H with iq:=ls } d=some (r,{ H with iq:=ls }):=by
 obtain ⟨b,z,hb,rfl,hg⟩:=hS.at hi
 simp_all [jq,zL,xp,nm,sD,BG,aT.kK,kB]
def mP {o t:Nat} {r:AV} {new cs':List AV} {x y:Operand} {d:Option Nat} {ti:TI} (hS:Sep H L) (hi:L[i]?=some (.obj v cs)) (hT:C.T t=some ti) (hx:iP e x=nm v o) (hy:iP e y=r) (hnew:cellsOf ti r=some new) (hok:new.all AV.j5=true) (hsp:nv cs o new=some cs') :
  ∃ u H',(∀ call,jq (.store t x y) ⟨C,fa,call⟩ e { H with iq:=ls } d=some (u,{ H' with iq:=ls }))/\u=.undef/\Sep H' (L.set i (.obj v cs')):=by
 obtain ⟨b,z,hb,rfl,hg⟩:=hS.at hi
 have hlob:H.lo<=b:=aT.mQ hg
 refine ⟨.undef,H.set b (.iH 0 z [cs']),λcall=>?_,rfl,?_⟩
 ·simp only [jq,yA,wG,hT,hx,hy,wv,hnew,hok,nm,y4,D8,aT.kK,hg,Nat.beq_refl,List.getElem?_cons_zero,hsp,aT.oj,List.set_cons_zero]
 ·refine hS.mG hi (by simpa using hS.lo) (by simp) ⟨b,z,by simp_all,rfl,?_⟩ ?_ ?_
  ·grind [aT.lb]
  ·intro b' hb' hne; rw [aT.lb,if_neg (by rintro ⟨rfl,_⟩; exact hne rfl)]
  ·intro b' hb'; exact .inl hb'
end
def uf (n:Nat) (k:IntKind) (a:Int):lM (n+1) (.int k a) (.int k a)=true:=by simp [lM,oA,pH]
def M2 (n:Nat) (b:Bool):lM (n+1) (.bool b) (.bool b)=true:=by cases b<;>rfl
def CQ {H:aT} {L:List jH} {i:Nat} {n:Nat} {tt:Bool} {v:AV} {m:Nat} {xs:List (List AV)} (hS:Sep H L) (hi:L[i]?=some (.sl true tt v m xs)):lM (n+1) v v=true:=by
 obtain ⟨hxl,⟨h0,rfl⟩ | ⟨h0 | h0,rfl⟩ | ⟨b,g,j,hb,rfl,hg,htj⟩⟩:=hS.at hi
 ·rfl
 ·cases h0
 ·subst h0; rfl
 ·simp [lM]
def mc {X:Ctx} {all:List Oper} {e:Env} {h h':aT} {i d:Nat} {o:Oper} {v:AV} (ho:all[i]?=some o) (hw:jg all e o=some true) (hd:o.dst=some d) (hop:jq o.op X e h (some d)=some (v,h')) (hv:lE e d=v) (hq:lM 8 v v=true):again X all e h i=true:=by
 grind [again,FD]
section
variable {C:jE} {F:kJ} {Pr:ko} {fa:iC} {e:Env} {h:aT} {all rest:List Oper} {o:Oper} {q:Env->aT->Prop} {H:aT} {ls:kI}
def Fy {i:Nat} {chk:List Nat} {sch:List (Nat×List Nat)} {v:AV} {h1:aT} (ho:all[i]?=some o) (hw:jg all e o=some true) (hop:∃ m,∀ k,m<=k->jq o.op (XN C F Pr fa k) e h o.dst=some (v,h1))
  (hc:∀ call,∀ j∈chk,again ⟨C,fa,call⟩ all (iW e o v) h1 j=true) (w:ky C F Pr fa all sch q (iW e o v) h1):ky C F Pr fa all ((i,chk)::sch) q e h:=by
 obtain ⟨m,hm⟩:=hop
 obtain ⟨e2,h2,⟨m2,hm2⟩,q2⟩:=w
 refine ⟨e2,h2,⟨max m m2,λk hk=>?_⟩,q2⟩
 grind [again,iW,tg,pL,zn]
def ra {j:Nat} {chk:List Nat} {sch:List (Nat×List Nat)} {P:AV->aT->Prop} (hj:all[j]?=some o) (hw:jg all e o=some true) (hop:∃ v H',(∀ call,jq o.op ⟨C,fa,call⟩ e { H with iq:=ls } o.dst=some (v,{ H' with iq:=ls }))/\P v H')
  (next:∀ v H',P v H'->(∀ call,∀ j∈chk,again ⟨C,fa,call⟩ all (iW e o v) { H' with iq:=ls } j=true)/\ky C F Pr fa all sch q (iW e o v) { H' with iq:=ls }):ky C F Pr fa all ((j,chk)::sch) q e { H with iq:=ls }:=by
 obtain ⟨v,H',h1,h2⟩:=hop
 obtain ⟨n1,n2⟩:=next v H' h2
 exact Fy hj hw ⟨0,λk _=>h1 _⟩ n1 n2
end
def xe {p:Nat->Prop} {a:Nat} (h:p a):∀ j∈[a],p j:=by grind
def AH {p:Nat->Prop} {a:Nat} {l:List Nat} (h:p a) (hl:∀ j∈l,p j):∀ j∈a::l,p j:=by
 grind
structure jn (α:Type) where
 l:List α
 c:mV
 ok:l.length<=rT
 nl:c=.nil->l=[]
def jn.av {α:Type} (enc : α->List AV) (r:jn α):AV:=.sl (r.l.map enc) r.c
def Row.oo {α:Type} (r:Row α):jn α:=⟨r.l,r.c,r.ok,r.nl⟩
section
variable {H:aT} {L:List jH} {i:Nat} {v:AV} {cs:List AV} {w tt:Bool} {n:Nat}
variable {α:Type} {enc : α->List AV} {l:List α}
def G5 {xs:List (List AV)} {sn:Bool} (hS:Sep H L) (hi:L[i]?=some (.sl w tt v n xs)):∃ c,(pU c=true->sn=true)/\(c=.nil->xs=[])/\∀ ls m,(∀ x∈xs,js (freeze sn { H with iq:=ls } m) x=some x)->freeze sn { H with iq:=ls } (m+1) v=some (.sl xs c):=by
 obtain ⟨hxl,⟨h0,rfl⟩ | ⟨_,rfl⟩ | ⟨b,g,j,hb,rfl,hg,htj⟩⟩:=hS.at hi
 ·subst h0; exact ⟨.nil,λh=>(by cases h),λ_=>rfl,λ_ _ _=>rfl⟩
 ·exact ⟨.exact xs.length,λh=>(by cases h),λh=>(by cases h),λ_ _ _=>rfl⟩
 ·refine ⟨BT sn,?_,?_,λls m hm=>?_⟩
  ·cases sn
   ·intro h; cases h
   simp
  ·cases sn<;>exact λh=>by cases h
  ·have h2:Nat.ble (0+xs.length) (xs++j).length=true:=Nat.ble_eq.mpr (by simp)
   have h3:((xs++j).drop 0).take xs.length=xs:=by simp
   have h5:∀ ys:List (List AV),(∀ x∈ys,js (freeze sn { H with iq:=ls } m) x=some x)->ns (freeze sn { H with iq:=ls } m) ys=some ys:=by
    intro ys
    induction ys<;>grind [ns]
   simp only [freeze,aT.kK,hg,Nat.beq_refl,h2,Bool.and_self,h3,h5 xs hm]
def lA (hS:Sep H L) (hi:L[i]?=some (.sl w tt v n (l.map enc))) (hl:l.length<=rT):∃ r:Row α,r.l=l/\∀ ls m,(∀ x,js (freeze false { H with iq:=ls } m) (enc x)=some (enc x))->freeze false { H with iq:=ls } (m+1) v=some (r.av enc):=by
 obtain ⟨c,h1,h2,h3⟩:=G5 (sn:=false) hS hi
 refine ⟨⟨l,c,hl,?_,λh=>List.map_eq_nil_iff.mp (h2 h)⟩,rfl,λls m hm=>h3 ls m ?_⟩<;>grind
def Tc (hS:Sep H L) (hi:L[i]?=some (.sl w tt v n (l.map enc))) (hl:l.length<=rT):∃ r:jn α,r.l=l/\∀ ls m,(∀ x,js (freeze true { H with iq:=ls } m) (enc x)=some (enc x))->freeze true { H with iq:=ls } (m+1) v=some (r.av enc):=by
 obtain ⟨c,h1,h2,h3⟩:=G5 (sn:=true) hS hi
 refine ⟨⟨l,c,hl,λh=>List.map_eq_nil_iff.mp (h2 h)⟩,rfl,λls m hm=>h3 ls m ?_⟩
 grind
theorem Hs {f:AV->Option AV}:∀ {es:List (AV×AV×Nat)},(∀ x∈nP es,f x.2=some x.2)->oE f es=some (nP es)
 | [],_=>rfl
 | (k,v,c)::es,h=>by
   have h1:f v=some v:=h (k,v) (by simp [nP])
   have h2:oE f es=some (nP es):=Hs λx hx=>h x (by simp only [nP,List.map_cons,List.mem_cons]; exact .inr hx)
   simp only [oE,h1,h2,nP,List.map_cons]
def uE {sn:Bool} {es:List (AV×AV)} (hS:Sep H L) (hi:L[i]?=some (.map v es)) (ls:kI) (m:Nat) (hm:∀ x∈es,freeze sn { H with iq:=ls } m x.2=some x.2):freeze sn { H with iq:=ls } (m+1) v=some (.fm es sn):=by
 obtain ⟨b,es',c,hb,rfl,hg,rfl,hst⟩:=hS.at hi
 grind [freeze,aT.kK,Hs]
def uO {sn:Bool} {cs':List AV} (hS:Sep H L) (hi:L[i]?=some (.obj v cs)) (ls:kI) (m:Nat) (hm:js (freeze sn { H with iq:=ls } m) cs=some cs'):freeze sn { H with iq:=ls } (m+1) v=some (.ip cs' 0 sn):=by
 obtain ⟨b,z,hb,rfl,hg⟩:=hS.at hi
 grind [freeze,aT.kK]
end
def AV.oW:AV->Bool
 | .agg l=>l.all AV.j5
 | .je _=>false
 | _=>true
theorem KH {sn:Bool} {h:aT} {n:Nat} {v w:AV} (hp:v.lG=true) (hf:freeze sn h n v=some w):w=v:=by
 cases n with
 | zero=>simp [freeze] at hf
 | succ n =>
   cases v<;>simp only [AV.lG,Bool.false_eq_true] at hp<;>simp only [freeze,Option.some.injEq] at hf<;>try exact hf.symm
   ·grind
   ·grind
   grind
theorem uZ {f:AV->Option AV}:∀ {l l':List AV},(∀ x∈l,∀ y,f x=some y->y=x)->js f l=some l'->l'=l
 | [],_,_,h=>by grind [js]
 | a::l,l',hx,h=>by
   simp only [js] at h
   split at h
   ·cases h
   ·rename_i w hw
    split at h
    ·cases h
    ·rename_i r hr
     simp only [Option.some.injEq] at h
     subst h
     rw [hx a (by simp) w hw,uZ (λx hm=>hx x (by simp [hm])) hr]
theorem GU {hp:aT} {n:Nat} (c:List AV) (o:Nat) (s:Bool):freeze true hp (n+1) (.ip c o s)=some (.ip c o s):=by simp [freeze]
theorem HE {hp:aT} {n:Nat} (c:List (AV×AV)) (s:Bool):freeze true hp (n+1) (.fm c s)=some (.fm c s):=by simp [freeze]
theorem E3 {h:aT} {n:Nat} {v w:AV} (hr:v.qL=false) (hc:v.j5=true) (hf:freeze true h n v=some w):w=v:=by
 cases n with
 | zero=>simp [freeze] at hf
 | succ n =>
   cases v with
   | undef=>cases hc
   | la _ _=>cases hc
   | agg _=>cases hc
   | je _=>cases hc
   | ptr _ _ _ _=>cases hr
   | hs _ _ _ _=>cases hr
   | hm _=>cases hr
   | sl xs c=>cases c<;>exact (Option.some.inj hf).symm
   | ip c o s=>grind [GU]
   | fm c s=>grind [HE]
   | jz f a c =>
     simp only [AV.qL,Bool.not_eq_false',Bool.and_eq_true,List.all_eq_true] at hr
     grind [freeze,uZ,KH]
   | _=>exact (Option.some.inj hf).symm
theorem LB {l:List AV} (hr:(AV.agg l).qL=false) {x:AV} (hx:x∈l) (hc:x.j5=true):x.qL=false:=by
 simp only [AV.qL,List.any_eq_false] at hr
 have h1:=hr x hx
 cases x with
 | ptr _ _ _ _=>simp at h1
 | hs _ _ _ _=>simp at h1
 | hm _=>simp at h1
 | jz f a c=>grind [AV.qL]
 | agg _=>cases hc
 | _=>rfl
theorem Nb {h:aT} {n:Nat} {v w:AV} (hr:v.qL=false) (hfi:v.oW=true) (hf:freeze true h n v=some w):w=v:=by
 cases n with
 | zero=>simp [freeze] at hf
 | succ n =>
   cases v with
   | agg l =>
     rw [S9] at hf
     split at hf
     ·rename_i l' hl
      simp only [Option.some.injEq] at hf
      subst hf
      simp only [AV.oW,List.all_eq_true] at hfi
      rw [uZ (λx hx y hy=>E3 (LB hr hx (hfi x hx)) (hfi x hx) hy) hl]
     grind
   | je l=>cases hfi
   | undef=>cases hf
   | la _ _=>cases hf
   | _=>exact E3 hr rfl hf
def kH {h:aT} {args args':List AV} (hf:js (freeze true h 8) args=some args') (hfi:args.all AV.oW=true):kR h args=some args':=by
 grind [kR,AV.qL,uZ,Nb]
theorem Sep.oW {H:aT} {L:List jH} (h:Sep H L) {i:Nat} {r:jH} (hi:L[i]?=some r):AV.oW r.v=true:=by
 cases r with
 | sl w t v n xs=>obtain ⟨hl,⟨_,rfl⟩ | ⟨_,rfl⟩ | ⟨b,g,j,hb,rfl,hq,ht⟩⟩:=h.at hi<;>rfl
 | map v es=>obtain ⟨b,es',c,hb,rfl,hq,he,hst⟩:=h.at hi; rfl
 | obj v cs=>obtain ⟨b,z,hb,rfl,hq⟩:=h.at hi; rfl
def Fh {α:Type} {enc : α->List AV} {hp:aT} {n:Nat} (r:jn α):freeze true hp (n+1) (jn.av enc r)=some (jn.av enc r):=by
 grind [jn.av,freeze]
theorem so {α:Type} {enc : α->List AV} {hp:aT} {n:Nat} (r:Row α):freeze true hp (n+1) (Row.av enc r)=some (Row.av enc r):=Fh r.oo
def TA {sn:Bool} {hp:aT} {n:Nat} (c:List AV) (o:Nat):freeze sn hp (n+1) (.ip c o false)=some (.ip c o false):=by rfl
def Te {sn:Bool} {hp:aT} {n:Nat} (c:List (AV×AV)):freeze sn hp (n+1) (.fm c false)=some (.fm c false):=by rfl
def w4 {C:jE} {fa:iC} {e:Env} {h:aT} {call:qA} {f:Nat} {a c:Array Operand} {as cs:List AV} {d:Option Nat} (ha:a.toList.map (iP e)=as) (hc:c.toList.map (iP e)=cs) (hok:(as.all AV.j5&&cs.all AV.j5)=true):jq (.makeFunc (.func f) a c) ⟨C,fa,call⟩ e h d=some (.jz f as cs,h):=by
 simp only [jq,vm,sR,ha,hc,hok]
section
variable {C:jE} {fa:iC} {e:Env} {h:aT} {α:Type} {enc : α->List AV}
def qE {X:Ctx} {d:Option Nat} {t el:Nat} {x:Operand} {cl:Call} {ti:TI} {r:jn α} (hc:cl.callee=.builtin .len) (ha:cl.args.toList=[x]) (hts:cl.argTypes.toList=[t]) (hT:X.C.T t=some ti) (hk:ti.kind=.slice el) (hx:iP e x=r.av enc) :
  jq (.call cl) X e h d=some (.int .i64 r.l.length,h):=by
 simp_all [jq,ow,nO,l3,u9,tl,uy,jn.av,tI,oG]
def qV {X:Ctx} {d:Option Nat} {t el:Nat} {x y:Operand} {ti te:TI} {r:jn α} {k:IntKind} {n:Nat} (hT:X.C.T t=some ti) (hk:ti.kind=.slice el) (hE:X.C.T el=some te) (hx:iP e x=r.av enc) (hi:iP e y=.int k (n:Int))
  (hn:n<r.l.length) (hl:(enc r.l[n]).length=te.size):jq (.indexAddr t x y) X e h d=some (.ip (enc r.l[n]) 0 (pU r.c),h) :=
 SG hT hk hE hx hi (by omega) (r:=enc r.l[n]) (by simp [hn]) hl
def Row.drop (r:Row α) (k:Nat):Row α:=⟨r.l.drop k,pa k r.c,by have:=r.ok; grind,by have:=r.sn; cases hc:r.c<;>rw [hc] at this<;>first | rfl | exact this,λh=>by
 cases hc:r.c<;>rw [hc] at h<;>first | (rw [r.nl hc]; simp) | cases h⟩
def ML {X:Ctx} {d:Option Nat} {t el n k:Nat} {x y:Operand} {ti te:TI} {r:Row α} {kd:IntKind} (hT:X.C.T t=some ti) (hk:ti.kind=.slice el) (hE:X.C.T el=some te) (hx:iP e x=r.av enc) (hy:iP e y=.int kd (k:Int)) (hn:te.size=n) (hkl:k<=r.l.length) (henc:∀ x,(enc x).length=n) :
  jq (.slice t x (some y) none none) X e h d=some ((r.drop k).av enc,h):=by
 have hai:oX (.int kd (k:Int))=some k:=rfl
 have h0:Nat.ble k (r.l.map enc).length=true:=Nat.ble_eq.mpr (by grind)
 have h1:Nat.ble (r.l.map enc).length (r.l.map enc).length=true:=Nat.ble_eq.mpr (Nat.le_refl _)
 have h2:nW n (r.l.map enc)=true:=by
  cases r.l with
  | nil=>rfl
  | cons a l=>simp_all [nW]
 have h3:((r.l.map enc).drop k).take ((r.l.map enc).length - k)=(r.l.drop k).map enc:=by
  rw [List.take_of_length_le (by simp),List.map_drop]
 simp only [jq,pd,oI,hT,hk,hE,hx,hy,Row.av,slice,vC,np,bound,hai,pB,hn,h1,h2,h0,Bool.and_true,h3,pS,kB,Row.drop]
end
section
variable {C:jE} {F:kJ} {Pr:ko} {fa:iC} {e:Env} {h:aT} {all rest:List Oper} {o:Oper} {q:Env->aT->Prop}
def TJ {f:Nat} {args args':List AV} {v:AV} {h h':aT} (hP:Pr f=none) (h1:kR h args=some args') (h2:kR h' args'=some args') (w:iZ C F Pr false f args' h' v h'):iZ C F Pr false f args h v h:=by
 obtain ⟨m,hm⟩:=w
 refine ⟨m+1,λk hk=>?_⟩
 obtain ⟨k,rfl⟩:∃ k',k=k'+1:=⟨k - 1,by omega⟩
 have:=hm (k+1) (by omega)
 simp only [mg,hP] at this ⊢
 cases hF:F f with
 | none=>grind
 | some fb =>
   simp only [hF,sE,h1,h2] at this ⊢
   cases hb:tJ C fb (mg C F Pr k) k args' aT.empty<;>grind [tJ,mg,aT.empty,frozen,freeze]
def Ku {f:Nat} {g:Operand} {c:Call} {args p r:List AV} {v:AV} {d:Option Nat} (hf:c.callee=.value g) (hg:iP e g=.jz f p r) (ha:c.args.toList.map (iP e)=args) (hok:(p++args++r).all AV.nA=true) (hs:fa.jl.elem f=false)
  (w:iZ C F Pr false f (p++args++r) { h with iq:=[] } v { h with iq:=[] }):∃ m,∀ k,m<=k->jq (.call c) (XN C F Pr fa k) e h d=some (v,h):=by
 obtain ⟨m,hm⟩:=w
 refine ⟨m,λk hk=>?_⟩
 simp only [jq,ow,nO,hf,hg,ha,uw,B5,hok,hs,hm k hk,wM]
def mR {f:Nat} {g:Operand} {c:Call} {args p r args':List AV} {R:AV->Prop} (ho:o.op=.call c) (hw:jg all e o=some true) (hf:c.callee=.value g) (hg:iP e g=.jz f p r) (ha:c.args.toList.map (iP e)=args) (hok:(p++args++r).all AV.nA=true) (hs:fa.jl.elem f=false)
  (hP:Pr f=none) (h1:kR { h with iq:=[] } (p++args++r)=some args') (h2:kR aT.empty args'=some args')
  (w:∀ h:aT,∃ v,iZ C F Pr false f args' h v h/\R v) (next:∀ v,R v->kh C F Pr fa all rest q (iW e o v) h):kh C F Pr fa all (o::rest) q e h:=by
 obtain ⟨v,hc,hR⟩:=w aT.empty
 refine zD hw ?_ (next v hR)
 rw [ho]
 exact Ku hf hg ha hok hs (TJ hP h1 h2 hc)
variable {H:aT} {ls:kI}
def jQ {f:Nat} {g:Operand} {c:Call} {args p r:List AV} {R:AV->aT->Prop} (ho:o.op=.call c) (hw:jg all e o=some true) (hf:c.callee=.value g) (hg:iP e g=.jz f p r) (ha:c.args.toList.map (iP e)=args) (hok:(p++args++r).all AV.nA=true) (hs:fa.jl.elem f=true)
  (w:∃ v H',iZ C F Pr true f (p++args++r) { H with iq:=[] } v H'/\R v H') (next:∀ v H',R v H'->kh C F Pr fa all rest q (iW e o v) { H' with iq:=ls }):kh C F Pr fa all (o::rest) q e { H with iq:=ls }:=by
 obtain ⟨v,H',hc,hR⟩:=w
 refine zD hw ?_ (next v H' hR)
 rw [ho]
 exact Ez hf hg ha hok hs hc
def TQ {j:Nat} {sch:List (Nat×List Nat)} {f:Nat} {g:Operand} {c:Call} {args p r:List AV} {R:AV->aT->Prop} (hj:all[j]?=some o) (ho:o.op=.call c) (hw:jg all e o=some true) (hf:c.callee=.value g) (hg:iP e g=.jz f p r) (ha:c.args.toList.map (iP e)=args) (hok:(p++args++r).all AV.nA=true) (hs:fa.jl.elem f=true)
  (w:∃ v H',iZ C F Pr true f (p++args++r) { H with iq:=[] } v H'/\R v H') (next:∀ v H',R v H'->ky C F Pr fa all sch q (iW e o v) { H' with iq:=ls }):ky C F Pr fa all ((j,[])::sch) q e { H with iq:=ls }:=by
 obtain ⟨v,H',hc,hR⟩:=w
 refine Cr hj hw ?_ (next v H' hR)
 rw [ho]
 exact Ez hf hg ha hok hs hc
end
def lh {α:Type} (enc : α->List AV) (r:Row α):List AV:=[r.av enc]
structure nw where
 u2:Int
 steps:jn iR
 pos:jn Int
 left:jn (Row jC)
def nw.af (x:nw):List AV:=[.int .i64 x.u2,x.steps.av iR.af,x.pos.av jL,x.left.av (lh jC.af)]
structure sZ where
 from_:Int
 to:Int
 end_:Int
 steps:jn iR
 jK:jn iu
 guards:jn iu
 my:jn Int
 holds:jn Int
 bare:Bool
def sZ.af (x:sZ):List AV:=[.int .i64 x.from_,.int .i64 x.to,.int .i64 x.end_,x.steps.av iR.af,x.jK.av iu.af,x.guards.av iu.af,x.my.av jL,x.holds.av jL,.bool x.bare]
structure jh where
 qj:bY
 roads:Row iG
def jh.af (x:jh):List AV:=x.qj.af++[x.roads.av iG.af]
def sK (s:List UInt8):AV:=.str s
def bK (b:Bool):AV:=.bool b
def p3 (a b:List UInt8):lC (sK a) (sK b)=some (decide (a=b)):=by
 simp only [lC,sK,AV.agg?,mu,zH,AV.str?]
 grind
def Sep.tZ {H:aT} {L:List jH} {i:Nat} {w t:Bool} {v:AV} {n:Nat} {xs:List (List AV)} (h:Sep H L) (hi:L[i]?=some (.sl w t v n xs)):Sep H (L.set i (.sl w false v n xs)):=by
 obtain ⟨hxl,hc⟩:=h.at hi
 refine h.mG hi h.lo (Nat.le_refl _) ⟨hxl,?_⟩ (λ_ _ _=>rfl) (λb hb=>.inl hb)
 grind
def nN {ti:TI} {v:AV} (ha:ti.agg=false) (hs:ti.size=1) (hc:v.j5=true):cellsOf ti v=some [v]:=by
 simp_all [cellsOf]
def jD {p:AV->Bool}:([]:List AV).all p=true:=rfl
def iN {p:AV->Bool} {a:AV} {l:List AV} (h:p a=true) (hl:l.all p=true):(a::l).all p=true:=by grind
def xI {a b:Bool} (h:a=true) (hl:b=true):(a&&b)=true:=by grind
def abu {l:List AV} (h:l.all AV.j5=true):AV.oW (.agg l)=true:=h
def wu {κ β:Type} {ek : κ->AV} {ev : β->AV} {p:AV×AV->Prop} {l:List (κ×β)} (h:∀ x : κ×β,p (ek x.1,ev x.2)):∀ x∈jO ek ev l,p x:=by
 intro x hx; obtain ⟨y,_,rfl⟩:=List.mem_map.mp hx; exact h y
def kZ {α:Type} {enc : α->List AV} (r:Row α):AV.zx (r.av enc)=true:=by
 have h:=r.sn
 unfold Row.av
 cases hc:r.c<;>rw [hc] at h<;>first | rfl | cases h
def BI {X:Ctx} {e:Env} {h:aT} {t n d:Nat} {ps:Array (Nat×Operand)} {ti:TI} {xs:List (List AV)} (hT:uM X.C t=some ti) (hle:Nat.ble (n*ti.size) 16777216=true) (hf:tE ti (pk e ps) (List.replicate n ti.zero)=some xs) (hd:X.fa.p7.elem d=false) (hp:sw xs=true):jq (.buildSlice t n ps) X e h (some d)=some (.sl xs (.exact xs.length),h):=by
 simp only [jq,vU,sO,hT,hle,hf,AA,hd,hp,Bool.not_true,Bool.or_self]
def jn.isNil {α:Type} (r:jn α):Bool:=match r.c with
 | .nil=>true
 | _=>false
def jn.of_nil {α:Type} {r:jn α} (h:r.isNil=true):r.l=[]:=by
 apply r.nl
 grind [jn.isNil]
def qH {α:Type} {enc : α->List AV} {e:Env} {h:aT} {X:Ctx} {d:Option Nat} {t u el:Nat} {x y:Operand} {ti:TI} {r:jn α} (hT:X.C.T t=some ti) (hk:ti.kind=.slice el) (hx:iP e x=r.av enc) (hy:iP e y=.sl [] .nil):jq (.binOp .eql t x y u) X e h d=some (.bool r.isNil,h):=by
 simp only [jq,y8,binOp,hx,hy,jn.av,AV.int?,AV.str?,yv,hT,xh,hk,tF,jn.isNil]
 cases r.c<;>rfl
def Sep.Xp {H:aT} {L:List jH} {i:Nat} {t:Bool} {v:AV} {n:Nat} {xs:List (List AV)} (h:Sep H L) (hi:L[i]?=some (.sl true t v n xs)):(v=.sl [] .nil/\xs=[])\/(v=.sl [] (.exact 0)/\xs=[])\/∃ b g,v=.hs b g 0 xs.length:=by
 obtain ⟨hxl,h1 | ⟨h1 | h1,h2⟩ | ⟨b,g,j,h1,h2,h3,h4⟩⟩:=h.at hi<;>grind
end Go.Sx
