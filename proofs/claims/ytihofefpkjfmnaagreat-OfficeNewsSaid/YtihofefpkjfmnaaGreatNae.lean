/- Proves rules for the walks and their soundness. -/
import Derived.Test.YtihofefpkjfmnaaGreatNad
set_option linter.all false
namespace Go.Sx
open Go
def Nl {G:Ga} (hW:WR G) (o:Obj) (s:Bool) :
  let G':Ga:=⟨G.w.alloc o,λs' B=>G.T s' B\/(s'=s/\B=G.w.heap.size),G.h,G.pi,G.L⟩
  Step G G'/\WR G':=by
 intro G'
 obtain ⟨S,W⟩:=CK hW o
 have hold:∀ B,B<G.w.heap.size->(G.w.alloc o).heap[B]?=G.w.heap[B]?:=λB hB=>(mZ.alloc G.w o).tH (G:=G) hB
 have E:Ext G G':=⟨λ_ _ h=>.inl h,S.ext.mj,S.ext.size,S.ext.lM,S.ext.map,S.ext.cT⟩
 refine ⟨⟨E,S.os,S.output,S.tape,S.m4,S.frame,S.oR,S.pR,?_,S.lo,S.out,S.sm,S.tE,S.tQ⟩,?_⟩
 ·grind
 ·obtain ⟨k1,k2,k3⟩:=hW.mj E hold
  refine ⟨k1,k2,k3,W.mQ,W.oI,?_,W.qt,?_,W.qU,W.nL,?_,W.lo,W.lt⟩
  ·rintro s' b l h (ht | ⟨_,ht⟩)
   ·exact hW.sf s' b l h ht
   ·have:=(hW.mQ b l h).1
    omega
  ·rintro s' d B h (ht | ⟨_,ht⟩)
   ·exact hW.LT s' d B h ht
   ·have:=(hW.nL d B h).1
    omega
  ·rintro s' B (h | ⟨_,rfl⟩)
   ·exact W.pb s' B h
   ·show G.w.heap.size<(G.w.alloc o).heap.size
    simp
theorem y9 {P : Program} {f : Nat} (hex : ∃ fn, P.funcs[f]? = some fn ∧ fn.body.isNone = false ∧ (fn.name == "runtime.NumGoroutine") = false)
  (h1:∀ b es clock (w:World),w.heap[b]?=some (.map es clock)->Calls P f #[.map (some b)] w λe w'=>e=.returned (.map (some w.heap.size))/\w'=w.alloc (.map es clock))
  (h0:∀ w:World,Calls P f #[.map none] w λe w'=>e=.returned (.map none)/\w'=w):tD P f tz where
 call:=by
  intro shd args h v h' hc G args' hG hlo hL hW hl hr
  refine ⟨hex,?_⟩
  intro R hR
  subst hG
  have one:∀ x:AV,args=[x]->∃ y,args' = #[y]/\VC G x y:=by
   rintro x rfl
   cases args' with | mk l =>
   cases l with
   | nil=>simp at hl
   | cons y l =>
     cases l with
     | nil=>exact ⟨y,rfl,hr 0 x y rfl rfl⟩
     | cons _ _=>simp at hl
  unfold tz at hc
  split at hc
  ·obtain ⟨y,rfl,hy⟩:=one _ rfl
   cases hc
   have hv:=hy.vr
   cases hv with
   | lA _ hp =>
     cases hp
     refine (h0 G.w).mono ?_
     rintro e w' ⟨rfl,rfl⟩
     exact hR _ G (.refl G) hW (λm=>rfl) (λm L=>VR.me (.lA rfl (.mC _)) rfl)
  ·rename_i es s
   obtain ⟨y,rfl,hy⟩:=one _ rfl
   cases hc
   have hv:=hy.vr
   cases hv with
   | lA _ hp =>
     cases hp with
     | fm _ _ _ r ents clk _ hB hI hll hyo hko hk hvv =>
       refine (h1 r ents clk G.w hB).mono ?_
       rintro e w' ⟨rfl,rfl⟩
       obtain ⟨S1,W1⟩:=Nl hW (.map ents clk) s
       refine hR _ _ S1 W1 (λm=>rfl) (λm L=>VR.me (.lA rfl ?_) rfl)
       refine .fm _ es s G.w.heap.size ents clk (λ_=>rfl) ((mZ.alloc G.w _).new (G:=G)) (.inr ⟨rfl,rfl⟩) hll hyo hko ?_ ?_
       ·exact λi p e hp he=>(hk i p e hp he).mono S1.ext.T S1.ext.mj
       ·exact λi p e hp he=>(hvv i p e hp he).mono S1.ext.T S1.ext.mj
  ·rename_i b
   obtain ⟨y,rfl,hy⟩:=one _ rfl
   split at hc
   ·split at hc
    ·rename_i es c hget
     cases hc
     obtain ⟨l,ents,hpi,rfl,hB,hent,hyo⟩:=tq hW hy.vr hget
     refine (h1 l.B ents c G.w hB).mono ?_
     rintro e w' ⟨rfl,rfl⟩
     obtain ⟨S1,W1⟩:=EN (ob:=.map es c) (cap:=0) hW (mZ.alloc G.w (.map ents c)) (by simp) (by
      intro es2 c2 e G' E hnew
      cases e
      have hent2:=hent.mono E
      exact ⟨ents,hnew,by simpa using hent2.1,hyo,λi p e hp he=>hent2.2 i p e hp (by grind)⟩)
     refine hR _ _ S1 W1 (λm=>rfl) (λm L=>VR.me (.hm _ _ ?_ ?_) rfl)<;>grind [VR.me,bV.size_push,nj]
    grind
   grind
  grind
 G3:=by
  intro args h v h' hc
  unfold tz at hc
  split at hc
  ·cases hc; exact ⟨rfl,λ_ _=>rfl⟩
  ·cases hc; exact ⟨rfl,λ_ _=>rfl⟩
  ·cases hc
  grind
end Go.Sx
namespace Go.Sx
open Go
def adJ (P:Program) (t n:Nat):Bool:=match P.info? t with
 | some i=>Nat.beq i.size n
 | none=>false
def GV (P:Program) (t:Nat) (k:TK):Bool:=match P.underlying t,k with
 | some .bool,.bool=>true
 | some (.int a),.int b=>qN a b
 | some .string,.str=>true
 | _,_=>false
def Jr (P:Program) (t:Nat):Option Nat:=match P.underlying t with
 | some (.struct _)=>(P.info? t).map (·.size)
 | _=>none
def uq (P:Program) (rec:Nat->List TK->Bool):List Field->Nat->List TK->Bool
 | [],_,ks=>ks.isEmpty
 | f :: fs, off, ks => (f.name != "_") && Nat.beq f.offset off && match Jr P f.type with
   | some n=>Nat.ble n ks.length&&rec f.type (ks.take n)&&uq P rec fs (off+n) (ks.drop n)
   | none=>match ks with
     | k::ks=>GV P f.type k&&uq P rec fs (off+1) ks
     | []=>false
def uk (P:Program):Nat->Nat->List TK->Bool
 | 0,_,_=>false
 | d+1,t,ks=>match P.underlying t with
   | some (.struct F)=>!P.stoodInHeld t&&uq P (uk P d) F.toList 0 ks
   | _=>false
section
variable {P:Program}
def AZ:∀ {a b:List AV} (c d:List AV),a.length=b.length->nR (a++c) (b++d)=match nR a b,nR c d with
  | some x,some y=>some (x&&y)
  | _,_=>none
 | [],[],c,d,_=>by
   simp only [List.nil_append,nR]
   cases nR c d<;>simp
 | [],_::_,_,_,h=>by simp at h
 | _::_,[],_,_,h=>by simp at h
 | x::a,y::b,c,d,h=>by
   have ih:=AZ c d (a:=a) (b:=b) (by simpa using h)
   simp only [List.cons_append,nR]
   cases hs:oa x y with
   | none=>rfl
   | some v =>
     cases v with
     | true=>simp only [ih]
     | false =>
       simp only [ih]
       cases nR a b<;>cases nR c d<;>simp
theorem Bs:∀ {l m:List AV} {b:Bool},nR l m=some b->l.length=m.length
 | [],[],_,_=>rfl
 | [],_::_,_,h=>by cases h
 | _::_,[],_,h=>by cases h
 | x::l,y::m,b,h=>by
   simp only [nR] at h
   split at h
   ·simp [Bs h]
   ·split at h
    ·rename_i q; simp [Bs q]
    ·cases h
   ·cases h
theorem yi:∀ {ks:List TK} {l:List AV},fitAll ks l=true->l.length=ks.length
 | [],[],_=>rfl
 | [],_::_,h=>by cases h
 | _::_,[],h=>by cases h
 | _::ks,_::l,h=>by
   simp only [fitAll,Bool.and_eq_true] at h
   simp [yi h.2]
def zp:∀ (n:Nat) {ks:List TK} {l:List AV},fitAll ks l=true->fitAll (ks.take n) (l.take n)=true/\fitAll (ks.drop n) (l.drop n)=true
 | 0,ks,l,h=>⟨by rfl,by grind⟩
 | n+1,[],[],_=>⟨rfl,rfl⟩
 | _+1,[],_::_,h=>by cases h
 | _+1,_::_,[],h=>by cases h
 | n+1,k::ks,a::l,h=>by
   simp only [fitAll,Bool.and_eq_true] at h
   obtain ⟨h1,h2⟩:=zp n h.2
   exact ⟨by simp [fitAll,h.1,h1],by simpa using h2⟩
def Rel (w:World) (T:Bool->Nat->Prop) (l:List AV) (xs:Array Value):Prop:=l.length=xs.size/\∀ (i:Nat) (x:AV) (y:Value),l[i]?=some x->xs[i]?=some y->PR w T true x y
theorem Rel.part {w:World} {T:Bool->Nat->Prop} {l:List AV} {xs:Array Value} (h:Rel w T l xs) (o n:Nat) (hle:o+n<=l.length):Rel w T ((l.drop o).take n) (xs.extract o (o+n)):=by
 refine ⟨by simp [<- h.1]; omega,?_⟩
 intro i x y hx hy
 rw [List.getElem?_take] at hx
 split at hx
 ·rw [List.getElem?_drop] at hx
  rw [Array.getElem?_extract] at hy
  split at hy
  ·exact h.2 (o+i) x y hx hy
  grind
 grind
theorem wZ {t:Nat} {k:TK} (hk:GV P t k=true) {xs:Array Value} {o:Nat} {y:Value} (hy:xs[o]?=some y) (w:World):(Go.part t xs o).run P w=.ok y w:=by
 unfold GV at hk
 have:∃ d,P.underlying t=some d/\Je d=false:=by
  split at hk<;>first | exact ⟨_,by assumption,rfl⟩ | cases hk
 obtain ⟨d,hd,hag⟩:=this
 have hA:(Go.isAgg t).run P w=.ok false w:=by
  unfold Go.isAgg
  rw [Sem.run_bind,run_underlying hd w,<- hag]
  cases d<;>rfl
 simp_all [Go.part,Sem.run_bind]
theorem yY {t n:Nat} (hk:Jr P t=some n) (xs:Array Value) (o:Nat) (w:World):(Go.part t xs o).run P w=.ok (.agg (xs.extract o (o+n))) w:=by
 unfold Jr at hk
 split at hk
 ·rename_i F hF
  cases hi:P.info? t with
  | none=>grind
  | some i =>
    simp_all [Go.isAgg,Sem.run_bind,run_underlying,Go.part,Go.sizeOf,typeInfo]
 grind
theorem Dl {t:Nat} {k:TK} (hk:GV P t k=true) {a c:AV} {x y:Value} {b:Bool} {w:World} {T:Bool->Nat->Prop} (hf:tw k a=true) (hx:PR w T true a x) (hy:PR w T true c y) (h:oa a c=some b) (d:Nat) :
  (Op.equalIn (d+1) t x y).run P w=.ok b w:=by
 unfold GV at hk
 split at hk
 ·rename_i hd
  cases a<;>simp only [tw,Bool.false_eq_true] at hf
  cases c<;>simp only [oa,yZ,AV.bool?,reduceCtorEq] at h
  cases hx; cases hy<;>grind [run_equalIn_bool]
 ·rename_i k1 k2 hd
  cases a<;>simp only [tw,Bool.false_eq_true] at hf
  cases c<;>simp only [oa,wg,AV.int?,reduceCtorEq] at h
  split at h
  ·rename_i hkk
   rw [s5] at hkk
   cases hx; cases hy<;>grind [run_equalIn_int,su]
  ·cases h
 ·rename_i hd
  cases a<;>simp only [tw,Bool.false_eq_true] at hf
  cases c<;>simp only [oa,Ar,AV.str?,reduceCtorEq] at h
  cases hx with
  | str _ _ p hp =>
    cases hy with
    | str _ _ q hq =>
      have:(Op.equalIn (d+1) t (.string p) (.string q)).run P w=.ok (p==q) w:=by simp [Op.equalIn,run_underlying hd]
      grind [EF]
 grind
def sj {rec:Nat->List TK->Bool} {d:Nat}
  (hrec:∀ t ks,rec t ks=true->∀ (l m:List AV) (xs ys:Array Value) (b:Bool) (w:World) (T:Bool->Nat->Prop),fitAll ks l=true->Rel w T l xs->Rel w T m ys->nR l m=some b->(Op.equalIn d t (.agg xs) (.agg ys)).run P w=.ok b w)
  (hd:0<d) {l m:List AV} {xs ys:Array Value} {w:World} {T:Bool->Nat->Prop} (hx:Rel w T l xs) (hy:Rel w T m ys) :
  ∀ (fs:List Field) (off:Nat) (ks:List TK) (b:Bool),uq P rec fs off ks=true->fitAll ks (l.drop off)=true->nR (l.drop off) (m.drop off)=some b->off<=l.length->l.length=m.length ->
    (Op.eqFields d xs ys fs).run P w=.ok b w
 | [],off,ks,b,hfl,hfit,he,_,_=>by
   simp only [uq,List.isEmpty_iff] at hfl
   subst hfl
   have h0:=yi hfit
   have h1:l.drop off=[]:=List.eq_nil_of_length_eq_zero h0
   have h2:m.drop off=[]:=List.eq_nil_of_length_eq_zero (by grind)
   rw [h1,h2] at he
   cases he
   rfl
 | f::fs,off,ks,b,hfl,hfit,he,hol,hlm=>by
   simp only [uq,Bool.and_eq_true,bne_iff_ne,ne_eq] at hfl
   obtain ⟨⟨hname,hoff⟩,hrest⟩:=hfl
   have hoff:=Nat.eq_of_beq_eq_true hoff
   unfold Op.eqFields
   rw [if_pos hname,hoff]
   split at hrest
   ·rename_i n hn
    simp only [Bool.and_eq_true,Nat.ble_eq] at hrest
    obtain ⟨⟨hnk,hr⟩,hfs⟩:=hrest
    have hlen:=yi hfit
    rw [List.length_drop] at hlen
    obtain ⟨fit1,fit2⟩:=zp n hfit
    rw [List.drop_drop] at fit2
    have hsplit:nR (l.drop off) (m.drop off)=match nR ((l.drop off).take n) ((m.drop off).take n),nR (l.drop (off+n)) (m.drop (off+n)) with
      | some x,some y=>some (x&&y)
      | _,_=>none:=by
     have:=AZ (a:=(l.drop off).take n) (b:=(m.drop off).take n) (l.drop (off+n)) (m.drop (off+n)) (by simp [hlm])
     rw [<- List.drop_drop (i:=n) (j:=off),<- List.drop_drop (i:=n) (j:=off),List.take_append_drop,List.take_append_drop] at this
     simp_all
    rw [hsplit] at he
    split at he
    ·rename_i b1 b2 h1 h2
     cases he
     have e1:=hrec _ _ hr _ _ _ _ b1 w T fit1 (hx.part off n (by omega)) (hy.part off n (by omega)) h1
     have e2:=sj hrec hd hx hy fs (off+n) _ b2 hfs fit2 h2 (by omega) hlm
     simp only [Sem.run_bind,yY hn,Result.andThen_ok,e1,Sem.run_ite]
     cases b1<;>simp_all
    grind
   ·rename_i hn
    split at hrest
    ·rename_i k ks
     simp only [Bool.and_eq_true] at hrest
     obtain ⟨hk,hfs⟩:=hrest
     cases hld:l.drop off with
     | nil=>rw [hld] at hfit; cases hfit
     | cons a l' =>
       cases hmd:m.drop off with
       | nil=>rw [hld,hmd] at he; cases he
       | cons c m' =>
         have hl':l'=l.drop (off+1):=by rw [<- List.drop_drop,hld]; rfl
         have hm':m'=m.drop (off+1):=by rw [<- List.drop_drop,hmd]; rfl
         rw [hld] at hfit
         simp only [fitAll,Bool.and_eq_true] at hfit
         have hla:l[off]?=some a:=by
          have:(l.drop off)[0]?=some a:=by grind
          grind
         have hmc:m[off]?=some c:=by
          have:(m.drop off)[0]?=some c:=by grind
          grind
         have hlt:=(List.getElem?_eq_some_iff.1 hla).1
         have hmt:=(List.getElem?_eq_some_iff.1 hmc).1
         have hlx:off<xs.size:=by rw [<- hx.1]; exact hlt
         have hly:off<ys.size:=by rw [<- hy.1]; exact hmt
         have hxo:xs[off]?=some xs[off]:=by simp
         have hyo:ys[off]?=some ys[off]:=by simp
         rw [hld,hmd] at he
         simp only [nR] at he
         have next:∀ b2,nR l' m'=some b2->(Op.eqFields d xs ys fs).run P w=.ok b2 w:=by
          intro b2 h2
          rw [hl',hm'] at h2
          exact sj hrec hd hx hy fs (off+1) ks b2 hfs (by rw [<- hl']; exact hfit.2) h2 (by omega) hlm
         obtain ⟨d',rfl⟩:∃ d',d=d'+1:=⟨d - 1,by omega⟩
         simp only [Sem.run_bind,wZ hk hxo,wZ hk hyo,Result.andThen_ok]
         split at he
         ·rename_i hs
          rw [Dl hk hfit.1 (hx.2 off a _ hla hxo) (hy.2 off c _ hmc hyo) hs d']
          grind [Result.andThen_ok]
         ·rename_i hs
          rw [Dl hk hfit.1 (hx.2 off a _ hla hxo) (hy.2 off c _ hmc hyo) hs d']
          split at he<;>simp_all
         grind
    grind
def AY:∀ (d t:Nat) (ks:List TK),uk P d t ks=true->∀ (D:Nat) (l m:List AV) (xs ys:Array Value) (b:Bool) (w:World) (T:Bool->Nat->Prop),fitAll ks l=true->Rel w T l xs->Rel w T m ys->nR l m=some b ->
  (Op.equalIn (D+1+d) t (.agg xs) (.agg ys)).run P w=.ok b w
 | 0,_,_,h=>by cases h
 | d+1,t,ks,h=>by
   intro D l m xs ys b w T hfit hx hy he
   simp only [uk] at h
   split at h
   ·rename_i F hF
    simp only [Bool.and_eq_true,Bool.not_eq_true'] at h
    have hfo:P.fieldsOf t=F:=by simp [Program.fieldsOf,hF]
    rw [show D+1+(d+1)=(D+1+d)+1 by omega,run_equalIn_struct w (D+1+d) t xs ys (by rw [hfo]; exact hF) h.1,hfo]
    exact sj (λt' ks' h'=>AY d t' ks' h' D) (by omega) hx hy F.toList 0 ks b h.2 (by simpa using hfit) (by simpa using he) (Nat.zero_le _) (Bs he)
   ·cases h
def xX:∀ (d t:Nat) (ks:List TK),uk P d t ks=true->∀ (D:Nat) (em:Bool) (xs:Array Value) (w:World),xs.size=ks.length->(Instr.checkKey em (D+1+d) t (.agg xs)).run P w=.ok () w
 | 0,_,_,h=>by cases h
 | d+1,t,ks,h=>by
   intro D em xs w hsz
   simp only [uk] at h
   split at h
   ·rename_i F hF
    simp only [Bool.and_eq_true] at h
    have hfl:=h.2
    rw [show D+1+(d+1)=(D+1+d)+1 by omega]
    unfold Instr.checkKey
    simp only [Sem.run_bind,run_underlying hF,Result.andThen_ok]
    rw [<- Array.forIn_toList]
    have go:∀ (fs:List Field) (off:Nat) (ks':List TK),uq P (uk P d) fs off ks'=true->off+ks'.length=xs.size ->
      (forIn (m := Sem) fs PUnit.unit (fun f _ => if f.name ≠ "_" then do
        Instr.checkKey em (D+1+d) f.type (<- Go.part f.type xs f.offset)
        pure (ForInStep.yield PUnit.unit) else pure (ForInStep.yield PUnit.unit))).run P w=.ok PUnit.unit w:=by
     intro fs
     induction fs with
     | nil=>simp
     | cons f fs ih =>
       intro off ks' hf ho
       simp only [uq,Bool.and_eq_true,bne_iff_ne,ne_eq] at hf
       obtain ⟨⟨hname,hoff⟩,hrest⟩:=hf
       have hoff:=Nat.eq_of_beq_eq_true hoff
       rw [List.forIn_cons]
       split at hrest
       ·rename_i n hn
        simp only [Bool.and_eq_true,Nat.ble_eq] at hrest
        obtain ⟨⟨hnk,hr⟩,hfs⟩:=hrest
        have e1:=xX d f.type _ hr D em (xs.extract f.offset (f.offset+n)) w (by grind)
        grind [Sem.run_bind,yY,Result.andThen_ok,Sem.run_pure]
       ·split at hrest
        ·rename_i k ks2
         simp only [Bool.and_eq_true] at hrest
         have hlt:f.offset<xs.size:=by grind
         have hxo:xs[f.offset]?=some xs[f.offset]:=by simp
         have e0:(Instr.checkKey em (D+1+d) f.type xs[f.offset]).run P w=.ok () w:=by
          have hk:=hrest.1
          unfold GV at hk
          grind [yt]
         have e2:=ih (off+1) _ hrest.2 (by grind)
         simp only [Sem.run_bind,if_pos hname,wZ hrest.1 hxo,Result.andThen_ok,e0,Sem.run_pure]
         exact e2
        grind
    rw [go F.toList 0 ks hfl (by omega)]
    rfl
   ·cases h
def PV (P:Program) (d:TypeDesc) (k:TK):Bool:=match d,k with
 | .bool,.bool=>true
 | .int a,.int b=>qN a b
 | .string,.str=>true
 | .pointer _,.ptr=>true
 | .slice a,.slice b=>Nat.beq a b
 | .array n a,.array m b=>Nat.beq n m&&Nat.beq a b
 | .map a b,.map c e=>Nat.beq a c&&Nat.beq b e
 | .struct F,.struct fs=>(fs==F.toList.map λf=>(f.offset,f.type))&&F.toList.all λf=>match P.info? f.type with
   | some i=>!(Nat.beq i.size 0)
   | none=>false
 | .func ..,.func=>true
 | _,.other=>true
 | _,_=>false
def P2 (ti:TI) (z:Value):Bool:=rj (qI 2) ti.zero (z.cells.toList.map EL)&&Nat.beq z.cells.size ti.size&&z.cells.toList.all (·.oneCell')&&match ti.agg,z with
 | true,.agg _=>true
 | true,_=>false
 | false,z=>z.oneCell'
def KP (P:Program) (t:Nat) (ti:TI):Bool :=
 (match P.info? t with
 | some i=>Nat.beq i.size ti.size&&Nat.beq i.bytes ti.bytes&&match i.zero with
   | some z=>P2 ti z
   | none=>false
 | none=>false) &&
 (match P.underlying t with
 | some d=>Fa (Je d) ti.agg&&PV P d ti.kind
 | none=>false) &&
 Nat.ble ti.bytes 1048576 &&
 (!ti.flat||!(P.eqGuardType P.depth t)) &&
 (!(ti.flat&&ti.agg)||(uk P 3 t ti.sc&&Nat.beq ti.sc.length ti.size))
def Tu {t:Nat} {ti:TI} (h:KP P t ti=true):pj P t ti:=by
 simp only [KP,Bool.and_eq_true] at h
 obtain ⟨⟨⟨⟨h1,h2⟩,h3⟩,h4⟩,h5⟩:=h
 have hflat:ti.flat=true->ti.agg=true->uk P 3 t ti.sc=true/\ti.sc.length=ti.size:=by
  intro hf ha
  simp_all
 refine ⟨?_,?_,Nat.le_of_ble_eq_true h3,?_,?_,?_⟩
 ·split at h1
  ·rename_i i hi
   simp only [Bool.and_eq_true] at h1
   obtain ⟨⟨a1,a2⟩,a3⟩:=h1
   split at a3
   ·rename_i z hz
    simp only [P2,Bool.and_eq_true,List.all_eq_true] at a3
    obtain ⟨⟨⟨z1,z2⟩,z3⟩,z4⟩:=a3
    refine ⟨i,z,hi,Nat.eq_of_beq_eq_true a1,Nat.eq_of_beq_eq_true a2,hz,pz (sb 2) _ _ z1,Nat.eq_of_beq_eq_true z2,z3,?_,?_⟩<;>grind
   grind
  grind
 ·split at h2
  ·rename_i d hd
   simp only [Bool.and_eq_true,Gg,beq_iff_eq] at h2
   refine ⟨d,hd,h2.1,?_⟩
   have hk:=h2.2
   generalize ti.kind=kk at hk ⊢
   unfold PV at hk
   split at hk<;>try (cases hk; done)
   ·exact rfl
   ·rw [s5] at hk; subst hk; exact rfl
   ·exact rfl
   ·exact ⟨_,rfl⟩
   ·have:=Nat.eq_of_beq_eq_true hk; subst this; exact rfl
   ·simp only [Bool.and_eq_true] at hk
    have e1:=Nat.eq_of_beq_eq_true hk.1
    have e2:=Nat.eq_of_beq_eq_true hk.2
    subst e1; subst e2; exact rfl
   ·simp only [Bool.and_eq_true] at hk
    have e1:=Nat.eq_of_beq_eq_true hk.1
    have e2:=Nat.eq_of_beq_eq_true hk.2
    subst e1; subst e2; exact rfl
   ·simp only [Bool.and_eq_true,beq_iff_eq,List.all_eq_true] at hk
    refine ⟨_,rfl,hk.1,?_⟩
    intro f hf
    have:=hk.2 f hf
    split at this
    ·rename_i i hi
     refine ⟨i,hi,?_⟩
     intro h0
     simp_all
    grind
   ·exact ⟨_,_,_,rfl⟩
   ·trivial
  grind
 ·grind
 ·intro hf ha l m xs ys b w T hfit hl hm hx hy he
  obtain ⟨f1,f2⟩:=hflat hf ha
  have rel:∀ {l:List AV} {xs:Array Value},PR w T true (.agg l) (.agg xs)->Rel w T l xs:=by
   intro l xs h
   cases h with
   | agg _ _ _ hl h1 hr=>exact ⟨hl,hr⟩
  exact AY 3 t ti.sc f1 9996 l m xs ys b w T hfit (rel hx) (rel hy) he
 ·intro hf ha e xs w hsz
  obtain ⟨f1,f2⟩:=hflat hf ha
  exact xX 3 t ti.sc f1 9996 e xs w (by omega)
def Tr.CY {α:Type} (p:Nat->α->Bool):Tr α->(Nat->Nat)->Bool
 | .leaf,_=>true
 | .node l v r,f=>(match v with
   | some x=>p (f 0) x
   | none=>true)&&Tr.CY p l (λn=>f (2*n+1))&&Tr.CY p r (λn=>f (2*n+2))
def Tr.Bc {α:Type} (p:Nat->α->Bool):∀ (t:Tr α) (f:Nat->Nat),Tr.CY p t f=true->∀ (n:Nat) (x : α),t.get n=some x->p (f n) x=true
 | .leaf,_,_,n,x,h=>by simp [Tr.get] at h
 | .node l v r,f,ha,n,x,h=>by
   simp only [Tr.CY,Bool.and_eq_true] at ha
   obtain ⟨⟨h1,h2⟩,h3⟩:=ha
   cases n with
   | zero =>
     simp only [Tr.get] at h
     rw [h] at h1
     exact h1
   | succ m =>
     simp only [Tr.get] at h
     split at h
     ·rename_i hm
      have hm:=Nat.eq_of_beq_eq_true hm
      have:=Tr.Bc p l _ h2 (m / 2) x h
      rw [show 2*(m / 2)+1=m+1 by omega] at this
      exact this
     ·rename_i hm
      have hm:m % 2≠0:=Nat.ne_of_beq_eq_false hm
      have:=Tr.Bc p r _ h3 (m / 2) x h
      rw [show 2*(m / 2)+2=m+1 by omega] at this
      exact this
def Tr.Gi {α:Type} (q:Nat->α->Prop):Tr α->(Nat->Nat)->Prop
 | .leaf,_=>True
 | .node l v r,f=>(match v with
   | some x=>q (f 0) x
   | none=>True)/\Tr.Gi q l (λn=>f (2*n+1))/\Tr.Gi q r (λn=>f (2*n+2))
def Tr.Bq {α:Type} (q:Nat->α->Prop):∀ (t:Tr α) (f:Nat->Nat),Tr.Gi q t f->∀ (n:Nat) (x : α),t.get n=some x->q (f n) x
 | .leaf,_,_,n,x,h=>by simp [Tr.get] at h
 | .node l v r,f,ha,n,x,h=>by
   simp only [Tr.Gi] at ha
   obtain ⟨h1,h2,h3⟩:=ha
   cases n with
   | zero =>
     simp only [Tr.get] at h
     rw [h] at h1
     exact h1
   | succ m =>
     simp only [Tr.get] at h
     split at h
     ·rename_i hm
      have hm:=Nat.eq_of_beq_eq_true hm
      have:=Tr.Bq q l _ h2 (m / 2) x h
      rw [show 2*(m / 2)+1=m+1 by omega] at this
      exact this
     ·rename_i hm
      have hm:m % 2≠0:=Nat.ne_of_beq_eq_false hm
      have:=Tr.Bq q r _ h3 (m / 2) x h
      rw [show 2*(m / 2)+2=m+1 by omega] at this
      exact this
def T3 {t:Tr TI} (h:Tr.CY (KP P) t id=true):mn P ⟨t.get⟩ :=
 ⟨λn ti hn=>Tu (Tr.Bc (KP P) t id h n ti hn)⟩
end
end Go.Sx
namespace Go.Sx
open Go
section
variable (C:lS) (F:m0) (Pr:mM)
def kC (shd:Bool) (f:Nat) (args:List AV) (h:bV) (v:AV) (h':bV):Prop:=∃ m,∀ k,m<=k->nH C F Pr k shd f args h=some (v,h')
abbrev XN (fa:kp) (k:Nat):Ctx:=⟨C,fa,nH C F Pr k⟩
def Wp (fa:kp) (c:Code) (an:od) (Q:Ex->Env->bV->Prop) (e:Env) (h:bV):Prop :=
 ∃ x e' h',(∃ m,∀ k,m<=k->mK (XN C F Pr fa k) (pP k) c an e h=some (x,e',h'))/\Q x e' h'
def mG (fa:kp) (all ops:List Oper) (Q:Env->bV->Prop) (e:Env) (h:bV):Prop :=
 ∃ e' h',(∃ m,∀ k,m<=k->zK (XN C F Pr fa k) all ops e h=some (e',h'))/\Q e' h'
def mI (fa:kp) (all:List Oper) (sch:List (Nat×List Nat)) (Q:Env->bV->Prop) (e:Env) (h:bV):Prop :=
 ∃ e' h',(∃ m,∀ k,m<=k->uI (XN C F Pr fa k) all sch e h=some (e',h'))/\Q e' h'
end
section
variable {C:lS} {F:m0} {Pr:mM} {fa:kp} {Q:Ex->Env->bV->Prop} {e:Env} {h:bV}
def Wp.mono {c:Code} {an:od} {Q':Ex->Env->bV->Prop} (w:Wp C F Pr fa c an Q e h) (hq:∀ x e h,Q x e h->Q' x e h):Wp C F Pr fa c an Q' e h :=
 let ⟨x,e',h',m,q⟩:=w; ⟨x,e',h',m,hq _ _ _ q⟩
def ME {an:od} (q:Q .nf e h):Wp C F Pr fa .skip an Q e h:=⟨_,_,_,⟨0,λ_ _=>rfl⟩,q⟩
def KW {l:Nat} {an:od} (q:Q .nf e h):Wp C F Pr fa (.label l) an Q e h:=⟨_,_,_,⟨0,λ_ _=>rfl⟩,q⟩
def M6 {id:Nat} {an:od} (q:Q (.ext id) e h):Wp C F Pr fa (.exit id) an Q e h:=⟨_,_,_,⟨0,λ_ _=>rfl⟩,q⟩
def Rp {an:od} (q:Q .ret e h):Wp C F Pr fa .ret an Q e h:=⟨_,_,_,⟨0,λ_ _=>rfl⟩,q⟩
def ur {c:Code} {an:od} (w:Wp C F Pr fa c an Q e h):Wp C F Pr fa (.scope c) an Q e h:=w
def wm (next:Env->bV->Prop) (Q:Ex->Env->bV->Prop):Ex->Env->bV->Prop
 | .nf,e,h=>next e h
 | x,e,h=>Q x e h
def Ua {a b:Code} {x y:od} (w:Wp C F Pr fa a x (wm (Wp C F Pr fa b y Q) Q) e h):Wp C F Pr fa (.seq a b) (.sq x y) Q e h:=by
 obtain ⟨x1,e1,h1,⟨m1,hm1⟩,q1⟩:=w
 cases x1 with
 | nf =>
   obtain ⟨x2,e2,h2,⟨m2,hm2⟩,q2⟩:=q1
   refine ⟨x2,e2,h2,⟨max m1 m2,λk hk=>?_⟩,q2⟩
   simp only [mK,zH,hm1 k (by omega),andThen]
   grind
 | ext id=>exact ⟨_,e1,h1,⟨m1,λk hk=>by simp_all [mK,zH,andThen]⟩,q1⟩
 | ret=>exact ⟨_,e1,h1,⟨m1,λk hk=>by simp_all [mK,zH,andThen]⟩,q1⟩
def G8 {a b:Code} {live:List Nat} {x y:od} (w:Wp C F Pr fa a x (wm (λe h=>Wp C F Pr fa b y Q (proj live e) { h with cT:=nr live h.cT }) Q) e h):Wp C F Pr fa (.seq a b) (.seq live x y) Q e h:=by
 obtain ⟨x1,e1,h1,⟨m1,hm1⟩,q1⟩:=w
 cases x1 with
 | nf =>
   obtain ⟨x2,e2,h2,⟨m2,hm2⟩,q2⟩:=q1
   refine ⟨x2,e2,h2,⟨max m1 m2,λk hk=>?_⟩,q2⟩
   simp only [mK,zH,hm1 k (by omega),andThen,sP]
   grind
 | ext id=>exact ⟨_,e1,h1,⟨m1,λk hk=>by simp_all [mK,zH,andThen]⟩,q1⟩
 | ret=>exact ⟨_,e1,h1,⟨m1,λk hk=>by simp_all [mK,zH,andThen]⟩,q1⟩
def EC {c:Operand} {a b:Code} {x y:od} {t:Bool} (hc:kz e c=.bool t) (w1:t=true->Wp C F Pr fa a x Q e h) (w2:t=false->Wp C F Pr fa b y Q e h):Wp C F Pr fa (.cond c a b) (.two x y) Q e h:=by
 cases t with
 | true =>
   obtain ⟨x1,e1,h1,⟨m1,hm1⟩,q1⟩:=w1 rfl
   exact ⟨x1,e1,h1,⟨m1,λk hk=>by simp_all [mK,DZ,DY,AV.bool?]⟩,q1⟩
 | false =>
   obtain ⟨x1,e1,h1,⟨m1,hm1⟩,q1⟩:=w2 rfl
   exact ⟨x1,e1,h1,⟨m1,λk hk=>by simp_all [mK,DZ,DY,AV.bool?]⟩,q1⟩
def Ks (id:Nat) (Q:Ex->Env->bV->Prop):Ex->Env->bV->Prop
 | .ext i,e,h=>if i=id then Q .nf e h else Q (.ext i) e h
 | x,e,h=>Q x e h
def La {id:Nat} {a:Code} {an:od} (w:Wp C F Pr fa a an (Ks id Q) e h):Wp C F Pr fa (.block id a) an Q e h:=by
 obtain ⟨x1,e1,h1,⟨m1,hm1⟩,q1⟩:=w
 cases x1 with
 | nf=>exact ⟨_,e1,h1,⟨m1,λk hk=>by simp_all [mK,xi,atEnd]⟩,q1⟩
 | ret=>exact ⟨_,e1,h1,⟨m1,λk hk=>by simp_all [mK,xi,atEnd]⟩,q1⟩
 | ext i =>
   simp only [Ks] at q1
   split at q1
   ·rename_i hi
    subst hi
    exact ⟨_,e1,h1,⟨m1,λk hk=>by simp_all [mK,xi,atEnd]⟩,q1⟩
   ·rename_i hi
    have hb:Nat.beq i id=false:=by
     cases hq:Nat.beq i id<;>simp_all
    exact ⟨_,e1,h1,⟨m1,λk hk=>by simp_all [mK,xi,atEnd]⟩,q1⟩
def nw {c:Code} {live:List Nat} {an:od} (I:Nat->Env->bV->Prop)
  (round:∀ n e h,I n e h->Wp C F Pr fa c an (wm (λe' h'=>∃ m,m<n/\I m e' h') Q) (proj live e) { h with cT:=nr live h.cT }) :
  ∀ (n:Nat) (e:Env) (h:bV),I n e h->Wp C F Pr fa (.loop c) (.loop live an) Q e h:=by
 have key:∀ (n:Nat) (e:Env) (h:bV),I n e h->∃ x e' h',(∃ M,∀ k j,M<=k->M<=j->pP j (qE live (mK (XN C F Pr fa k) (pP k) c an)) e h=some (x,e',h'))/\Q x e' h':=by
  intro n
  induction n using Nat.strongRecOn with
  | _ n ih =>
    intro e h hI
    obtain ⟨x1,e1,h1,⟨m1,hm1⟩,q1⟩:=round n e h hI
    have other:∀ x1,(∀ e h,wm (λe' h'=>∃ m,m<n/\I m e' h') Q x1 e h=Q x1 e h)->x1≠.nf->(∀ k,m1<=k->mK (XN C F Pr fa k) (pP k) c an (proj live e) { h with cT:=nr live h.cT }=some (x1,e1,h1))->Q x1 e1 h1 ->
      ∃ x e' h',(∃ M,∀ k j,M<=k->M<=j->pP j (qE live (mK (XN C F Pr fa k) (pP k) c an)) e h=some (x,e',h'))/\Q x e' h':=by
     intro x1 _ hne hm q
     refine ⟨x1,e1,h1,⟨m1+1,λk j hk hj=>?_⟩,q⟩
     obtain ⟨j,rfl⟩:∃ j',j=j'+1:=⟨j - 1,by omega⟩
     grind [pP,sP]
    cases x1 with
    | nf =>
      obtain ⟨m,hlt,hI1⟩:=q1
      obtain ⟨x2,e2,h2,⟨M,hM⟩,q2⟩:=ih m hlt e1 h1 hI1
      refine ⟨x2,e2,h2,⟨max m1 M+1,λk j hk hj=>?_⟩,q2⟩
      obtain ⟨j,rfl⟩:∃ j',j=j'+1:=⟨j - 1,by omega⟩
      grind [pP,sP]
    | ext id=>exact other (.ext id) (λ_ _=>rfl) (by simp) hm1 q1
    | ret=>exact other .ret (λ_ _=>rfl) (by simp) hm1 q1
 intro n e h hI
 obtain ⟨x,e',h',⟨M,hM⟩,q⟩:=key n e h hI
 exact ⟨x,e',h',⟨M,λk hk=>hM k k hk hk⟩,q⟩
def IF {id:Nat} {ops:Array Oper} {an:od} (w:mG C F Pr fa ops.toList ops.toList (Q .nf) e h):Wp C F Pr fa (.region id ops false) an Q e h:=by
 obtain ⟨e1,h1,⟨m1,hm1⟩,q1⟩:=w
 exact ⟨.nf,e1,h1,⟨m1,λk hk=>by simp_all [mK,xz,Km,ya]⟩,q1⟩
def Ln {id:Nat} {ops:Array Oper} {sch:List (Nat×List Nat)} (w:mI C F Pr fa ops.toList sch (Q .nf) e h):Wp C F Pr fa (.region id ops true) (.tG sch) Q e h:=by
 obtain ⟨e1,h1,⟨m1,hm1⟩,q1⟩:=w
 exact ⟨.nf,e1,h1,⟨m1,λk hk=>by simp_all [mK,xz,zP,ya]⟩,q1⟩
variable {all rest:List Oper} {o:Oper} {q:Env->bV->Prop}
def Re (w:q e h):mG C F Pr fa all [] q e h:=⟨e,h,⟨0,λ_ _=>rfl⟩,w⟩
def z7 {v:AV} {h1:bV} (hw:kT all e o=some true) (hop:∃ m,∀ k,m<=k->lu o.op (XN C F Pr fa k) e h o.dst=some (v,h1)) (w:mG C F Pr fa all rest q (kN e o v) h1):mG C F Pr fa all (o::rest) q e h:=by
 obtain ⟨m,hm⟩:=hop
 obtain ⟨e2,h2,⟨m2,hm2⟩,q2⟩:=w
 refine ⟨e2,h2,⟨max m m2,λk hk=>?_⟩,q2⟩
 grind [zK,rU,Ae]
theorem iS {v:AV} {h1:bV} (hw:kT all e o=some true) (hop:∀ call,lu o.op ⟨C,fa,call⟩ e h o.dst=some (v,h1)) (w:mG C F Pr fa all rest q (kN e o v) h1):mG C F Pr fa all (o::rest) q e h :=
 z7 hw ⟨0,λ_ _=>hop _⟩ w
def Mk (hw:kT all e o=some false) (w:mG C F Pr fa all rest q (kN e o (.kO [])) h):mG C F Pr fa all (o::rest) q e h:=by
 obtain ⟨e2,h2,⟨m2,hm2⟩,q2⟩:=w
 refine ⟨e2,h2,⟨m2,λk hk=>?_⟩,q2⟩
 grind [zK,rU]
def Rx (w:q e h):mI C F Pr fa all [] q e h:=⟨e,h,⟨0,λ_ _=>rfl⟩,w⟩
def Ak {i:Nat} {sch:List (Nat×List Nat)} {v:AV} {h1:bV} (ho:all[i]?=some o) (hw:kT all e o=some true) (hop:∃ m,∀ k,m<=k->lu o.op (XN C F Pr fa k) e h o.dst=some (v,h1))
  (w:mI C F Pr fa all sch q (kN e o v) h1):mI C F Pr fa all ((i,[])::sch) q e h:=by
 obtain ⟨m,hm⟩:=hop
 obtain ⟨e2,h2,⟨m2,hm2⟩,q2⟩:=w
 refine ⟨e2,h2,⟨max m m2,λk hk=>?_⟩,q2⟩
 grind [uI,rU,Ae]
theorem kG {i:Nat} {sch:List (Nat×List Nat)} {v:AV} {h1:bV} (ho:all[i]?=some o) (hw:kT all e o=some true) (hop:∀ call,lu o.op ⟨C,fa,call⟩ e h o.dst=some (v,h1))
  (w:mI C F Pr fa all sch q (kN e o v) h1):mI C F Pr fa all ((i,[])::sch) q e h :=
 Ak ho hw ⟨0,λ_ _=>hop _⟩ w
def O2 {i:Nat} {sch:List (Nat×List Nat)} (ho:all[i]?=some o) (hw:kT all e o=some false) (w:mI C F Pr fa all sch q (kN e o (.kO [])) h):mI C F Pr fa all ((i,[])::sch) q e h:=by
 obtain ⟨e2,h2,⟨m2,hm2⟩,q2⟩:=w
 refine ⟨e2,h2,⟨m2,λk hk=>?_⟩,q2⟩
 grind [uI,rU]
def ED {f:Nat} {g:Operand} {c:Call} {args:List AV} {v:AV} {d:Option Nat} (hf:c.callee=.value g) (hg:kz e g=.ly f [] []) (ha:c.args.toList.map (kz e)=args) (hok:args.all AV.py=true) (hs:fa.lr.elem f=false)
  (w:kC C F Pr false f args { h with cT:=[] } v { h with cT:=[] }):∃ m,∀ k,m<=k->lu (.call c) (XN C F Pr fa k) e h d=some (v,h):=by
 obtain ⟨m,hm⟩:=w
 refine ⟨m,λk hk=>?_⟩
 simp only [lu,qC,p8,hf,hg,ha,vv,CA,List.nil_append,List.append_nil,hok,hs,hm k hk,xo]
def Fe {f:Nat} {g:Operand} {c:Call} {args p q:List AV} {v:AV} {d:Option Nat} {h':bV} (hf:c.callee=.value g) (hg:kz e g=.ly f p q) (ha:c.args.toList.map (kz e)=args) (hok:(p++args++q).all AV.py=true) (hs:fa.lr.elem f=true)
  (w:kC C F Pr true f (p++args++q) { h with cT:=[] } v h'):∃ m,∀ k,m<=k->lu (.call c) (XN C F Pr fa k) e h d=some (v,{ h' with cT:=h.cT }):=by
 obtain ⟨m,hm⟩:=w
 refine ⟨m,λk hk=>?_⟩
 simp only [lu,qC,p8,hf,hg,ha,vv,CA,hok,hs,hm k hk,xo]
def Leaves (C:lS) (res:List ResultVar) (R:AV->bV->Prop):Ex->Env->bV->Prop
 | .ext _,_,_=>False
 | _,e,h=>∃ v,leave.leave1 C res e h=some (v,h)/\R v h
def zC {f:Nat} {args:List AV} {R:AV->bV->Prop} (hP:Pr f=none) (hF:F f=some fa) (hi:fa.iter=false) (w:Wp C F Pr fa fa.body fa.oL (Leaves C fa.res R) (params 0 args) h) :
  ∃ v h',kC C F Pr true f args h v h'/\R v h':=by
 obtain ⟨x,e1,h1,⟨m,hm⟩,q⟩:=w
 have fin:∀ x:Ex,(x=.nf\/x=.ret)->(∀ k,m<=k->mK (XN C F Pr fa k) (pP k) fa.body fa.oL (params 0 args) h=some (x,e1,h1))->(∃ v,leave.leave1 C fa.res e1 h1=some (v,h1)/\R v h1)->∃ v h',kC C F Pr true f args h v h'/\R v h':=by
  rintro x hx hm ⟨v,hv,hR⟩
  refine ⟨v,h1,⟨m+1,λk hk=>?_⟩,hR⟩
  obtain ⟨k,rfl⟩:∃ k',k=k'+1:=⟨k - 1,by omega⟩
  simp only [nH,hP,hF,ub,u2,hi,BJ,hm k (by omega)]
  rcases hx with rfl | rfl<;>exact hv
 cases x with
 | nf=>exact fin .nf (.inl rfl) hm q
 | ret=>exact fin .ret (.inr rfl) hm q
 | ext id=>exact q.elim
def Lr {f:Nat} {args rk:List AV} {R:AV->Prop} (hP:Pr f=none) (hF:F f=some fa) (hi:fa.iter=false) (ha:oi h args=some rk)
  (w:Wp C F Pr fa fa.body fa.oL (Leaves C fa.res λv h'=>∃ v1,freeze false h' 8 v=some v1/\R v1) (params 0 rk) bV.empty) :
  ∃ v,kC C F Pr false f args h v h/\R v:=by
 obtain ⟨v,h1,⟨m,hm⟩,v1,hv1,hR⟩:=zC hP hF hi w
 refine ⟨v1,⟨m+1,λk hk=>?_⟩,hR⟩
 have hb:=hm k (by omega)
 obtain ⟨k,rfl⟩:∃ k',k=k'+1:=⟨k - 1,by omega⟩
 grind [nH,ub,frozen]
end
end Go.Sx
namespace Go.Sx
open Go
section
variable {C:lS} {F:m0} {Pr:mM} {fa:kp} {e:Env} {h:bV} {all rest:List Oper} {o:Oper} {q:Env->bV->Prop}
variable {t u:Nat} {x y:Operand} {k k':IntKind} {a b:Int}
def ml {c:BinOp} {X:Ctx} {d:Option Nat} {v:AV} (hx:kz e x=.int k a) (hy:kz e y=.int k' b) (hk:qN k k'=true) (hv:mw c k a b=some v):lu (.binOp c t x y u) X e h d=some (v,h):=by
 simp_all [lu,zL,binOp,AV.int?,Cf,mD]
def G9 (k:IntKind) (a b:Int):mw .lss k a b=some (.bool (decide (a<b))):=by
 simp only [mw,JK,yG,uC,u0]
 grind
def RS (k:IntKind) (a b:Int):mw .leq k a b=some (.bool (decide (a<=b))):=by
 simp only [mw,Ki,yG,uC,Bp]
def Hl (k:IntKind) (a b:Int):mw .gtr k a b=some (.bool (decide (a > b))):=by
 simp only [mw,I0,yG,uC,u0]
 grind
def G5 (k:IntKind) (a b:Int):mw .geq k a b=some (.bool (decide (a>=b))):=by
 simp_all [mw,Iy,yG,uC,Bp]
def Hg (k:IntKind) (a b:Int):mw .eql k a b=some (.bool (decide (a=b))):=by
 simp only [mw,Im,yG,su,Bp]
 rfl
def GZ (k:IntKind) (a b:Int):mw .neq k a b=some (.bool (decide (a≠b))):=by
 simp only [mw,JA,yG,su,u0]
 grind
def qf {p:Prop} [Decidable p] (hw:kT all e o=some true) (hop:∀ call,lu o.op ⟨C,fa,call⟩ e h o.dst=some (.bool (decide p),h))
  (w1:p->mG C F Pr fa all rest q (kN e o (.bool true)) h) (w2:¬ p->mG C F Pr fa all rest q (kN e o (.bool false)) h):mG C F Pr fa all (o::rest) q e h:=by
 by_cases hp:p<;>grind [iS]
def vf {X:Ctx} {d:Option Nat} {s r:List UInt8} (hx:kz e x=.str s) (hy:kz e y=.str r):lu (.binOp .eql t x y u) X e h d=some (.bool (decide (s=r)),h):=by
 simp only [lu,zL,binOp,hx,hy,AV.int?,AV.str?,Fs,Cz,mD]
 grind
theorem uv (k:IntKind) (a b:Int):mw .add k a b=some (.int k (k.wrap (a+b))):=by
 simp only [mw,Jy,tZ,pU,rO,CO]
theorem rW (k:IntKind) (a b:Int):mw .sub k a b=some (.int k (k.wrap (a - b))):=by
 simp only [mw,Io,tZ,pU,rO,CO,CG]
 rfl
def G7 (a b:Int) (h1 : -9223372036854775808<=a+b) (h2:a+b<=9223372036854775807):mw .add .i64 a b=some (.int .i64 (a+b)):=by
 rw [uv,AB _ h1 h2]
def Hr (a b:Int) (h1 : -9223372036854775808<=a - b) (h2:a - b<=9223372036854775807):mw .sub .i64 a b=some (.int .i64 (a - b)):=by
 rw [rW,AB _ h1 h2]
def Qv {X:Ctx} {d:Option Nat} {el:Nat} {ti te:TI} {xs:List (List AV)} {c:oW} {n:Int} {r:List AV} (hT:X.C.T t=some ti) (hk:ti.kind=.slice el) (hE:X.C.T el=some te) (hx:kz e x=.sl xs c) (hi:kz e y=.int k n) (h0:0<=n)
  (hr:xs[n.toNat]?=some r) (hl:r.length=te.size):lu (.indexAddr t x y) X e h d=some (.ip r 0 (rp c),h):=by
 obtain ⟨m,rfl⟩:=Int.eq_ofNat_of_zero_le h0
 simp only [Int.toNat_natCast] at hr
 have hai:qD (.int k (m:Int))=some m:=rfl
 simp_all [lu,qZ,qh,sr]
end
end Go.Sx
namespace Go.Sx
open Go
section
variable {C:lS} {F:m0} {Pr:mM} {fa:kp} {e:Env} {h:bV} {all rest:List Oper} {o:Oper} {q:Env->bV->Prop} {Q:Ex->Env->bV->Prop}
def ke {c:Code} {live:List Nat} {an:od} (N:Nat) (I:Nat->Env->bV->Prop)
  (round:∀ k e h,k<=N->I k e h->Wp C F Pr fa c an (wm (λe' h'=>k<N/\I (k+1) e' h') Q) (proj live e) { h with cT:=nr live h.cT }) {k0:Nat} (hk:k0<=N) (h0:I k0 e h):Wp C F Pr fa (.loop c) (.loop live an) Q e h:=by
 refine nw (λn e h=>∃ k,k<=N/\n=N - k/\I k e h) ?_ (N - k0) e h ⟨k0,hk,rfl,h0⟩
 rintro n e h ⟨k,hk,rfl,hI⟩
 refine (round k e h hk hI).mono ?_
 intro x e' h' hx
 cases x with
 | nf =>
   obtain ⟨hlt,hI'⟩:=hx
   exact ⟨N - (k+1),by omega,k+1,by omega,rfl,hI'⟩
 | ext id=>exact hx
 | ret=>exact hx
def N5 {f:Nat} {g:Operand} {c:Call} {args:List AV} {R:AV->Prop} (ho:o.op=.call c) (hw:kT all e o=some true) (hf:c.callee=.value g) (hg:kz e g=.ly f [] []) (ha:c.args.toList.map (kz e)=args) (hok:args.all AV.py=true) (hs:fa.lr.elem f=false)
  (w:∀ h:bV,∃ v,kC C F Pr false f args h v h/\R v) (next:∀ v,R v->mG C F Pr fa all rest q (kN e o v) h):mG C F Pr fa all (o::rest) q e h:=by
 obtain ⟨v,hc,hR⟩:=w { h with cT:=[] }
 refine z7 hw ?_ (next v hR)
 rw [ho]
 exact ED hf hg ha hok hs hc
end
def Li {C:lS} {F:m0} {Pr:mM} {fa:kp} {f:Nat} {args:List AV} {h:bV} {R:AV->Prop} (hP:Pr f=none) (hF:F f=some fa) (hi:fa.iter=false) (ha:oi h args=some args)
  (w:Wp C F Pr fa fa.body fa.oL (Leaves C fa.res λv0 h'=>∃ v1,freeze false h' 8 v0=some v1/\R v1) (params 0 args) bV.empty):∃ v,kC C F Pr false f args h v h/\R v:=Lr hP hF hi ha w
abbrev s9:Nat:=9223372036854775807
structure adN (R:List AV->Prop) (xs:List (List AV)) (c:oW):Prop where
 row:∀ r∈xs,R r
 len:xs.length<=s9
 sn:rp c=false
end Go.Sx
namespace Go.Sx
open Go
structure Row (α:Type) where
 l:List α
 c:oW
 ok:l.length<=s9
 sn:rp c=false
 nl:c=.nil->l=[]
def Row.av {α:Type} (enc : α->List AV) (r:Row α):AV:=.sl (r.l.map enc) r.c
structure pL where
 l:List UInt8
 ok:l.length<=s9
def kX (n:Int):List AV:=[.int .i64 n]
def oo (s:pL):List AV:=[.str s.l]
def rE (b:Bool):List AV:=[.bool b]
structure j7 where
 elem:Int
 en:Int
 deriving DecidableEq
def j7.af (x:j7):List AV:=[.int .i64 x.elem,.int .i64 x.en]
structure my where
 name:pL
 kind:Int
 len:Int
def my.af (x:my):List AV:=[.str x.name.l,.int .i64 x.kind,.int .i64 x.len]
structure mr where
 a:j7
 b:j7
def mr.af (x:mr):List AV:=[.int .i64 x.a.elem,.int .i64 x.a.en,.int .i64 x.b.elem,.int .i64 x.b.en]
structure lY where
 name:pL
 at_:j7
 auto:Bool
def lY.af (x:lY):List AV:=[.str x.name.l,.int .i64 x.at_.elem,.int .i64 x.at_.en,.bool x.auto]
structure lq where
 name:pL
 elems:Row Int
def lq.af (x:lq):List AV:=[.str x.name.l,x.elems.av kX]
structure bY where
 elems:Row my
 kB:Row mr
 signals:Row lY
 lines:Row lq
 top:Int
 lC:Int
 lN:Int
 lU:Int
 lZ:Bool
def bY.af (p:bY):List AV:=[p.elems.av my.af,p.kB.av mr.af,p.signals.av lY.af,p.lines.av lq.af,.int .i64 p.top,.int .i64 p.lC,.int .i64 p.lN,.int .i64 p.lU,.bool p.lZ]
structure kR where
 name:pL
 len:Int
 top:Int
 acc:Int
 lC:Int
def kR.af (x:kR):List AV:=[.str x.name.l,.int .i64 x.len,.int .i64 x.top,.int .i64 x.acc,.int .i64 x.lC]
structure lD where
 Bo:Bool
 at_:Int
 end_:Int
 to:Int
def lD.af (x:lD):List AV:=[.bool x.Bo,.int .i64 x.at_,.int .i64 x.end_,.int .i64 x.to]
structure kS where
 name:pL
 ko:Int
 from_:Int
 left:Int
 kr:Row lD
def kS.af (x:kS):List AV:=[.str x.name.l,.int .i64 x.ko,.int .i64 x.from_,.int .i64 x.left,x.kr.av lD.af]
structure dO where
 nP:Int
 ko:Row kR
 runs:Row kS
def dO.af (x:dO):List AV:=[.int .i64 x.nP,x.ko.av kR.af,x.runs.av kS.af]
structure nh where
 mode:Int
 oP:Row j7
 left:Int
 zR:Int
 v:Int
def nh.af (x:nh):List AV:=[.int .i64 x.mode,x.oP.av j7.af,.int .i64 x.left,.int .i64 x.zR,.int .i64 x.v]
structure mA where
 name:pL
 ko:Int
 at_:j7
 left:Int
def mA.af (x:mA):List AV:=[.str x.name.l,.int .i64 x.ko,.int .i64 x.at_.elem,.int .i64 x.at_.en,.int .i64 x.left]
structure lV where
 out:Int
 pos:Int
def lV.af (x:lV):List AV:=[.int .i64 x.out,.int .i64 x.pos]
structure kL where
 elem:Int
 p9:Int
 out:Int
def kL.af (x:kL):List AV:=[.int .i64 x.elem,.int .i64 x.p9,.int .i64 x.out]
structure lI where
 elem:Int
 pos:Int
def lI.af (x:lI):List AV:=[.int .i64 x.elem,.int .i64 x.pos]
structure kq where
 from_:Int
 to:Int
 end_:Int
 steps:Row kL
 nq:Row lI
 guards:Row lI
 mf:Row Int
 holds:Row Int
 bare:Bool
def kq.af (x:kq):List AV:=[.int .i64 x.from_,.int .i64 x.to,.int .i64 x.end_,x.steps.av kL.af,x.nq.av lI.af,x.guards.av lI.af,x.mf.av kX,x.holds.av kX,.bool x.bare]
section
variable {C:lS} {F:m0} {Pr:mM} {fa:kp} {e:Env} {h:bV} {all rest:List Oper} {o:Oper} {q:Env->bV->Prop} {Q:Ex->Env->bV->Prop}
variable {α:Type} {enc : α->List AV}
def VK {c:Code} {an:od} {e':Env} {h':bV} (he:e=e') (hh:h=h') (w:Wp C F Pr fa c an Q e' h'):Wp C F Pr fa c an Q e h:=by grind
def mh {b:Bool} (hw:kT all e o=some true) (hop:∀ call,lu o.op ⟨C,fa,call⟩ e h o.dst=some (.bool b,h))
  (w1:b=true->mG C F Pr fa all rest q (kN e o (.bool true)) h) (w2:b=false->mG C F Pr fa all rest q (kN e o (.bool false)) h):mG C F Pr fa all (o::rest) q e h:=by
 cases b<;>grind [iS]
def qJ {i:Nat} {sch:List (Nat×List Nat)} {p:Prop} [Decidable p] (ho:all[i]?=some o) (hw:kT all e o=some true) (hop:∀ call,lu o.op ⟨C,fa,call⟩ e h o.dst=some (.bool (decide p),h))
  (w1:p->mI C F Pr fa all sch q (kN e o (.bool true)) h) (w2:¬ p->mI C F Pr fa all sch q (kN e o (.bool false)) h):mI C F Pr fa all ((i,[])::sch) q e h:=by
 by_cases hp:p<;>grind [kG]
def Fz {i:Nat} {sch:List (Nat×List Nat)} {b:Bool} (ho:all[i]?=some o) (hw:kT all e o=some true) (hop:∀ call,lu o.op ⟨C,fa,call⟩ e h o.dst=some (.bool b,h))
  (w1:b=true->mI C F Pr fa all sch q (kN e o (.bool true)) h) (w2:b=false->mI C F Pr fa all sch q (kN e o (.bool false)) h):mI C F Pr fa all ((i,[])::sch) q e h:=by
 cases b<;>grind [kG]
def OT {i:Nat} {sch:List (Nat×List Nat)} {f:Nat} {g:Operand} {c:Call} {args:List AV} {R:AV->Prop} (hi:all[i]?=some o) (hw:kT all e o=some true) (ho:o.op=.call c) (hf:c.callee=.value g) (hg:kz e g=.ly f [] []) (ha:c.args.toList.map (kz e)=args) (hok:args.all AV.py=true) (hs:fa.lr.elem f=false)
  (w:∀ h:bV,∃ v,kC C F Pr false f args h v h/\R v) (next:∀ v,R v->mI C F Pr fa all sch q (kN e o v) h):mI C F Pr fa all ((i,[])::sch) q e h:=by
 obtain ⟨v,hc,hR⟩:=w { h with cT:=[] }
 refine Ak hi hw ?_ (next v hR)
 rw [ho]
 exact ED hf hg ha hok hs hc
def Hv {X:Ctx} {d:Option Nat} {t el:Nat} {x:Operand} {cl:Call} {ti:TI} {r:Row α} (hc:cl.callee=.builtin .len) (ha:cl.args.toList=[x]) (hts:cl.argTypes.toList=[t]) (hT:X.C.T t=some ti) (hk:ti.kind=.slice el) (hx:kz e x=r.av enc) :
  lu (.call cl) X e h d=some (.int .i64 r.l.length,h):=by
 simp_all [lu,qC,p8,nU,yo,vY,xb,Row.av,wN,rq]
theorem xn {X:Ctx} {d:Option Nat} {t el:Nat} {x y:Operand} {ti te:TI} {r:Row α} {k:IntKind} {n:Nat} (hT:X.C.T t=some ti) (hk:ti.kind=.slice el) (hE:X.C.T el=some te) (hx:kz e x=r.av enc) (hi:kz e y=.int k (n:Int))
  (hn:n<r.l.length) (hl:(enc r.l[n]).length=te.size):lu (.indexAddr t x y) X e h d=some (.ip (enc r.l[n]) 0 false,h):=by
 rw [<- r.sn]
 exact Qv hT hk hE hx hi (by omega) (r:=enc r.l[n]) (by simp [hn]) hl
def kW {X:Ctx} {d:Option Nat} {t el:Nat} {x y:Operand} {ti te:TI} {r:Row α} {k:IntKind} {n:Int} (hT:X.C.T t=some ti) (hk:ti.kind=.slice el) (hE:X.C.T el=some te) (hx:kz e x=r.av enc) (hi:kz e y=.int k n) (h0:0<=n)
  (hn:n.toNat<r.l.length) (hl:(enc r.l[n.toNat]).length=te.size):lu (.indexAddr t x y) X e h d=some (.ip (enc r.l[n.toNat]) 0 false,h):=by
 grind [xn]
theorem Mc (a b c d:Int):nR [.int .i64 a,.int .i64 b] [.int .i64 c,.int .i64 d]=some (decide (a=c/\b=d)):=by
 simp only [nR,oa,wg,AV.int?,qN,su]
 have e1:(a==c)=decide (a=c):=rfl
 have e2:(b==d)=decide (b=d):=rfl
 rw [e1,e2]
 by_cases h1:a=c<;>by_cases h2:b=d<;>simp [h1,h2]
def xw {X:Ctx} {dd:Option Nat} {t u:Nat} {x y:Operand} {ti:TI} {a b c d:Int} (hx:kz e x=.agg [.int .i64 a,.int .i64 b]) (hy:kz e y=.agg [.int .i64 c,.int .i64 d])
  (hT:X.C.T t=some ti) (hf:∀ a b:Int,Ad ti (.agg [.int .i64 a,.int .i64 b]) (.agg [.int .i64 c,.int .i64 d])=nR [.int .i64 a,.int .i64 b] [.int .i64 c,.int .i64 d]) :
  lu (.binOp .eql t x y u) X e h dd=some (.bool (decide (a=c/\b=d)),h):=by
 simp_all [lu,zL,binOp,AV.int?,AV.str?,Cj,Mc,mD]
theorem oZ {sn:Bool} {hp:bV} {n:Nat} (r:Row α):freeze sn hp (n+1) (Row.av enc r)=some (Row.av enc r):=by
 have:=r.sn
 grind [Row.av,freeze,rp]
theorem pB {sn:Bool} {hp:bV} {n:Nat} (k:IntKind) (a:Int):freeze sn hp (n+1) (.int k a)=some (.int k a):=rfl
theorem oz {sn:Bool} {hp:bV} {n:Nat} (a:Bool):freeze sn hp (n+1) (.bool a)=some (.bool a):=rfl
theorem pE {sn:Bool} {hp:bV} {n:Nat} (a:List UInt8):freeze sn hp (n+1) (.str a)=some (.str a):=rfl
theorem Rq {sn:Bool} {hp:bV} {n:Nat} (l:List AV):freeze sn hp (n+1) (.agg l)=(match kP (freeze sn hp n) l with
   | some l=>some (.agg l)
   | none=>none):=rfl
def zJ {X:Ctx} {d:Option Nat} {t:Nat} {x y:Operand} {ti:TI} {s:List UInt8} {k:IntKind} {n:Nat} (hT:X.C.T t=some ti) (hk:ti.kind=.str) (hx:kz e x=.str s) (hi:kz e y=.int k (n:Int)) (hn:n<s.length):lu (.index t x y) X e h d=some (.int .u8 s[n].toNat,h):=by
 have hai:qD (.int k (n:Int))=some n:=rfl
 simp_all [lu,zd,xy,AV.str?]
def Row.isNil (r:Row α):Bool:=match r.c with
 | .nil=>true
 | _=>false
def Row.of_nil {r:Row α} (h:r.isNil=true):r.l=[]:=by
 apply r.nl
 grind [Row.isNil]
end
end Go.Sx
namespace Go.Sx
open Go
def nb:AV->Option Nat
 | .hs b _ _ _=>some b
 | .hm b=>some b
 | .ptr b _ _ _=>some b
 | _=>none
def AL {α:Type} (H:bV) (n:Nat) (enc : α->List AV) (v:AV) (l:List α):Prop :=
 (l=[]/\v=.sl [] .nil)\/(v=.sl (l.map enc) (.exact l.length))\/∃ b g,b<H.size/\v=.hs b g 0 l.length/\H.get b=some (.lM g n (l.map enc))
structure Av (H H':bV) (v v':AV):Prop where
 lo:H'.lo=H.lo
 size:H.size<=H'.size
 get:∀ b,b<H.size->nb v≠some b->H'.get b=H.get b
 own:∀ b,nb v'=some b->nb v=some b\/H.size<=b
theorem bV.mV (H:bV) (ls:mR) (b:Nat):({ H with cT:=ls }:bV).get b=H.get b:=rfl
theorem bV.uz (H:bV) (ls:mR) (o:oE):({ H with cT:=ls }:bV).push o = { H.push o with cT:=ls }:=by simp [bV.xg]
theorem bV.qy (H:bV) (ls:mR) (b:Nat) (o:oE):({ H with cT:=ls }:bV).set b o = { H.set b o with cT:=ls }:=by simp [bV.zj]
def Av.refl (H:bV) (v:AV):Av H H v v:=⟨rfl,Nat.le_refl _,λ_ _ _=>rfl,λ_ h=>.inl h⟩
theorem AL.mj {α:Type} {H H':bV} {n:Nat} {enc : α->List AV} {v v' w:AV} {l:List α} (h:AL H n enc w l) (k:Av H H' v v') (hd:∀ b,nb w=some b->nb v≠some b):AL H' n enc w l:=by
 rcases h with h | h | ⟨b,g,hb,rfl,hg⟩
 ·exact .inl h
 ·exact .inr (.inl h)
 ·exact .inr (.inr ⟨b,g,Nat.lt_of_lt_of_le hb k.size,rfl,by rw [k.get b hb (hd b rfl)]; exact hg⟩)
def AL.lt {α:Type} {H:bV} {n:Nat} {enc : α->List AV} {w:AV} {l:List α} (h:AL H n enc w l):∀ b,nb w=some b->b<H.size:=by
 rcases h with ⟨_,rfl⟩ | rfl | ⟨b,g,hb,rfl,hg⟩<;>grind [nb]
def Av.apart {H H':bV} {v v' w:AV} (k:Av H H' v v') (hd:∀ b,nb w=some b->nb v≠some b) (hl:∀ b,nb w=some b->b<H.size):∀ b,nb w=some b->nb v'≠some b:=by
 intro b hw hv
 rcases k.own b hv with h | h<;>grind
def yP (v w:AV):Prop:=∀ b,nb v=some b->nb w≠some b
theorem yP.symm {v w:AV} (h:yP v w):yP w v:=λb hw hv=>h b hv hw
def yP.nil {w:AV} {xs:List (List AV)} {c:oW}:yP (.sl xs c) w:=λb h=>by simp [nb] at h
theorem yP.mj {α:Type} {H H':bV} {n:Nat} {enc : α->List AV} {v v' w:AV} {l:List α} (hd:yP v w) (k:Av H H' v v') (h:AL H n enc w l):yP v' w:=yP.symm (k.apart hd.symm h.lt)
theorem AL.KB {α:Type} {H:bV} {n:Nat} {enc : α->List AV} {v:AV} {l:List α} (h:AL H n enc v l) (t:Nat):Go.Sx.mj t v=v:=by
 rcases h with ⟨_,rfl⟩ | rfl | ⟨_,_,_,rfl,_⟩<;>rfl
section
variable {C:lS} {F:m0} {Pr:mM} {fa:kp} {e:Env} {all rest:List Oper} {o:Oper} {q:Env->bV->Prop}
variable {α:Type} {enc : α->List AV}
theorem AL.py {H:bV} {n:Nat} {v:AV} {l:List α} (hb:AL H n enc v l):AV.py v=true:=by
 rcases hb with ⟨rfl,rfl⟩ | rfl | ⟨b,g,hlt,rfl,hg⟩<;>rfl
def lQ {C:lS} {res:List ResultVar} {e:Env} {h:bV} {vs:List AV} (h1:CS C e h res=some vs) (h2:vs.all AV.py=true):leave.leave1 C res e h=some (result vs,h):=by
 grind [leave.leave1]
def Row.take (r:Row α) (k:Nat):Row α:=⟨r.l.take k,r.c,by have:=r.ok; grind,r.sn,λh=>by rw [r.nl h]; simp⟩
def Bg {X:Ctx} {d:Option Nat} {t el n k:Nat} {x y:Operand} {ti te:TI} {h:bV} {r:Row α} {kd:IntKind} (hT:X.C.T t=some ti) (hk:ti.kind=.slice el) (hE:X.C.T el=some te) (hx:kz e x=r.av enc) (hy:kz e y=.int kd (k:Int)) (hn:te.size=n) (hkl:k<=r.l.length) (henc:∀ x,(enc x).length=n) :
  lu (.slice t x none (some y) none) X e h d=some ((r.take k).av enc,h):=by
 have hai:qD (.int kd (k:Int))=some k:=rfl
 have h0:Nat.ble 0 k=true:=Nat.ble_eq.mpr (Nat.zero_le _)
 have h1:Nat.ble k (r.l.map enc).length=true:=Nat.ble_eq.mpr (by grind)
 have h2:qa n (r.l.map enc)=true:=by
  cases r.l with
  | nil=>rfl
  | cons a l=>simp_all [qa]
 have h3:rn 0 r.c=r.c:=by cases r.c<;>rfl
 simp only [lu,rm,qR,hT,hk,hE,hx,hy,Row.av,slice,wQ,pt,bound,hai,rF,hn,h1,h2,h0,Bool.true_and,Bool.and_true,List.drop_zero,Nat.sub_zero,qO,h3,mD,Row.take,List.map_take]
end
end Go.Sx
namespace Go.Sx
open Go
def look {κ β:Type} [DecidableEq κ] (k : κ):List (κ×β)->Option β
 | []=>none
 | x::l=>if k=x.1 then some x.2 else look k l
def lP {κ β:Type} (ek : κ->AV) (ev : β->AV) (l:List (κ×β)):List (AV×AV):=l.map λx=>(ek x.1,ev x.2)
def pK (p:j7):AV:=.agg p.af
def iK (n:Int):AV:=.int .i64 n
def tP (p:Int×Int):AV:=.agg [.int .i64 p.1,.int .i64 p.2]
structure kb where
 p:bY
 next:List (j7×j7)
 reads:List (j7×Int)
 line:List (Int×Int×Int)
 lead:List (Int×Int)
def kb.af (n:kb):List AV:=[n.p.elems.av my.af,n.p.kB.av mr.af,n.p.signals.av lY.af,n.p.lines.av lq.af,.int .i64 n.p.top,.int .i64 n.p.lC,.int .i64 n.p.lN,.int .i64 n.p.lU,.bool n.p.lZ,
 .fm (lP pK pK n.next) false,.fm (lP pK iK n.reads) false,.fm (lP iK tP n.line) false,.fm (lP iK iK n.lead) false]
def nk (a b:j7):ni (pK a) (pK b)=some (decide (a=b)):=by
 have h:(a=b)↔(a.elem=b.elem/\a.en=b.en):=by cases a; cases b; simp
 grind [ni,pK,j7.af,AV.agg?,Cv,Mc]
def pD (a b:Int):ni (iK a) (iK b)=some (decide (a=b)):=by
 simp only [ni,iK,AV.agg?,oa,wg,AV.int?,qN,su]
 rfl
theorem Eg {κ β:Type} [DecidableEq κ] {ek : κ->AV} {ev : β->AV} (hk:∀ a b,ni (ek a) (ek b)=some (decide (a=b))) (k : κ) (l:List (κ×β)):sS (ek k) (lP ek ev l)=some ((look k l).map ev):=by
 induction l<;>grind [lP,sS,look]
section
variable {C:lS} {F:m0} {Pr:mM} {fa:kp} {e:Env} {h:bV} {all rest:List Oper} {o:Oper} {q:Env->bV->Prop}
variable {κ β:Type} [DecidableEq κ] {ek : κ->AV} {ev : β->AV}
theorem z8 {X:Ctx} {d:Option Nat} {t kt el:Nat} {m k:Operand} {tm te:TI} {key : κ} {l:List (κ×β)} {z:AV} {s:Bool} (hT:X.C.T t=some tm) (hk:tm.kind=.map kt el) (hE:X.C.T el=some te) (hm:kz e m=.fm (lP ek ev l) s) (hkk:kz e k=ek key) (hK:sC X.C kt (ek key)=true) (hz:asAgg te te.zero=some z) (hke:∀ a b,ni (ek a) (ek b)=some (decide (a=b))) :
  lu (.lookup t m k true) X e h d=some (match look key l with
   | some v=>.kO [ev v,.bool true]
   | none=>.kO [z,.bool false],h):=by
 simp only [lu,vi,sY,hT,hk,hE,hkk,hK,hm,sw,Eg hke]
 grind [look,Af,mD]
def vQ {t kt el:Nat} {m k:Operand} {tm te:TI} {key : κ} {l:List (κ×β)} {z:AV} {s:Bool} (hw:kT all e o=some true) (ho:o.op=.lookup t m k true) (hT:C.T t=some tm) (hk:tm.kind=.map kt el) (hE:C.T el=some te) (hm:kz e m=.fm (lP ek ev l) s) (hkk:kz e k=ek key) (hK:sC C kt (ek key)=true) (hz:asAgg te te.zero=some z) (hke:∀ a b,ni (ek a) (ek b)=some (decide (a=b)))
  (w1:∀ v,look key l=some v->mG C F Pr fa all rest q (kN e o (.kO [ev v,.bool true])) h) (w2:look key l=none->mG C F Pr fa all rest q (kN e o (.kO [z,.bool false])) h):mG C F Pr fa all (o::rest) q e h:=by
 cases hl:look key l with
 | none=>exact iS hw (λcall=>by rw [ho,z8 hT hk hE hm hkk hK hz hke,hl]) (w2 hl)
 | some v=>exact iS hw (λcall=>by rw [ho,z8 hT hk hE hm hkk hK hz hke,hl]) (w1 v hl)
def Eu {i:Nat} {sch:List (Nat×List Nat)} {t kt el:Nat} {m k:Operand} {tm te:TI} {key : κ} {l:List (κ×β)} {z:AV} {s:Bool} (hi:all[i]?=some o) (hw:kT all e o=some true) (ho:o.op=.lookup t m k true) (hT:C.T t=some tm) (hk:tm.kind=.map kt el) (hE:C.T el=some te) (hm:kz e m=.fm (lP ek ev l) s) (hkk:kz e k=ek key) (hK:sC C kt (ek key)=true) (hz:asAgg te te.zero=some z) (hke:∀ a b,ni (ek a) (ek b)=some (decide (a=b)))
  (w1:∀ v,look key l=some v->mI C F Pr fa all sch q (kN e o (.kO [ev v,.bool true])) h) (w2:look key l=none->mI C F Pr fa all sch q (kN e o (.kO [z,.bool false])) h):mI C F Pr fa all ((i,[])::sch) q e h:=by
 cases hl:look key l with
 | none=>exact kG hi hw (λcall=>by rw [ho,z8 hT hk hE hm hkk hK hz hke,hl]) (w2 hl)
 | some v=>exact kG hi hw (λcall=>by rw [ho,z8 hT hk hE hm hkk hK hz hke,hl]) (w1 v hl)
end
end Go.Sx
namespace Go.Sx
open Go
inductive lF where
 | sl (w t:Bool) (v:AV) (n:Nat) (xs:List (List AV))
 | map (v:AV) (es:List (AV×AV))
 | obj (v:AV) (cs:List AV)
def lF.v:lF->AV
 | .sl _ _ v _ _=>v
 | .map v _=>v
 | .obj v _=>v
def oc (es:List (AV×AV×Nat)):List (AV×AV):=es.map λx=>(x.1,x.2.1)
def wq (es:List (AV×AV×Nat)) (c:Nat):Prop:=(∀ x∈es,x.2.2<c)/\es.Pairwise λa b=>a.2.2≠b.2.2
def wq.snoc {es:List (AV×AV×Nat)} {c:Nat} (h:wq es c) (k v:AV):wq (es++[(k,v,c)]) (c+1):=by
 refine ⟨λx hx=>?_,List.pairwise_append.mpr ⟨h.2,by simp,λa ha b hb=>?_⟩⟩
 ·rcases List.mem_append.mp hx with hx | hx
  ·have:=h.1 x hx; omega
  grind
 ·simp at hb; subst hb; have:=h.1 a ha; grind
def wq.modify {es:List (AV×AV×Nat)} {c:Nat} (h:wq es c) (i:Nat) (f:AV×AV×Nat->AV×AV×Nat) (hf:∀ e,(f e).2.2=e.2.2):wq (es.modify i f) c:=by
 have hm:(es.modify i f).map (λx=>x.2.2)=es.map (λx=>x.2.2):=by
  apply List.ext_getElem (by simp)
  grind
 have h1:∀ x∈(es.modify i f).map (λx=>x.2.2),x<c:=by
  rw [hm]; intro x hx; obtain ⟨y,hy,rfl⟩:=List.mem_map.mp hx; exact h.1 y hy
 refine ⟨λx hx=>h1 _ (List.mem_map_of_mem hx),?_⟩
 have h2:((es.modify i f).map (λx=>x.2.2)).Pairwise (·≠·):=by
  rw [hm,List.pairwise_map]; exact h.2
 grind
def lF.ok (H:bV):lF->Prop
 | .sl w t v n xs=>(∀ x∈xs,x.length=n)/\((xs=[]/\v=.sl [] .nil)\/((w=false\/xs=[])/\v=.sl xs (.exact xs.length))\/∃ b g j,b<H.size/\v=.hs b g 0 xs.length/\H.get b=some (.lM g n (xs++j))/\(t=true->j=[]))
 | .map v es=>∃ b es' c,b<H.size/\v=.hm b/\H.get b=some (.map es' c)/\oc es'=es/\wq es' c
 | .obj v cs=>∃ b z,b<H.size/\v=.ptr b 0 0 0/\H.get b=some (.lM 0 z [cs])
structure Sep (H:bV) (L:List lF):Prop where
 lo:H.lo<=H.size
 ok:∀ r∈L,r.ok H
 BH:L.Pairwise λa b=>yP a.v b.v
def lJ:Sep bV.empty []:=⟨Nat.le_refl _,by simp,.nil⟩
theorem lF.ok.mj {H H':bV} {r:lF} (h:r.ok H) (hs:H.size<=H'.size) (hg:∀ b,b<H.size->nb r.v=some b->H'.get b=H.get b):r.ok H':=by
 cases r with
 | sl w t v n xs =>
   obtain ⟨hl,h | h | ⟨b,g,j,hb,rfl,hq,ht⟩⟩:=h
   ·exact ⟨hl,.inl h⟩
   ·exact ⟨hl,.inr (.inl h)⟩
   ·exact ⟨hl,.inr (.inr ⟨b,g,j,by omega,rfl,by rw [hg b hb rfl]; exact hq,ht⟩)⟩
 | map v es =>
   obtain ⟨b,es',c,hb,rfl,hq,he,hst⟩:=h
   exact ⟨b,es',c,by omega,rfl,by rw [hg b hb rfl]; exact hq,he,hst⟩
 | obj v cs =>
   obtain ⟨b,z,hb,rfl,hq⟩:=h
   exact ⟨b,z,by omega,rfl,by rw [hg b hb rfl]; exact hq⟩
def lF.ok.lt {H:bV} {r:lF} (h:r.ok H):∀ b,nb r.v=some b->b<H.size:=by
 intro b0 hb0
 cases r with
 | sl w t v n xs =>
   obtain ⟨hl,⟨_,rfl⟩ | ⟨_,rfl⟩ | ⟨b,g,j,hb,rfl,hq,ht⟩⟩:=h<;>simp [nb,lF.v] at hb0
   omega
 | map v es =>
   obtain ⟨b,es',c,hb,rfl,hq,he,hst⟩:=h
   grind [nb,lF.v]
 | obj v cs =>
   obtain ⟨b,z,hb,rfl,hq⟩:=h
   grind [nb,lF.v]
def lF.ok.ET {H:bV} {r:lF} (h:r.ok H):AV.mE r.v=true/\(∀ t,Go.Sx.mj t r.v=r.v)/\AV.py r.v=true:=by
 cases r with
 | sl w t v n xs =>
   obtain ⟨hl,⟨_,rfl⟩ | ⟨_,rfl⟩ | ⟨b,g,j,hb,rfl,hq,ht⟩⟩:=h<;>exact ⟨rfl,λ_=>rfl,rfl⟩
 | map v es=>obtain ⟨b,es',c,hb,rfl,hq,he,hst⟩:=h; exact ⟨rfl,λ_=>rfl,rfl⟩
 | obj v cs=>obtain ⟨b,z,hb,rfl,hq⟩:=h; exact ⟨rfl,λ_=>rfl,rfl⟩
theorem Sep.at {H:bV} {L:List lF} (h:Sep H L) {i:Nat} {r:lF} (hi:L[i]?=some r):r.ok H:=h.ok r (List.mem_of_getElem? hi)
theorem Sep.KB {H:bV} {L:List lF} (h:Sep H L) {i:Nat} {r:lF} (hi:L[i]?=some r) (t:Nat):Go.Sx.mj t r.v=r.v:=(h.at hi).ET.2.1 t
def Sep.cell {H:bV} {L:List lF} (h:Sep H L) {i:Nat} {r:lF} (hi:L[i]?=some r):AV.mE r.v=true:=(h.at hi).ET.1
def Sep.arg {H:bV} {L:List lF} (h:Sep H L) {i:Nat} {r:lF} (hi:L[i]?=some r):AV.py r.v=true:=(h.at hi).ET.2.2
theorem Sep.ou {H H':bV} {L:List lF} (h:Sep H L) {i:Nat} {r r':lF} (hi:L[i]?=some r) (hlo:H'.lo<=H'.size) (hs:H.size<=H'.size) (hr:r'.ok H') (hg:∀ b,b<H.size->nb r.v≠some b->H'.get b=H.get b) (ho:∀ b,nb r'.v=some b->nb r.v=some b\/H.size<=b):Sep H' (L.set i r'):=by
 have hil:i<L.length:=(List.getElem?_eq_some_iff.mp hi).1
 have hri:L[i]=r:=(List.getElem?_eq_some_iff.mp hi).2
 have hp:=List.pairwise_iff_getElem.mp h.BH
 have BH:∀ j (hj:j<L.length),j≠i->yP r.v L[j].v:=by
  intro j hj hne
  rcases Nat.lt_or_gt_of_ne hne with hlt | hlt
  ·have:=hp j i hj hil hlt; rw [hri] at this; exact this.symm
  grind
 have apt':∀ j (hj:j<L.length),j≠i->yP r'.v L[j].v:=by
  intro j hj hne b hb hb'
  rcases ho b hb with hx | hx
  ·exact BH j hj hne b hx hb'
  ·exact absurd ((h.ok _ (List.getElem_mem hj)).lt b hb') (by omega)
 refine ⟨hlo,?_,?_⟩
 ·intro x hx
  obtain ⟨j,hj,rfl⟩:=List.mem_iff_getElem.mp hx
  rw [List.length_set] at hj
  rw [List.getElem_set]
  split
  ·exact hr
  ·rename_i hne
   refine (h.ok _ (List.getElem_mem hj)).mj hs ?_
   intro b hb hbl
   exact hg b hb λhq=>BH j hj (Ne.symm hne) b hq hbl
 ·rw [List.pairwise_iff_getElem]
  intro j k hj hk hjk
  rw [List.length_set] at hj hk
  simp only [List.getElem_set]
  split
  ·grind
  ·split
   ·rename_i h1 h2; exact (apt' j hj (Ne.symm h1)).symm
   grind
def Sep.new {H H':bV} {L:List lF} (h:Sep H L) {r':lF} (hlo:H'.lo<=H'.size) (hs:H.size<=H'.size) (hr:r'.ok H') (hg:∀ b,b<H.size->H'.get b=H.get b) (ho:∀ b,nb r'.v=some b->H.size<=b):Sep H' (r'::L):=by
 refine ⟨hlo,?_,.cons ?_ h.BH⟩
 ·intro x hx
  rcases List.mem_cons.mp hx with rfl | hx
  ·exact hr
  ·exact (h.ok x hx).mj hs λb hb _=>hg b hb
 ·intro x hx b hb hb'
  exact absurd ((h.ok x hx).lt b hb') (by grind)
def Sep.m3 {H:bV} {L:List lF} (h:Sep H L) (n:Nat):Sep H (.sl true true (.sl [] .nil) n []::L):=h.new h.lo (Nat.le_refl _) ⟨by simp,.inl ⟨rfl,rfl⟩⟩ (λ_ _=>rfl) (λb hb=>by simp [nb,lF.v] at hb)
def Sep.Yg {H:bV} {L:List lF} (h:Sep H L) (n:Nat) (xs:List (List AV)) (hn:∀ x∈xs,x.length=n) {k:Nat} (hk:k=xs.length):Sep H (.sl false true (.sl xs (.exact k)) n xs::L):=by
 subst hk
 exact h.new h.lo (Nat.le_refl _) ⟨hn,.inr (.inl ⟨.inl rfl,rfl⟩)⟩ (λ_ _=>rfl) (λb hb=>by simp [nb,lF.v] at hb)
def Sep.qj {H:bV} {L:List lF} (h:Sep H L) (n:Nat):Sep H (.sl true true (.sl [] (.exact 0)) n []::L):=h.new h.lo (Nat.le_refl _) ⟨by simp,.inr (.inl ⟨.inr rfl,rfl⟩)⟩ (λ_ _=>rfl) (λb hb=>by simp [nb,lF.v] at hb)
def RN {α:Type} {R : α->α->Prop} (hs:∀ a b,R a b->R b a) {L:List α} (h:L.Pairwise R) {i j:Nat} (hi:i<L.length) (hj:j<L.length) (hne:i≠j):R L[i] L[j]:=by
 have hp:=List.pairwise_iff_getElem.mp h
 grind
def Xf (is:List Nat) (n:Nat) (L:List lF):List lF:=is.filterMap (L[·]?)++L.drop n
def Sep.pick {H:bV} {L:List lF} (h:Sep H L) (is:List Nat) (n:Nat) (hn:is.Nodup) (hlt:∀ i∈is,i<n):Sep H (Xf is n L):=by
 have hp:=List.pairwise_iff_getElem.mp h.BH
 refine ⟨h.lo,?_,List.pairwise_append.mpr ⟨?_,h.BH.sublist (List.drop_sublist _ _),?_⟩⟩
 ·intro x hx
  rcases List.mem_append.mp hx with hx | hx
  ·obtain ⟨i,_,hi⟩:=List.mem_filterMap.mp hx
   exact h.ok x (List.mem_of_getElem? hi)
  ·exact h.ok x (List.mem_of_mem_drop hx)
 ·rw [List.pairwise_filterMap]
  refine hn.imp ?_
  intro i j hne x hx y hy
  obtain ⟨hi,rfl⟩:=List.getElem?_eq_some_iff.mp hx
  obtain ⟨hj,rfl⟩:=List.getElem?_eq_some_iff.mp hy
  exact RN (λa b hab=>hab.symm) h.BH hi hj hne
 ·intro x hx y hy
  obtain ⟨i,hmem,hi⟩:=List.mem_filterMap.mp hx
  obtain ⟨hil,rfl⟩:=List.getElem?_eq_some_iff.mp hi
  obtain ⟨j,hj,rfl⟩:=List.mem_iff_getElem.mp hy
  grind
theorem Sep.cT {H:bV} {L:List lF} (h:Sep H L) (ls:mR):Sep { H with cT:=ls } L:=by
 refine ⟨h.lo,λr hr=>(h.ok r hr).mj (Nat.le_refl _) λ_ _ _=>rfl,h.BH⟩
section
variable {κ β:Type} [DecidableEq κ] {ek : κ->AV} {ev : β->AV}
def put (k : κ) (x : β):List (κ×β)->List (κ×β)
 | []=>[(k,x)]
 | p::l=>if k=p.1 then (k,x)::l else p::put k x l
theorem nQ (k k' : κ) (x : β) (l:List (κ×β)):look k (put k' x l)=if k=k' then some x else look k l:=by
 induction l<;>grind [put,look]
def uh (hk:∀ a b,ni (ek a) (ek b)=some (decide (a=b))) (k : κ) (l:List (κ×β)) (es:List (AV×AV×Nat)) (he:oc es=lP ek ev l) (i:Nat) :
  (look k l=none->findKey (ek k) es i=some none)/\(∀ x,look k l=some x->∃ j,findKey (ek k) es i=some (some (i+j,ev x))/\j<es.length/\∀ y (f:AV×AV×Nat->AV×AV×Nat),(∀ e,(f e).1=ek k/\(f e).2.1=ev y)->oc (es.modify j f)=lP ek ev (put k y l))/\(look k l=none->∀ y c,oc (es++[(ek k,ev y,c)])=lP ek ev (put k y l)):=by
 induction l generalizing es i with
 | nil =>
   cases es with
   | nil=>exact ⟨λ_=>rfl,λ_ h=>by simp [look] at h,λ_ _ _=>rfl⟩
   | cons e es=>simp [oc,lP] at he
 | cons p l ih =>
   cases es with
   | nil=>simp [oc,lP] at he
   | cons e es =>
     obtain ⟨a,b,c⟩:=e
     simp only [oc,lP,List.map_cons,List.cons.injEq,Prod.mk.injEq] at he
     obtain ⟨⟨rfl,rfl⟩,he⟩:=he
     obtain ⟨i1,i2,i3⟩:=ih es he (i+1)
     by_cases h:k=p.1
     ·simp_all [look,findKey,f1,oc,put,lP]
     ·refine ⟨λhn=>?_,λx hx=>?_,λhn y c'=>?_⟩
      ·grind [look,findKey]
      ·simp only [look,h,if_false] at hx
       obtain ⟨j,hj,hl,hm⟩:=i2 x hx
       refine ⟨j+1,?_,by simpa using hl,λy f hf=>?_⟩<;>grind [findKey,oc,put,lP]
      grind [look,oc,put,lP]
end
section
variable {C:lS} {F:m0} {Pr:mM} {fa:kp} {e:Env} {all rest:List Oper} {o:Oper} {q:Env->bV->Prop}
variable {H:bV} {ls:mR} {L:List lF} {i:Nat}
def kM {P:AV->bV->Prop} (hw:kT all e o=some true) (hop:∃ v H',(∀ call,lu o.op ⟨C,fa,call⟩ e { H with cT:=ls } o.dst=some (v,{ H' with cT:=ls }))/\P v H') (next:∀ v H',P v H'->mG C F Pr fa all rest q (kN e o v) { H' with cT:=ls }):mG C F Pr fa all (o::rest) q e { H with cT:=ls }:=by
 grind [iS]
def mP {j:Nat} {sch:List (Nat×List Nat)} {P:AV->bV->Prop} (hj:all[j]?=some o) (hw:kT all e o=some true) (hop:∃ v H',(∀ call,lu o.op ⟨C,fa,call⟩ e { H with cT:=ls } o.dst=some (v,{ H' with cT:=ls }))/\P v H') (next:∀ v H',P v H'->mI C F Pr fa all sch q (kN e o v) { H' with cT:=ls }):mI C F Pr fa all ((j,[])::sch) q e { H with cT:=ls }:=by
 grind [kG]
def pX {t:Nat} {d:Option Nat} (hS:Sep H L):∃ v H',(∀ call,lu (.makeMap t none) ⟨C,fa,call⟩ e { H with cT:=ls } d=some (v,{ H' with cT:=ls }))/\∃ b,v=.hm b/\Sep H' (.map (.hm b) []::L):=by
 have hlo:=hS.lo
 refine ⟨.hm H.size,H.push (.map [] 0),λcall=>?_,H.size,rfl,?_⟩
 ·simp only [lu,Eo,bV.uz]
 ·refine hS.new (by simp; omega) (by simp) ⟨H.size,[],0,by simp,rfl,?_,rfl,by simp,by simp⟩ ?_ ?_<;>grind [bV.pH,nb,lF.v]
variable {κ β:Type} [DecidableEq κ] {ek : κ->AV} {ev : β->AV}
def oK {t:Nat} {m k x:Operand} {d:Option Nat} {v:AV} {l:List (κ×β)} (key : κ) (y : β) (hS:Sep H L) (hi:L[i]?=some (.map v (lP ek ev l))) (hm:kz e m=v) (hk:kz e k=ek key) (hx:kz e x=ev y) (hK:mapKey C t (ek key)=true) (hV:AV.Ap (ev y)=true) (hke:∀ a b,ni (ek a) (ek b)=some (decide (a=b))) :
  ∃ w H',(∀ call,lu (.mapUpdate t m k x) ⟨C,fa,call⟩ e { H with cT:=ls } d=some (w,{ H' with cT:=ls }))/\w=.undef/\Sep H' (L.set i (.map v (lP ek ev (put key y l)))):=by
 obtain ⟨b,es,c,hb,rfl,hg,he,hst⟩:=hS.at hi
 have hlob:H.lo<=b:=bV.pq hg
 obtain ⟨f1,f2,f3⟩:=uh (ek:=ek) (ev:=ev) hke key l es he 0
 have fin:∀ es' c',zy (ek key) (ev y) es c=some (es',c')->oc es'=lP ek ev (put key y l)->wq es' c'->∃ w H',(∀ call,lu (.mapUpdate t m k x) ⟨C,fa,call⟩ e { H with cT:=ls } d=some (w,{ H' with cT:=ls }))/\w=.undef/\Sep H' (L.set i (.map (.hm b) (lP ek ev (put key y l)))):=by
  intro es' c' hu hun hst'
  refine ⟨.undef,H.set b (.map es' c'),λcall=>?_,rfl,?_⟩
  ·simp_all [lu,u5,u9,bV.mV,bV.qy]
  ·refine hS.ou hi (by simpa using hS.lo) (by simp) ⟨b,es',c',by simp_all,rfl,?_,hun,hst'⟩ ?_ ?_
   ·grind [bV.nv]
   ·intro b' hb' hne
    rw [bV.nv,if_neg (by rintro ⟨rfl,_⟩; exact hne rfl)]
   ·intro b' hb'; exact .inl hb'
 cases hl:look key l with
 | none=>exact fin (es++[(ek key,ev y,c)]) (c+1) (by grind [zy,f1]) (f3 hl y c) (hst.snoc _ _)
 | some x0 =>
   obtain ⟨j,hj,hjl,hjm⟩:=f2 x0 hl
   exact fin _ c (by grind [zy]) (hjm y (λe=>(ek key,ev y,e.2.2)) λ_=>⟨rfl,rfl⟩) (hst.modify _ _ λ_=>rfl)
theorem yw {t kt el:Nat} {m k:Operand} {tm te:TI} {d:Option Nat} {v z:AV} {l:List (κ×β)} {ok:Bool} (key : κ) (hS:Sep H L) (hi:L[i]?=some (.map v (lP ek ev l))) (hT:C.T t=some tm) (hkd:tm.kind=.map kt el) (hE:C.T el=some te) (hm:kz e m=v) (hk:kz e k=ek key) (hK:sC C kt (ek key)=true) (hz:asAgg te te.zero=some z) (hke:∀ a b,ni (ek a) (ek b)=some (decide (a=b))) (call:sG) :
  lu (.lookup t m k ok) ⟨C,fa,call⟩ e { H with cT:=ls } d=match Af ok (look key l).isSome (match look key l with
   | some x=>ev x
   | none=>z) with
   | some r=>some (r,{ H with cT:=ls })
   | none=>none:=by
 obtain ⟨b,es,c,hb,rfl,hg,he,hst⟩:=hS.at hi
 obtain ⟨f1,f2,f3⟩:=uh (ek:=ek) (ev:=ev) hke key l es he 0
 cases hl:look key l with
 | none=>simp only [lu,vi,sY,hT,hkd,hE,hk,hK,hm,sw,bV.mV,hg,f1 hl,hz,Option.isSome_none]; rfl
 | some x0 =>
   obtain ⟨j,hj,_⟩:=f2 x0 hl
   simp only [lu,vi,sY,hT,hkd,hE,hk,hK,hm,sw,bV.mV,hg,hj,Option.isSome_some]
   rfl
end
section
variable {C:lS} {F:m0} {Pr:mM} {fa:kp} {e:Env} {all rest:List Oper} {o:Oper} {q:Env->bV->Prop}
variable {H:bV} {ls:mR} {L:List lF} {i:Nat}
variable {κ β:Type} [DecidableEq κ] {ek : κ->AV} {ev : β->AV}
def PZ (ok b:Bool) (v:AV):AV:=match ok with
 | true=>.kO [v,.bool b]
 | false=>v
def nK {t kt el:Nat} {m k:Operand} {tm te:TI} {v z:AV} {l:List (κ×β)} {ok:Bool} (key : κ) (hw:kT all e o=some true) (ho:o.op=.lookup t m k ok) (hS:Sep H L) (hi:L[i]?=some (.map v (lP ek ev l))) (hT:C.T t=some tm) (hkd:tm.kind=.map kt el) (hE:C.T el=some te) (hm:kz e m=v) (hk:kz e k=ek key) (hK:sC C kt (ek key)=true) (hz:asAgg te te.zero=some z) (hke:∀ a b,ni (ek a) (ek b)=some (decide (a=b)))
  (w1:∀ x,look key l=some x->mG C F Pr fa all rest q (kN e o (PZ ok true (ev x))) { H with cT:=ls }) (w2:look key l=none->mG C F Pr fa all rest q (kN e o (PZ ok false z)) { H with cT:=ls }):mG C F Pr fa all (o::rest) q e { H with cT:=ls }:=by
 cases hl:look key l with
 | none=>exact iS hw (λcall=>by rw [ho,yw key hS hi hT hkd hE hm hk hK hz hke call,hl]; cases ok<;>rfl) (w2 hl)
 | some x=>exact iS hw (λcall=>by rw [ho,yw key hS hi hT hkd hE hm hk hK hz hke call,hl]; cases ok<;>rfl) (w1 x hl)
def Lm {j:Nat} {sch:List (Nat×List Nat)} {t kt el:Nat} {m k:Operand} {tm te:TI} {v z:AV} {l:List (κ×β)} {ok:Bool} (key : κ) (hj:all[j]?=some o) (hw:kT all e o=some true) (ho:o.op=.lookup t m k ok) (hS:Sep H L) (hi:L[i]?=some (.map v (lP ek ev l))) (hT:C.T t=some tm) (hkd:tm.kind=.map kt el) (hE:C.T el=some te) (hm:kz e m=v) (hk:kz e k=ek key) (hK:sC C kt (ek key)=true) (hz:asAgg te te.zero=some z) (hke:∀ a b,ni (ek a) (ek b)=some (decide (a=b)))
  (w1:∀ x,look key l=some x->mI C F Pr fa all sch q (kN e o (PZ ok true (ev x))) { H with cT:=ls }) (w2:look key l=none->mI C F Pr fa all sch q (kN e o (PZ ok false z)) { H with cT:=ls }):mI C F Pr fa all ((j,[])::sch) q e { H with cT:=ls }:=by
 cases hl:look key l with
 | none=>exact kG hj hw (λcall=>by rw [ho,yw key hS hi hT hkd hE hm hk hK hz hke call,hl]; cases ok<;>rfl) (w2 hl)
 | some x=>exact kG hj hw (λcall=>by rw [ho,yw key hS hi hT hkd hE hm hk hK hz hke call,hl]; cases ok<;>rfl) (w1 x hl)
def zs {es:List (AV×AV×Nat)} (hp:es.Pairwise λa b=>a.2.2≠b.2.2) {j:Nat} (hj:j<es.length) (v:AV):rQ (es[j].2.2:Int) v es=some (es.modify j λe=>(e.1,v,e.2.2)):=by
 induction es generalizing j with
 | nil=>simp at hj
 | cons e es ih =>
   obtain ⟨a,b,c⟩:=e
   cases j with
   | zero=>simp [rQ]
   | succ j =>
     have hj':j<es.length:=by grind
     have hne:c≠es[j].2.2:=(List.pairwise_cons.mp hp).1 _ (List.getElem_mem hj')
     grind [rQ]
def sU {t kt el:Nat} {m k:Operand} {tm te:TI} {d:Option Nat} {v z:AV} {l:List (κ×β)} (key : κ) (y : β) (hS:Sep H L) (hi:L[i]?=some (.map v (lP ek ev l))) (hT:C.T t=some tm) (hkd:tm.kind=.map kt el) (hE:C.T el=some te) (hm:kz e m=v) (hk:kz e k=ek key) (hK:sC C kt (ek key)=true) (hz:asAgg te te.zero=some z) (hV:AV.Ap (ev y)=true) (hke:∀ a b,ni (ek a) (ek b)=some (decide (a=b))) :
  ∃ (u:AV) (H1:bV),(∀ call,lu (.mapEntry t m k) ⟨C,fa,call⟩ e { H with cT:=ls } d=some (u,{ H1 with cT:=ls }))/\∃ (w:AV) (st:Int) (H2:bV),u=.kO [w,.int .i64 st] /\
    (∀ (e2:Env) (ls2:mR) (t2:Nat) (m2 s2 x2:Operand) (X:Ctx) (d2:Option Nat),kz e2 m2=v->kz e2 s2=.int .i64 st->kz e2 x2=ev y->lu (.entryStore t2 m2 s2 x2) X e2 { H1 with cT:=ls2 } d2=some (.undef,{ H2 with cT:=ls2 }))/\Sep H2 (L.set i (.map v (lP ek ev (put key y l)))):=by
 obtain ⟨b,es,c,hb,rfl,hg,he,hst⟩:=hS.at hi
 have hlob:H.lo<=b:=bV.pq hg
 obtain ⟨f1,f2,f3⟩:=uh (ek:=ek) (ev:=ev) hke key l es he 0
 have fin:∀ es1 c1 es2 (st:Int) w,(∀ call,lu (.mapEntry t m k) ⟨C,fa,call⟩ e { H with cT:=ls } d=some (.kO [w,.int .i64 st],{ H.set b (.map es1 c1) with cT:=ls }))->rQ st (ev y) es1=some es2->oc es2=lP ek ev (put key y l)->wq es2 c1 ->
   ∃ (u:AV) (H1:bV),(∀ call,lu (.mapEntry t m k) ⟨C,fa,call⟩ e { H with cT:=ls } d=some (u,{ H1 with cT:=ls }))/\∃ (w:AV) (st:Int) (H2:bV),u=.kO [w,.int .i64 st] /\
   (∀ (e2:Env) (ls2:mR) (t2:Nat) (m2 s2 x2:Operand) (X:Ctx) (d2:Option Nat),kz e2 m2=.hm b->kz e2 s2=.int .i64 st->kz e2 x2=ev y->lu (.entryStore t2 m2 s2 x2) X e2 { H1 with cT:=ls2 } d2=some (.undef,{ H2 with cT:=ls2 }))/\Sep H2 (L.set i (.map (.hm b) (lP ek ev (put key y l)))):=by
  intro es1 c1 es2 st w h1 h2 h3 h4
  have hg1:(H.set b (.map es1 c1)).get b=some (.map es1 c1):=by grind [bV.nv]
  refine ⟨_,H.set b (.map es1 c1),h1,w,st,(H.set b (.map es1 c1)).set b (.map es2 c1),rfl,?_,?_⟩
  ·intro e2 ls2 t2 m2 s2 x2 X d2 hm2 hs2 hx2
   simp only [lu,w6,uc,hm2,hs2,hx2,AV.int?,bV.mV,hg1,hV,h2,bV.qy]
  ·refine hS.ou hi (by simpa using hS.lo) (by simp) ⟨b,es2,c1,by simp_all,rfl,?_,h3,h4⟩ ?_ ?_
   ·simp_all [bV.nv]
   ·intro b' hb' hne
    rw [bV.nv,if_neg (by rintro ⟨rfl,_⟩; exact hne rfl),bV.nv,if_neg (by rintro ⟨rfl,_⟩; exact hne rfl)]
   ·intro b' hb'; exact .inl hb'
 cases hl:look key l with
 | none =>
   refine fin (es++[(ek key,z,c)]) (c+1) (es++[(ek key,ev y,c)]) c z ?_ ?_ (f3 hl y c) (hst.snoc _ _)
   ·intro call
    simp only [lu,wG,ux,hT,hkd,hm,hE,bV.mV,hg,hk,hK,f1 hl,hz,bV.qy]
   ·have h0:=zs (hst.snoc (ek key) z).2 (j:=es.length) (by simp) (ev y)
    simp only [List.getElem_concat_length] at h0
    rw [h0]
    congr 1
    apply List.ext_getElem (by simp)
    grind
 | some x0 =>
   obtain ⟨j,hj,hjl,hjm⟩:=f2 x0 hl
   rw [Nat.zero_add] at hj
   have hst1:wq (es.modify j λx=>(ek key,x.2)) c:=hst.modify _ _ λ_=>rfl
   refine fin (es.modify j λx=>(ek key,x.2)) c ((es.modify j λx=>(ek key,x.2)).modify j λe=>(e.1,ev y,e.2.2)) (es[j].2.2:Nat) (ev x0) ?_ ?_ ?_ (hst1.modify _ _ λ_=>rfl)
   ·intro call
    have hso:xJ es j=es[j].2.2:=by simp [xJ,hjl]
    simp only [lu,wG,ux,hT,hkd,hm,hE,bV.mV,hg,hk,hK,hj,hso,bV.qy]
   ·have h0:=zs hst1.2 (j:=j) (by grind) (ev y)
    grind
   grind
end
section
variable {C:lS} {F:m0} {Pr:mM} {fa:kp} {e:Env} {all rest:List Oper} {o:Oper} {q:Env->bV->Prop}
variable {H:bV} {ls:mR} {L:List lF} {i:Nat}
variable {α:Type} {enc : α->List AV} {w tt:Bool} {v:AV} {n:Nat} {l:List α}
def Hy {n:Nat} {xs:List (List AV)} (h:∀ x∈xs,x.length=n):p5 n xs=true:=by
 simp_all [p5]
def EU {xs ys:List (List AV)} (hS:Sep H L) (hi:L[i]?=some (.sl w tt v n xs)) (hys:∀ x∈ys,x.length=n) (ht:tt=true\/ys.length=1) (hm:xs.length+ys.length<=tV) :
  ∃ v' H',append n { H with cT:=ls } v ys=some (v',{ H' with cT:=ls })/\Sep H' (L.set i (.sl w tt v' n (xs++ys))):=by
 have hlo:=hS.lo
 obtain ⟨hxl,hc⟩:=hS.at hi
 have hal:p5 n ys=true:=Hy hys
 have hxal:p5 n xs=true:=Hy hxl
 have hxy:∀ x∈xs++ys,x.length=n:=by
  grind
 have hset:∀ v',v'=v->Sep H (L.set i (.sl w tt v' n xs)):=by
  rintro v' rfl
  exact hS.ou hi hlo (Nat.le_refl _) ⟨hxl,hc⟩ (λ_ _ _=>rfl) (λb hb=>.inl hb)
 cases ys with
 | nil =>
   rw [List.append_nil]
   refine ⟨v,H,?_,hset v rfl⟩
   rcases hc with ⟨rfl,rfl⟩ | ⟨_,rfl⟩ | ⟨b,g,j,hb,rfl,hg,htj⟩<;>rfl
 | cons y ys =>
   have new:∀ (hle:Nat.ble (xs.length+(ys.length+1)) tV=true),append n { H with cT:=ls } v (y::ys)=tg n { H with cT:=ls } xs (y::ys)->∃ v' H',append n { H with cT:=ls } v (y::ys)=some (v',{ H' with cT:=ls })/\Sep H' (L.set i (.sl w tt v' n (xs++(y::ys)))):=by
    intro hle hap
    refine ⟨.hs H.size 0 0 (xs.length+(ys.length+1)),H.push (.lM 0 n (xs++(y::ys))),?_,?_⟩
    ·rw [hap]
     simp [tg,hxal,hle,bV.uz]
    ·refine hS.ou hi (by simp; omega) (by simp) ⟨hxy,.inr (.inr ⟨H.size,0,[],by simp,by simp,?_,λ_=>rfl⟩)⟩ ?_ ?_<;>grind [bV.pH,nb,lF.v]
   have hle:Nat.ble (xs.length+(ys.length+1)) tV=true:=Nat.ble_eq.mpr (by omega)
   rcases hc with ⟨rfl,rfl⟩ | ⟨_,rfl⟩ | ⟨b,g,j,hb,rfl,hg,htj⟩
   ·grind [append]
   ·have hbt:Nat.blt xs.length (xs.length+(ys.length+1))=true:=by simp
    grind [append]
   ·have hlob:H.lo<=b:=bV.pq hg
    have grow:j=[]->∃ v' H',append n { H with cT:=ls } (.hs b g 0 xs.length) (y::ys)=some (v',{ H' with cT:=ls })/\Sep H' (L.set i (.sl w tt v' n (xs++(y::ys)))):=by
     rintro rfl
     rw [List.append_nil] at hg
     refine ⟨.hs b (g+1) 0 (xs.length+(y::ys).length),H.set b (.lM (g+1) n (xs++(y::ys))),?_,?_⟩
     ·have h2:Nat.ble (xs.length+(ys.length+1)) xs.length=false:=by
       cases hq:Nat.ble (xs.length+(ys.length+1)) xs.length with
       | false=>rfl
       | true=>exact absurd (Nat.ble_eq.mp hq) (by omega)
      simp [append,hal,Bw,bV.mV,hg,hle,h2,bV.qy]
     ·refine hS.ou hi (by simp_all) (by simp) ⟨hxy,.inr (.inr ⟨b,g+1,[],by simp_all,by simp,?_,λ_=>rfl⟩)⟩ ?_ ?_
      ·grind [bV.nv]
      ·intro b' hb' hne; rw [bV.nv,if_neg (by rintro ⟨rfl,_⟩; exact hne rfl)]
      ·intro b' hb'; exact .inl hb'
    cases j with
    | nil=>grind
    | cons j0 j =>
      have htt:tt=false:=by grind
      have hy:ys=[]:=by
       grind
      subst hy
      refine ⟨.hs b g 0 (xs.length+1),H.set b (.lM g n (xs++y::j)),?_,?_⟩
      ·have h1:Nat.ble (xs.length+1) (xs++j0::j).length=true:=Nat.ble_eq.mpr (by simp)
       have h3:Nat.ble (xs.length+1) tV=true:=hle
       have h2:overwrite (xs++j0::j) xs.length [y]=xs++y::j:=by
        simp_all [overwrite]
       simp only [append,hal,Bw,bV.mV,hg,Nat.zero_add,List.length_singleton,h1,h2,h3,Nat.beq_refl,Bool.and_self,pc,bV.qy,Bool.and_true]
      ·refine hS.ou hi (by simp_all) (by simp) ⟨hxy,.inr (.inr ⟨b,g,j,by simp_all,by simp,?_,λh=>absurd h (by simp [htt])⟩)⟩ ?_ ?_
       ·grind [bV.nv]
       ·intro b' hb' hne; rw [bV.nv,if_neg (by rintro ⟨rfl,_⟩; exact hne rfl)]
       ·intro b' hb'; exact .inl hb'
def lO {cl:Call} {s x:Operand} {t u:Nat} {ti:TI} {d:Option Nat} (ys:List α) (hS:Sep H L) (hi:L[i]?=some (.sl w tt v n (l.map enc))) (hc:cl.callee=.builtin .append) (ha:cl.args.toList=[s,x]) (hts:cl.argTypes.toList=[t,u]) (hT:sM C [t,u]=some ti) (hSr:Fx C [t,u]=true) (hn:ti.size=n)
  (hs:kz e s=v) (hx:rM { H with cT:=ls } (kz e x)=some (ys.map enc)) (hok:∀ y,(enc y).all AV.mE=true) (ht:tt=true\/ys.length=1) (hm:l.length+ys.length<=tV) (henc:∀ x,(enc x).length=n) :
  ∃ v' H',(∀ call,lu (.call cl) ⟨C,fa,call⟩ e { H with cT:=ls } d=some (v',{ H' with cT:=ls }))/\Sep H' (L.set i (.sl w tt v' n ((l++ys).map enc))):=by
 obtain ⟨v',H',h1,h2⟩:=EU (ls:=ls) (ys:=ys.map enc) hS hi (by grind) (by grind) (by grind)
 refine ⟨v',H',λcall=>?_,by grind⟩
 have hall:Aa (ys.map enc)=true:=by
  grind [Aa]
 simp only [lu,qC,p8,hc,ha,hts,nU,Bm,tK,List.map_cons,List.map_nil,hT,hSr,hn,hs,hx,hall,h1]
def nO {X:Ctx} {d:Option Nat} {cl:Call} {t el:Nat} {x:Operand} {ti:TI} {h:bV} (hS:Sep H L) (hi:L[i]?=some (.sl w tt v n (l.map enc))) (hc:cl.callee=.builtin .len) (ha:cl.args.toList=[x]) (hts:cl.argTypes.toList=[t]) (hT:X.C.T t=some ti) (hk:ti.kind=.slice el) (hx:kz e x=v) :
  lu (.call cl) X e h d=some (.int .i64 l.length,h):=by
 obtain ⟨hxl,⟨h0,rfl⟩ | ⟨_,rfl⟩ | ⟨b,g,j,hb,rfl,hg,htj⟩⟩:=hS.at hi
 ·simp_all [lu,qC,p8,nU,yo,vY,xb,wN,rq]
 ·simp_all [lu,qC,p8,nU,yo,vY,xb,wN,rq]
 simp_all [lu,qC,p8,nU,yo,vY,xb,wN,rq]
def EA (v:AV) (m:Nat) (a:AV) (cs:List AV):Prop:=(∃ xs k,v=.sl xs (.exact k)/\a=.ip cs 0 false)\/∃ b g len,v=.hs b g 0 len/\a=.ptr b g m 0
def pM (a:AV) (o:Nat):AV:=match a with
 | .ip cs _ s=>.ip cs o s
 | .ptr b g i _=>.ptr b g i o
 | v=>v
def mq {m:Nat} {x : α} (h:m<l.length) (hx:l[m]=x):(l.map enc)[m]?=some (enc x):=by grind
def nM {P:AV->Prop} {h:bV} (hw:kT all e o=some true) (hop:∃ v,(∀ call,lu o.op ⟨C,fa,call⟩ e h o.dst=some (v,h))/\P v) (next:∀ v,P v->mG C F Pr fa all rest q (kN e o v) h):mG C F Pr fa all (o::rest) q e h:=by
 grind [iS]
def pv {j:Nat} {sch:List (Nat×List Nat)} {P:AV->Prop} {h:bV} (hj:all[j]?=some o) (hw:kT all e o=some true) (hop:∃ v,(∀ call,lu o.op ⟨C,fa,call⟩ e h o.dst=some (v,h))/\P v) (next:∀ v,P v->mI C F Pr fa all sch q (kN e o v) h):mI C F Pr fa all ((j,[])::sch) q e h:=by
 grind [kG]
def mS {t el:Nat} {x y:Operand} {ti te:TI} {k:IntKind} {m:Nat} {d:Option Nat} {cs:List AV} {xs:List (List AV)} (hS:Sep H L) (hi:L[i]?=some (.sl w tt v n xs)) (hT:C.T t=some ti) (hk:ti.kind=.slice el) (hE:C.T el=some te) (hn:te.size=n) (hx:kz e x=v) (hy:kz e y=.int k (m:Int)) (hm:xs[m]?=some cs) :
  ∃ a,(∀ call,lu (.indexAddr t x y) ⟨C,fa,call⟩ e { H with cT:=ls } d=some (a,{ H with cT:=ls }))/\a=pM a 0/\EA v m a cs:=by
 have hml:m<xs.length:=(List.getElem?_eq_some_iff.mp hm).1
 have hai:qD (.int k (m:Int))=some m:=rfl
 obtain ⟨hxl,⟨h0,rfl⟩ | ⟨_,rfl⟩ | ⟨b,g,j,hb,rfl,hg,htj⟩⟩:=hS.at hi
 ·grind
 ·refine ⟨.ip cs 0 false,λcall=>?_,rfl,.inl ⟨xs,_,rfl,rfl⟩⟩
  have hl:Nat.beq cs.length te.size=true:=by
   rw [hn,hxl _ (List.mem_of_getElem? hm)]; simp
  simp_all [lu,qZ,qh,sr,rp]
 ·refine ⟨.ptr b g m 0,λcall=>?_,rfl,.inr ⟨b,g,_,rfl,rfl⟩⟩
  have h1:Nat.blt m xs.length=true:=by simp_all
  simp only [lu,qZ,qh,hT,hy,hai,hk,hE,hx,sr,bV.mV,hg,h1,hn,Nat.beq_refl,Bool.and_self,pc,Nat.zero_add]
def EA.Hq {m o off ft f t:Nat} {a:AV} {cs:List AV} {x:Operand} {X:Ctx} {d:Option Nat} {ti:TI} {fs:List (Nat×Nat)} {h:bV} (hE:EA v m a cs) (hT:X.C.T t=some ti) (hk:ti.kind=.struct fs) (hf:fs[f]?=some (off,ft)) (hx:kz e x=pM a o):lu (.fieldAddr t x f) X e h d=some (pM a (o+off),h):=by
 rcases hE with ⟨xs,k,rfl,rfl⟩ | ⟨b,g,len,rfl,rfl⟩<;>simp only [lu,tb,sd,hT,hk,hf,hx,pM,Bn,NB,D9,pc,mD]
def pr {m o t:Nat} {a r:AV} {cs:List AV} {x:Operand} {X:Ctx} {d:Option Nat} {ti:TI} {xs:List (List AV)} (hS:Sep H L) (hi:L[i]?=some (.sl w tt v n xs)) (hm:xs[m]?=some cs) (hE:EA v m a cs) (hT:X.C.T t=some ti) (hp:part ti cs o=some r) (hx:kz e x=pM a o):lu (.load t x) X e { H with cT:=ls } d=some (r,{ H with cT:=ls }):=by
 have hml:m<xs.length:=(List.getElem?_eq_some_iff.mp hm).1
 obtain ⟨hxl,hc⟩:=hS.at hi
 rcases hE with ⟨xs',k,rfl,rfl⟩ | ⟨b,g,len,rfl,rfl⟩
 ·simp_all [lu,wK,uV,pM,sD,Sh,mD]
 ·rcases hc with ⟨h0,hv⟩ | ⟨_,hv⟩ | ⟨b',g',j,hb,hv,hg,htj⟩
  ·cases hv
  ·cases hv
  ·cases hv
   have hmj:(xs++j)[m]?=some cs:=by grind
   simp_all [lu,wK,uV,pM,sD,BR,bV.mV,mD]
theorem Jh {cs new cs':List AV} {o:Nat} (h:pg cs o new=some cs'):cs'.length=cs.length:=by
 unfold pg at h
 split at h
 ·rename_i hle
  have hle:=Nat.ble_eq.mp hle
  grind [qO]
 ·cases h
def S6 {m o t:Nat} {a r:AV} {cs new cs':List AV} {x y:Operand} {d:Option Nat} {ti:TI} {xs:List (List AV)} (hS:Sep H L) (hi:L[i]?=some (.sl true tt v n xs)) (hm:xs[m]?=some cs) (hE:EA v m a cs) (hT:C.T t=some ti) (hx:kz e x=pM a o) (hy:kz e y=r) (hnew:cellsOf ti r=some new) (hok:new.all AV.mE=true) (hsp:pg cs o new=some cs') :
  ∃ u H',(∀ call,lu (.store t x y) ⟨C,fa,call⟩ e { H with cT:=ls } d=some (u,{ H' with cT:=ls }))/\u=.undef/\Sep H' (L.set i (.sl true tt v n (xs.set m cs'))):=by
 have hml:m<xs.length:=(List.getElem?_eq_some_iff.mp hm).1
 obtain ⟨hxl,hc⟩:=hS.at hi
 rcases hc with ⟨h0,rfl⟩ | ⟨h0 | h0,_⟩ | ⟨b,g,j,hb,rfl,hg,htj⟩
 ·grind
 ·cases h0
 ·grind
 ·rcases hE with ⟨xs',k,h0,_⟩ | ⟨b',g',len,hv,rfl⟩
  ·cases h0
  ·cases hv
   have hlob:H.lo<=b:=bV.pq hg
   have hmj:(xs++j)[m]?=some cs:=by grind
   refine ⟨.undef,H.set b (.lM g n ((xs.set m cs')++j)),λcall=>?_,rfl,?_⟩
   ·have hse:(xs++j).set m cs'=xs.set m cs'++j:=by grind
    simp only [lu,zv,xR,hT,hx,hy,xv,hnew,hok,pM,ze,DL,bV.mV,hg,Nat.beq_refl,hmj,hsp,bV.qy,hse]
   ·refine hS.ou hi (by simpa using hS.lo) (by simp) ⟨?_,.inr (.inr ⟨b,g,j,by simp_all,by simp,?_,htj⟩)⟩ ?_ ?_
    ·intro z hz
     rcases List.mem_or_eq_of_mem_set hz with hz | rfl
     ·grind
     ·rw [Jh hsp]; grind
    ·grind [bV.nv]
    ·intro b' hb' hne; rw [bV.nv,if_neg (by rintro ⟨rfl,_⟩; exact hne rfl)]
    ·intro b' hb'; exact .inl hb'
def oY {m o t:Nat} {a r:AV} {new:List AV} {x y:Operand} {d:Option Nat} {ti:TI} (z z' : α) (hS:Sep H L) (hi:L[i]?=some (.sl true tt v n (l.map enc))) (hml:m<l.length) (hz:l[m]=z) (hE:EA v m a (enc z)) (hT:C.T t=some ti) (hx:kz e x=pM a o) (hy:kz e y=r) (hnew:cellsOf ti r=some new) (hok:new.all AV.mE=true) (hsp:pg (enc z) o new=some (enc z')) :
  ∃ u H',(∀ call,lu (.store t x y) ⟨C,fa,call⟩ e { H with cT:=ls } d=some (u,{ H' with cT:=ls }))/\u=.undef/\Sep H' (L.set i (.sl true tt v n ((l.set m z').map enc))):=by
 rw [List.map_set]
 exact S6 hS hi (mq hml hz) hE hT hx hy hnew hok hsp
def Su (v:AV) (k:Nat) (v':AV):Prop:=(v=.sl [] .nil/\v'=.sl [] .nil/\k=0)\/(v=.sl [] (.exact 0)/\v'=.sl [] (.exact 0)/\k=0)\/∃ b g len,v=.hs b g 0 len/\v'=.hs b g 0 k
def Rn {t el k:Nat} {x y:Operand} {ti te:TI} {kd:IntKind} {d:Option Nat} {xs:List (List AV)} (hS:Sep H L) (hi:L[i]?=some (.sl true tt v n xs)) (hT:C.T t=some ti) (hk:ti.kind=.slice el) (hE:C.T el=some te) (hn:te.size=n) (hx:kz e x=v) (hy:kz e y=.int kd (k:Int)) (hkl:k<=xs.length) :
  ∃ v' H',(∀ call,lu (.slice t x none (some y) none) ⟨C,fa,call⟩ e { H with cT:=ls } d=some (v',{ H' with cT:=ls }))/\Su v k v'/\Sep H' (L.set i (.sl true false v' n (xs.take k))):=by
 obtain ⟨hxl,hc⟩:=hS.at hi
 have hai:qD (.int kd (k:Int))=some k:=rfl
 rcases hc with ⟨h0,rfl⟩ | ⟨h0 | h0,rfl⟩ | ⟨b,g,j,hb,rfl,hg,htj⟩
 ·subst h0
  have hk0:k=0:=by grind
  subst hk0
  refine ⟨.sl [] .nil,H,λcall=>?_,.inl ⟨rfl,rfl,rfl⟩,?_⟩
  ·simp only [lu,rm,qR,hT,hk,hE,hx,hy,slice,wQ,pt,bound,hai,rF,qa,rn]
   rfl
  ·exact hS.ou hi hS.lo (Nat.le_refl _) ⟨by simp,.inl ⟨by simp,rfl⟩⟩ (λ_ _ _=>rfl) (λb hb=>by simp [nb,lF.v] at hb)
 ·cases h0
 ·subst h0
  have hk0:k=0:=by grind
  subst hk0
  refine ⟨.sl [] (.exact 0),H,λcall=>?_,.inr (.inl ⟨rfl,rfl,rfl⟩),?_⟩
  ·simp only [lu,rm,qR,hT,hk,hE,hx,hy,slice,wQ,pt,bound,hai,rF,qa,rn]
   rfl
  ·exact hS.ou hi hS.lo (Nat.le_refl _) ⟨by simp,.inr (.inl ⟨.inr (by simp),rfl⟩)⟩ (λ_ _ _=>rfl) (λb hb=>by simp [nb,lF.v] at hb)
 ·have h0:Nat.ble 0 k=true:=Nat.ble_eq.mpr (Nat.zero_le _)
  have h1:Nat.ble k (xs++j).length=true:=Nat.ble_eq.mpr (by grind)
  have h2:Nat.ble 0 (xs++j).length=true:=Nat.ble_eq.mpr (Nat.zero_le _)
  refine ⟨.hs b g 0 k,H,λcall=>?_,.inr (.inr ⟨b,g,_,rfl,rfl⟩),?_⟩
  ·simp only [lu,rm,qR,hT,hk,hE,hx,hy,slice,C4,bV.mV,hg,hn,Nat.beq_refl,Bool.and_self,pt,bound,hai,rF,Option.getD_none,Nat.zero_add,h0,h1,h2,Bool.and_true,Bool.true_and,B4,pc,Nat.sub_zero,mD]
  ·refine hS.ou hi hS.lo (Nat.le_refl _) ⟨λz hz=>hxl z (List.mem_of_mem_take hz),.inr (.inr ⟨b,g,xs.drop k++j,hb,?_,?_,λh=>by cases h⟩)⟩ (λ_ _ _=>rfl) (λb' hb'=>.inl hb')
   ·grind
   ·rw [hg,<- List.append_assoc,List.take_append_drop]
def vG {t el k:Nat} {x y:Operand} {ti te:TI} {kd:IntKind} {d:Option Nat} (hS:Sep H L) (hi:L[i]?=some (.sl true tt v n (l.map enc))) (hT:C.T t=some ti) (hk:ti.kind=.slice el) (hE:C.T el=some te) (hn:te.size=n) (hx:kz e x=v) (hy:kz e y=.int kd (k:Int)) (hkl:k<=l.length) :
  ∃ v' H',(∀ call,lu (.slice t x none (some y) none) ⟨C,fa,call⟩ e { H with cT:=ls } d=some (v',{ H' with cT:=ls }))/\Su v k v'/\Sep H' (L.set i (.sl true false v' n ((l.take k).map enc))):=by
 rw [List.map_take]
 exact Rn hS hi hT hk hE hn hx hy (by grind)
def uE {t el k:Nat} {x y:Operand} {ti te:TI} {kd:IntKind} {d:Option Nat} {v':AV} {ys:List (List AV)} {X:Ctx} (hS:Sep H L) (hi:L[i]?=some (.sl true tt v' n ys)) (hc:Su v k v') (hT:X.C.T t=some ti) (hk:ti.kind=.slice el) (hE:X.C.T el=some te) (hn:te.size=n) (hx:kz e x=v) (hy:kz e y=.int kd (k:Int)) :
  lu (.slice t x none (some y) none) X e { H with cT:=ls } d=some (v',{ H with cT:=ls }):=by
 have hai:qD (.int kd (k:Int))=some k:=rfl
 obtain ⟨hxl,hq⟩:=hS.at hi
 rcases hc with ⟨rfl,rfl,rfl⟩ | ⟨rfl,rfl,rfl⟩ | ⟨b,g,len,rfl,rfl⟩
 ·simp only [lu,rm,qR,hT,hk,hE,hx,hy,slice,wQ,pt,bound,hai,rF,qa,rn]
  rfl
 ·simp only [lu,rm,qR,hT,hk,hE,hx,hy,slice,wQ,pt,bound,hai,rF,qa,rn]
  rfl
 ·rcases hq with ⟨_,hv⟩ | ⟨_,hv⟩ | ⟨b',g',j,hb,hv,hg,htj⟩
  ·cases hv
  ·cases hv
  ·cases hv
   have h0:Nat.ble 0 ys.length=true:=Nat.ble_eq.mpr (Nat.zero_le _)
   have h1:Nat.ble ys.length (ys++j).length=true:=Nat.ble_eq.mpr (by simp)
   have h2:Nat.ble 0 (ys++j).length=true:=Nat.ble_eq.mpr (Nat.zero_le _)
   simp only [lu,rm,qR,hT,hk,hE,hx,hy,slice,C4,bV.mV,hg,hn,Nat.beq_refl,Bool.and_self,pt,bound,hai,rF,Option.getD_none,Nat.zero_add,h0,h1,h2,Bool.and_true,Bool.true_and,B4,pc,Nat.sub_zero,mD]
def tW {t m:Nat} {x y:Operand} {te:TI} {k k':IntKind} {d:Option Nat} (hS:Sep H L) (hT:uj C t=some te) (hx:kz e x=.int k (m:Int)) (hy:kz e y=.int k' (m:Int)) (hn:te.size=n) (hz:te.zero.length=n) (hm:m<=1048576) (hb:te.bytes<=1024) :
  ∃ v H',(∀ call,lu (.makeSlice t x y) ⟨C,fa,call⟩ e { H with cT:=ls } d=some (v,{ H' with cT:=ls }))/\Sep H' (.sl true true v n (List.replicate m te.zero)::L):=by
 have hlo:=hS.lo
 refine ⟨.hs H.size 0 0 m,H.push (.lM 0 n (List.replicate m te.zero)),λcall=>?_,?_⟩
 ·have h1:yX 0 (m:Int)=true:=by rfl
  have h2:yX (m:Int) (m:Int)=true:=by rw [uC]; simp
  have h3:yX (m:Int) 4294967295=true:=by grind [uC]
  have h4:Nat.ble ((m:Int).toNat*te.bytes) 140737488355328=true:=by
   apply Nat.ble_eq.mpr
   calc (m:Int).toNat*te.bytes<=1048576*1024:=Nat.mul_le_mul (by omega) hb
    _<=_:=by decide
  simp only [lu,xZ,uY,hT,hx,hy,AV.int?,h1,h2,h3,h4,Bool.and_self,hn,bV.uz]
  rfl
 ·refine hS.new (by simp; omega) (by simp) ⟨?_,.inr (.inr ⟨H.size,0,[],by simp,by simp,?_,λ_=>rfl⟩)⟩ ?_ ?_<;>grind [bV.pH,nb,lF.v]
end
section
variable {C:lS} {F:m0} {Pr:mM} {fa:kp} {e:Env} {all rest:List Oper} {o:Oper} {q:Env->bV->Prop}
variable {H:bV} {ls:mR} {L:List lF} {i:Nat} {v:AV} {cs:List AV}
def CE {d:Nat} (hS:Sep H L) (hd:fa.cT.elem d=false):∃ v H',newVar fa d { H with cT:=ls } cs=some (v,{ H' with cT:=ls })/\∃ b,v=.ptr b 0 0 0/\Sep H' (.obj (.ptr b 0 0 0) cs::L):=by
 have hlo:=hS.lo
 refine ⟨.ptr H.size 0 0 0,H.push (.lM 0 cs.length [cs]),?_,H.size,rfl,?_⟩
 ·grind [newVar,bV.uz]
 ·refine hS.new (by simp; omega) (by simp) ⟨H.size,cs.length,by simp,rfl,?_⟩ ?_ ?_<;>grind [bV.pH,nb,lF.v]
def zm {t d:Nat} {ti:TI} (hS:Sep H L) (hd:fa.cT.elem d=false) (hT:C.T t=some ti):∃ v H',(∀ call,lu (.alloc t) ⟨C,fa,call⟩ e { H with cT:=ls } (some d)=some (v,{ H' with cT:=ls }))/\∃ b,v=.ptr b 0 0 0/\Sep H' (.obj (.ptr b 0 0 0) ti.zero::L):=by
 obtain ⟨v,H',h1,h2⟩:=CE (ls:=ls) (cs:=ti.zero) hS hd
 refine ⟨v,H',λcall=>?_,h2⟩
 simp_all [lu,LD,Cc]
def sa {t d:Nat} {ti:TI} {x:Operand} {r:AV} (hS:Sep H L) (hd:fa.cT.elem d=false) (hT:C.T t=some ti) (hx:kz e x=r) (hc:cellsOf ti r=some cs) (hok:cs.all AV.mE=true):∃ v H',(∀ call,lu (.box t x) ⟨C,fa,call⟩ e { H with cT:=ls } (some d)=some (v,{ H' with cT:=ls }))/\∃ b,v=.ptr b 0 0 0/\Sep H' (.obj (.ptr b 0 0 0) cs::L):=by
 obtain ⟨v,H',h1,h2⟩:=CE (ls:=ls) (cs:=cs) hS hd
 refine ⟨v,H',λcall=>?_,h2⟩
 simp only [lu,OE,JM,hT,hx,hc,hok,h1]
def Sep.p0 (hS:Sep H L) (hi:L[i]?=some (.obj v cs)):v=pM v 0:=by
 obtain ⟨b,z,hb,rfl,hg⟩:=hS.at hi; rfl
def qH {o off ft f t:Nat} {x:Operand} {X:Ctx} {d:Option Nat} {ti:TI} {fs:List (Nat×Nat)} {h:bV} (hS:Sep H L) (hi:L[i]?=some (.obj v cs)) (hT:X.C.T t=some ti) (hk:ti.kind=.struct fs) (hf:fs[f]?=some (off,ft)) (hx:kz e x=pM v o):lu (.fieldAddr t x f) X e h d=some (pM v (o+off),h):=by
 obtain ⟨b,z,hb,rfl,hg⟩:=hS.at hi
 simp_all [lu,tb,sd,pM,Bn,D9,pc,mD]
def rl {x:Operand} {X:Ctx} {d:Option Nat} {h:bV} {o:Nat} (hS:Sep H L) (hi:L[i]?=some (.obj v cs)) (hx:kz e x=pM v o):lu (.nilCheck x) X e h d=some (pM v o,h):=by
 obtain ⟨b,z,hb,rfl,hg⟩:=hS.at hi
 simp only [lu,wY,hx,pM,BD,mD]
def nY {o t:Nat} {r:AV} {x:Operand} {X:Ctx} {d:Option Nat} {ti:TI} (hS:Sep H L) (hi:L[i]?=some (.obj v cs)) (hT:X.C.T t=some ti) (hp:part ti cs o=some r) (hx:kz e x=pM v o):lu (.load t x) X e { H with cT:=ls } d=some (r,{ H with cT:=ls }):=by
 obtain ⟨b,z,hb,rfl,hg⟩:=hS.at hi
 simp_all [lu,wK,uV,pM,sD,BR,bV.mV,mD]
def nZ {o t:Nat} {r:AV} {new cs':List AV} {x y:Operand} {d:Option Nat} {ti:TI} (hS:Sep H L) (hi:L[i]?=some (.obj v cs)) (hT:C.T t=some ti) (hx:kz e x=pM v o) (hy:kz e y=r) (hnew:cellsOf ti r=some new) (hok:new.all AV.mE=true) (hsp:pg cs o new=some cs') :
  ∃ u H',(∀ call,lu (.store t x y) ⟨C,fa,call⟩ e { H with cT:=ls } d=some (u,{ H' with cT:=ls }))/\u=.undef/\Sep H' (L.set i (.obj v cs')):=by
 obtain ⟨b,z,hb,rfl,hg⟩:=hS.at hi
 have hlob:H.lo<=b:=bV.pq hg
 refine ⟨.undef,H.set b (.lM 0 z [cs']),λcall=>?_,rfl,?_⟩
 ·simp only [lu,zv,xR,hT,hx,hy,xv,hnew,hok,pM,ze,DL,bV.mV,hg,Nat.beq_refl,List.getElem?_cons_zero,hsp,bV.qy,List.set_cons_zero]
 ·refine hS.ou hi (by simpa using hS.lo) (by simp) ⟨b,z,by simp_all,rfl,?_⟩ ?_ ?_
  ·grind [bV.nv]
  ·intro b' hb' hne; rw [bV.nv,if_neg (by rintro ⟨rfl,_⟩; exact hne rfl)]
  ·intro b' hb'; exact .inl hb'
end
def C2 {H:bV} {L:List lF} {i:Nat} {n:Nat} {tt:Bool} {v:AV} {m:Nat} {xs:List (List AV)} (hS:Sep H L) (hi:L[i]?=some (.sl true tt v m xs)):qI (n+1) v v=true:=by
 obtain ⟨hxl,⟨h0,rfl⟩ | ⟨h0 | h0,rfl⟩ | ⟨b,g,j,hb,rfl,hg,htj⟩⟩:=hS.at hi
 ·rfl
 ·cases h0
 ·subst h0; rfl
 ·simp [qI]
def pI {X:Ctx} {all:List Oper} {e:Env} {h h':bV} {i d:Nat} {o:Oper} {v:AV} (ho:all[i]?=some o) (hw:kT all e o=some true) (hd:o.dst=some d) (hop:lu o.op X e h (some d)=some (v,h')) (hv:nz e d=v) (hq:qI 8 v v=true):again X all e h i=true:=by
 grind [again,E2]
section
variable {C:lS} {F:m0} {Pr:mM} {fa:kp} {e:Env} {h:bV} {all rest:List Oper} {o:Oper} {q:Env->bV->Prop} {H:bV} {ls:mR}
def Ei {i:Nat} {chk:List Nat} {sch:List (Nat×List Nat)} {v:AV} {h1:bV} (ho:all[i]?=some o) (hw:kT all e o=some true) (hop:∃ m,∀ k,m<=k->lu o.op (XN C F Pr fa k) e h o.dst=some (v,h1))
  (hc:∀ call,∀ j∈chk,again ⟨C,fa,call⟩ all (kN e o v) h1 j=true) (w:mI C F Pr fa all sch q (kN e o v) h1):mI C F Pr fa all ((i,chk)::sch) q e h:=by
 obtain ⟨m,hm⟩:=hop
 obtain ⟨e2,h2,⟨m2,hm2⟩,q2⟩:=w
 refine ⟨e2,h2,⟨max m m2,λk hk=>?_⟩,q2⟩
 grind [again,kN,uI,rU,Ae]
def vd {j:Nat} {chk:List Nat} {sch:List (Nat×List Nat)} {P:AV->bV->Prop} (hj:all[j]?=some o) (hw:kT all e o=some true) (hop:∃ v H',(∀ call,lu o.op ⟨C,fa,call⟩ e { H with cT:=ls } o.dst=some (v,{ H' with cT:=ls }))/\P v H')
  (next:∀ v H',P v H'->(∀ call,∀ j∈chk,again ⟨C,fa,call⟩ all (kN e o v) { H' with cT:=ls } j=true)/\mI C F Pr fa all sch q (kN e o v) { H' with cT:=ls }):mI C F Pr fa all ((j,chk)::sch) q e { H with cT:=ls }:=by
 obtain ⟨v,H',h1,h2⟩:=hop
 obtain ⟨n1,n2⟩:=next v H' h2
 exact Ei hj hw ⟨0,λk _=>h1 _⟩ n1 n2
end
def A9 {p:Nat->Prop} {a:Nat} (h:p a):∀ j∈[a],p j:=by grind
def EO {p:Nat->Prop} {a:Nat} {l:List Nat} (h:p a) (hl:∀ j∈l,p j):∀ j∈a::l,p j:=by
 grind
structure ka (α:Type) where
 l:List α
 c:oW
 ok:l.length<=s9
 nl:c=.nil->l=[]
def ka.av {α:Type} (enc : α->List AV) (r:ka α):AV:=.sl (r.l.map enc) r.c
def Row.mi {α:Type} (r:Row α):ka α:=⟨r.l,r.c,r.ok,r.nl⟩
section
variable {H:bV} {L:List lF} {i:Nat} {v:AV} {cs:List AV} {w tt:Bool} {n:Nat}
variable {α:Type} {enc : α->List AV} {l:List α}
def Hm {xs:List (List AV)} {sn:Bool} (hS:Sep H L) (hi:L[i]?=some (.sl w tt v n xs)):∃ c,(rp c=true->sn=true)/\(c=.nil->xs=[])/\∀ ls m,(∀ x∈xs,kP (freeze sn { H with cT:=ls } m) x=some x)->freeze sn { H with cT:=ls } (m+1) v=some (.sl xs c):=by
 obtain ⟨hxl,⟨h0,rfl⟩ | ⟨_,rfl⟩ | ⟨b,g,j,hb,rfl,hg,htj⟩⟩:=hS.at hi
 ·subst h0; exact ⟨.nil,λh=>(by cases h),λ_=>rfl,λ_ _ _=>rfl⟩
 ·exact ⟨.exact xs.length,λh=>(by cases h),λh=>(by cases h),λ_ _ _=>rfl⟩
 ·refine ⟨BN sn,?_,?_,λls m hm=>?_⟩
  ·cases sn
   ·intro h; cases h
   simp
  ·cases sn<;>exact λh=>by cases h
  ·have h2:Nat.ble (0+xs.length) (xs++j).length=true:=Nat.ble_eq.mpr (by simp)
   have h3:((xs++j).drop 0).take xs.length=xs:=by simp
   have h5:∀ ys:List (List AV),(∀ x∈ys,kP (freeze sn { H with cT:=ls } m) x=some x)->pF (freeze sn { H with cT:=ls } m) ys=some ys:=by
    intro ys
    induction ys<;>grind [pF]
   simp only [freeze,bV.mV,hg,Nat.beq_refl,h2,Bool.and_self,h3,h5 xs hm]
def mz (hS:Sep H L) (hi:L[i]?=some (.sl w tt v n (l.map enc))) (hl:l.length<=s9):∃ r:Row α,r.l=l/\∀ ls m,(∀ x,kP (freeze false { H with cT:=ls } m) (enc x)=some (enc x))->freeze false { H with cT:=ls } (m+1) v=some (r.av enc):=by
 obtain ⟨c,h1,h2,h3⟩:=Hm (sn:=false) hS hi
 refine ⟨⟨l,c,hl,?_,λh=>List.map_eq_nil_iff.mp (h2 h)⟩,rfl,λls m hm=>h3 ls m ?_⟩<;>grind
def Rf (hS:Sep H L) (hi:L[i]?=some (.sl w tt v n (l.map enc))) (hl:l.length<=s9):∃ r:ka α,r.l=l/\∀ ls m,(∀ x,kP (freeze true { H with cT:=ls } m) (enc x)=some (enc x))->freeze true { H with cT:=ls } (m+1) v=some (r.av enc):=by
 obtain ⟨c,h1,h2,h3⟩:=Hm (sn:=true) hS hi
 refine ⟨⟨l,c,hl,λh=>List.map_eq_nil_iff.mp (h2 h)⟩,rfl,λls m hm=>h3 ls m ?_⟩
 grind
theorem GY {f:AV->Option AV}:∀ {es:List (AV×AV×Nat)},(∀ x∈oc es,f x.2=some x.2)->qM f es=some (oc es)
 | [],_=>rfl
 | (k,v,c)::es,h=>by
   have h1:f v=some v:=h (k,v) (by simp [oc])
   have h2:qM f es=some (oc es):=GY λx hx=>h x (by simp only [oc,List.map_cons,List.mem_cons]; exact .inr hx)
   simp only [qM,h1,h2,oc,List.map_cons]
def vO {sn:Bool} {es:List (AV×AV)} (hS:Sep H L) (hi:L[i]?=some (.map v es)) (ls:mR) (m:Nat) (hm:∀ x∈es,freeze sn { H with cT:=ls } m x.2=some x.2):freeze sn { H with cT:=ls } (m+1) v=some (.fm es sn):=by
 obtain ⟨b,es',c,hb,rfl,hg,rfl,hst⟩:=hS.at hi
 grind [freeze,bV.mV,GY]
def oA {sn:Bool} {cs':List AV} (hS:Sep H L) (hi:L[i]?=some (.obj v cs)) (ls:mR) (m:Nat) (hm:kP (freeze sn { H with cT:=ls } m) cs=some cs'):freeze sn { H with cT:=ls } (m+1) v=some (.ip cs' 0 sn):=by
 obtain ⟨b,z,hb,rfl,hg⟩:=hS.at hi
 grind [freeze,bV.mV]
end
def AV.ot:AV->Bool
 | .agg l=>l.all AV.mE
 | .kO _=>false
 | _=>true
theorem L3 {sn:Bool} {h:bV} {n:Nat} {v w:AV} (hp:v.nE=true) (hf:freeze sn h n v=some w):w=v:=by
 cases n with
 | zero=>simp [freeze] at hf
 | succ n =>
   cases v<;>simp only [AV.nE,Bool.false_eq_true] at hp<;>simp only [freeze,Option.some.injEq] at hf<;>try exact hf.symm
   ·grind
   ·grind
   grind
theorem wu {f:AV->Option AV}:∀ {l l':List AV},(∀ x∈l,∀ y,f x=some y->y=x)->kP f l=some l'->l'=l
 | [],_,_,h=>by grind [kP]
 | a::l,l',hx,h=>by
   simp only [kP] at h
   split at h
   ·cases h
   ·rename_i w hw
    split at h
    ·cases h
    ·rename_i r hr
     simp only [Option.some.injEq] at h
     subst h
     rw [hx a (by simp) w hw,wu (λx hm=>hx x (by simp [hm])) hr]
theorem Hh {hp:bV} {n:Nat} (c:List AV) (o:Nat) (s:Bool):freeze true hp (n+1) (.ip c o s)=some (.ip c o s):=by simp [freeze]
theorem G4 {hp:bV} {n:Nat} (c:List (AV×AV)) (s:Bool):freeze true hp (n+1) (.fm c s)=some (.fm c s):=by simp [freeze]
theorem FU {h:bV} {n:Nat} {v w:AV} (hr:v.sQ=false) (hc:v.mE=true) (hf:freeze true h n v=some w):w=v:=by
 cases n with
 | zero=>simp [freeze] at hf
 | succ n =>
   cases v with
   | undef=>cases hc
   | la _ _=>cases hc
   | agg _=>cases hc
   | kO _=>cases hc
   | ptr _ _ _ _=>cases hr
   | hs _ _ _ _=>cases hr
   | hm _=>cases hr
   | sl xs c=>cases c<;>exact (Option.some.inj hf).symm
   | ip c o s=>grind [Hh]
   | fm c s=>grind [G4]
   | ly f a c =>
     simp only [AV.sQ,Bool.not_eq_false',Bool.and_eq_true,List.all_eq_true] at hr
     grind [freeze,wu,L3]
   | _=>exact (Option.some.inj hf).symm
theorem Lb {l:List AV} (hr:(AV.agg l).sQ=false) {x:AV} (hx:x∈l) (hc:x.mE=true):x.sQ=false:=by
 simp only [AV.sQ,List.any_eq_false] at hr
 have h1:=hr x hx
 cases x with
 | ptr _ _ _ _=>simp at h1
 | hs _ _ _ _=>simp at h1
 | hm _=>simp at h1
 | ly f a c=>grind [AV.sQ]
 | agg _=>cases hc
 | _=>rfl
theorem OH {h:bV} {n:Nat} {v w:AV} (hr:v.sQ=false) (hfi:v.ot=true) (hf:freeze true h n v=some w):w=v:=by
 cases n with
 | zero=>simp [freeze] at hf
 | succ n =>
   cases v with
   | agg l =>
     rw [Rq] at hf
     split at hf
     ·rename_i l' hl
      simp only [Option.some.injEq] at hf
      subst hf
      simp only [AV.ot,List.all_eq_true] at hfi
      rw [wu (λx hx y hy=>FU (Lb hr hx (hfi x hx)) (hfi x hx) hy) hl]
     grind
   | kO l=>cases hfi
   | undef=>cases hf
   | la _ _=>cases hf
   | _=>exact FU hr rfl hf
def lj {h:bV} {args args':List AV} (hf:kP (freeze true h 8) args=some args') (hfi:args.all AV.ot=true):oi h args=some args':=by
 grind [oi,AV.sQ,wu,OH]
theorem Sep.ot {H:bV} {L:List lF} (h:Sep H L) {i:Nat} {r:lF} (hi:L[i]?=some r):AV.ot r.v=true:=by
 cases r with
 | sl w t v n xs=>obtain ⟨hl,⟨_,rfl⟩ | ⟨_,rfl⟩ | ⟨b,g,j,hb,rfl,hq,ht⟩⟩:=h.at hi<;>rfl
 | map v es=>obtain ⟨b,es',c,hb,rfl,hq,he,hst⟩:=h.at hi; rfl
 | obj v cs=>obtain ⟨b,z,hb,rfl,hq⟩:=h.at hi; rfl
def EI {α:Type} {enc : α->List AV} {hp:bV} {n:Nat} (r:ka α):freeze true hp (n+1) (ka.av enc r)=some (ka.av enc r):=by
 grind [ka.av,freeze]
theorem oD {α:Type} {enc : α->List AV} {hp:bV} {n:Nat} (r:Row α):freeze true hp (n+1) (Row.av enc r)=some (Row.av enc r):=EI r.mi
def Sc {sn:Bool} {hp:bV} {n:Nat} (c:List AV) (o:Nat):freeze sn hp (n+1) (.ip c o false)=some (.ip c o false):=by rfl
def R0 {sn:Bool} {hp:bV} {n:Nat} (c:List (AV×AV)):freeze sn hp (n+1) (.fm c false)=some (.fm c false):=by rfl
def tn {C:lS} {fa:kp} {e:Env} {h:bV} {call:sG} {f:Nat} {a c:Array Operand} {as cs:List AV} {d:Option Nat} (ha:a.toList.map (kz e)=as) (hc:c.toList.map (kz e)=cs) (hok:(as.all AV.mE&&cs.all AV.mE)=true):lu (.makeFunc (.func f) a c) ⟨C,fa,call⟩ e h d=some (.ly f as cs,h):=by
 simp only [lu,wI,uo,ha,hc,hok]
section
variable {C:lS} {fa:kp} {e:Env} {h:bV} {α:Type} {enc : α->List AV}
def nA {X:Ctx} {d:Option Nat} {t el:Nat} {x:Operand} {cl:Call} {ti:TI} {r:ka α} (hc:cl.callee=.builtin .len) (ha:cl.args.toList=[x]) (hts:cl.argTypes.toList=[t]) (hT:X.C.T t=some ti) (hk:ti.kind=.slice el) (hx:kz e x=r.av enc) :
  lu (.call cl) X e h d=some (.int .i64 r.l.length,h):=by
 simp_all [lu,qC,p8,nU,yo,vY,xb,ka.av,wN,rq]
def m8 {X:Ctx} {d:Option Nat} {t el:Nat} {x y:Operand} {ti te:TI} {r:ka α} {k:IntKind} {n:Nat} (hT:X.C.T t=some ti) (hk:ti.kind=.slice el) (hE:X.C.T el=some te) (hx:kz e x=r.av enc) (hi:kz e y=.int k (n:Int))
  (hn:n<r.l.length) (hl:(enc r.l[n]).length=te.size):lu (.indexAddr t x y) X e h d=some (.ip (enc r.l[n]) 0 (rp r.c),h) :=
 Qv hT hk hE hx hi (by omega) (r:=enc r.l[n]) (by simp [hn]) hl
def Row.drop (r:Row α) (k:Nat):Row α:=⟨r.l.drop k,rn k r.c,by have:=r.ok; grind,by have:=r.sn; cases hc:r.c<;>rw [hc] at this<;>first | rfl | exact this,λh=>by
 cases hc:r.c<;>rw [hc] at h<;>first | (rw [r.nl hc]; simp) | cases h⟩
def MS {X:Ctx} {d:Option Nat} {t el n k:Nat} {x y:Operand} {ti te:TI} {r:Row α} {kd:IntKind} (hT:X.C.T t=some ti) (hk:ti.kind=.slice el) (hE:X.C.T el=some te) (hx:kz e x=r.av enc) (hy:kz e y=.int kd (k:Int)) (hn:te.size=n) (hkl:k<=r.l.length) (henc:∀ x,(enc x).length=n) :
  lu (.slice t x (some y) none none) X e h d=some ((r.drop k).av enc,h):=by
 have hai:qD (.int kd (k:Int))=some k:=rfl
 have h0:Nat.ble k (r.l.map enc).length=true:=Nat.ble_eq.mpr (by grind)
 have h1:Nat.ble (r.l.map enc).length (r.l.map enc).length=true:=Nat.ble_eq.mpr (Nat.le_refl _)
 have h2:qa n (r.l.map enc)=true:=by
  cases r.l with
  | nil=>rfl
  | cons a l=>simp_all [qa]
 have h3:((r.l.map enc).drop k).take ((r.l.map enc).length - k)=(r.l.drop k).map enc:=by
  rw [List.take_of_length_le (by simp),List.map_drop]
 simp only [lu,rm,qR,hT,hk,hE,hx,hy,Row.av,slice,wQ,pt,bound,hai,rF,hn,h1,h2,h0,Bool.and_true,h3,qO,mD,Row.drop]
end
section
variable {C:lS} {F:m0} {Pr:mM} {fa:kp} {e:Env} {h:bV} {all rest:List Oper} {o:Oper} {q:Env->bV->Prop}
def Hi {f:Nat} {args args':List AV} {v:AV} {h h':bV} (hP:Pr f=none) (h1:oi h args=some args') (h2:oi h' args'=some args') (w:kC C F Pr false f args' h' v h'):kC C F Pr false f args h v h:=by
 obtain ⟨m,hm⟩:=w
 refine ⟨m+1,λk hk=>?_⟩
 obtain ⟨k,rfl⟩:∃ k',k=k'+1:=⟨k - 1,by omega⟩
 have:=hm (k+1) (by omega)
 simp only [nH,hP] at this ⊢
 cases hF:F f with
 | none=>grind
 | some fb =>
   simp only [hF,ub,h1,h2] at this ⊢
   cases hb:u2 C fb (nH C F Pr k) k args' bV.empty<;>grind [u2,nH,bV.empty,frozen,freeze]
def Dn {f:Nat} {g:Operand} {c:Call} {args p r:List AV} {v:AV} {d:Option Nat} (hf:c.callee=.value g) (hg:kz e g=.ly f p r) (ha:c.args.toList.map (kz e)=args) (hok:(p++args++r).all AV.py=true) (hs:fa.lr.elem f=false)
  (w:kC C F Pr false f (p++args++r) { h with cT:=[] } v { h with cT:=[] }):∃ m,∀ k,m<=k->lu (.call c) (XN C F Pr fa k) e h d=some (v,h):=by
 obtain ⟨m,hm⟩:=w
 refine ⟨m,λk hk=>?_⟩
 simp only [lu,qC,p8,hf,hg,ha,vv,CA,hok,hs,hm k hk,xo]
def ns {f:Nat} {g:Operand} {c:Call} {args p r args':List AV} {R:AV->Prop} (ho:o.op=.call c) (hw:kT all e o=some true) (hf:c.callee=.value g) (hg:kz e g=.ly f p r) (ha:c.args.toList.map (kz e)=args) (hok:(p++args++r).all AV.py=true) (hs:fa.lr.elem f=false)
  (hP:Pr f=none) (h1:oi { h with cT:=[] } (p++args++r)=some args') (h2:oi bV.empty args'=some args')
  (w:∀ h:bV,∃ v,kC C F Pr false f args' h v h/\R v) (next:∀ v,R v->mG C F Pr fa all rest q (kN e o v) h):mG C F Pr fa all (o::rest) q e h:=by
 obtain ⟨v,hc,hR⟩:=w bV.empty
 refine z7 hw ?_ (next v hR)
 rw [ho]
 exact Dn hf hg ha hok hs (Hi hP h1 h2 hc)
def oj {j:Nat} {sch:List (Nat×List Nat)} {f:Nat} {g:Operand} {c:Call} {args p r args':List AV} {R:AV->Prop} (hj:all[j]?=some o) (ho:o.op=.call c) (hw:kT all e o=some true) (hf:c.callee=.value g) (hg:kz e g=.ly f p r) (ha:c.args.toList.map (kz e)=args) (hok:(p++args++r).all AV.py=true) (hs:fa.lr.elem f=false)
  (hP:Pr f=none) (h1:oi { h with cT:=[] } (p++args++r)=some args') (h2:oi bV.empty args'=some args')
  (w:∀ h:bV,∃ v,kC C F Pr false f args' h v h/\R v) (next:∀ v,R v->mI C F Pr fa all sch q (kN e o v) h):mI C F Pr fa all ((j,[])::sch) q e h:=by
 obtain ⟨v,hc,hR⟩:=w bV.empty
 refine Ak hj hw ?_ (next v hR)
 rw [ho]
 exact Dn hf hg ha hok hs (Hi hP h1 h2 hc)
variable {H:bV} {ls:mR}
def lB {f:Nat} {g:Operand} {c:Call} {args p r:List AV} {R:AV->bV->Prop} (ho:o.op=.call c) (hw:kT all e o=some true) (hf:c.callee=.value g) (hg:kz e g=.ly f p r) (ha:c.args.toList.map (kz e)=args) (hok:(p++args++r).all AV.py=true) (hs:fa.lr.elem f=true)
  (w:∃ v H',kC C F Pr true f (p++args++r) { H with cT:=[] } v H'/\R v H') (next:∀ v H',R v H'->mG C F Pr fa all rest q (kN e o v) { H' with cT:=ls }):mG C F Pr fa all (o::rest) q e { H with cT:=ls }:=by
 obtain ⟨v,H',hc,hR⟩:=w
 refine z7 hw ?_ (next v H' hR)
 rw [ho]
 exact Fe hf hg ha hok hs hc
def HA {j:Nat} {sch:List (Nat×List Nat)} {f:Nat} {g:Operand} {c:Call} {args p r:List AV} {R:AV->bV->Prop} (hj:all[j]?=some o) (ho:o.op=.call c) (hw:kT all e o=some true) (hf:c.callee=.value g) (hg:kz e g=.ly f p r) (ha:c.args.toList.map (kz e)=args) (hok:(p++args++r).all AV.py=true) (hs:fa.lr.elem f=true)
  (w:∃ v H',kC C F Pr true f (p++args++r) { H with cT:=[] } v H'/\R v H') (next:∀ v H',R v H'->mI C F Pr fa all sch q (kN e o v) { H' with cT:=ls }):mI C F Pr fa all ((j,[])::sch) q e { H with cT:=ls }:=by
 obtain ⟨v,H',hc,hR⟩:=w
 refine Ak hj hw ?_ (next v H' hR)
 rw [ho]
 exact Fe hf hg ha hok hs hc
end
def nW {α:Type} (enc : α->List AV) (r:Row α):List AV:=[r.av enc]
structure pQ where
 wO:Int
 steps:ka kL
 pos:ka Int
 left:ka (Row lV)
def pQ.af (x:pQ):List AV:=[.int .i64 x.wO,x.steps.av kL.af,x.pos.av kX,x.left.av (nW lV.af)]
structure uA where
 from_:Int
 to:Int
 end_:Int
 steps:ka kL
 nq:ka lI
 guards:ka lI
 mf:ka Int
 holds:ka Int
 bare:Bool
def uA.af (x:uA):List AV:=[.int .i64 x.from_,.int .i64 x.to,.int .i64 x.end_,x.steps.av kL.af,x.nq.av lI.af,x.guards.av lI.af,x.mf.av kX,x.holds.av kX,.bool x.bare]
structure kV where
 kH:bY
 roads:Row kq
def kV.af (x:kV):List AV:=x.kH.af++[x.roads.av kq.af]
def sK (s:List UInt8):AV:=.str s
def bK (b:Bool):AV:=.bool b
def rX (a b:List UInt8):ni (sK a) (sK b)=some (decide (a=b)):=by
 simp only [ni,sK,AV.agg?,oa,Ar,AV.str?]
 grind
def Sep.vn {H:bV} {L:List lF} {i:Nat} {w t:Bool} {v:AV} {n:Nat} {xs:List (List AV)} (h:Sep H L) (hi:L[i]?=some (.sl w t v n xs)):Sep H (L.set i (.sl w false v n xs)):=by
 obtain ⟨hxl,hc⟩:=h.at hi
 refine h.ou hi h.lo (Nat.le_refl _) ⟨hxl,?_⟩ (λ_ _ _=>rfl) (λb hb=>.inl hb)
 grind
def nG {ti:TI} {v:AV} (ha:ti.agg=false) (hs:ti.size=1) (hc:v.mE=true):cellsOf ti v=some [v]:=by
 simp_all [cellsOf]
def kK {p:AV->Bool}:([]:List AV).all p=true:=rfl
def j8 {p:AV->Bool} {a:AV} {l:List AV} (h:p a=true) (hl:l.all p=true):(a::l).all p=true:=by grind
def tv {a b:Bool} (h:a=true) (hl:b=true):(a&&b)=true:=by grind
def WH {l:List AV} (h:l.all AV.mE=true):AV.ot (.agg l)=true:=h
def xY {κ β:Type} {ek : κ->AV} {ev : β->AV} {p:AV×AV->Prop} {l:List (κ×β)} (h:∀ x : κ×β,p (ek x.1,ev x.2)):∀ x∈lP ek ev l,p x:=by
 intro x hx; obtain ⟨y,_,rfl⟩:=List.mem_map.mp hx; exact h y
def mH {α:Type} {enc : α->List AV} (r:Row α):AV.Ah (r.av enc)=true:=by
 have h:=r.sn
 unfold Row.av
 cases hc:r.c<;>rw [hc] at h<;>first | rfl | cases h
def sJ {X:Ctx} {e:Env} {h:bV} {t n d:Nat} {ps:Array (Nat×Operand)} {ti:TI} {xs:List (List AV)} (hT:uj X.C t=some ti) (hle:Nat.ble (n*ti.size) 16777216=true) (hf:uT ti (ru e ps) (List.replicate n ti.zero)=some xs) (hd:X.fa.zf.elem d=false) (hp:tJ xs=true):lu (.buildSlice t n ps) X e h (some d)=some (.sl xs (.exact xs.length),h):=by
 simp only [lu,w7,uf,hT,hle,hf,Bv,hd,hp,Bool.not_true,Bool.or_self]
def ka.isNil {α:Type} (r:ka α):Bool:=match r.c with
 | .nil=>true
 | _=>false
def ka.of_nil {α:Type} {r:ka α} (h:r.isNil=true):r.l=[]:=by
 apply r.nl
 grind [ka.isNil]
def oX {α:Type} {enc : α->List AV} {e:Env} {h:bV} {X:Ctx} {d:Option Nat} {t u el:Nat} {x y:Operand} {ti:TI} {r:ka α} (hT:X.C.T t=some ti) (hk:ti.kind=.slice el) (hx:kz e x=r.av enc) (hy:kz e y=.sl [] .nil):lu (.binOp .eql t x y u) X e h d=some (.bool r.isNil,h):=by
 simp only [lu,zL,binOp,hx,hy,ka.av,AV.int?,AV.str?,Cj,hT,Ad,hk,uX,ka.isNil]
 cases r.c<;>rfl
def Sep.Ym {H:bV} {L:List lF} {i:Nat} {t:Bool} {v:AV} {n:Nat} {xs:List (List AV)} (h:Sep H L) (hi:L[i]?=some (.sl true t v n xs)):(v=.sl [] .nil/\xs=[])\/(v=.sl [] (.exact 0)/\xs=[])\/∃ b g,v=.hs b g 0 xs.length:=by
 obtain ⟨hxl,h1 | ⟨h1 | h1,h2⟩ | ⟨b,g,j,h1,h2,h3,h4⟩⟩:=h.at hi<;>grind
end Go.Sx
