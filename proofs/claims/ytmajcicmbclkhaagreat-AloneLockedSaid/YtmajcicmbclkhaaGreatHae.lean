/- Proves rules for the walks and their soundness. -/
import Derived.Test.YtmajcicmbclkhaaGreatHad
set_option linter.all false
namespace Go.Sx
open Go
def MV {G:Ga} (hW:WR G) (o:Obj) (s:Bool) :
  let G':Ga:=⟨G.w.alloc o,λs' B=>G.T s' B\/(s'=s/\B=G.w.heap.size),G.h,G.pi,G.L⟩
  Step G G'/\WR G':=by
 intro G'
 obtain ⟨S,W⟩:=w8 hW o
 have hold:∀ B,B<G.w.heap.size->(G.w.alloc o).heap[B]?=G.w.heap[B]?:=λB hB=>(iX.alloc G.w o).ri (G:=G) hB
 have E:Ext G G':=⟨λ_ _ h=>.inl h,S.ext.keep,S.ext.size,S.ext.fc,S.ext.map,S.ext.aT⟩
 refine ⟨⟨E,S.os,S.output,S.tape,S.jd,S.frame,S.lI,S.mQ,?_,S.lo,S.out,S.o7,S.rk,S.rX⟩,?_⟩
 ·grind
 ·obtain ⟨k1,k2,k3⟩:=hW.keep E hold
  refine ⟨k1,k2,k3,W.iU,W.ma,?_,W.ou,?_,W.oT,W.kN,?_,W.lo,W.lt⟩
  ·rintro s' b l h (ht | ⟨_,ht⟩)
   ·exact hW.qf s' b l h ht
   ·have:=(hW.iU b l h).1
    omega
  ·rintro s' d B h (ht | ⟨_,ht⟩)
   ·exact hW.LT s' d B h ht
   ·have:=(hW.kN d B h).1
    omega
  ·rintro s' B (h | ⟨_,rfl⟩)
   ·exact W.mv s' B h
   ·show G.w.heap.size<(G.w.alloc o).heap.size
    simp
theorem Ak {P : Program} {f : Nat} (hex : ∃ fn, P.funcs[f]? = some fn ∧ fn.body.isNone = false ∧ (fn.name == "runtime.NumGoroutine") = false)
  (h1:∀ b es clock (w:World),w.heap[b]?=some (.map es clock)->Calls P f #[.map (some b)] w λe w'=>e=.returned (.map (some w.heap.size))/\w'=w.alloc (.map es clock))
  (h0:∀ w:World,Calls P f #[.map none] w λe w'=>e=.returned (.map none)/\w'=w):lg P f oz where
 call:=by
  intro shd args h v h' hc G args' hG hlo hL hW hl hr
  refine ⟨hex,?_⟩
  intro R hR
  subst hG
  have one:∀ x:AV,args=[x]->∃ y,args' = #[y]/\VC G x y:=by
   rintro x rfl
   cases args' with | mk l =>
   cases l with
   | nil=>simp at hl
   | cons y l =>
     cases l with
     | nil=>exact ⟨y,rfl,hr 0 x y rfl rfl⟩
     | cons _ _=>simp at hl
  unfold oz at hc
  split at hc
  ·obtain ⟨y,rfl,hy⟩:=one _ rfl
   cases hc
   have hv:=hy.vr
   cases hv with
   | gf _ hp =>
     cases hp
     refine (h0 G.w).mono ?_
     rintro e w' ⟨rfl,rfl⟩
     exact hR _ G (.refl G) hW (λm=>rfl) (λm L=>VR.gK (.gf rfl (.iw _)) rfl)
  ·rename_i es s
   obtain ⟨y,rfl,hy⟩:=one _ rfl
   cases hc
   have hv:=hy.vr
   cases hv with
   | gf _ hp =>
     cases hp with
     | fm _ _ _ r ents clk _ hB hI hll hyo hko hk hvv =>
       refine (h1 r ents clk G.w hB).mono ?_
       rintro e w' ⟨rfl,rfl⟩
       obtain ⟨S1,W1⟩:=MV hW (.map ents clk) s
       refine hR _ _ S1 W1 (λm=>rfl) (λm L=>VR.gK (.gf rfl ?_) rfl)
       refine .fm _ es s G.w.heap.size ents clk (λ_=>rfl) ((iX.alloc G.w _).new (G:=G)) (.inr ⟨rfl,rfl⟩) hll hyo hko ?_ ?_
       ·exact λi p e hp he=>(hk i p e hp he).mono S1.ext.T S1.ext.keep
       ·exact λi p e hp he=>(hvv i p e hp he).mono S1.ext.T S1.ext.keep
  ·rename_i b
   obtain ⟨y,rfl,hy⟩:=one _ rfl
   split at hc
   ·split at hc
    ·rename_i es c hget
     cases hc
     obtain ⟨l,ents,hpi,rfl,hB,hent,hyo⟩:=sX hW hy.vr hget
     refine (h1 l.B ents c G.w hB).mono ?_
     rintro e w' ⟨rfl,rfl⟩
     obtain ⟨S1,W1⟩:=E5 (ob:=.map es c) (cap:=0) hW (iX.alloc G.w (.map ents c)) (by simp) (by
      intro es2 c2 e G' E hnew
      cases e
      have hent2:=hent.mono E
      exact ⟨ents,hnew,by simpa using hent2.1,hyo,λi p e hp he=>hent2.2 i p e hp (by grind)⟩)
     refine hR _ _ S1 W1 (λm=>rfl) (λm L=>VR.gK (.hm _ _ ?_ ?_) rfl)<;>grind [VR.gK,au.size_push,kj]
    grind
   grind
  grind
 Ce:=by
  intro args h v h' hc
  unfold oz at hc
  split at hc
  ·cases hc; exact ⟨rfl,λ_ _=>rfl⟩
  ·cases hc; exact ⟨rfl,λ_ _=>rfl⟩
  ·cases hc
  grind
def abh (P:Program) (t n:Nat):Bool:=match P.info? t with
 | some i=>Nat.beq i.size n
 | none=>false
def ID (P:Program) (t:Nat) (k:TK):Bool:=match P.underlying t,k with
 | some .bool,.bool=>true
 | some (.int a),.int b=>oE a b
 | some .string,.str=>true
 | _,_=>false
def JJ (P:Program) (t:Nat):Option Nat:=match P.underlying t with
 | some (.struct _)=>(P.info? t).map (·.size)
 | _=>none
def sL (P:Program) (rec:Nat->List TK->Bool):List Field->Nat->List TK->Bool
 | [],_,ks=>ks.isEmpty
 | f :: fs, off, ks => (f.name != "_") && Nat.beq f.offset off && match JJ P f.type with
   | some n=>Nat.ble n ks.length&&rec f.type (ks.take n)&&sL P rec fs (off+n) (ks.drop n)
   | none=>match ks with
     | k::ks=>ID P f.type k&&sL P rec fs (off+1) ks
     | []=>false
def sY (P:Program):Nat->Nat->List TK->Bool
 | 0,_,_=>false
 | d+1,t,ks=>match P.underlying t with
   | some (.struct F)=>!P.stoodInHeld t&&sL P (sY P d) F.toList 0 ks
   | _=>false
section
variable {P:Program}
def AU:∀ {a b:List AV} (c d:List AV),a.length=b.length->ki (a++c) (b++d)=match ki a b,ki c d with
  | some x,some y=>some (x&&y)
  | _,_=>none
 | [],[],c,d,_=>by
   simp only [List.nil_append,ki]
   cases ki c d<;>simp
 | [],_::_,_,_,h=>by simp at h
 | _::_,[],_,_,h=>by simp at h
 | x::a,y::b,c,d,h=>by
   have ih:=AU c d (a:=a) (b:=b) (by simpa using h)
   simp only [List.cons_append,ki]
   cases hs:kT x y with
   | none=>rfl
   | some v =>
     cases v with
     | true=>simp only [ih]
     | false =>
       simp only [ih]
       cases ki a b<;>cases ki c d<;>simp
theorem BK:∀ {l m:List AV} {b:Bool},ki l m=some b->l.length=m.length
 | [],[],_,_=>rfl
 | [],_::_,_,h=>by cases h
 | _::_,[],_,h=>by cases h
 | x::l,y::m,b,h=>by
   simp only [ki] at h
   split at h
   ·simp [BK h]
   ·split at h
    ·rename_i q; simp [BK q]
    ·cases h
   ·cases h
theorem yi:∀ {ks:List TK} {l:List AV},fitAll ks l=true->l.length=ks.length
 | [],[],_=>rfl
 | [],_::_,h=>by cases h
 | _::_,[],h=>by cases h
 | _::ks,_::l,h=>by
   simp only [fitAll,Bool.and_eq_true] at h
   simp [yi h.2]
def Am:∀ (n:Nat) {ks:List TK} {l:List AV},fitAll ks l=true->fitAll (ks.take n) (l.take n)=true/\fitAll (ks.drop n) (l.drop n)=true
 | 0,ks,l,h=>⟨by rfl,by grind⟩
 | n+1,[],[],_=>⟨rfl,rfl⟩
 | _+1,[],_::_,h=>by cases h
 | _+1,_::_,[],h=>by cases h
 | n+1,k::ks,a::l,h=>by
   simp only [fitAll,Bool.and_eq_true] at h
   obtain ⟨h1,h2⟩:=Am n h.2
   exact ⟨by simp [fitAll,h.1,h1],by simpa using h2⟩
def Rel (w:World) (T:Bool->Nat->Prop) (l:List AV) (xs:Array Value):Prop:=l.length=xs.size/\∀ (i:Nat) (x:AV) (y:Value),l[i]?=some x->xs[i]?=some y->PR w T true x y
theorem Rel.part {w:World} {T:Bool->Nat->Prop} {l:List AV} {xs:Array Value} (h:Rel w T l xs) (o n:Nat) (hle:o+n<=l.length):Rel w T ((l.drop o).take n) (xs.extract o (o+n)):=by
 refine ⟨by simp [<- h.1]; omega,?_⟩
 intro i x y hx hy
 rw [List.getElem?_take] at hx
 split at hx
 ·rw [List.getElem?_drop] at hx
  rw [Array.getElem?_extract] at hy
  split at hy
  ·exact h.2 (o+i) x y hx hy
  grind
 grind
theorem wB {t:Nat} {k:TK} (hk:ID P t k=true) {xs:Array Value} {o:Nat} {y:Value} (hy:xs[o]?=some y) (w:World):(Go.part t xs o).run P w=.ok y w:=by
 unfold ID at hk
 have:∃ d,P.underlying t=some d/\JA d=false:=by
  split at hk<;>first | exact ⟨_,by assumption,rfl⟩ | cases hk
 obtain ⟨d,hd,hag⟩:=this
 have hA:(Go.isAgg t).run P w=.ok false w:=by
  unfold Go.isAgg
  rw [Sem.run_bind,run_underlying hd w,<- hag]
  cases d<;>rfl
 simp_all [Go.part,Sem.run_bind]
theorem yM {t n:Nat} (hk:JJ P t=some n) (xs:Array Value) (o:Nat) (w:World):(Go.part t xs o).run P w=.ok (.agg (xs.extract o (o+n))) w:=by
 unfold JJ at hk
 split at hk
 ·rename_i F hF
  cases hi:P.info? t with
  | none=>grind
  | some i =>
    simp_all [Go.isAgg,Sem.run_bind,run_underlying,Go.part,Go.sizeOf,typeInfo]
 grind
theorem Eh {t:Nat} {k:TK} (hk:ID P t k=true) {a c:AV} {x y:Value} {b:Bool} {w:World} {T:Bool->Nat->Prop} (hf:rn k a=true) (hx:PR w T true a x) (hy:PR w T true c y) (h:kT a c=some b) (d:Nat) :
  (Op.equalIn (d+1) t x y).run P w=.ok b w:=by
 unfold ID at hk
 split at hk
 ·rename_i hd
  cases a<;>simp only [rn,Bool.false_eq_true] at hf
  cases c<;>simp only [kT,zW,AV.bool?,reduceCtorEq] at h
  cases hx; cases hy<;>grind [run_equalIn_bool]
 ·rename_i k1 k2 hd
  cases a<;>simp only [rn,Bool.false_eq_true] at hf
  cases c<;>simp only [kT,vq,AV.int?,reduceCtorEq] at h
  split at h
  ·rename_i hkk
   rw [pS] at hkk
   cases hx; cases hy<;>grind [run_equalIn_int,oo]
  ·cases h
 ·rename_i hd
  cases a<;>simp only [rn,Bool.false_eq_true] at hf
  cases c<;>simp only [kT,Ay,AV.str?,reduceCtorEq] at h
  cases hx with
  | str _ _ p hp =>
    cases hy with
    | str _ _ q hq =>
      have:(Op.equalIn (d+1) t (.string p) (.string q)).run P w=.ok (p==q) w:=by simp [Op.equalIn,run_underlying hd]
      grind [FB]
 grind
def pZ {rec:Nat->List TK->Bool} {d:Nat}
  (hrec:∀ t ks,rec t ks=true->∀ (l m:List AV) (xs ys:Array Value) (b:Bool) (w:World) (T:Bool->Nat->Prop),fitAll ks l=true->Rel w T l xs->Rel w T m ys->ki l m=some b->(Op.equalIn d t (.agg xs) (.agg ys)).run P w=.ok b w)
  (hd:0<d) {l m:List AV} {xs ys:Array Value} {w:World} {T:Bool->Nat->Prop} (hx:Rel w T l xs) (hy:Rel w T m ys) :
  ∀ (fs:List Field) (off:Nat) (ks:List TK) (b:Bool),sL P rec fs off ks=true->fitAll ks (l.drop off)=true->ki (l.drop off) (m.drop off)=some b->off<=l.length->l.length=m.length ->
    (Op.eqFields d xs ys fs).run P w=.ok b w
 | [],off,ks,b,hfl,hfit,he,_,_=>by
   simp only [sL,List.isEmpty_iff] at hfl
   subst hfl
   have h0:=yi hfit
   have h1:l.drop off=[]:=List.eq_nil_of_length_eq_zero h0
   have h2:m.drop off=[]:=List.eq_nil_of_length_eq_zero (by grind)
   rw [h1,h2] at he
   cases he
   rfl
 | f::fs,off,ks,b,hfl,hfit,he,hol,hlm=>by
   simp only [sL,Bool.and_eq_true,bne_iff_ne,ne_eq] at hfl
   obtain ⟨⟨hname,hoff⟩,hrest⟩:=hfl
   have hoff:=Nat.eq_of_beq_eq_true hoff
   unfold Op.eqFields
   rw [if_pos hname,hoff]
   split at hrest
   ·rename_i n hn
    simp only [Bool.and_eq_true,Nat.ble_eq] at hrest
    obtain ⟨⟨hnk,hr⟩,hfs⟩:=hrest
    have hlen:=yi hfit
    rw [List.length_drop] at hlen
    obtain ⟨fit1,fit2⟩:=Am n hfit
    rw [List.drop_drop] at fit2
    have hsplit:ki (l.drop off) (m.drop off)=match ki ((l.drop off).take n) ((m.drop off).take n),ki (l.drop (off+n)) (m.drop (off+n)) with
      | some x,some y=>some (x&&y)
      | _,_=>none:=by
     have:=AU (a:=(l.drop off).take n) (b:=(m.drop off).take n) (l.drop (off+n)) (m.drop (off+n)) (by simp [hlm])
     rw [<- List.drop_drop (i:=n) (j:=off),<- List.drop_drop (i:=n) (j:=off),List.take_append_drop,List.take_append_drop] at this
     simp_all
    rw [hsplit] at he
    split at he
    ·rename_i b1 b2 h1 h2
     cases he
     have e1:=hrec _ _ hr _ _ _ _ b1 w T fit1 (hx.part off n (by omega)) (hy.part off n (by omega)) h1
     have e2:=pZ hrec hd hx hy fs (off+n) _ b2 hfs fit2 h2 (by omega) hlm
     simp only [Sem.run_bind,yM hn,Result.andThen_ok,e1,Sem.run_ite]
     cases b1<;>simp_all
    grind
   ·rename_i hn
    split at hrest
    ·rename_i k ks
     simp only [Bool.and_eq_true] at hrest
     obtain ⟨hk,hfs⟩:=hrest
     cases hld:l.drop off with
     | nil=>rw [hld] at hfit; cases hfit
     | cons a l' =>
       cases hmd:m.drop off with
       | nil=>rw [hld,hmd] at he; cases he
       | cons c m' =>
         have hl':l'=l.drop (off+1):=by rw [<- List.drop_drop,hld]; rfl
         have hm':m'=m.drop (off+1):=by rw [<- List.drop_drop,hmd]; rfl
         rw [hld] at hfit
         simp only [fitAll,Bool.and_eq_true] at hfit
         have hla:l[off]?=some a:=by
          have:(l.drop off)[0]?=some a:=by grind
          grind
         have hmc:m[off]?=some c:=by
          have:(m.drop off)[0]?=some c:=by grind
          grind
         have hlt:=(List.getElem?_eq_some_iff.1 hla).1
         have hmt:=(List.getElem?_eq_some_iff.1 hmc).1
         have hlx:off<xs.size:=by rw [<- hx.1]; exact hlt
         have hly:off<ys.size:=by rw [<- hy.1]; exact hmt
         have hxo:xs[off]?=some xs[off]:=by simp
         have hyo:ys[off]?=some ys[off]:=by simp
         rw [hld,hmd] at he
         simp only [ki] at he
         have next:∀ b2,ki l' m'=some b2->(Op.eqFields d xs ys fs).run P w=.ok b2 w:=by
          intro b2 h2
          rw [hl',hm'] at h2
          exact pZ hrec hd hx hy fs (off+1) ks b2 hfs (by rw [<- hl']; exact hfit.2) h2 (by omega) hlm
         obtain ⟨d',rfl⟩:∃ d',d=d'+1:=⟨d - 1,by omega⟩
         simp only [Sem.run_bind,wB hk hxo,wB hk hyo,Result.andThen_ok]
         split at he
         ·rename_i hs
          rw [Eh hk hfit.1 (hx.2 off a _ hla hxo) (hy.2 off c _ hmc hyo) hs d']
          grind [Result.andThen_ok]
         ·rename_i hs
          rw [Eh hk hfit.1 (hx.2 off a _ hla hxo) (hy.2 off c _ hmc hyo) hs d']
          split at he<;>simp_all
         grind
    grind
def Bi:∀ (d t:Nat) (ks:List TK),sY P d t ks=true->∀ (D:Nat) (l m:List AV) (xs ys:Array Value) (b:Bool) (w:World) (T:Bool->Nat->Prop),fitAll ks l=true->Rel w T l xs->Rel w T m ys->ki l m=some b ->
  (Op.equalIn (D+1+d) t (.agg xs) (.agg ys)).run P w=.ok b w
 | 0,_,_,h=>by cases h
 | d+1,t,ks,h=>by
   intro D l m xs ys b w T hfit hx hy he
   simp only [sY] at h
   split at h
   ·rename_i F hF
    simp only [Bool.and_eq_true,Bool.not_eq_true'] at h
    have hfo:P.fieldsOf t=F:=by simp [Program.fieldsOf,hF]
    rw [show D+1+(d+1)=(D+1+d)+1 by omega,run_equalIn_struct w (D+1+d) t xs ys (by rw [hfo]; exact hF) h.1,hfo]
    exact pZ (λt' ks' h'=>Bi d t' ks' h' D) (by omega) hx hy F.toList 0 ks b h.2 (by simpa using hfit) (by simpa using he) (Nat.zero_le _) (BK he)
   ·cases h
def wT:∀ (d t:Nat) (ks:List TK),sY P d t ks=true->∀ (D:Nat) (em:Bool) (xs:Array Value) (w:World),xs.size=ks.length->(Instr.checkKey em (D+1+d) t (.agg xs)).run P w=.ok () w
 | 0,_,_,h=>by cases h
 | d+1,t,ks,h=>by
   intro D em xs w hsz
   simp only [sY] at h
   split at h
   ·rename_i F hF
    simp only [Bool.and_eq_true] at h
    have hfl:=h.2
    rw [show D+1+(d+1)=(D+1+d)+1 by omega]
    unfold Instr.checkKey
    simp only [Sem.run_bind,run_underlying hF,Result.andThen_ok]
    rw [<- Array.forIn_toList]
    have go:∀ (fs:List Field) (off:Nat) (ks':List TK),sL P (sY P d) fs off ks'=true->off+ks'.length=xs.size ->
      (forIn (m := Sem) fs PUnit.unit (fun f _ => if f.name ≠ "_" then do
        Instr.checkKey em (D+1+d) f.type (<- Go.part f.type xs f.offset)
        pure (ForInStep.yield PUnit.unit) else pure (ForInStep.yield PUnit.unit))).run P w=.ok PUnit.unit w:=by
     intro fs
     induction fs with
     | nil=>simp
     | cons f fs ih =>
       intro off ks' hf ho
       simp only [sL,Bool.and_eq_true,bne_iff_ne,ne_eq] at hf
       obtain ⟨⟨hname,hoff⟩,hrest⟩:=hf
       have hoff:=Nat.eq_of_beq_eq_true hoff
       rw [List.forIn_cons]
       split at hrest
       ·rename_i n hn
        simp only [Bool.and_eq_true,Nat.ble_eq] at hrest
        obtain ⟨⟨hnk,hr⟩,hfs⟩:=hrest
        have e1:=wT d f.type _ hr D em (xs.extract f.offset (f.offset+n)) w (by grind)
        grind [Sem.run_bind,yM,Result.andThen_ok,Sem.run_pure]
       ·split at hrest
        ·rename_i k ks2
         simp only [Bool.and_eq_true] at hrest
         have hlt:f.offset<xs.size:=by grind
         have hxo:xs[f.offset]?=some xs[f.offset]:=by simp
         have e0:(Instr.checkKey em (D+1+d) f.type xs[f.offset]).run P w=.ok () w:=by
          have hk:=hrest.1
          unfold ID at hk
          grind [yc]
         have e2:=ih (off+1) _ hrest.2 (by grind)
         simp only [Sem.run_bind,if_pos hname,wB hrest.1 hxo,Result.andThen_ok,e0,Sem.run_pure]
         exact e2
        grind
    rw [go F.toList 0 ks hfl (by omega)]
    rfl
   ·cases h
def Ph (P:Program) (d:TypeDesc) (k:TK):Bool:=match d,k with
 | .bool,.bool=>true
 | .int a,.int b=>oE a b
 | .string,.str=>true
 | .pointer _,.ptr=>true
 | .slice a,.slice b=>Nat.beq a b
 | .array n a,.array m b=>Nat.beq n m&&Nat.beq a b
 | .map a b,.map c e=>Nat.beq a c&&Nat.beq b e
 | .struct F,.struct fs=>(fs==F.toList.map λf=>(f.offset,f.type))&&F.toList.all λf=>match P.info? f.type with
   | some i=>!(Nat.beq i.size 0)
   | none=>false
 | .func ..,.func=>true
 | _,.other=>true
 | _,_=>false
def P5 (ti:TI) (z:Value):Bool:=lK (iR 2) ti.zero (z.cells.toList.map GY)&&Nat.beq z.cells.size ti.size&&z.cells.toList.all (·.oneCell')&&match ti.agg,z with
 | true,.agg _=>true
 | true,_=>false
 | false,z=>z.oneCell'
def LI (P:Program) (t:Nat) (ti:TI):Bool :=
 (match P.info? t with
 | some i=>Nat.beq i.size ti.size&&Nat.beq i.bytes ti.bytes&&match i.zero with
   | some z=>P5 ti z
   | none=>false
 | none=>false) &&
 (match P.underlying t with
 | some d=>C3 (JA d) ti.agg&&Ph P d ti.kind
 | none=>false) &&
 Nat.ble ti.bytes 1048576 &&
 (!ti.flat||!(P.eqGuardType P.depth t)) &&
 (!(ti.flat&&ti.agg)||(sY P 3 t ti.sc&&Nat.beq ti.sc.length ti.size))
def RN {t:Nat} {ti:TI} (h:LI P t ti=true):mz P t ti:=by
 simp only [LI,Bool.and_eq_true] at h
 obtain ⟨⟨⟨⟨h1,h2⟩,h3⟩,h4⟩,h5⟩:=h
 have hflat:ti.flat=true->ti.agg=true->sY P 3 t ti.sc=true/\ti.sc.length=ti.size:=by
  intro hf ha
  simp_all
 refine ⟨?_,?_,Nat.le_of_ble_eq_true h3,?_,?_,?_⟩
 ·split at h1
  ·rename_i i hi
   simp only [Bool.and_eq_true] at h1
   obtain ⟨⟨a1,a2⟩,a3⟩:=h1
   split at a3
   ·rename_i z hz
    simp only [P5,Bool.and_eq_true,List.all_eq_true] at a3
    obtain ⟨⟨⟨z1,z2⟩,z3⟩,z4⟩:=a3
    refine ⟨i,z,hi,Nat.eq_of_beq_eq_true a1,Nat.eq_of_beq_eq_true a2,hz,lX (oe 2) _ _ z1,Nat.eq_of_beq_eq_true z2,z3,?_,?_⟩<;>grind
   grind
  grind
 ·split at h2
  ·rename_i d hd
   simp only [Bool.and_eq_true,Fk,beq_iff_eq] at h2
   refine ⟨d,hd,h2.1,?_⟩
   have hk:=h2.2
   generalize ti.kind=kk at hk ⊢
   unfold Ph at hk
   split at hk<;>try (cases hk; done)
   ·exact rfl
   ·rw [pS] at hk; subst hk; exact rfl
   ·exact rfl
   ·exact ⟨_,rfl⟩
   ·have:=Nat.eq_of_beq_eq_true hk; subst this; exact rfl
   ·simp only [Bool.and_eq_true] at hk
    have e1:=Nat.eq_of_beq_eq_true hk.1
    have e2:=Nat.eq_of_beq_eq_true hk.2
    subst e1; subst e2; exact rfl
   ·simp only [Bool.and_eq_true] at hk
    have e1:=Nat.eq_of_beq_eq_true hk.1
    have e2:=Nat.eq_of_beq_eq_true hk.2
    subst e1; subst e2; exact rfl
   ·simp only [Bool.and_eq_true,beq_iff_eq,List.all_eq_true] at hk
    refine ⟨_,rfl,hk.1,?_⟩
    intro f hf
    have:=hk.2 f hf
    split at this
    ·rename_i i hi
     refine ⟨i,hi,?_⟩
     intro h0
     simp_all
    grind
   ·exact ⟨_,_,_,rfl⟩
   ·trivial
  grind
 ·grind
 ·intro hf ha l m xs ys b w T hfit hl hm hx hy he
  obtain ⟨f1,f2⟩:=hflat hf ha
  have rel:∀ {l:List AV} {xs:Array Value},PR w T true (.agg l) (.agg xs)->Rel w T l xs:=by
   intro l xs h
   cases h with
   | agg _ _ _ hl h1 hr=>exact ⟨hl,hr⟩
  exact Bi 3 t ti.sc f1 9996 l m xs ys b w T hfit (rel hx) (rel hy) he
 ·intro hf ha e xs w hsz
  obtain ⟨f1,f2⟩:=hflat hf ha
  exact wT 3 t ti.sc f1 9996 e xs w (by omega)
def Tr.Dk {α:Type} (p:Nat->α->Bool):Tr α->(Nat->Nat)->Bool
 | .leaf,_=>true
 | .node l v r,f=>(match v with
   | some x=>p (f 0) x
   | none=>true)&&Tr.Dk p l (λn=>f (2*n+1))&&Tr.Dk p r (λn=>f (2*n+2))
def Tr.Bv {α:Type} (p:Nat->α->Bool):∀ (t:Tr α) (f:Nat->Nat),Tr.Dk p t f=true->∀ (n:Nat) (x : α),t.get n=some x->p (f n) x=true
 | .leaf,_,_,n,x,h=>by simp [Tr.get] at h
 | .node l v r,f,ha,n,x,h=>by
   simp only [Tr.Dk,Bool.and_eq_true] at ha
   obtain ⟨⟨h1,h2⟩,h3⟩:=ha
   cases n with
   | zero =>
     simp only [Tr.get] at h
     rw [h] at h1
     exact h1
   | succ m =>
     simp only [Tr.get] at h
     split at h
     ·rename_i hm
      have hm:=Nat.eq_of_beq_eq_true hm
      have:=Tr.Bv p l _ h2 (m / 2) x h
      rw [show 2*(m / 2)+1=m+1 by omega] at this
      exact this
     ·rename_i hm
      have hm:m % 2≠0:=Nat.ne_of_beq_eq_false hm
      have:=Tr.Bv p r _ h3 (m / 2) x h
      rw [show 2*(m / 2)+2=m+1 by omega] at this
      exact this
def Tr.FH {α:Type} (q:Nat->α->Prop):Tr α->(Nat->Nat)->Prop
 | .leaf,_=>True
 | .node l v r,f=>(match v with
   | some x=>q (f 0) x
   | none=>True)/\Tr.FH q l (λn=>f (2*n+1))/\Tr.FH q r (λn=>f (2*n+2))
def Tr.BT {α:Type} (q:Nat->α->Prop):∀ (t:Tr α) (f:Nat->Nat),Tr.FH q t f->∀ (n:Nat) (x : α),t.get n=some x->q (f n) x
 | .leaf,_,_,n,x,h=>by simp [Tr.get] at h
 | .node l v r,f,ha,n,x,h=>by
   simp only [Tr.FH] at ha
   obtain ⟨h1,h2,h3⟩:=ha
   cases n with
   | zero =>
     simp only [Tr.get] at h
     rw [h] at h1
     exact h1
   | succ m =>
     simp only [Tr.get] at h
     split at h
     ·rename_i hm
      have hm:=Nat.eq_of_beq_eq_true hm
      have:=Tr.BT q l _ h2 (m / 2) x h
      rw [show 2*(m / 2)+1=m+1 by omega] at this
      exact this
     ·rename_i hm
      have hm:m % 2≠0:=Nat.ne_of_beq_eq_false hm
      have:=Tr.BT q r _ h3 (m / 2) x h
      rw [show 2*(m / 2)+2=m+1 by omega] at this
      exact this
def RD {t:Tr TI} (h:Tr.Dk (LI P) t id=true):gR P ⟨t.get⟩ :=
 ⟨λn ti hn=>RN (Tr.Bv (LI P) t id h n ti hn)⟩
end
section
variable (C:gv) (F:gX) (Pr:gQ)
def fh (shd:Bool) (f:Nat) (args:List AV) (h:au) (v:AV) (h':au):Prop:=∃ m,∀ k,m<=k->gP C F Pr k shd f args h=some (v,h')
abbrev XN (fa:eY) (k:Nat):Ctx:=⟨C,fa,gP C F Pr k⟩
def Wp (fa:eY) (c:Code) (an:ga) (Q:Ex->Env->au->Prop) (e:Env) (h:au):Prop :=
 ∃ x e' h',(∃ m,∀ k,m<=k->gF (XN C F Pr fa k) (iC k) c an e h=some (x,e',h'))/\Q x e' h'
def ic (fa:eY) (all ops:List Oper) (Q:Env->au->Prop) (e:Env) (h:au):Prop :=
 ∃ e' h',(∃ m,∀ k,m<=k->uJ (XN C F Pr fa k) all ops e h=some (e',h'))/\Q e' h'
def gZ (fa:eY) (all:List Oper) (sch:List (Nat×List Nat)) (Q:Env->au->Prop) (e:Env) (h:au):Prop :=
 ∃ e' h',(∃ m,∀ k,m<=k->tA (XN C F Pr fa k) all sch e h=some (e',h'))/\Q e' h'
end
section
variable {C:gv} {F:gX} {Pr:gQ} {fa:eY} {Q:Ex->Env->au->Prop} {e:Env} {h:au}
def Wp.mono {c:Code} {an:ga} {Q':Ex->Env->au->Prop} (w:Wp C F Pr fa c an Q e h) (hq:∀ x e h,Q x e h->Q' x e h):Wp C F Pr fa c an Q' e h :=
 let ⟨x,e',h',m,q⟩:=w; ⟨x,e',h',m,hq _ _ _ q⟩
def Me {an:ga} (q:Q .gH e h):Wp C F Pr fa .skip an Q e h:=⟨_,_,_,⟨0,λ_ _=>rfl⟩,q⟩
def Ks {l:Nat} {an:ga} (q:Q .gH e h):Wp C F Pr fa (.label l) an Q e h:=⟨_,_,_,⟨0,λ_ _=>rfl⟩,q⟩
def Na {id:Nat} {an:ga} (q:Q (.ext id) e h):Wp C F Pr fa (.exit id) an Q e h:=⟨_,_,_,⟨0,λ_ _=>rfl⟩,q⟩
def QV {an:ga} (q:Q .ret e h):Wp C F Pr fa .ret an Q e h:=⟨_,_,_,⟨0,λ_ _=>rfl⟩,q⟩
def qH {c:Code} {an:ga} (w:Wp C F Pr fa c an Q e h):Wp C F Pr fa (.scope c) an Q e h:=w
def su (next:Env->au->Prop) (Q:Ex->Env->au->Prop):Ex->Env->au->Prop
 | .gH,e,h=>next e h
 | x,e,h=>Q x e h
def TQ {a b:Code} {x y:ga} (w:Wp C F Pr fa a x (su (Wp C F Pr fa b y Q) Q) e h):Wp C F Pr fa (.seq a b) (.sq x y) Q e h:=by
 obtain ⟨x1,e1,h1,⟨m1,hm1⟩,q1⟩:=w
 cases x1 with
 | gH =>
   obtain ⟨x2,e2,h2,⟨m2,hm2⟩,q2⟩:=q1
   refine ⟨x2,e2,h2,⟨max m1 m2,λk hk=>?_⟩,q2⟩
   simp only [gF,yI,hm1 k (by omega),andThen]
   grind
 | ext id=>exact ⟨_,e1,h1,⟨m1,λk hk=>by simp_all [gF,yI,andThen]⟩,q1⟩
 | ret=>exact ⟨_,e1,h1,⟨m1,λk hk=>by simp_all [gF,yI,andThen]⟩,q1⟩
def Iw {a b:Code} {live:List Nat} {x y:ga} (w:Wp C F Pr fa a x (su (λe h=>Wp C F Pr fa b y Q (proj live e) { h with aT:=iu live h.aT }) Q) e h):Wp C F Pr fa (.seq a b) (.seq live x y) Q e h:=by
 obtain ⟨x1,e1,h1,⟨m1,hm1⟩,q1⟩:=w
 cases x1 with
 | gH =>
   obtain ⟨x2,e2,h2,⟨m2,hm2⟩,q2⟩:=q1
   refine ⟨x2,e2,h2,⟨max m1 m2,λk hk=>?_⟩,q2⟩
   simp only [gF,yI,hm1 k (by omega),andThen,nQ]
   grind
 | ext id=>exact ⟨_,e1,h1,⟨m1,λk hk=>by simp_all [gF,yI,andThen]⟩,q1⟩
 | ret=>exact ⟨_,e1,h1,⟨m1,λk hk=>by simp_all [gF,yI,andThen]⟩,q1⟩
def GN {c:Operand} {a b:Code} {x y:ga} {t:Bool} (hc:fg e c=.bool t) (w1:t=true->Wp C F Pr fa a x Q e h) (w2:t=false->Wp C F Pr fa b y Q e h):Wp C F Pr fa (.cond c a b) (.two x y) Q e h:=by
 cases t with
 | true =>
   obtain ⟨x1,e1,h1,⟨m1,hm1⟩,q1⟩:=w1 rfl
   exact ⟨x1,e1,h1,⟨m1,λk hk=>by simp_all [gF,CM,Cv,AV.bool?]⟩,q1⟩
 | false =>
   obtain ⟨x1,e1,h1,⟨m1,hm1⟩,q1⟩:=w2 rfl
   exact ⟨x1,e1,h1,⟨m1,λk hk=>by simp_all [gF,CM,Cv,AV.bool?]⟩,q1⟩
def EB (id:Nat) (Q:Ex->Env->au->Prop):Ex->Env->au->Prop
 | .ext i,e,h=>if i=id then Q .gH e h else Q (.ext i) e h
 | x,e,h=>Q x e h
def KC {id:Nat} {a:Code} {an:ga} (w:Wp C F Pr fa a an (EB id Q) e h):Wp C F Pr fa (.block id a) an Q e h:=by
 obtain ⟨x1,e1,h1,⟨m1,hm1⟩,q1⟩:=w
 cases x1 with
 | gH=>exact ⟨_,e1,h1,⟨m1,λk hk=>by simp_all [gF,ux,atEnd]⟩,q1⟩
 | ret=>exact ⟨_,e1,h1,⟨m1,λk hk=>by simp_all [gF,ux,atEnd]⟩,q1⟩
 | ext i =>
   simp only [EB] at q1
   split at q1
   ·rename_i hi
    subst hi
    exact ⟨_,e1,h1,⟨m1,λk hk=>by simp_all [gF,ux,atEnd]⟩,q1⟩
   ·rename_i hi
    have hb:Nat.beq i id=false:=by
     cases hq:Nat.beq i id<;>simp_all
    exact ⟨_,e1,h1,⟨m1,λk hk=>by simp_all [gF,ux,atEnd]⟩,q1⟩
def nT {c:Code} {live:List Nat} {an:ga} (I:Nat->Env->au->Prop)
  (round:∀ n e h,I n e h->Wp C F Pr fa c an (su (λe' h'=>∃ m,m<n/\I m e' h') Q) (proj live e) { h with aT:=iu live h.aT }) :
  ∀ (n:Nat) (e:Env) (h:au),I n e h->Wp C F Pr fa (.loop c) (.loop live an) Q e h:=by
 have key:∀ (n:Nat) (e:Env) (h:au),I n e h->∃ x e' h',(∃ M,∀ k j,M<=k->M<=j->iC j (jo live (gF (XN C F Pr fa k) (iC k) c an)) e h=some (x,e',h'))/\Q x e' h':=by
  intro n
  induction n using Nat.strongRecOn with
  | _ n ih =>
    intro e h hI
    obtain ⟨x1,e1,h1,⟨m1,hm1⟩,q1⟩:=round n e h hI
    have other:∀ x1,(∀ e h,su (λe' h'=>∃ m,m<n/\I m e' h') Q x1 e h=Q x1 e h)->x1≠.gH->(∀ k,m1<=k->gF (XN C F Pr fa k) (iC k) c an (proj live e) { h with aT:=iu live h.aT }=some (x1,e1,h1))->Q x1 e1 h1 ->
      ∃ x e' h',(∃ M,∀ k j,M<=k->M<=j->iC j (jo live (gF (XN C F Pr fa k) (iC k) c an)) e h=some (x,e',h'))/\Q x e' h':=by
     intro x1 _ hne hm q
     refine ⟨x1,e1,h1,⟨m1+1,λk j hk hj=>?_⟩,q⟩
     obtain ⟨j,rfl⟩:∃ j',j=j'+1:=⟨j - 1,by omega⟩
     grind [iC,nQ]
    cases x1 with
    | gH =>
      obtain ⟨m,hlt,hI1⟩:=q1
      obtain ⟨x2,e2,h2,⟨M,hM⟩,q2⟩:=ih m hlt e1 h1 hI1
      refine ⟨x2,e2,h2,⟨max m1 M+1,λk j hk hj=>?_⟩,q2⟩
      obtain ⟨j,rfl⟩:∃ j',j=j'+1:=⟨j - 1,by omega⟩
      grind [iC,nQ]
    | ext id=>exact other (.ext id) (λ_ _=>rfl) (by simp) hm1 q1
    | ret=>exact other .ret (λ_ _=>rfl) (by simp) hm1 q1
 intro n e h hI
 obtain ⟨x,e',h',⟨M,hM⟩,q⟩:=key n e h hI
 exact ⟨x,e',h',⟨M,λk hk=>hM k k hk hk⟩,q⟩
def Jl {id:Nat} {ops:Array Oper} {an:ga} (w:ic C F Pr fa ops.toList ops.toList (Q .gH) e h):Wp C F Pr fa (.region id ops false) an Q e h:=by
 obtain ⟨e1,h1,⟨m1,hm1⟩,q1⟩:=w
 exact ⟨.gH,e1,h1,⟨m1,λk hk=>by simp_all [gF,sr,EX,sB]⟩,q1⟩
def Le {id:Nat} {ops:Array Oper} {sch:List (Nat×List Nat)} (w:gZ C F Pr fa ops.toList sch (Q .gH) e h):Wp C F Pr fa (.region id ops true) (.uB sch) Q e h:=by
 obtain ⟨e1,h1,⟨m1,hm1⟩,q1⟩:=w
 exact ⟨.gH,e1,h1,⟨m1,λk hk=>by simp_all [gF,sr,s6,sB]⟩,q1⟩
variable {all rest:List Oper} {o:Oper} {q:Env->au->Prop}
def HK (w:q e h):ic C F Pr fa all [] q e h:=⟨e,h,⟨0,λ_ _=>rfl⟩,w⟩
def wX {v:AV} {h1:au} (hw:fE all e o=some true) (hop:∃ m,∀ k,m<=k->gd o.op (XN C F Pr fa k) e h o.dst=some (v,h1)) (w:ic C F Pr fa all rest q (fp e o v) h1):ic C F Pr fa all (o::rest) q e h:=by
 obtain ⟨m,hm⟩:=hop
 obtain ⟨e2,h2,⟨m2,hm2⟩,q2⟩:=w
 refine ⟨e2,h2,⟨max m m2,λk hk=>?_⟩,q2⟩
 grind [uJ,oY,xZ]
theorem be {v:AV} {h1:au} (hw:fE all e o=some true) (hop:∀ call,gd o.op ⟨C,fa,call⟩ e h o.dst=some (v,h1)) (w:ic C F Pr fa all rest q (fp e o v) h1):ic C F Pr fa all (o::rest) q e h :=
 wX hw ⟨0,λ_ _=>hop _⟩ w
def Gz (hw:fE all e o=some false) (w:ic C F Pr fa all rest q (fp e o (.fG [])) h):ic C F Pr fa all (o::rest) q e h:=by
 obtain ⟨e2,h2,⟨m2,hm2⟩,q2⟩:=w
 refine ⟨e2,h2,⟨m2,λk hk=>?_⟩,q2⟩
 grind [uJ,oY]
def Ih (w:q e h):gZ C F Pr fa all [] q e h:=⟨e,h,⟨0,λ_ _=>rfl⟩,w⟩
def wP {i:Nat} {sch:List (Nat×List Nat)} {v:AV} {h1:au} (ho:all[i]?=some o) (hw:fE all e o=some true) (hop:∃ m,∀ k,m<=k->gd o.op (XN C F Pr fa k) e h o.dst=some (v,h1))
  (w:gZ C F Pr fa all sch q (fp e o v) h1):gZ C F Pr fa all ((i,[])::sch) q e h:=by
 obtain ⟨m,hm⟩:=hop
 obtain ⟨e2,h2,⟨m2,hm2⟩,q2⟩:=w
 refine ⟨e2,h2,⟨max m m2,λk hk=>?_⟩,q2⟩
 grind [tA,oY,xZ]
theorem fD {i:Nat} {sch:List (Nat×List Nat)} {v:AV} {h1:au} (ho:all[i]?=some o) (hw:fE all e o=some true) (hop:∀ call,gd o.op ⟨C,fa,call⟩ e h o.dst=some (v,h1))
  (w:gZ C F Pr fa all sch q (fp e o v) h1):gZ C F Pr fa all ((i,[])::sch) q e h :=
 wP ho hw ⟨0,λ_ _=>hop _⟩ w
def GG {i:Nat} {sch:List (Nat×List Nat)} (ho:all[i]?=some o) (hw:fE all e o=some false) (w:gZ C F Pr fa all sch q (fp e o (.fG [])) h):gZ C F Pr fa all ((i,[])::sch) q e h:=by
 obtain ⟨e2,h2,⟨m2,hm2⟩,q2⟩:=w
 refine ⟨e2,h2,⟨m2,λk hk=>?_⟩,q2⟩
 grind [tA,oY]
def Gq {f:Nat} {g:Operand} {c:Call} {args:List AV} {v:AV} {d:Option Nat} (hf:c.callee=.value g) (hg:fg e g=.gx f [] []) (ha:c.args.toList.map (fg e)=args) (hok:args.all AV.kK=true) (hs:fa.fY.elem f=false)
  (w:fh C F Pr false f args { h with aT:=[] } v { h with aT:=[] }):∃ m,∀ k,m<=k->gd (.call c) (XN C F Pr fa k) e h d=some (v,h):=by
 obtain ⟨m,hm⟩:=w
 refine ⟨m,λk hk=>?_⟩
 simp only [gd,nG,mM,hf,hg,ha,rB,yt,List.nil_append,List.append_nil,hok,hs,hm k hk,sR]
def BG {f:Nat} {g:Operand} {c:Call} {args p q:List AV} {v:AV} {d:Option Nat} {h':au} (hf:c.callee=.value g) (hg:fg e g=.gx f p q) (ha:c.args.toList.map (fg e)=args) (hok:(p++args++q).all AV.kK=true) (hs:fa.fY.elem f=true)
  (w:fh C F Pr true f (p++args++q) { h with aT:=[] } v h'):∃ m,∀ k,m<=k->gd (.call c) (XN C F Pr fa k) e h d=some (v,{ h' with aT:=h.aT }):=by
 obtain ⟨m,hm⟩:=w
 refine ⟨m,λk hk=>?_⟩
 simp only [gd,nG,mM,hf,hg,ha,rB,yt,hok,hs,hm k hk,sR]
def Leaves (C:gv) (res:List ResultVar) (R:AV->au->Prop):Ex->Env->au->Prop
 | .ext _,_,_=>False
 | _,e,h=>∃ v,leave.leave1 C res e h=some (v,h)/\R v h
def wm {f:Nat} {args:List AV} {R:AV->au->Prop} (hP:Pr f=none) (hF:F f=some fa) (hi:fa.iter=false) (w:Wp C F Pr fa fa.body fa.lE (Leaves C fa.res R) (params 0 args) h) :
  ∃ v h',fh C F Pr true f args h v h'/\R v h':=by
 obtain ⟨x,e1,h1,⟨m,hm⟩,q⟩:=w
 have fin:∀ x:Ex,(x=.gH\/x=.ret)->(∀ k,m<=k->gF (XN C F Pr fa k) (iC k) fa.body fa.lE (params 0 args) h=some (x,e1,h1))->(∃ v,leave.leave1 C fa.res e1 h1=some (v,h1)/\R v h1)->∃ v h',fh C F Pr true f args h v h'/\R v h':=by
  rintro x hx hm ⟨v,hv,hR⟩
  refine ⟨v,h1,⟨m+1,λk hk=>?_⟩,hR⟩
  obtain ⟨k,rfl⟩:∃ k',k=k'+1:=⟨k - 1,by omega⟩
  simp only [gP,hP,hF,rG,tH,hi,Cg,hm k (by omega)]
  rcases hx with rfl | rfl<;>exact hv
 cases x with
 | gH=>exact fin .gH (.inl rfl) hm q
 | ret=>exact fin .ret (.inr rfl) hm q
 | ext id=>exact q.elim
def LY {f:Nat} {args kU:List AV} {R:AV->Prop} (hP:Pr f=none) (hF:F f=some fa) (hi:fa.iter=false) (ha:gT h args=some kU)
  (w:Wp C F Pr fa fa.body fa.lE (Leaves C fa.res λv h'=>∃ v1,freeze false h' 8 v=some v1/\R v1) (params 0 kU) au.empty) :
  ∃ v,fh C F Pr false f args h v h/\R v:=by
 obtain ⟨v,h1,⟨m,hm⟩,v1,hv1,hR⟩:=wm hP hF hi w
 refine ⟨v1,⟨m+1,λk hk=>?_⟩,hR⟩
 have hb:=hm k (by omega)
 obtain ⟨k,rfl⟩:∃ k',k=k'+1:=⟨k - 1,by omega⟩
 grind [gP,rG,frozen]
end
section
variable {C:gv} {F:gX} {Pr:gQ} {fa:eY} {e:Env} {h:au} {all rest:List Oper} {o:Oper} {q:Env->au->Prop}
variable {t u:Nat} {x y:Operand} {k k':IntKind} {a b:Int}
def ca {c:BinOp} {X:Ctx} {d:Option Nat} {v:AV} (hx:fg e x=.int k a) (hy:fg e y=.int k' b) (hk:oE k k'=true) (hv:kE c k a b=some v):gd (.binOp c t x y u) X e h d=some (v,h):=by
 simp_all [gd,zd,binOp,AV.int?,FP,iJ]
def Ij (k:IntKind) (a b:Int):kE .lss k a b=some (.bool (decide (a<b))):=by
 simp only [kE,JX,xR,s7,sC]
 grind
def Ra (k:IntKind) (a b:Int):kE .leq k a b=some (.bool (decide (a<=b))):=by
 simp only [kE,JM,xR,s7,BL]
def Ie (k:IntKind) (a b:Int):kE .gtr k a b=some (.bool (decide (a > b))):=by
 simp only [kE,JQ,xR,s7,sC]
 grind
def HO (k:IntKind) (a b:Int):kE .geq k a b=some (.bool (decide (a>=b))):=by
 simp_all [kE,JZ,xR,s7,BL]
def HT (k:IntKind) (a b:Int):kE .eql k a b=some (.bool (decide (a=b))):=by
 simp only [kE,JF,xR,oo,BL]
 rfl
def Io (k:IntKind) (a b:Int):kE .neq k a b=some (.bool (decide (a≠b))):=by
 simp only [kE,JB,xR,oo,sC]
 grind
def pW {p:Prop} [Decidable p] (hw:fE all e o=some true) (hop:∀ call,gd o.op ⟨C,fa,call⟩ e h o.dst=some (.bool (decide p),h))
  (w1:p->ic C F Pr fa all rest q (fp e o (.bool true)) h) (w2:¬ p->ic C F Pr fa all rest q (fp e o (.bool false)) h):ic C F Pr fa all (o::rest) q e h:=by
 by_cases hp:p<;>grind [be]
def Du {X:Ctx} {d:Option Nat} {s r:List UInt8} (hx:fg e x=.str s) (hy:fg e y=.str r):gd (.binOp .eql t x y u) X e h d=some (.bool (decide (s=r)),h):=by
 simp only [gd,zd,binOp,hx,hy,AV.int?,AV.str?,FJ,CT,iJ]
 grind
theorem CU (k:IntKind) (a b:Int):kE .add k a b=some (.int k (k.wrap (a+b))):=by
 simp only [kE,Jq,vM,nS,sp,DE]
theorem pJ (k:IntKind) (a b:Int):kE .sub k a b=some (.int k (k.wrap (a - b))):=by
 simp only [kE,Ke,vM,nS,sp,DE,Db]
 rfl
def ej (a b:Int) (h1 : -9223372036854775808<=a+b) (h2:a+b<=9223372036854775807):kE .add .i64 a b=some (.int .i64 (a+b)):=by
 rw [CU,uj _ h1 h2]
def ju (a b:Int) (h1 : -9223372036854775808<=a - b) (h2:a - b<=9223372036854775807):kE .sub .i64 a b=some (.int .i64 (a - b)):=by
 rw [pJ,uj _ h1 h2]
def Ov {X:Ctx} {d:Option Nat} {el:Nat} {ti te:TI} {xs:List (List AV)} {c:ml} {n:Int} {r:List AV} (hT:X.C.T t=some ti) (hk:ti.kind=.slice el) (hE:X.C.T el=some te) (hx:fg e x=.sl xs c) (hi:fg e y=.int k n) (h0:0<=n)
  (hr:xs[n.toNat]?=some r) (hl:r.length=te.size):gd (.indexAddr t x y) X e h d=some (.ip r 0 (oU c),h):=by
 obtain ⟨m,rfl⟩:=Int.eq_ofNat_of_zero_le h0
 simp only [Int.toNat_natCast] at hr
 have hai:pV (.int k (m:Int))=some m:=rfl
 simp_all [gd,oK,nE,p8]
end
section
variable {C:gv} {F:gX} {Pr:gQ} {fa:eY} {e:Env} {h:au} {all rest:List Oper} {o:Oper} {q:Env->au->Prop} {Q:Ex->Env->au->Prop}
def e8 {c:Code} {live:List Nat} {an:ga} (N:Nat) (I:Nat->Env->au->Prop)
  (round:∀ k e h,k<=N->I k e h->Wp C F Pr fa c an (su (λe' h'=>k<N/\I (k+1) e' h') Q) (proj live e) { h with aT:=iu live h.aT }) {k0:Nat} (hk:k0<=N) (h0:I k0 e h):Wp C F Pr fa (.loop c) (.loop live an) Q e h:=by
 refine nT (λn e h=>∃ k,k<=N/\n=N - k/\I k e h) ?_ (N - k0) e h ⟨k0,hk,rfl,h0⟩
 rintro n e h ⟨k,hk,rfl,hI⟩
 refine (round k e h hk hI).mono ?_
 intro x e' h' hx
 cases x with
 | gH =>
   obtain ⟨hlt,hI'⟩:=hx
   exact ⟨N - (k+1),by omega,k+1,by omega,rfl,hI'⟩
 | ext id=>exact hx
 | ret=>exact hx
def Mb {f:Nat} {g:Operand} {c:Call} {args:List AV} {R:AV->Prop} (ho:o.op=.call c) (hw:fE all e o=some true) (hf:c.callee=.value g) (hg:fg e g=.gx f [] []) (ha:c.args.toList.map (fg e)=args) (hok:args.all AV.kK=true) (hs:fa.fY.elem f=false)
  (w:∀ h:au,∃ v,fh C F Pr false f args h v h/\R v) (next:∀ v,R v->ic C F Pr fa all rest q (fp e o v) h):ic C F Pr fa all (o::rest) q e h:=by
 obtain ⟨v,hc,hR⟩:=w { h with aT:=[] }
 refine wX hw ?_ (next v hR)
 rw [ho]
 exact Gq hf hg ha hok hs hc
end
def C0 {C:gv} {F:gX} {Pr:gQ} {fa:eY} {f:Nat} {args:List AV} {h:au} {R:AV->Prop} (hP:Pr f=none) (hF:F f=some fa) (hi:fa.iter=false) (ha:gT h args=some args)
  (w:Wp C F Pr fa fa.body fa.lE (Leaves C fa.res λv0 h'=>∃ v1,freeze false h' 8 v0=some v1/\R v1) (params 0 args) au.empty):∃ v,fh C F Pr false f args h v h/\R v:=LY hP hF hi ha w
abbrev rI:Nat:=9223372036854775807
structure abo (R:List AV->Prop) (xs:List (List AV)) (c:ml):Prop where
 row:∀ r∈xs,R r
 len:xs.length<=rI
 sn:oU c=false
structure Row (α:Type) where
 l:List α
 c:ml
 ok:l.length<=rI
 sn:oU c=false
 nl:c=.nil->l=[]
def Row.av {α:Type} (enc : α->List AV) (r:Row α):AV:=.sl (r.l.map enc) r.c
structure oq where
 l:List UInt8
 ok:l.length<=rI
def cI (n:Int):List AV:=[.int .i64 n]
def lH (s:oq):List AV:=[.str s.l]
def fM (b:Bool):List AV:=[.bool b]
structure eU where
 elem:Int
 en:Int
 deriving DecidableEq
def eU.ai (x:eU):List AV:=[.int .i64 x.elem,.int .i64 x.en]
structure jl where
 name:oq
 kind:Int
 len:Int
def jl.ai (x:jl):List AV:=[.str x.name.l,.int .i64 x.kind,.int .i64 x.len]
structure ig where
 a:eU
 b:eU
def ig.ai (x:ig):List AV:=[.int .i64 x.a.elem,.int .i64 x.a.en,.int .i64 x.b.elem,.int .i64 x.b.en]
structure iD where
 name:oq
 at_:eU
 auto:Bool
def iD.ai (x:iD):List AV:=[.str x.name.l,.int .i64 x.at_.elem,.int .i64 x.at_.en,.bool x.auto]
structure gp where
 name:oq
 elems:Row Int
def gp.ai (x:gp):List AV:=[.str x.name.l,x.elems.av cI]
structure bY where
 elems:Row jl
 fj:Row ig
 signals:Row iD
 lines:Row gp
 top:Int
 gD:Int
 gu:Int
 gw:Int
 gE:Bool
def bY.ai (p:bY):List AV:=[p.elems.av jl.ai,p.fj.av ig.ai,p.signals.av iD.ai,p.lines.av gp.ai,.int .i64 p.top,.int .i64 p.gD,.int .i64 p.gu,.int .i64 p.gw,.bool p.gE]
structure mu where
 name:oq
 len:Int
 top:Int
 acc:Int
 gD:Int
def mu.ai (x:mu):List AV:=[.str x.name.l,.int .i64 x.len,.int .i64 x.top,.int .i64 x.acc,.int .i64 x.gD]
structure ny where
 Nd:Bool
 at_:Int
 end_:Int
 to:Int
def ny.ai (x:ny):List AV:=[.bool x.Nd,.int .i64 x.at_,.int .i64 x.end_,.int .i64 x.to]
structure pk where
 name:oq
 kJ:Int
 from_:Int
 left:Int
 nc:Row ny
def pk.ai (x:pk):List AV:=[.str x.name.l,.int .i64 x.kJ,.int .i64 x.from_,.int .i64 x.left,x.nc.av ny.ai]
structure ib where
 CA:Int
 kJ:Row mu
 runs:Row pk
def ib.ai (x:ib):List AV:=[.int .i64 x.CA,x.kJ.av mu.ai,x.runs.av pk.ai]
structure pT where
 mode:Int
 xp:Row eU
 left:Int
 zP:Int
 v:Int
def pT.ai (x:pT):List AV:=[.int .i64 x.mode,x.xp.av eU.ai,.int .i64 x.left,.int .i64 x.zP,.int .i64 x.v]
structure ow where
 name:oq
 kJ:Int
 at_:eU
 left:Int
def ow.ai (x:ow):List AV:=[.str x.name.l,.int .i64 x.kJ,.int .i64 x.at_.elem,.int .i64 x.at_.en,.int .i64 x.left]
structure gI where
 out:Int
 pos:Int
def gI.ai (x:gI):List AV:=[.int .i64 x.out,.int .i64 x.pos]
structure fi where
 elem:Int
 kH:Int
 out:Int
def fi.ai (x:fi):List AV:=[.int .i64 x.elem,.int .i64 x.kH,.int .i64 x.out]
structure bm where
 elem:Int
 pos:Int
 deriving DecidableEq,Inhabited
def bm.ai (x:bm):List AV:=[.int .i64 x.elem,.int .i64 x.pos]
structure fe where
 from_:Int
 to:Int
 end_:Int
 steps:Row fi
 fX:Row bm
 guards:Row bm
 gB:Row Int
 holds:Row Int
 bare:Bool
def fe.ai (x:fe):List AV:=[.int .i64 x.from_,.int .i64 x.to,.int .i64 x.end_,x.steps.av fi.ai,x.fX.av bm.ai,x.guards.av bm.ai,x.gB.av cI,x.holds.av cI,.bool x.bare]
section
variable {C:gv} {F:gX} {Pr:gQ} {fa:eY} {e:Env} {h:au} {all rest:List Oper} {o:Oper} {q:Env->au->Prop} {Q:Ex->Env->au->Prop}
variable {α:Type} {enc : α->List AV}
def Qd {c:Code} {an:ga} {e':Env} {h':au} (he:e=e') (hh:h=h') (w:Wp C F Pr fa c an Q e' h'):Wp C F Pr fa c an Q e h:=by grind
def jf {b:Bool} (hw:fE all e o=some true) (hop:∀ call,gd o.op ⟨C,fa,call⟩ e h o.dst=some (.bool b,h))
  (w1:b=true->ic C F Pr fa all rest q (fp e o (.bool true)) h) (w2:b=false->ic C F Pr fa all rest q (fp e o (.bool false)) h):ic C F Pr fa all (o::rest) q e h:=by
 cases b<;>grind [be]
def og {i:Nat} {sch:List (Nat×List Nat)} {p:Prop} [Decidable p] (ho:all[i]?=some o) (hw:fE all e o=some true) (hop:∀ call,gd o.op ⟨C,fa,call⟩ e h o.dst=some (.bool (decide p),h))
  (w1:p->gZ C F Pr fa all sch q (fp e o (.bool true)) h) (w2:¬ p->gZ C F Pr fa all sch q (fp e o (.bool false)) h):gZ C F Pr fa all ((i,[])::sch) q e h:=by
 by_cases hp:p<;>grind [fD]
def ME {i:Nat} {sch:List (Nat×List Nat)} {b:Bool} (ho:all[i]?=some o) (hw:fE all e o=some true) (hop:∀ call,gd o.op ⟨C,fa,call⟩ e h o.dst=some (.bool b,h))
  (w1:b=true->gZ C F Pr fa all sch q (fp e o (.bool true)) h) (w2:b=false->gZ C F Pr fa all sch q (fp e o (.bool false)) h):gZ C F Pr fa all ((i,[])::sch) q e h:=by
 cases b<;>grind [fD]
def NN {i:Nat} {sch:List (Nat×List Nat)} {f:Nat} {g:Operand} {c:Call} {args:List AV} {R:AV->Prop} (hi:all[i]?=some o) (hw:fE all e o=some true) (ho:o.op=.call c) (hf:c.callee=.value g) (hg:fg e g=.gx f [] []) (ha:c.args.toList.map (fg e)=args) (hok:args.all AV.kK=true) (hs:fa.fY.elem f=false)
  (w:∀ h:au,∃ v,fh C F Pr false f args h v h/\R v) (next:∀ v,R v->gZ C F Pr fa all sch q (fp e o v) h):gZ C F Pr fa all ((i,[])::sch) q e h:=by
 obtain ⟨v,hc,hR⟩:=w { h with aT:=[] }
 refine wP hi hw ?_ (next v hR)
 rw [ho]
 exact Gq hf hg ha hok hs hc
def AP {X:Ctx} {d:Option Nat} {t el:Nat} {x:Operand} {cl:Call} {ti:TI} {r:Row α} (hc:cl.callee=.builtin .len) (ha:cl.args.toList=[x]) (hts:cl.argTypes.toList=[t]) (hT:X.C.T t=some ti) (hk:ti.kind=.slice el) (hx:fg e x=r.av enc) :
  gd (.call cl) X e h d=some (.int .i64 r.l.length,h):=by
 simp_all [gd,nG,mM,lz,xy,uC,wD,Row.av,vv,oR]
theorem sJ {X:Ctx} {d:Option Nat} {t el:Nat} {x y:Operand} {ti te:TI} {r:Row α} {k:IntKind} {n:Nat} (hT:X.C.T t=some ti) (hk:ti.kind=.slice el) (hE:X.C.T el=some te) (hx:fg e x=r.av enc) (hi:fg e y=.int k (n:Int))
  (hn:n<r.l.length) (hl:(enc r.l[n]).length=te.size):gd (.indexAddr t x y) X e h d=some (.ip (enc r.l[n]) 0 false,h):=by
 rw [<- r.sn]
 exact Ov hT hk hE hx hi (by omega) (r:=enc r.l[n]) (by simp [hn]) hl
def Ir {X:Ctx} {d:Option Nat} {t el:Nat} {x y:Operand} {ti te:TI} {r:Row α} {k:IntKind} {n:Int} (hT:X.C.T t=some ti) (hk:ti.kind=.slice el) (hE:X.C.T el=some te) (hx:fg e x=r.av enc) (hi:fg e y=.int k n) (h0:0<=n)
  (hn:n.toNat<r.l.length) (hl:(enc r.l[n.toNat]).length=te.size):gd (.indexAddr t x y) X e h d=some (.ip (enc r.l[n.toNat]) 0 false,h):=by
 grind [sJ]
theorem Gk (a b c d:Int):ki [.int .i64 a,.int .i64 b] [.int .i64 c,.int .i64 d]=some (decide (a=c/\b=d)):=by
 simp only [ki,kT,vq,AV.int?,oE,oo]
 have e1:(a==c)=decide (a=c):=rfl
 have e2:(b==d)=decide (b=d):=rfl
 rw [e1,e2]
 by_cases h1:a=c<;>by_cases h2:b=d<;>simp [h1,h2]
def xe {X:Ctx} {dd:Option Nat} {t u:Nat} {x y:Operand} {ti:TI} {a b c d:Int} (hx:fg e x=.agg [.int .i64 a,.int .i64 b]) (hy:fg e y=.agg [.int .i64 c,.int .i64 d])
  (hT:X.C.T t=some ti) (hf:∀ a b:Int,vA ti (.agg [.int .i64 a,.int .i64 b]) (.agg [.int .i64 c,.int .i64 d])=ki [.int .i64 a,.int .i64 b] [.int .i64 c,.int .i64 d]) :
  gd (.binOp .eql t x y u) X e h dd=some (.bool (decide (a=c/\b=d)),h):=by
 simp_all [gd,zd,binOp,AV.int?,AV.str?,zg,Gk,iJ]
theorem iE {sn:Bool} {hp:au} {n:Nat} (r:Row α):freeze sn hp (n+1) (Row.av enc r)=some (Row.av enc r):=by
 have:=r.sn
 grind [Row.av,freeze,oU]
theorem qM {sn:Bool} {hp:au} {n:Nat} (k:IntKind) (a:Int):freeze sn hp (n+1) (.int k a)=some (.int k a):=rfl
theorem rY {sn:Bool} {hp:au} {n:Nat} (a:Bool):freeze sn hp (n+1) (.bool a)=some (.bool a):=rfl
theorem um {sn:Bool} {hp:au} {n:Nat} (a:List UInt8):freeze sn hp (n+1) (.str a)=some (.str a):=rfl
theorem Qm {sn:Bool} {hp:au} {n:Nat} (l:List AV):freeze sn hp (n+1) (.agg l)=(match fU (freeze sn hp n) l with
   | some l=>some (.agg l)
   | none=>none):=rfl
def zI {X:Ctx} {d:Option Nat} {t:Nat} {x y:Operand} {ti:TI} {s:List UInt8} {k:IntKind} {n:Nat} (hT:X.C.T t=some ti) (hk:ti.kind=.str) (hx:fg e x=.str s) (hi:fg e y=.int k (n:Int)) (hn:n<s.length):gd (.index t x y) X e h d=some (.int .u8 s[n].toNat,h):=by
 have hai:pV (.int k (n:Int))=some n:=rfl
 simp_all [gd,Cf,zE,AV.str?]
def Row.isNil (r:Row α):Bool:=match r.c with
 | .nil=>true
 | _=>false
def Row.of_nil {r:Row α} (h:r.isNil=true):r.l=[]:=by
 apply r.nl
 grind [Row.isNil]
end
def jD:AV->Option Nat
 | .hs b _ _ _=>some b
 | .hm b=>some b
 | .ptr b _ _ _=>some b
 | _=>none
def A2 {α:Type} (H:au) (n:Nat) (enc : α->List AV) (v:AV) (l:List α):Prop :=
 (l=[]/\v=.sl [] .nil)\/(v=.sl (l.map enc) (.exact l.length))\/∃ b g,b<H.size/\v=.hs b g 0 l.length/\H.get b=some (.fc g n (l.map enc))
structure Au (H H':au) (v v':AV):Prop where
 lo:H'.lo=H.lo
 size:H.size<=H'.size
 get:∀ b,b<H.size->jD v≠some b->H'.get b=H.get b
 own:∀ b,jD v'=some b->jD v=some b\/H.size<=b
theorem au.iG (H:au) (ls:iN) (b:Nat):({ H with aT:=ls }:au).get b=H.get b:=rfl
theorem au.vj (H:au) (ls:iN) (o:jM):({ H with aT:=ls }:au).push o = { H.push o with aT:=ls }:=by simp [au.xc]
theorem au.mE (H:au) (ls:iN) (b:Nat) (o:jM):({ H with aT:=ls }:au).set b o = { H.set b o with aT:=ls }:=by simp [au.zJ]
def Au.refl (H:au) (v:AV):Au H H v v:=⟨rfl,Nat.le_refl _,λ_ _ _=>rfl,λ_ h=>.inl h⟩
theorem A2.keep {α:Type} {H H':au} {n:Nat} {enc : α->List AV} {v v' w:AV} {l:List α} (h:A2 H n enc w l) (k:Au H H' v v') (hd:∀ b,jD w=some b->jD v≠some b):A2 H' n enc w l:=by
 rcases h with h | h | ⟨b,g,hb,rfl,hg⟩
 ·exact .inl h
 ·exact .inr (.inl h)
 ·exact .inr (.inr ⟨b,g,Nat.lt_of_lt_of_le hb k.size,rfl,by rw [k.get b hb (hd b rfl)]; exact hg⟩)
def A2.lt {α:Type} {H:au} {n:Nat} {enc : α->List AV} {w:AV} {l:List α} (h:A2 H n enc w l):∀ b,jD w=some b->b<H.size:=by
 rcases h with ⟨_,rfl⟩ | rfl | ⟨b,g,hb,rfl,hg⟩<;>grind [jD]
def Au.apart {H H':au} {v v' w:AV} (k:Au H H' v v') (hd:∀ b,jD w=some b->jD v≠some b) (hl:∀ b,jD w=some b->b<H.size):∀ b,jD w=some b->jD v'≠some b:=by
 intro b hw hv
 rcases k.own b hv with h | h<;>grind
def yU (v w:AV):Prop:=∀ b,jD v=some b->jD w≠some b
theorem yU.symm {v w:AV} (h:yU v w):yU w v:=λb hw hv=>h b hv hw
def yU.nil {w:AV} {xs:List (List AV)} {c:ml}:yU (.sl xs c) w:=λb h=>by simp [jD] at h
theorem yU.keep {α:Type} {H H':au} {n:Nat} {enc : α->List AV} {v v' w:AV} {l:List α} (hd:yU v w) (k:Au H H' v v') (h:A2 H n enc w l):yU v' w:=yU.symm (k.apart hd.symm h.lt)
theorem A2.yC {α:Type} {H:au} {n:Nat} {enc : α->List AV} {v:AV} {l:List α} (h:A2 H n enc v l) (t:Nat):Go.Sx.keep t v=v:=by
 rcases h with ⟨_,rfl⟩ | rfl | ⟨_,_,_,rfl,_⟩<;>rfl
section
variable {C:gv} {F:gX} {Pr:gQ} {fa:eY} {e:Env} {all rest:List Oper} {o:Oper} {q:Env->au->Prop}
variable {α:Type} {enc : α->List AV}
theorem A2.kK {H:au} {n:Nat} {v:AV} {l:List α} (hb:A2 H n enc v l):AV.kK v=true:=by
 rcases hb with ⟨rfl,rfl⟩ | rfl | ⟨b,g,hlt,rfl,hg⟩<;>rfl
def ia {C:gv} {res:List ResultVar} {e:Env} {h:au} {vs:List AV} (h1:Dv C e h res=some vs) (h2:vs.all AV.kK=true):leave.leave1 C res e h=some (result vs,h):=by
 grind [leave.leave1]
def Row.take (r:Row α) (k:Nat):Row α:=⟨r.l.take k,r.c,by have:=r.ok; grind,r.sn,λh=>by rw [r.nl h]; simp⟩
end
def look {κ β:Type} [DecidableEq κ] (k : κ):List (κ×β)->Option β
 | []=>none
 | x::l=>if k=x.1 then some x.2 else look k l
def cA {κ β:Type} (ek : κ->AV) (ev : β->AV) (l:List (κ×β)):List (AV×AV):=l.map λx=>(ek x.1,ev x.2)
def pK (p:eU):AV:=.agg p.ai
def iK (n:Int):AV:=.int .i64 n
def sb (p:Int×Int):AV:=.agg [.int .i64 p.1,.int .i64 p.2]
structure fw where
 p:bY
 next:List (eU×eU)
 reads:List (eU×Int)
 line:List (Int×Int×Int)
 lead:List (Int×Int)
def fw.ai (n:fw):List AV:=[n.p.elems.av jl.ai,n.p.fj.av ig.ai,n.p.signals.av iD.ai,n.p.lines.av gp.ai,.int .i64 n.p.top,.int .i64 n.p.gD,.int .i64 n.p.gu,.int .i64 n.p.gw,.bool n.p.gE,
 .fm (cA pK pK n.next) false,.fm (cA pK iK n.reads) false,.fm (cA iK sb n.line) false,.fm (cA iK iK n.lead) false]
def jU (a b:eU):jc (pK a) (pK b)=some (decide (a=b)):=by
 have h:(a=b)↔(a.elem=b.elem/\a.en=b.en):=by cases a; cases b; simp
 grind [jc,pK,eU.ai,AV.agg?,zD,Gk]
def iF (a b:Int):jc (iK a) (iK b)=some (decide (a=b)):=by
 simp only [jc,iK,AV.agg?,kT,vq,AV.int?,oE,oo]
 rfl
theorem y9 {κ β:Type} [DecidableEq κ] {ek : κ->AV} {ev : β->AV} (hk:∀ a b,jc (ek a) (ek b)=some (decide (a=b))) (k : κ) (l:List (κ×β)):qz (ek k) (cA ek ev l)=some ((look k l).map ev):=by
 induction l<;>grind [cA,qz,look]
section
variable {C:gv} {F:gX} {Pr:gQ} {fa:eY} {e:Env} {h:au} {all rest:List Oper} {o:Oper} {q:Env->au->Prop}
variable {κ β:Type} [DecidableEq κ] {ek : κ->AV} {ev : β->AV}
theorem AT {X:Ctx} {d:Option Nat} {t kt el:Nat} {m k:Operand} {tm te:TI} {key : κ} {l:List (κ×β)} {z:AV} {s:Bool} (hT:X.C.T t=some tm) (hk:tm.kind=.map kt el) (hE:X.C.T el=some te) (hm:fg e m=.fm (cA ek ev l) s) (hkk:fg e k=ek key) (hK:oP X.C kt (ek key)=true) (hz:asAgg te te.zero=some z) (hke:∀ a b,jc (ek a) (ek b)=some (decide (a=b))) :
  gd (.lookup t m k true) X e h d=some (match look key l with
   | some v=>.fG [ev v,.bool true]
   | none=>.fG [z,.bool false],h):=by
 simp only [gd,si,pN,hT,hk,hE,hkk,hK,hm,py,y9 hke]
 grind [look,yf,iJ]
def sg {t kt el:Nat} {m k:Operand} {tm te:TI} {key : κ} {l:List (κ×β)} {z:AV} {s:Bool} (hw:fE all e o=some true) (ho:o.op=.lookup t m k true) (hT:C.T t=some tm) (hk:tm.kind=.map kt el) (hE:C.T el=some te) (hm:fg e m=.fm (cA ek ev l) s) (hkk:fg e k=ek key) (hK:oP C kt (ek key)=true) (hz:asAgg te te.zero=some z) (hke:∀ a b,jc (ek a) (ek b)=some (decide (a=b)))
  (w1:∀ v,look key l=some v->ic C F Pr fa all rest q (fp e o (.fG [ev v,.bool true])) h) (w2:look key l=none->ic C F Pr fa all rest q (fp e o (.fG [z,.bool false])) h):ic C F Pr fa all (o::rest) q e h:=by
 cases hl:look key l with
 | none=>exact be hw (λcall=>by rw [ho,AT hT hk hE hm hkk hK hz hke,hl]) (w2 hl)
 | some v=>exact be hw (λcall=>by rw [ho,AT hT hk hE hm hkk hK hz hke,hl]) (w1 v hl)
def E3 {i:Nat} {sch:List (Nat×List Nat)} {t kt el:Nat} {m k:Operand} {tm te:TI} {key : κ} {l:List (κ×β)} {z:AV} {s:Bool} (hi:all[i]?=some o) (hw:fE all e o=some true) (ho:o.op=.lookup t m k true) (hT:C.T t=some tm) (hk:tm.kind=.map kt el) (hE:C.T el=some te) (hm:fg e m=.fm (cA ek ev l) s) (hkk:fg e k=ek key) (hK:oP C kt (ek key)=true) (hz:asAgg te te.zero=some z) (hke:∀ a b,jc (ek a) (ek b)=some (decide (a=b)))
  (w1:∀ v,look key l=some v->gZ C F Pr fa all sch q (fp e o (.fG [ev v,.bool true])) h) (w2:look key l=none->gZ C F Pr fa all sch q (fp e o (.fG [z,.bool false])) h):gZ C F Pr fa all ((i,[])::sch) q e h:=by
 cases hl:look key l with
 | none=>exact fD hi hw (λcall=>by rw [ho,AT hT hk hE hm hkk hK hz hke,hl]) (w2 hl)
 | some v=>exact fD hi hw (λcall=>by rw [ho,AT hT hk hE hm hkk hK hz hke,hl]) (w1 v hl)
end
inductive gh where
 | sl (w t:Bool) (v:AV) (n:Nat) (xs:List (List AV))
 | map (v:AV) (es:List (AV×AV))
 | obj (v:AV) (cs:List AV)
def gh.v:gh->AV
 | .sl _ _ v _ _=>v
 | .map v _=>v
 | .obj v _=>v
def kX (es:List (AV×AV×Nat)):List (AV×AV):=es.map λx=>(x.1,x.2.1)
def we (es:List (AV×AV×Nat)) (c:Nat):Prop:=(∀ x∈es,x.2.2<c)/\es.Pairwise λa b=>a.2.2≠b.2.2
def we.snoc {es:List (AV×AV×Nat)} {c:Nat} (h:we es c) (k v:AV):we (es++[(k,v,c)]) (c+1):=by
 refine ⟨λx hx=>?_,List.pairwise_append.mpr ⟨h.2,by simp,λa ha b hb=>?_⟩⟩
 ·rcases List.mem_append.mp hx with hx | hx
  ·have:=h.1 x hx; omega
  grind
 ·simp at hb; subst hb; have:=h.1 a ha; grind
def we.modify {es:List (AV×AV×Nat)} {c:Nat} (h:we es c) (i:Nat) (f:AV×AV×Nat->AV×AV×Nat) (hf:∀ e,(f e).2.2=e.2.2):we (es.modify i f) c:=by
 have hm:(es.modify i f).map (λx=>x.2.2)=es.map (λx=>x.2.2):=by
  apply List.ext_getElem (by simp)
  grind
 have h1:∀ x∈(es.modify i f).map (λx=>x.2.2),x<c:=by
  rw [hm]; intro x hx; obtain ⟨y,hy,rfl⟩:=List.mem_map.mp hx; exact h.1 y hy
 refine ⟨λx hx=>h1 _ (List.mem_map_of_mem hx),?_⟩
 have h2:((es.modify i f).map (λx=>x.2.2)).Pairwise (·≠·):=by
  rw [hm,List.pairwise_map]; exact h.2
 grind
def gh.ok (H:au):gh->Prop
 | .sl w t v n xs=>(∀ x∈xs,x.length=n)/\((xs=[]/\v=.sl [] .nil)\/((w=false\/xs=[])/\v=.sl xs (.exact xs.length))\/∃ b g j,b<H.size/\v=.hs b g 0 xs.length/\H.get b=some (.fc g n (xs++j))/\(t=true->j=[]))
 | .map v es=>∃ b es' c,b<H.size/\v=.hm b/\H.get b=some (.map es' c)/\kX es'=es/\we es' c
 | .obj v cs=>∃ b z,b<H.size/\v=.ptr b 0 0 0/\H.get b=some (.fc 0 z [cs])
structure Sep (H:au) (L:List gh):Prop where
 lo:H.lo<=H.size
 ok:∀ r∈L,r.ok H
 AX:L.Pairwise λa b=>yU a.v b.v
def gJ:Sep au.empty []:=⟨Nat.le_refl _,by simp,.nil⟩
theorem gh.ok.keep {H H':au} {r:gh} (h:r.ok H) (hs:H.size<=H'.size) (hg:∀ b,b<H.size->jD r.v=some b->H'.get b=H.get b):r.ok H':=by
 cases r with
 | sl w t v n xs =>
   obtain ⟨hl,h | h | ⟨b,g,j,hb,rfl,hq,ht⟩⟩:=h
   ·exact ⟨hl,.inl h⟩
   ·exact ⟨hl,.inr (.inl h)⟩
   ·exact ⟨hl,.inr (.inr ⟨b,g,j,by omega,rfl,by rw [hg b hb rfl]; exact hq,ht⟩)⟩
 | map v es =>
   obtain ⟨b,es',c,hb,rfl,hq,he,hst⟩:=h
   exact ⟨b,es',c,by omega,rfl,by rw [hg b hb rfl]; exact hq,he,hst⟩
 | obj v cs =>
   obtain ⟨b,z,hb,rfl,hq⟩:=h
   exact ⟨b,z,by omega,rfl,by rw [hg b hb rfl]; exact hq⟩
def gh.ok.lt {H:au} {r:gh} (h:r.ok H):∀ b,jD r.v=some b->b<H.size:=by
 intro b0 hb0
 cases r with
 | sl w t v n xs =>
   obtain ⟨hl,⟨_,rfl⟩ | ⟨_,rfl⟩ | ⟨b,g,j,hb,rfl,hq,ht⟩⟩:=h<;>simp [jD,gh.v] at hb0
   omega
 | map v es =>
   obtain ⟨b,es',c,hb,rfl,hq,he,hst⟩:=h
   grind [jD,gh.v]
 | obj v cs =>
   obtain ⟨b,z,hb,rfl,hq⟩:=h
   grind [jD,gh.v]
def gh.ok.GF {H:au} {r:gh} (h:r.ok H):AV.gY r.v=true/\(∀ t,Go.Sx.keep t r.v=r.v)/\AV.kK r.v=true:=by
 cases r with
 | sl w t v n xs =>
   obtain ⟨hl,⟨_,rfl⟩ | ⟨_,rfl⟩ | ⟨b,g,j,hb,rfl,hq,ht⟩⟩:=h<;>exact ⟨rfl,λ_=>rfl,rfl⟩
 | map v es=>obtain ⟨b,es',c,hb,rfl,hq,he,hst⟩:=h; exact ⟨rfl,λ_=>rfl,rfl⟩
 | obj v cs=>obtain ⟨b,z,hb,rfl,hq⟩:=h; exact ⟨rfl,λ_=>rfl,rfl⟩
theorem Sep.at {H:au} {L:List gh} (h:Sep H L) {i:Nat} {r:gh} (hi:L[i]?=some r):r.ok H:=h.ok r (List.mem_of_getElem? hi)
theorem Sep.yC {H:au} {L:List gh} (h:Sep H L) {i:Nat} {r:gh} (hi:L[i]?=some r) (t:Nat):Go.Sx.keep t r.v=r.v:=(h.at hi).GF.2.1 t
def Sep.cell {H:au} {L:List gh} (h:Sep H L) {i:Nat} {r:gh} (hi:L[i]?=some r):AV.gY r.v=true:=(h.at hi).GF.1
theorem Sep.arg {H:au} {L:List gh} (h:Sep H L) {i:Nat} {r:gh} (hi:L[i]?=some r):AV.kK r.v=true:=(h.at hi).GF.2.2
theorem Sep.mq {H H':au} {L:List gh} (h:Sep H L) {i:Nat} {r r':gh} (hi:L[i]?=some r) (hlo:H'.lo<=H'.size) (hs:H.size<=H'.size) (hr:r'.ok H') (hg:∀ b,b<H.size->jD r.v≠some b->H'.get b=H.get b) (ho:∀ b,jD r'.v=some b->jD r.v=some b\/H.size<=b):Sep H' (L.set i r'):=by
 have hil:i<L.length:=(List.getElem?_eq_some_iff.mp hi).1
 have hri:L[i]=r:=(List.getElem?_eq_some_iff.mp hi).2
 have hp:=List.pairwise_iff_getElem.mp h.AX
 have AX:∀ j (hj:j<L.length),j≠i->yU r.v L[j].v:=by
  intro j hj hne
  rcases Nat.lt_or_gt_of_ne hne with hlt | hlt
  ·have:=hp j i hj hil hlt; rw [hri] at this; exact this.symm
  grind
 have apt':∀ j (hj:j<L.length),j≠i->yU r'.v L[j].v:=by
  intro j hj hne b hb hb'
  rcases ho b hb with hx | hx
  ·exact AX j hj hne b hx hb'
  ·exact absurd ((h.ok _ (List.getElem_mem hj)).lt b hb') (by omega)
 refine ⟨hlo,?_,?_⟩
 ·intro x hx
  obtain ⟨j,hj,rfl⟩:=List.mem_iff_getElem.mp hx
  rw [List.length_set] at hj
  rw [List.getElem_set]
  split
  ·exact hr
  ·rename_i hne
   refine (h.ok _ (List.getElem_mem hj)).keep hs ?_
   intro b hb hbl
   exact hg b hb λhq=>AX j hj (Ne.symm hne) b hq hbl
 ·rw [List.pairwise_iff_getElem]
  intro j k hj hk hjk
  rw [List.length_set] at hj hk
  simp only [List.getElem_set]
  split
  ·grind
  ·split
   ·rename_i h1 h2; exact (apt' j hj (Ne.symm h1)).symm
   grind
def Sep.new {H H':au} {L:List gh} (h:Sep H L) {r':gh} (hlo:H'.lo<=H'.size) (hs:H.size<=H'.size) (hr:r'.ok H') (hg:∀ b,b<H.size->H'.get b=H.get b) (ho:∀ b,jD r'.v=some b->H.size<=b):Sep H' (r'::L):=by
 refine ⟨hlo,?_,.cons ?_ h.AX⟩
 ·intro x hx
  rcases List.mem_cons.mp hx with rfl | hx
  ·exact hr
  ·exact (h.ok x hx).keep hs λb hb _=>hg b hb
 ·intro x hx b hb hb'
  exact absurd ((h.ok x hx).lt b hb') (by grind)
def Sep.jZ {H:au} {L:List gh} (h:Sep H L) (n:Nat):Sep H (.sl true true (.sl [] .nil) n []::L):=h.new h.lo (Nat.le_refl _) ⟨by simp,.inl ⟨rfl,rfl⟩⟩ (λ_ _=>rfl) (λb hb=>by simp [jD,gh.v] at hb)
def Sep.VU {H:au} {L:List gh} (h:Sep H L) (n:Nat) (xs:List (List AV)) (hn:∀ x∈xs,x.length=n) {k:Nat} (hk:k=xs.length):Sep H (.sl false true (.sl xs (.exact k)) n xs::L):=by
 subst hk
 exact h.new h.lo (Nat.le_refl _) ⟨hn,.inr (.inl ⟨.inl rfl,rfl⟩)⟩ (λ_ _=>rfl) (λb hb=>by simp [jD,gh.v] at hb)
def Sep.nk {H:au} {L:List gh} (h:Sep H L) (n:Nat):Sep H (.sl true true (.sl [] (.exact 0)) n []::L):=h.new h.lo (Nat.le_refl _) ⟨by simp,.inr (.inl ⟨.inr rfl,rfl⟩)⟩ (λ_ _=>rfl) (λb hb=>by simp [jD,gh.v] at hb)
def Ql {α:Type} {R : α->α->Prop} (hs:∀ a b,R a b->R b a) {L:List α} (h:L.Pairwise R) {i j:Nat} (hi:i<L.length) (hj:j<L.length) (hne:i≠j):R L[i] L[j]:=by
 have hp:=List.pairwise_iff_getElem.mp h
 grind
def Wv (is:List Nat) (n:Nat) (L:List gh):List gh:=is.filterMap (L[·]?)++L.drop n
def Sep.pick {H:au} {L:List gh} (h:Sep H L) (is:List Nat) (n:Nat) (hn:is.Nodup) (hlt:∀ i∈is,i<n):Sep H (Wv is n L):=by
 have hp:=List.pairwise_iff_getElem.mp h.AX
 refine ⟨h.lo,?_,List.pairwise_append.mpr ⟨?_,h.AX.sublist (List.drop_sublist _ _),?_⟩⟩
 ·intro x hx
  rcases List.mem_append.mp hx with hx | hx
  ·obtain ⟨i,_,hi⟩:=List.mem_filterMap.mp hx
   exact h.ok x (List.mem_of_getElem? hi)
  ·exact h.ok x (List.mem_of_mem_drop hx)
 ·rw [List.pairwise_filterMap]
  refine hn.imp ?_
  intro i j hne x hx y hy
  obtain ⟨hi,rfl⟩:=List.getElem?_eq_some_iff.mp hx
  obtain ⟨hj,rfl⟩:=List.getElem?_eq_some_iff.mp hy
  exact Ql (λa b hab=>hab.symm) h.AX hi hj hne
 ·intro x hx y hy
  obtain ⟨i,hmem,hi⟩:=List.mem_filterMap.mp hx
  obtain ⟨hil,rfl⟩:=List.getElem?_eq_some_iff.mp hi
  obtain ⟨j,hj,rfl⟩:=List.mem_iff_getElem.mp hy
  grind
theorem Sep.aT {H:au} {L:List gh} (h:Sep H L) (ls:iN):Sep { H with aT:=ls } L:=by
 refine ⟨h.lo,λr hr=>(h.ok r hr).keep (Nat.le_refl _) λ_ _ _=>rfl,h.AX⟩
section
variable {κ β:Type} [DecidableEq κ] {ek : κ->AV} {ev : β->AV}
def put (k : κ) (x : β):List (κ×β)->List (κ×β)
 | []=>[(k,x)]
 | p::l=>if k=p.1 then (k,x)::l else p::put k x l
theorem j6 (k k' : κ) (x : β) (l:List (κ×β)):look k (put k' x l)=if k=k' then some x else look k l:=by
 induction l<;>grind [put,look]
def sI (hk:∀ a b,jc (ek a) (ek b)=some (decide (a=b))) (k : κ) (l:List (κ×β)) (es:List (AV×AV×Nat)) (he:kX es=cA ek ev l) (i:Nat) :
  (look k l=none->findKey (ek k) es i=some none)/\(∀ x,look k l=some x->∃ j,findKey (ek k) es i=some (some (i+j,ev x))/\j<es.length/\∀ y (f:AV×AV×Nat->AV×AV×Nat),(∀ e,(f e).1=ek k/\(f e).2.1=ev y)->kX (es.modify j f)=cA ek ev (put k y l))/\(look k l=none->∀ y c,kX (es++[(ek k,ev y,c)])=cA ek ev (put k y l)):=by
 induction l generalizing es i with
 | nil =>
   cases es with
   | nil=>exact ⟨λ_=>rfl,λ_ h=>by simp [look] at h,λ_ _ _=>rfl⟩
   | cons e es=>simp [kX,cA] at he
 | cons p l ih =>
   cases es with
   | nil=>simp [kX,cA] at he
   | cons e es =>
     obtain ⟨a,b,c⟩:=e
     simp only [kX,cA,List.map_cons,List.cons.injEq,Prod.mk.injEq] at he
     obtain ⟨⟨rfl,rfl⟩,he⟩:=he
     obtain ⟨i1,i2,i3⟩:=ih es he (i+1)
     by_cases h:k=p.1
     ·simp_all [look,findKey,f1,kX,put,cA]
     ·refine ⟨λhn=>?_,λx hx=>?_,λhn y c'=>?_⟩
      ·grind [look,findKey]
      ·simp only [look,h,if_false] at hx
       obtain ⟨j,hj,hl,hm⟩:=i2 x hx
       refine ⟨j+1,?_,by simpa using hl,λy f hf=>?_⟩<;>grind [findKey,kX,put,cA]
      grind [look,kX,put,cA]
end
section
variable {C:gv} {F:gX} {Pr:gQ} {fa:eY} {e:Env} {all rest:List Oper} {o:Oper} {q:Env->au->Prop}
variable {H:au} {ls:iN} {L:List gh} {i:Nat}
def gj {P:AV->au->Prop} (hw:fE all e o=some true) (hop:∃ v H',(∀ call,gd o.op ⟨C,fa,call⟩ e { H with aT:=ls } o.dst=some (v,{ H' with aT:=ls }))/\P v H') (next:∀ v H',P v H'->ic C F Pr fa all rest q (fp e o v) { H' with aT:=ls }):ic C F Pr fa all (o::rest) q e { H with aT:=ls }:=by
 grind [be]
def iH {j:Nat} {sch:List (Nat×List Nat)} {P:AV->au->Prop} (hj:all[j]?=some o) (hw:fE all e o=some true) (hop:∃ v H',(∀ call,gd o.op ⟨C,fa,call⟩ e { H with aT:=ls } o.dst=some (v,{ H' with aT:=ls }))/\P v H') (next:∀ v H',P v H'->gZ C F Pr fa all sch q (fp e o v) { H' with aT:=ls }):gZ C F Pr fa all ((j,[])::sch) q e { H with aT:=ls }:=by
 grind [fD]
def iW {t:Nat} {d:Option Nat} (hS:Sep H L):∃ v H',(∀ call,gd (.makeMap t none) ⟨C,fa,call⟩ e { H with aT:=ls } d=some (v,{ H' with aT:=ls }))/\∃ b,v=.hm b/\Sep H' (.map (.hm b) []::L):=by
 have hlo:=hS.lo
 refine ⟨.hm H.size,H.push (.map [] 0),λcall=>?_,H.size,rfl,?_⟩
 ·simp only [gd,GZ,au.vj]
 ·refine hS.new (by simp; omega) (by simp) ⟨H.size,[],0,by simp,rfl,?_,rfl,by simp,by simp⟩ ?_ ?_<;>grind [au.nU,jD,gh.v]
variable {κ β:Type} [DecidableEq κ] {ek : κ->AV} {ev : β->AV}
def kI {t:Nat} {m k x:Operand} {d:Option Nat} {v:AV} {l:List (κ×β)} (key : κ) (y : β) (hS:Sep H L) (hi:L[i]?=some (.map v (cA ek ev l))) (hm:fg e m=v) (hk:fg e k=ek key) (hx:fg e x=ev y) (hK:mapKey C t (ek key)=true) (hV:AV.ye (ev y)=true) (hke:∀ a b,jc (ek a) (ek b)=some (decide (a=b))) :
  ∃ w H',(∀ call,gd (.mapUpdate t m k x) ⟨C,fa,call⟩ e { H with aT:=ls } d=some (w,{ H' with aT:=ls }))/\w=.undef/\Sep H' (L.set i (.map v (cA ek ev (put key y l)))):=by
 obtain ⟨b,es,c,hb,rfl,hg,he,hst⟩:=hS.at hi
 have hlob:H.lo<=b:=au.kV hg
 obtain ⟨f1,f2,f3⟩:=sI (ek:=ek) (ev:=ev) hke key l es he 0
 have fin:∀ es' c',zK (ek key) (ev y) es c=some (es',c')->kX es'=cA ek ev (put key y l)->we es' c'->∃ w H',(∀ call,gd (.mapUpdate t m k x) ⟨C,fa,call⟩ e { H with aT:=ls } d=some (w,{ H' with aT:=ls }))/\w=.undef/\Sep H' (L.set i (.map (.hm b) (cA ek ev (put key y l)))):=by
  intro es' c' hu hun hst'
  refine ⟨.undef,H.set b (.map es' c'),λcall=>?_,rfl,?_⟩
  ·simp_all [gd,tP,tX,au.iG,au.mE]
  ·refine hS.mq hi (by simpa using hS.lo) (by simp) ⟨b,es',c',by simp_all,rfl,?_,hun,hst'⟩ ?_ ?_
   ·grind [au.ja]
   ·intro b' hb' hne
    rw [au.ja,if_neg (by rintro ⟨rfl,_⟩; exact hne rfl)]
   ·intro b' hb'; exact .inl hb'
 cases hl:look key l with
 | none=>exact fin (es++[(ek key,ev y,c)]) (c+1) (by grind [zK,f1]) (f3 hl y c) (hst.snoc _ _)
 | some x0 =>
   obtain ⟨j,hj,hjl,hjm⟩:=f2 x0 hl
   exact fin _ c (by grind [zK]) (hjm y (λe=>(ek key,ev y,e.2.2)) λ_=>⟨rfl,rfl⟩) (hst.modify _ _ λ_=>rfl)
theorem xD {t kt el:Nat} {m k:Operand} {tm te:TI} {d:Option Nat} {v z:AV} {l:List (κ×β)} {ok:Bool} (key : κ) (hS:Sep H L) (hi:L[i]?=some (.map v (cA ek ev l))) (hT:C.T t=some tm) (hkd:tm.kind=.map kt el) (hE:C.T el=some te) (hm:fg e m=v) (hk:fg e k=ek key) (hK:oP C kt (ek key)=true) (hz:asAgg te te.zero=some z) (hke:∀ a b,jc (ek a) (ek b)=some (decide (a=b))) (call:mN) :
  gd (.lookup t m k ok) ⟨C,fa,call⟩ e { H with aT:=ls } d=match yf ok (look key l).isSome (match look key l with
   | some x=>ev x
   | none=>z) with
   | some r=>some (r,{ H with aT:=ls })
   | none=>none:=by
 obtain ⟨b,es,c,hb,rfl,hg,he,hst⟩:=hS.at hi
 obtain ⟨f1,f2,f3⟩:=sI (ek:=ek) (ev:=ev) hke key l es he 0
 cases hl:look key l with
 | none=>simp only [gd,si,pN,hT,hkd,hE,hk,hK,hm,py,au.iG,hg,f1 hl,hz,Option.isSome_none]; rfl
 | some x0 =>
   obtain ⟨j,hj,_⟩:=f2 x0 hl
   simp only [gd,si,pN,hT,hkd,hE,hk,hK,hm,py,au.iG,hg,hj,Option.isSome_some]
   rfl
end
section
variable {C:gv} {F:gX} {Pr:gQ} {fa:eY} {e:Env} {all rest:List Oper} {o:Oper} {q:Env->au->Prop}
variable {H:au} {ls:iN} {L:List gh} {i:Nat}
variable {κ β:Type} [DecidableEq κ] {ek : κ->AV} {ev : β->AV}
def Py (ok b:Bool) (v:AV):AV:=match ok with
 | true=>.fG [v,.bool b]
 | false=>v
def kg {t kt el:Nat} {m k:Operand} {tm te:TI} {v z:AV} {l:List (κ×β)} {ok:Bool} (key : κ) (hw:fE all e o=some true) (ho:o.op=.lookup t m k ok) (hS:Sep H L) (hi:L[i]?=some (.map v (cA ek ev l))) (hT:C.T t=some tm) (hkd:tm.kind=.map kt el) (hE:C.T el=some te) (hm:fg e m=v) (hk:fg e k=ek key) (hK:oP C kt (ek key)=true) (hz:asAgg te te.zero=some z) (hke:∀ a b,jc (ek a) (ek b)=some (decide (a=b)))
  (w1:∀ x,look key l=some x->ic C F Pr fa all rest q (fp e o (Py ok true (ev x))) { H with aT:=ls }) (w2:look key l=none->ic C F Pr fa all rest q (fp e o (Py ok false z)) { H with aT:=ls }):ic C F Pr fa all (o::rest) q e { H with aT:=ls }:=by
 cases hl:look key l with
 | none=>exact be hw (λcall=>by rw [ho,xD key hS hi hT hkd hE hm hk hK hz hke call,hl]; cases ok<;>rfl) (w2 hl)
 | some x=>exact be hw (λcall=>by rw [ho,xD key hS hi hT hkd hE hm hk hK hz hke call,hl]; cases ok<;>rfl) (w1 x hl)
def Kq {j:Nat} {sch:List (Nat×List Nat)} {t kt el:Nat} {m k:Operand} {tm te:TI} {v z:AV} {l:List (κ×β)} {ok:Bool} (key : κ) (hj:all[j]?=some o) (hw:fE all e o=some true) (ho:o.op=.lookup t m k ok) (hS:Sep H L) (hi:L[i]?=some (.map v (cA ek ev l))) (hT:C.T t=some tm) (hkd:tm.kind=.map kt el) (hE:C.T el=some te) (hm:fg e m=v) (hk:fg e k=ek key) (hK:oP C kt (ek key)=true) (hz:asAgg te te.zero=some z) (hke:∀ a b,jc (ek a) (ek b)=some (decide (a=b)))
  (w1:∀ x,look key l=some x->gZ C F Pr fa all sch q (fp e o (Py ok true (ev x))) { H with aT:=ls }) (w2:look key l=none->gZ C F Pr fa all sch q (fp e o (Py ok false z)) { H with aT:=ls }):gZ C F Pr fa all ((j,[])::sch) q e { H with aT:=ls }:=by
 cases hl:look key l with
 | none=>exact fD hj hw (λcall=>by rw [ho,xD key hS hi hT hkd hE hm hk hK hz hke call,hl]; cases ok<;>rfl) (w2 hl)
 | some x=>exact fD hj hw (λcall=>by rw [ho,xD key hS hi hT hkd hE hm hk hK hz hke call,hl]; cases ok<;>rfl) (w1 x hl)
def zq {es:List (AV×AV×Nat)} (hp:es.Pairwise λa b=>a.2.2≠b.2.2) {j:Nat} (hj:j<es.length) (v:AV):po (es[j].2.2:Int) v es=some (es.modify j λe=>(e.1,v,e.2.2)):=by
 induction es generalizing j with
 | nil=>simp at hj
 | cons e es ih =>
   obtain ⟨a,b,c⟩:=e
   cases j with
   | zero=>simp [po]
   | succ j =>
     have hj':j<es.length:=by grind
     have hne:c≠es[j].2.2:=(List.pairwise_cons.mp hp).1 _ (List.getElem_mem hj')
     grind [po]
def qJ {t kt el:Nat} {m k:Operand} {tm te:TI} {d:Option Nat} {v z:AV} {l:List (κ×β)} (key : κ) (y : β) (hS:Sep H L) (hi:L[i]?=some (.map v (cA ek ev l))) (hT:C.T t=some tm) (hkd:tm.kind=.map kt el) (hE:C.T el=some te) (hm:fg e m=v) (hk:fg e k=ek key) (hK:oP C kt (ek key)=true) (hz:asAgg te te.zero=some z) (hV:AV.ye (ev y)=true) (hke:∀ a b,jc (ek a) (ek b)=some (decide (a=b))) :
  ∃ (u:AV) (H1:au),(∀ call,gd (.mapEntry t m k) ⟨C,fa,call⟩ e { H with aT:=ls } d=some (u,{ H1 with aT:=ls }))/\∃ (w:AV) (st:Int) (H2:au),u=.fG [w,.int .i64 st] /\
    (∀ (e2:Env) (ls2:iN) (t2:Nat) (m2 s2 x2:Operand) (X:Ctx) (d2:Option Nat),fg e2 m2=v->fg e2 s2=.int .i64 st->fg e2 x2=ev y->gd (.entryStore t2 m2 s2 x2) X e2 { H1 with aT:=ls2 } d2=some (.undef,{ H2 with aT:=ls2 }))/\Sep H2 (L.set i (.map v (cA ek ev (put key y l)))):=by
 obtain ⟨b,es,c,hb,rfl,hg,he,hst⟩:=hS.at hi
 have hlob:H.lo<=b:=au.kV hg
 obtain ⟨f1,f2,f3⟩:=sI (ek:=ek) (ev:=ev) hke key l es he 0
 have fin:∀ es1 c1 es2 (st:Int) w,(∀ call,gd (.mapEntry t m k) ⟨C,fa,call⟩ e { H with aT:=ls } d=some (.fG [w,.int .i64 st],{ H.set b (.map es1 c1) with aT:=ls }))->po st (ev y) es1=some es2->kX es2=cA ek ev (put key y l)->we es2 c1 ->
   ∃ (u:AV) (H1:au),(∀ call,gd (.mapEntry t m k) ⟨C,fa,call⟩ e { H with aT:=ls } d=some (u,{ H1 with aT:=ls }))/\∃ (w:AV) (st:Int) (H2:au),u=.fG [w,.int .i64 st] /\
   (∀ (e2:Env) (ls2:iN) (t2:Nat) (m2 s2 x2:Operand) (X:Ctx) (d2:Option Nat),fg e2 m2=.hm b->fg e2 s2=.int .i64 st->fg e2 x2=ev y->gd (.entryStore t2 m2 s2 x2) X e2 { H1 with aT:=ls2 } d2=some (.undef,{ H2 with aT:=ls2 }))/\Sep H2 (L.set i (.map (.hm b) (cA ek ev (put key y l)))):=by
  intro es1 c1 es2 st w h1 h2 h3 h4
  have hg1:(H.set b (.map es1 c1)).get b=some (.map es1 c1):=by grind [au.ja]
  refine ⟨_,H.set b (.map es1 c1),h1,w,st,(H.set b (.map es1 c1)).set b (.map es2 c1),rfl,?_,?_⟩
  ·intro e2 ls2 t2 m2 s2 x2 X d2 hm2 hs2 hx2
   simp only [gd,wG,sF,hm2,hs2,hx2,AV.int?,au.iG,hg1,hV,h2,au.mE]
  ·refine hS.mq hi (by simpa using hS.lo) (by simp) ⟨b,es2,c1,by simp_all,rfl,?_,h3,h4⟩ ?_ ?_
   ·simp_all [au.ja]
   ·intro b' hb' hne
    rw [au.ja,if_neg (by rintro ⟨rfl,_⟩; exact hne rfl),au.ja,if_neg (by rintro ⟨rfl,_⟩; exact hne rfl)]
   ·intro b' hb'; exact .inl hb'
 cases hl:look key l with
 | none =>
   refine fin (es++[(ek key,z,c)]) (c+1) (es++[(ek key,ev y,c)]) c z ?_ ?_ (f3 hl y c) (hst.snoc _ _)
   ·intro call
    simp only [gd,vf,s5,hT,hkd,hm,hE,au.iG,hg,hk,hK,f1 hl,hz,au.mE]
   ·have h0:=zq (hst.snoc (ek key) z).2 (j:=es.length) (by simp) (ev y)
    simp only [List.getElem_concat_length] at h0
    rw [h0]
    congr 1
    apply List.ext_getElem (by simp)
    grind
 | some x0 =>
   obtain ⟨j,hj,hjl,hjm⟩:=f2 x0 hl
   rw [Nat.zero_add] at hj
   have hst1:we (es.modify j λx=>(ek key,x.2)) c:=hst.modify _ _ λ_=>rfl
   refine fin (es.modify j λx=>(ek key,x.2)) c ((es.modify j λx=>(ek key,x.2)).modify j λe=>(e.1,ev y,e.2.2)) (es[j].2.2:Nat) (ev x0) ?_ ?_ ?_ (hst1.modify _ _ λ_=>rfl)
   ·intro call
    have hso:xn es j=es[j].2.2:=by simp [xn,hjl]
    simp only [gd,vf,s5,hT,hkd,hm,hE,au.iG,hg,hk,hK,hj,hso,au.mE]
   ·have h0:=zq hst1.2 (j:=j) (by grind) (ev y)
    grind
   grind
end
section
variable {C:gv} {F:gX} {Pr:gQ} {fa:eY} {e:Env} {all rest:List Oper} {o:Oper} {q:Env->au->Prop}
variable {H:au} {ls:iN} {L:List gh} {i:Nat}
variable {α:Type} {enc : α->List AV} {w tt:Bool} {v:AV} {n:Nat} {l:List α}
def HU {n:Nat} {xs:List (List AV)} (h:∀ x∈xs,x.length=n):nm n xs=true:=by
 simp_all [nm]
def GA {xs ys:List (List AV)} (hS:Sep H L) (hi:L[i]?=some (.sl w tt v n xs)) (hys:∀ x∈ys,x.length=n) (ht:tt=true\/ys.length=1) (hm:xs.length+ys.length<=o5) :
  ∃ v' H',append n { H with aT:=ls } v ys=some (v',{ H' with aT:=ls })/\Sep H' (L.set i (.sl w tt v' n (xs++ys))):=by
 have hlo:=hS.lo
 obtain ⟨hxl,hc⟩:=hS.at hi
 have hal:nm n ys=true:=HU hys
 have hxal:nm n xs=true:=HU hxl
 have hxy:∀ x∈xs++ys,x.length=n:=by
  grind
 have hset:∀ v',v'=v->Sep H (L.set i (.sl w tt v' n xs)):=by
  rintro v' rfl
  exact hS.mq hi hlo (Nat.le_refl _) ⟨hxl,hc⟩ (λ_ _ _=>rfl) (λb hb=>.inl hb)
 cases ys with
 | nil =>
   rw [List.append_nil]
   refine ⟨v,H,?_,hset v rfl⟩
   rcases hc with ⟨rfl,rfl⟩ | ⟨_,rfl⟩ | ⟨b,g,j,hb,rfl,hg,htj⟩<;>rfl
 | cons y ys =>
   have new:∀ (hle:Nat.ble (xs.length+(ys.length+1)) o5=true),append n { H with aT:=ls } v (y::ys)=rD n { H with aT:=ls } xs (y::ys)->∃ v' H',append n { H with aT:=ls } v (y::ys)=some (v',{ H' with aT:=ls })/\Sep H' (L.set i (.sl w tt v' n (xs++(y::ys)))):=by
    intro hle hap
    refine ⟨.hs H.size 0 0 (xs.length+(ys.length+1)),H.push (.fc 0 n (xs++(y::ys))),?_,?_⟩
    ·rw [hap]
     simp [rD,hxal,hle,au.vj]
    ·refine hS.mq hi (by simp; omega) (by simp) ⟨hxy,.inr (.inr ⟨H.size,0,[],by simp,by simp,?_,λ_=>rfl⟩)⟩ ?_ ?_<;>grind [au.nU,jD,gh.v]
   have hle:Nat.ble (xs.length+(ys.length+1)) o5=true:=Nat.ble_eq.mpr (by omega)
   rcases hc with ⟨rfl,rfl⟩ | ⟨_,rfl⟩ | ⟨b,g,j,hb,rfl,hg,htj⟩
   ·grind [append]
   ·have hbt:Nat.blt xs.length (xs.length+(ys.length+1))=true:=by simp
    grind [append]
   ·have hlob:H.lo<=b:=au.kV hg
    have grow:j=[]->∃ v' H',append n { H with aT:=ls } (.hs b g 0 xs.length) (y::ys)=some (v',{ H' with aT:=ls })/\Sep H' (L.set i (.sl w tt v' n (xs++(y::ys)))):=by
     rintro rfl
     rw [List.append_nil] at hg
     refine ⟨.hs b (g+1) 0 (xs.length+(y::ys).length),H.set b (.fc (g+1) n (xs++(y::ys))),?_,?_⟩
     ·have h2:Nat.ble (xs.length+(ys.length+1)) xs.length=false:=by
       cases hq:Nat.ble (xs.length+(ys.length+1)) xs.length with
       | false=>rfl
       | true=>exact absurd (Nat.ble_eq.mp hq) (by omega)
      simp [append,hal,Cs,au.iG,hg,hle,h2,au.mE]
     ·refine hS.mq hi (by simp_all) (by simp) ⟨hxy,.inr (.inr ⟨b,g+1,[],by simp_all,by simp,?_,λ_=>rfl⟩)⟩ ?_ ?_
      ·grind [au.ja]
      ·intro b' hb' hne; rw [au.ja,if_neg (by rintro ⟨rfl,_⟩; exact hne rfl)]
      ·intro b' hb'; exact .inl hb'
    cases j with
    | nil=>grind
    | cons j0 j =>
      have htt:tt=false:=by grind
      have hy:ys=[]:=by
       grind
      subst hy
      refine ⟨.hs b g 0 (xs.length+1),H.set b (.fc g n (xs++y::j)),?_,?_⟩
      ·have h1:Nat.ble (xs.length+1) (xs++j0::j).length=true:=Nat.ble_eq.mpr (by simp)
       have h3:Nat.ble (xs.length+1) o5=true:=hle
       have h2:overwrite (xs++j0::j) xs.length [y]=xs++y::j:=by
        simp_all [overwrite]
       simp only [append,hal,Cs,au.iG,hg,Nat.zero_add,List.length_singleton,h1,h2,h3,Nat.beq_refl,Bool.and_self,mA,au.mE,Bool.and_true]
      ·refine hS.mq hi (by simp_all) (by simp) ⟨hxy,.inr (.inr ⟨b,g,j,by simp_all,by simp,?_,λh=>absurd h (by simp [htt])⟩)⟩ ?_ ?_
       ·grind [au.ja]
       ·intro b' hb' hne; rw [au.ja,if_neg (by rintro ⟨rfl,_⟩; exact hne rfl)]
       ·intro b' hb'; exact .inl hb'
def mY {cl:Call} {s x:Operand} {t u:Nat} {ti:TI} {d:Option Nat} (ys:List α) (hS:Sep H L) (hi:L[i]?=some (.sl w tt v n (l.map enc))) (hc:cl.callee=.builtin .append) (ha:cl.args.toList=[s,x]) (hts:cl.argTypes.toList=[t,u]) (hT:pX C [t,u]=some ti) (hSr:Bn C [t,u]=true) (hn:ti.size=n)
  (hs:fg e s=v) (hx:mF { H with aT:=ls } (fg e x)=some (ys.map enc)) (hok:∀ y,(enc y).all AV.gY=true) (ht:tt=true\/ys.length=1) (hm:l.length+ys.length<=o5) (henc:∀ x,(enc x).length=n) :
  ∃ v' H',(∀ call,gd (.call cl) ⟨C,fa,call⟩ e { H with aT:=ls } d=some (v',{ H' with aT:=ls }))/\Sep H' (L.set i (.sl w tt v' n ((l++ys).map enc))):=by
 obtain ⟨v',H',h1,h2⟩:=GA (ls:=ls) (ys:=ys.map enc) hS hi (by grind) (by grind) (by grind)
 refine ⟨v',H',λcall=>?_,by grind⟩
 have hall:AI (ys.map enc)=true:=by
  grind [AI]
 simp only [gd,nG,mM,hc,ha,hts,lz,BB,rT,List.map_cons,List.map_nil,hT,hSr,hn,hs,hx,hall,h1]
def jC {X:Ctx} {d:Option Nat} {cl:Call} {t el:Nat} {x:Operand} {ti:TI} {h:au} (hS:Sep H L) (hi:L[i]?=some (.sl w tt v n (l.map enc))) (hc:cl.callee=.builtin .len) (ha:cl.args.toList=[x]) (hts:cl.argTypes.toList=[t]) (hT:X.C.T t=some ti) (hk:ti.kind=.slice el) (hx:fg e x=v) :
  gd (.call cl) X e h d=some (.int .i64 l.length,h):=by
 obtain ⟨hxl,⟨h0,rfl⟩ | ⟨_,rfl⟩ | ⟨b,g,j,hb,rfl,hg,htj⟩⟩:=hS.at hi
 ·simp_all [gd,nG,mM,lz,xy,uC,wD,vv,oR]
 ·simp_all [gd,nG,mM,lz,xy,uC,wD,vv,oR]
 simp_all [gd,nG,mM,lz,xy,uC,wD,vv,oR]
def EA (v:AV) (m:Nat) (a:AV) (cs:List AV):Prop:=(∃ xs k,v=.sl xs (.exact k)/\a=.ip cs 0 false)\/∃ b g len,v=.hs b g 0 len/\a=.ptr b g m 0
def mL (a:AV) (o:Nat):AV:=match a with
 | .ip cs _ s=>.ip cs o s
 | .ptr b g i _=>.ptr b g i o
 | v=>v
def gW {m:Nat} {x : α} (h:m<l.length) (hx:l[m]=x):(l.map enc)[m]?=some (enc x):=by grind
def lG {P:AV->Prop} {h:au} (hw:fE all e o=some true) (hop:∃ v,(∀ call,gd o.op ⟨C,fa,call⟩ e h o.dst=some (v,h))/\P v) (next:∀ v,P v->ic C F Pr fa all rest q (fp e o v) h):ic C F Pr fa all (o::rest) q e h:=by
 grind [be]
def lW {j:Nat} {sch:List (Nat×List Nat)} {P:AV->Prop} {h:au} (hj:all[j]?=some o) (hw:fE all e o=some true) (hop:∃ v,(∀ call,gd o.op ⟨C,fa,call⟩ e h o.dst=some (v,h))/\P v) (next:∀ v,P v->gZ C F Pr fa all sch q (fp e o v) h):gZ C F Pr fa all ((j,[])::sch) q e h:=by
 grind [fD]
def iT {t el:Nat} {x y:Operand} {ti te:TI} {k:IntKind} {m:Nat} {d:Option Nat} {cs:List AV} {xs:List (List AV)} (hS:Sep H L) (hi:L[i]?=some (.sl w tt v n xs)) (hT:C.T t=some ti) (hk:ti.kind=.slice el) (hE:C.T el=some te) (hn:te.size=n) (hx:fg e x=v) (hy:fg e y=.int k (m:Int)) (hm:xs[m]?=some cs) :
  ∃ a,(∀ call,gd (.indexAddr t x y) ⟨C,fa,call⟩ e { H with aT:=ls } d=some (a,{ H with aT:=ls }))/\a=mL a 0/\EA v m a cs:=by
 have hml:m<xs.length:=(List.getElem?_eq_some_iff.mp hm).1
 have hai:pV (.int k (m:Int))=some m:=rfl
 obtain ⟨hxl,⟨h0,rfl⟩ | ⟨_,rfl⟩ | ⟨b,g,j,hb,rfl,hg,htj⟩⟩:=hS.at hi
 ·grind
 ·refine ⟨.ip cs 0 false,λcall=>?_,rfl,.inl ⟨xs,_,rfl,rfl⟩⟩
  have hl:Nat.beq cs.length te.size=true:=by
   rw [hn,hxl _ (List.mem_of_getElem? hm)]; simp
  simp_all [gd,oK,nE,p8,oU]
 ·refine ⟨.ptr b g m 0,λcall=>?_,rfl,.inr ⟨b,g,_,rfl,rfl⟩⟩
  have h1:Nat.blt m xs.length=true:=by simp_all
  simp only [gd,oK,nE,hT,hy,hai,hk,hE,hx,p8,au.iG,hg,h1,hn,Nat.beq_refl,Bool.and_self,mA,Nat.zero_add]
def EA.FM {m o off ft f t:Nat} {a:AV} {cs:List AV} {x:Operand} {X:Ctx} {d:Option Nat} {ti:TI} {fs:List (Nat×Nat)} {h:au} (hE:EA v m a cs) (hT:X.C.T t=some ti) (hk:ti.kind=.struct fs) (hf:fs[f]?=some (off,ft)) (hx:fg e x=mL a o):gd (.fieldAddr t x f) X e h d=some (mL a (o+off),h):=by
 rcases hE with ⟨xs,k,rfl,rfl⟩ | ⟨b,g,len,rfl,rfl⟩<;>simp only [gd,rj,pO,hT,hk,hf,hx,mL,BO,NR,EC,mA,iJ]
def lQ {m o t:Nat} {a r:AV} {cs:List AV} {x:Operand} {X:Ctx} {d:Option Nat} {ti:TI} {xs:List (List AV)} (hS:Sep H L) (hi:L[i]?=some (.sl w tt v n xs)) (hm:xs[m]?=some cs) (hE:EA v m a cs) (hT:X.C.T t=some ti) (hp:part ti cs o=some r) (hx:fg e x=mL a o):gd (.load t x) X e { H with aT:=ls } d=some (r,{ H with aT:=ls }):=by
 have hml:m<xs.length:=(List.getElem?_eq_some_iff.mp hm).1
 obtain ⟨hxl,hc⟩:=hS.at hi
 rcases hE with ⟨xs',k,rfl,rfl⟩ | ⟨b,g,len,rfl,rfl⟩
 ·simp_all [gd,yK,vw,mL,rz,Uh,iJ]
 ·rcases hc with ⟨h0,hv⟩ | ⟨_,hv⟩ | ⟨b',g',j,hb,hv,hg,htj⟩
  ·cases hv
  ·cases hv
  ·cases hv
   have hmj:(xs++j)[m]?=some cs:=by grind
   simp_all [gd,yK,vw,mL,rz,C1,au.iG,iJ]
theorem JC {cs new cs':List AV} {o:Nat} (h:lS cs o new=some cs'):cs'.length=cs.length:=by
 unfold lS at h
 split at h
 ·rename_i hle
  have hle:=Nat.ble_eq.mp hle
  grind [pv]
 ·cases h
def Sq {m o t:Nat} {a r:AV} {cs new cs':List AV} {x y:Operand} {d:Option Nat} {ti:TI} {xs:List (List AV)} (hS:Sep H L) (hi:L[i]?=some (.sl true tt v n xs)) (hm:xs[m]?=some cs) (hE:EA v m a cs) (hT:C.T t=some ti) (hx:fg e x=mL a o) (hy:fg e y=r) (hnew:cellsOf ti r=some new) (hok:new.all AV.gY=true) (hsp:lS cs o new=some cs') :
  ∃ u H',(∀ call,gd (.store t x y) ⟨C,fa,call⟩ e { H with aT:=ls } d=some (u,{ H' with aT:=ls }))/\u=.undef/\Sep H' (L.set i (.sl true tt v n (xs.set m cs'))):=by
 have hml:m<xs.length:=(List.getElem?_eq_some_iff.mp hm).1
 obtain ⟨hxl,hc⟩:=hS.at hi
 rcases hc with ⟨h0,rfl⟩ | ⟨h0 | h0,_⟩ | ⟨b,g,j,hb,rfl,hg,htj⟩
 ·grind
 ·cases h0
 ·grind
 ·rcases hE with ⟨xs',k,h0,_⟩ | ⟨b',g',len,hv,rfl⟩
  ·cases h0
  ·cases hv
   have hlob:H.lo<=b:=au.kV hg
   have hmj:(xs++j)[m]?=some cs:=by grind
   refine ⟨.undef,H.set b (.fc g n ((xs.set m cs')++j)),λcall=>?_,rfl,?_⟩
   ·have hse:(xs++j).set m cs'=xs.set m cs'++j:=by grind
    simp only [gd,Aa,xj,hT,hx,hy,xi,hnew,hok,mL,zM,EF,au.iG,hg,Nat.beq_refl,hmj,hsp,au.mE,hse]
   ·refine hS.mq hi (by simpa using hS.lo) (by simp) ⟨?_,.inr (.inr ⟨b,g,j,by simp_all,by simp,?_,htj⟩)⟩ ?_ ?_
    ·intro z hz
     rcases List.mem_or_eq_of_mem_set hz with hz | rfl
     ·grind
     ·rw [JC hsp]; grind
    ·grind [au.ja]
    ·intro b' hb' hne; rw [au.ja,if_neg (by rintro ⟨rfl,_⟩; exact hne rfl)]
    ·intro b' hb'; exact .inl hb'
def mB {m o t:Nat} {a r:AV} {new:List AV} {x y:Operand} {d:Option Nat} {ti:TI} (z z' : α) (hS:Sep H L) (hi:L[i]?=some (.sl true tt v n (l.map enc))) (hml:m<l.length) (hz:l[m]=z) (hE:EA v m a (enc z)) (hT:C.T t=some ti) (hx:fg e x=mL a o) (hy:fg e y=r) (hnew:cellsOf ti r=some new) (hok:new.all AV.gY=true) (hsp:lS (enc z) o new=some (enc z')) :
  ∃ u H',(∀ call,gd (.store t x y) ⟨C,fa,call⟩ e { H with aT:=ls } d=some (u,{ H' with aT:=ls }))/\u=.undef/\Sep H' (L.set i (.sl true tt v n ((l.set m z').map enc))):=by
 rw [List.map_set]
 exact Sq hS hi (gW hml hz) hE hT hx hy hnew hok hsp
def Tl (v:AV) (k:Nat) (v':AV):Prop:=(v=.sl [] .nil/\v'=.sl [] .nil/\k=0)\/(v=.sl [] (.exact 0)/\v'=.sl [] (.exact 0)/\k=0)\/∃ b g len,v=.hs b g 0 len/\v'=.hs b g 0 k
def Rf {t el k:Nat} {x y:Operand} {ti te:TI} {kd:IntKind} {d:Option Nat} {xs:List (List AV)} (hS:Sep H L) (hi:L[i]?=some (.sl true tt v n xs)) (hT:C.T t=some ti) (hk:ti.kind=.slice el) (hE:C.T el=some te) (hn:te.size=n) (hx:fg e x=v) (hy:fg e y=.int kd (k:Int)) (hkl:k<=xs.length) :
  ∃ v' H',(∀ call,gd (.slice t x none (some y) none) ⟨C,fa,call⟩ e { H with aT:=ls } d=some (v',{ H' with aT:=ls }))/\Tl v k v'/\Sep H' (L.set i (.sl true false v' n (xs.take k))):=by
 obtain ⟨hxl,hc⟩:=hS.at hi
 have hai:pV (.int kd (k:Int))=some k:=rfl
 rcases hc with ⟨h0,rfl⟩ | ⟨h0 | h0,rfl⟩ | ⟨b,g,j,hb,rfl,hg,htj⟩
 ·subst h0
  have hk0:k=0:=by grind
  subst hk0
  refine ⟨.sl [] .nil,H,λcall=>?_,.inl ⟨rfl,rfl,rfl⟩,?_⟩
  ·simp only [gd,qj,pF,hT,hk,hE,hx,hy,slice,xN,np,bound,hai,qm,o1,pA]
   rfl
  ·exact hS.mq hi hS.lo (Nat.le_refl _) ⟨by simp,.inl ⟨by simp,rfl⟩⟩ (λ_ _ _=>rfl) (λb hb=>by simp [jD,gh.v] at hb)
 ·cases h0
 ·subst h0
  have hk0:k=0:=by grind
  subst hk0
  refine ⟨.sl [] (.exact 0),H,λcall=>?_,.inr (.inl ⟨rfl,rfl,rfl⟩),?_⟩
  ·simp only [gd,qj,pF,hT,hk,hE,hx,hy,slice,xN,np,bound,hai,qm,o1,pA]
   rfl
  ·exact hS.mq hi hS.lo (Nat.le_refl _) ⟨by simp,.inr (.inl ⟨.inr (by simp),rfl⟩)⟩ (λ_ _ _=>rfl) (λb hb=>by simp [jD,gh.v] at hb)
 ·have h0:Nat.ble 0 k=true:=Nat.ble_eq.mpr (Nat.zero_le _)
  have h1:Nat.ble k (xs++j).length=true:=Nat.ble_eq.mpr (by grind)
  have h2:Nat.ble 0 (xs++j).length=true:=Nat.ble_eq.mpr (Nat.zero_le _)
  refine ⟨.hs b g 0 k,H,λcall=>?_,.inr (.inr ⟨b,g,_,rfl,rfl⟩),?_⟩
  ·simp only [gd,qj,pF,hT,hk,hE,hx,hy,slice,FA,au.iG,hg,hn,Nat.beq_refl,Bool.and_self,np,bound,hai,qm,Option.getD_none,Nat.zero_add,h0,h1,h2,Bool.and_true,Bool.true_and,EK,mA,Nat.sub_zero,iJ]
  ·refine hS.mq hi hS.lo (Nat.le_refl _) ⟨λz hz=>hxl z (List.mem_of_mem_take hz),.inr (.inr ⟨b,g,xs.drop k++j,hb,?_,?_,λh=>by cases h⟩)⟩ (λ_ _ _=>rfl) (λb' hb'=>.inl hb')
   ·grind
   ·rw [hg,<- List.append_assoc,List.take_append_drop]
def xJ {t el k:Nat} {x y:Operand} {ti te:TI} {kd:IntKind} {d:Option Nat} (hS:Sep H L) (hi:L[i]?=some (.sl true tt v n (l.map enc))) (hT:C.T t=some ti) (hk:ti.kind=.slice el) (hE:C.T el=some te) (hn:te.size=n) (hx:fg e x=v) (hy:fg e y=.int kd (k:Int)) (hkl:k<=l.length) :
  ∃ v' H',(∀ call,gd (.slice t x none (some y) none) ⟨C,fa,call⟩ e { H with aT:=ls } d=some (v',{ H' with aT:=ls }))/\Tl v k v'/\Sep H' (L.set i (.sl true false v' n ((l.take k).map enc))):=by
 rw [List.map_take]
 exact Rf hS hi hT hk hE hn hx hy (by grind)
def tn {t el k:Nat} {x y:Operand} {ti te:TI} {kd:IntKind} {d:Option Nat} {v':AV} {ys:List (List AV)} {X:Ctx} (hS:Sep H L) (hi:L[i]?=some (.sl true tt v' n ys)) (hc:Tl v k v') (hT:X.C.T t=some ti) (hk:ti.kind=.slice el) (hE:X.C.T el=some te) (hn:te.size=n) (hx:fg e x=v) (hy:fg e y=.int kd (k:Int)) :
  gd (.slice t x none (some y) none) X e { H with aT:=ls } d=some (v',{ H with aT:=ls }):=by
 have hai:pV (.int kd (k:Int))=some k:=rfl
 obtain ⟨hxl,hq⟩:=hS.at hi
 rcases hc with ⟨rfl,rfl,rfl⟩ | ⟨rfl,rfl,rfl⟩ | ⟨b,g,len,rfl,rfl⟩
 ·simp only [gd,qj,pF,hT,hk,hE,hx,hy,slice,xN,np,bound,hai,qm,o1,pA]
  rfl
 ·simp only [gd,qj,pF,hT,hk,hE,hx,hy,slice,xN,np,bound,hai,qm,o1,pA]
  rfl
 ·rcases hq with ⟨_,hv⟩ | ⟨_,hv⟩ | ⟨b',g',j,hb,hv,hg,htj⟩
  ·cases hv
  ·cases hv
  ·cases hv
   have h0:Nat.ble 0 ys.length=true:=Nat.ble_eq.mpr (Nat.zero_le _)
   have h1:Nat.ble ys.length (ys++j).length=true:=Nat.ble_eq.mpr (by simp)
   have h2:Nat.ble 0 (ys++j).length=true:=Nat.ble_eq.mpr (Nat.zero_le _)
   simp only [gd,qj,pF,hT,hk,hE,hx,hy,slice,FA,au.iG,hg,hn,Nat.beq_refl,Bool.and_self,np,bound,hai,qm,Option.getD_none,Nat.zero_add,h0,h1,h2,Bool.and_true,Bool.true_and,EK,mA,Nat.sub_zero,iJ]
def oM {t m:Nat} {x y:Operand} {te:TI} {k k':IntKind} {d:Option Nat} (hS:Sep H L) (hT:sV C t=some te) (hx:fg e x=.int k (m:Int)) (hy:fg e y=.int k' (m:Int)) (hn:te.size=n) (hz:te.zero.length=n) (hm:m<=1048576) (hb:te.bytes<=1024) :
  ∃ v H',(∀ call,gd (.makeSlice t x y) ⟨C,fa,call⟩ e { H with aT:=ls } d=some (v,{ H' with aT:=ls }))/\Sep H' (.sl true true v n (List.replicate m te.zero)::L):=by
 have hlo:=hS.lo
 refine ⟨.hs H.size 0 0 m,H.push (.fc 0 n (List.replicate m te.zero)),λcall=>?_,?_⟩
 ·have h1:yW 0 (m:Int)=true:=by rfl
  have h2:yW (m:Int) (m:Int)=true:=by rw [s7]; simp
  have h3:yW (m:Int) 4294967295=true:=by grind [s7]
  have h4:Nat.ble ((m:Int).toNat*te.bytes) 140737488355328=true:=by
   apply Nat.ble_eq.mpr
   calc (m:Int).toNat*te.bytes<=1048576*1024:=Nat.mul_le_mul (by omega) hb
    _<=_:=by decide
  simp only [gd,yH,tJ,hT,hx,hy,AV.int?,h1,h2,h3,h4,Bool.and_self,hn,au.vj]
  rfl
 ·refine hS.new (by simp; omega) (by simp) ⟨?_,.inr (.inr ⟨H.size,0,[],by simp,by simp,?_,λ_=>rfl⟩)⟩ ?_ ?_<;>grind [au.nU,jD,gh.v]
end
section
variable {C:gv} {F:gX} {Pr:gQ} {fa:eY} {e:Env} {all rest:List Oper} {o:Oper} {q:Env->au->Prop}
variable {H:au} {ls:iN} {L:List gh} {i:Nat} {v:AV} {cs:List AV}
def CN {d:Nat} (hS:Sep H L) (hd:fa.aT.elem d=false):∃ v H',newVar fa d { H with aT:=ls } cs=some (v,{ H' with aT:=ls })/\∃ b,v=.ptr b 0 0 0/\Sep H' (.obj (.ptr b 0 0 0) cs::L):=by
 have hlo:=hS.lo
 refine ⟨.ptr H.size 0 0 0,H.push (.fc 0 cs.length [cs]),?_,H.size,rfl,?_⟩
 ·grind [newVar,au.vj]
 ·refine hS.new (by simp; omega) (by simp) ⟨H.size,cs.length,by simp,rfl,?_⟩ ?_ ?_<;>grind [au.nU,jD,gh.v]
def DN {t d:Nat} {ti:TI} (hS:Sep H L) (hd:fa.aT.elem d=false) (hT:C.T t=some ti):∃ v H',(∀ call,gd (.alloc t) ⟨C,fa,call⟩ e { H with aT:=ls } (some d)=some (v,{ H' with aT:=ls }))/\∃ b,v=.ptr b 0 0 0/\Sep H' (.obj (.ptr b 0 0 0) ti.zero::L):=by
 obtain ⟨v,H',h1,h2⟩:=CN (ls:=ls) (cs:=ti.zero) hS hd
 refine ⟨v,H',λcall=>?_,h2⟩
 simp_all [gd,L2,BV]
def o3 {t d:Nat} {ti:TI} {x:Operand} {r:AV} (hS:Sep H L) (hd:fa.aT.elem d=false) (hT:C.T t=some ti) (hx:fg e x=r) (hc:cellsOf ti r=some cs) (hok:cs.all AV.gY=true):∃ v H',(∀ call,gd (.box t x) ⟨C,fa,call⟩ e { H with aT:=ls } (some d)=some (v,{ H' with aT:=ls }))/\∃ b,v=.ptr b 0 0 0/\Sep H' (.obj (.ptr b 0 0 0) cs::L):=by
 obtain ⟨v,H',h1,h2⟩:=CN (ls:=ls) (cs:=cs) hS hd
 refine ⟨v,H',λcall=>?_,h2⟩
 simp only [gd,J8,GU,hT,hx,hc,hok,h1]
def Sep.p0 (hS:Sep H L) (hi:L[i]?=some (.obj v cs)):v=mL v 0:=by
 obtain ⟨b,z,hb,rfl,hg⟩:=hS.at hi; rfl
def oW {o off ft f t:Nat} {x:Operand} {X:Ctx} {d:Option Nat} {ti:TI} {fs:List (Nat×Nat)} {h:au} (hS:Sep H L) (hi:L[i]?=some (.obj v cs)) (hT:X.C.T t=some ti) (hk:ti.kind=.struct fs) (hf:fs[f]?=some (off,ft)) (hx:fg e x=mL v o):gd (.fieldAddr t x f) X e h d=some (mL v (o+off),h):=by
 obtain ⟨b,z,hb,rfl,hg⟩:=hS.at hi
 simp_all [gd,rj,pO,mL,BO,EC,mA,iJ]
def pI {x:Operand} {X:Ctx} {d:Option Nat} {h:au} {o:Nat} (hS:Sep H L) (hi:L[i]?=some (.obj v cs)) (hx:fg e x=mL v o):gd (.nilCheck x) X e h d=some (mL v o,h):=by
 obtain ⟨b,z,hb,rfl,hg⟩:=hS.at hi
 simp only [gd,wb,hx,mL,Cq,iJ]
def iP {o t:Nat} {r:AV} {x:Operand} {X:Ctx} {d:Option Nat} {ti:TI} (hS:Sep H L) (hi:L[i]?=some (.obj v cs)) (hT:X.C.T t=some ti) (hp:part ti cs o=some r) (hx:fg e x=mL v o):gd (.load t x) X e { H with aT:=ls } d=some (r,{ H with aT:=ls }):=by
 obtain ⟨b,z,hb,rfl,hg⟩:=hS.at hi
 simp_all [gd,yK,vw,mL,rz,C1,au.iG,iJ]
def lV {o t:Nat} {r:AV} {new cs':List AV} {x y:Operand} {d:Option Nat} {ti:TI} (hS:Sep H L) (hi:L[i]?=some (.obj v cs)) (hT:C.T t=some ti) (hx:fg e x=mL v o) (hy:fg e y=r) (hnew:cellsOf ti r=some new) (hok:new.all AV.gY=true) (hsp:lS cs o new=some cs') :
  ∃ u H',(∀ call,gd (.store t x y) ⟨C,fa,call⟩ e { H with aT:=ls } d=some (u,{ H' with aT:=ls }))/\u=.undef/\Sep H' (L.set i (.obj v cs')):=by
 obtain ⟨b,z,hb,rfl,hg⟩:=hS.at hi
 have hlob:H.lo<=b:=au.kV hg
 refine ⟨.undef,H.set b (.fc 0 z [cs']),λcall=>?_,rfl,?_⟩
 ·simp only [gd,Aa,xj,hT,hx,hy,xi,hnew,hok,mL,zM,EF,au.iG,hg,Nat.beq_refl,List.getElem?_cons_zero,hsp,au.mE,List.set_cons_zero]
 ·refine hS.mq hi (by simpa using hS.lo) (by simp) ⟨b,z,by simp_all,rfl,?_⟩ ?_ ?_
  ·grind [au.ja]
  ·intro b' hb' hne; rw [au.ja,if_neg (by rintro ⟨rfl,_⟩; exact hne rfl)]
  ·intro b' hb'; exact .inl hb'
end
def jm (n:Nat) (k:IntKind) (a:Int):iR (n+1) (.int k a) (.int k a)=true:=by simp [iR,oE,oo]
def Bq (n:Nat) (b:Bool):iR (n+1) (.bool b) (.bool b)=true:=by cases b<;>rfl
def Iu (n:Nat) (b:List UInt8):iR (n+1) (.str b) (.str b)=true:=by simp [iR]
def Qq (n:Nat) (l:List AV) (h:∀ x∈l,iR n x x=true):iR (n+1) (.agg l) (.agg l)=true:=by
 simp only [iR]
 induction l<;>grind [lK]
def Df {H:au} {L:List gh} {i:Nat} {n:Nat} {tt:Bool} {v:AV} {m:Nat} {xs:List (List AV)} (hS:Sep H L) (hi:L[i]?=some (.sl true tt v m xs)):iR (n+1) v v=true:=by
 obtain ⟨hxl,⟨h0,rfl⟩ | ⟨h0 | h0,rfl⟩ | ⟨b,g,j,hb,rfl,hg,htj⟩⟩:=hS.at hi
 ·rfl
 ·cases h0
 ·subst h0; rfl
 ·simp [iR]
def gC {X:Ctx} {all:List Oper} {e:Env} {h h':au} {i d:Nat} {o:Oper} {v:AV} (ho:all[i]?=some o) (hw:fE all e o=some true) (hd:o.dst=some d) (hop:gd o.op X e h (some d)=some (v,h')) (hv:j5 e d=v) (hq:iR 8 v v=true):again X all e h i=true:=by
 grind [again,GI]
section
variable {C:gv} {F:gX} {Pr:gQ} {fa:eY} {e:Env} {h:au} {all rest:List Oper} {o:Oper} {q:Env->au->Prop} {H:au} {ls:iN}
def BR {i:Nat} {chk:List Nat} {sch:List (Nat×List Nat)} {v:AV} {h1:au} (ho:all[i]?=some o) (hw:fE all e o=some true) (hop:∃ m,∀ k,m<=k->gd o.op (XN C F Pr fa k) e h o.dst=some (v,h1))
  (hc:∀ call,∀ j∈chk,again ⟨C,fa,call⟩ all (fp e o v) h1 j=true) (w:gZ C F Pr fa all sch q (fp e o v) h1):gZ C F Pr fa all ((i,chk)::sch) q e h:=by
 obtain ⟨m,hm⟩:=hop
 obtain ⟨e2,h2,⟨m2,hm2⟩,q2⟩:=w
 refine ⟨e2,h2,⟨max m m2,λk hk=>?_⟩,q2⟩
 grind [again,fp,tA,oY,xZ]
def uf {j:Nat} {chk:List Nat} {sch:List (Nat×List Nat)} {P:AV->au->Prop} (hj:all[j]?=some o) (hw:fE all e o=some true) (hop:∃ v H',(∀ call,gd o.op ⟨C,fa,call⟩ e { H with aT:=ls } o.dst=some (v,{ H' with aT:=ls }))/\P v H')
  (next:∀ v H',P v H'->(∀ call,∀ j∈chk,again ⟨C,fa,call⟩ all (fp e o v) { H' with aT:=ls } j=true)/\gZ C F Pr fa all sch q (fp e o v) { H' with aT:=ls }):gZ C F Pr fa all ((j,chk)::sch) q e { H with aT:=ls }:=by
 obtain ⟨v,H',h1,h2⟩:=hop
 obtain ⟨n1,n2⟩:=next v H' h2
 exact BR hj hw ⟨0,λk _=>h1 _⟩ n1 n2
end
def nz {p:Nat->Prop} {a:Nat} (h:p a):∀ j∈[a],p j:=by grind
def mH {p:Nat->Prop} {a:Nat} {l:List Nat} (h:p a) (hl:∀ j∈l,p j):∀ j∈a::l,p j:=by
 grind
structure ff (α:Type) where
 l:List α
 c:ml
 ok:l.length<=rI
 nl:c=.nil->l=[]
def ff.av {α:Type} (enc : α->List AV) (r:ff α):AV:=.sl (r.l.map enc) r.c
def Row.ji {α:Type} (r:Row α):ff α:=⟨r.l,r.c,r.ok,r.nl⟩
section
variable {H:au} {L:List gh} {i:Nat} {v:AV} {cs:List AV} {w tt:Bool} {n:Nat}
variable {α:Type} {enc : α->List AV} {l:List α}
def Ds {xs:List (List AV)} {sn:Bool} (hS:Sep H L) (hi:L[i]?=some (.sl w tt v n xs)):∃ c,(oU c=true->sn=true)/\(c=.nil->xs=[])/\∀ ls m,(∀ x∈xs,fU (freeze sn { H with aT:=ls } m) x=some x)->freeze sn { H with aT:=ls } (m+1) v=some (.sl xs c):=by
 obtain ⟨hxl,⟨h0,rfl⟩ | ⟨_,rfl⟩ | ⟨b,g,j,hb,rfl,hg,htj⟩⟩:=hS.at hi
 ·subst h0; exact ⟨.nil,λh=>(by cases h),λ_=>rfl,λ_ _ _=>rfl⟩
 ·exact ⟨.exact xs.length,λh=>(by cases h),λh=>(by cases h),λ_ _ _=>rfl⟩
 ·refine ⟨Av sn,?_,?_,λls m hm=>?_⟩
  ·cases sn
   ·intro h; cases h
   simp
  ·cases sn<;>exact λh=>by cases h
  ·have h2:Nat.ble (0+xs.length) (xs++j).length=true:=Nat.ble_eq.mpr (by simp)
   have h3:((xs++j).drop 0).take xs.length=xs:=by simp
   have h5:∀ ys:List (List AV),(∀ x∈ys,fU (freeze sn { H with aT:=ls } m) x=some x)->lT (freeze sn { H with aT:=ls } m) ys=some ys:=by
    intro ys
    induction ys<;>grind [lT]
   simp only [freeze,au.iG,hg,Nat.beq_refl,h2,Bool.and_self,h3,h5 xs hm]
def iZ (hS:Sep H L) (hi:L[i]?=some (.sl w tt v n (l.map enc))) (hl:l.length<=rI):∃ r:Row α,r.l=l/\∀ ls m,(∀ x,fU (freeze false { H with aT:=ls } m) (enc x)=some (enc x))->freeze false { H with aT:=ls } (m+1) v=some (r.av enc):=by
 obtain ⟨c,h1,h2,h3⟩:=Ds (sn:=false) hS hi
 refine ⟨⟨l,c,hl,?_,λh=>List.map_eq_nil_iff.mp (h2 h)⟩,rfl,λls m hm=>h3 ls m ?_⟩<;>grind
def QI (hS:Sep H L) (hi:L[i]?=some (.sl w tt v n (l.map enc))) (hl:l.length<=rI):∃ r:ff α,r.l=l/\∀ ls m,(∀ x,fU (freeze true { H with aT:=ls } m) (enc x)=some (enc x))->freeze true { H with aT:=ls } (m+1) v=some (r.av enc):=by
 obtain ⟨c,h1,h2,h3⟩:=Ds (sn:=true) hS hi
 refine ⟨⟨l,c,hl,λh=>List.map_eq_nil_iff.mp (h2 h)⟩,rfl,λls m hm=>h3 ls m ?_⟩
 grind
theorem HN {f:AV->Option AV}:∀ {es:List (AV×AV×Nat)},(∀ x∈kX es,f x.2=some x.2)->nb f es=some (kX es)
 | [],_=>rfl
 | (k,v,c)::es,h=>by
   have h1:f v=some v:=h (k,v) (by simp [kX])
   have h2:nb f es=some (kX es):=HN λx hx=>h x (by simp only [kX,List.map_cons,List.mem_cons]; exact .inr hx)
   simp only [nb,h1,h2,kX,List.map_cons]
def gU {sn:Bool} {es:List (AV×AV)} (hS:Sep H L) (hi:L[i]?=some (.map v es)) (ls:iN) (m:Nat) (hm:∀ x∈es,freeze sn { H with aT:=ls } m x.2=some x.2):freeze sn { H with aT:=ls } (m+1) v=some (.fm es sn):=by
 obtain ⟨b,es',c,hb,rfl,hg,rfl,hst⟩:=hS.at hi
 grind [freeze,au.iG,HN]
def jh {sn:Bool} {cs':List AV} (hS:Sep H L) (hi:L[i]?=some (.obj v cs)) (ls:iN) (m:Nat) (hm:fU (freeze sn { H with aT:=ls } m) cs=some cs'):freeze sn { H with aT:=ls } (m+1) v=some (.ip cs' 0 sn):=by
 obtain ⟨b,z,hb,rfl,hg⟩:=hS.at hi
 grind [freeze,au.iG]
end
def AV.qE:AV->Bool
 | .agg l=>l.all AV.gY
 | .fG _=>false
 | _=>true
theorem KJ {sn:Bool} {h:au} {n:Nat} {v w:AV} (hp:v.ka=true) (hf:freeze sn h n v=some w):w=v:=by
 cases n with
 | zero=>simp [freeze] at hf
 | succ n =>
   cases v<;>simp only [AV.ka,Bool.false_eq_true] at hp<;>simp only [freeze,Option.some.injEq] at hf<;>try exact hf.symm
   ·grind
   ·grind
   grind
theorem vB {f:AV->Option AV}:∀ {l l':List AV},(∀ x∈l,∀ y,f x=some y->y=x)->fU f l=some l'->l'=l
 | [],_,_,h=>by grind [fU]
 | a::l,l',hx,h=>by
   simp only [fU] at h
   split at h
   ·cases h
   ·rename_i w hw
    split at h
    ·cases h
    ·rename_i r hr
     simp only [Option.some.injEq] at h
     subst h
     rw [hx a (by simp) w hw,vB (λx hm=>hx x (by simp [hm])) hr]
theorem HP {hp:au} {n:Nat} (c:List AV) (o:Nat) (s:Bool):freeze true hp (n+1) (.ip c o s)=some (.ip c o s):=by simp [freeze]
theorem Il {hp:au} {n:Nat} (c:List (AV×AV)) (s:Bool):freeze true hp (n+1) (.fm c s)=some (.fm c s):=by simp [freeze]
theorem GR {h:au} {n:Nat} {v w:AV} (hr:v.p5=false) (hc:v.gY=true) (hf:freeze true h n v=some w):w=v:=by
 cases n with
 | zero=>simp [freeze] at hf
 | succ n =>
   cases v with
   | undef=>cases hc
   | la _ _=>cases hc
   | agg _=>cases hc
   | fG _=>cases hc
   | ptr _ _ _ _=>cases hr
   | hs _ _ _ _=>cases hr
   | hm _=>cases hr
   | sl xs c=>cases c<;>exact (Option.some.inj hf).symm
   | ip c o s=>grind [HP]
   | fm c s=>grind [Il]
   | gx f a c =>
     simp only [AV.p5,Bool.not_eq_false',Bool.and_eq_true,List.all_eq_true] at hr
     grind [freeze,vB,KJ]
   | _=>exact (Option.some.inj hf).symm
theorem Lw {l:List AV} (hr:(AV.agg l).p5=false) {x:AV} (hx:x∈l) (hc:x.gY=true):x.p5=false:=by
 simp only [AV.p5,List.any_eq_false] at hr
 have h1:=hr x hx
 cases x with
 | ptr _ _ _ _=>simp at h1
 | hs _ _ _ _=>simp at h1
 | hm _=>simp at h1
 | gx f a c=>grind [AV.p5]
 | agg _=>cases hc
 | _=>rfl
theorem Nx {h:au} {n:Nat} {v w:AV} (hr:v.p5=false) (hfi:v.qE=true) (hf:freeze true h n v=some w):w=v:=by
 cases n with
 | zero=>simp [freeze] at hf
 | succ n =>
   cases v with
   | agg l =>
     rw [Qm] at hf
     split at hf
     ·rename_i l' hl
      simp only [Option.some.injEq] at hf
      subst hf
      simp only [AV.qE,List.all_eq_true] at hfi
      rw [vB (λx hx y hy=>GR (Lw hr hx (hfi x hx)) (hfi x hx) hy) hl]
     grind
   | fG l=>cases hfi
   | undef=>cases hf
   | la _ _=>cases hf
   | _=>exact GR hr rfl hf
def gG {h:au} {args args':List AV} (hf:fU (freeze true h 8) args=some args') (hfi:args.all AV.qE=true):gT h args=some args':=by
 grind [gT,AV.p5,vB,Nx]
theorem Sep.qE {H:au} {L:List gh} (h:Sep H L) {i:Nat} {r:gh} (hi:L[i]?=some r):AV.qE r.v=true:=by
 cases r with
 | sl w t v n xs=>obtain ⟨hl,⟨_,rfl⟩ | ⟨_,rfl⟩ | ⟨b,g,j,hb,rfl,hq,ht⟩⟩:=h.at hi<;>rfl
 | map v es=>obtain ⟨b,es',c,hb,rfl,hq,he,hst⟩:=h.at hi; rfl
 | obj v cs=>obtain ⟨b,z,hb,rfl,hq⟩:=h.at hi; rfl
def FF {α:Type} {enc : α->List AV} {hp:au} {n:Nat} (r:ff α):freeze true hp (n+1) (ff.av enc r)=some (ff.av enc r):=by
 grind [ff.av,freeze]
theorem sm {α:Type} {enc : α->List AV} {hp:au} {n:Nat} (r:Row α):freeze true hp (n+1) (Row.av enc r)=some (Row.av enc r):=FF r.ji
def Q6 {sn:Bool} {hp:au} {n:Nat} (c:List AV) (o:Nat):freeze sn hp (n+1) (.ip c o false)=some (.ip c o false):=by rfl
def Q2 {sn:Bool} {hp:au} {n:Nat} (c:List (AV×AV)):freeze sn hp (n+1) (.fm c false)=some (.fm c false):=by rfl
def yg {C:gv} {fa:eY} {e:Env} {h:au} {call:mN} {f:Nat} {a c:Array Operand} {as cs:List AV} {d:Option Nat} (ha:a.toList.map (fg e)=as) (hc:c.toList.map (fg e)=cs) (hok:(as.all AV.gY&&cs.all AV.gY)=true):gd (.makeFunc (.func f) a c) ⟨C,fa,call⟩ e h d=some (.gx f as cs,h):=by
 simp only [gd,wa,sT,ha,hc,hok]
section
variable {C:gv} {fa:eY} {e:Env} {h:au} {α:Type} {enc : α->List AV}
def mj {X:Ctx} {d:Option Nat} {t el:Nat} {x:Operand} {cl:Call} {ti:TI} {r:ff α} (hc:cl.callee=.builtin .len) (ha:cl.args.toList=[x]) (hts:cl.argTypes.toList=[t]) (hT:X.C.T t=some ti) (hk:ti.kind=.slice el) (hx:fg e x=r.av enc) :
  gd (.call cl) X e h d=some (.int .i64 r.l.length,h):=by
 simp_all [gd,nG,mM,lz,xy,uC,wD,ff.av,vv,oR]
theorem nA {X:Ctx} {d:Option Nat} {t el:Nat} {x y:Operand} {ti te:TI} {r:ff α} {k:IntKind} {n:Nat} (hT:X.C.T t=some ti) (hk:ti.kind=.slice el) (hE:X.C.T el=some te) (hx:fg e x=r.av enc) (hi:fg e y=.int k (n:Int))
  (hn:n<r.l.length) (hl:(enc r.l[n]).length=te.size):gd (.indexAddr t x y) X e h d=some (.ip (enc r.l[n]) 0 (oU r.c),h) :=
 Ov hT hk hE hx hi (by omega) (r:=enc r.l[n]) (by simp [hn]) hl
def Row.drop (r:Row α) (k:Nat):Row α:=⟨r.l.drop k,pA k r.c,by have:=r.ok; grind,by have:=r.sn; cases hc:r.c<;>rw [hc] at this<;>first | rfl | exact this,λh=>by
 cases hc:r.c<;>rw [hc] at h<;>first | (rw [r.nl hc]; simp) | cases h⟩
def Nb {X:Ctx} {d:Option Nat} {t el n k:Nat} {x y:Operand} {ti te:TI} {r:Row α} {kd:IntKind} (hT:X.C.T t=some ti) (hk:ti.kind=.slice el) (hE:X.C.T el=some te) (hx:fg e x=r.av enc) (hy:fg e y=.int kd (k:Int)) (hn:te.size=n) (hkl:k<=r.l.length) (henc:∀ x,(enc x).length=n) :
  gd (.slice t x (some y) none none) X e h d=some ((r.drop k).av enc,h):=by
 have hai:pV (.int kd (k:Int))=some k:=rfl
 have h0:Nat.ble k (r.l.map enc).length=true:=Nat.ble_eq.mpr (by grind)
 have h1:Nat.ble (r.l.map enc).length (r.l.map enc).length=true:=Nat.ble_eq.mpr (Nat.le_refl _)
 have h2:o1 n (r.l.map enc)=true:=by
  cases r.l with
  | nil=>rfl
  | cons a l=>simp_all [o1]
 have h3:((r.l.map enc).drop k).take ((r.l.map enc).length - k)=(r.l.drop k).map enc:=by
  rw [List.take_of_length_le (by simp),List.map_drop]
 simp only [gd,qj,pF,hT,hk,hE,hx,hy,Row.av,slice,xN,np,bound,hai,qm,hn,h1,h2,h0,Bool.and_true,h3,pv,iJ,Row.drop]
end
section
variable {C:gv} {F:gX} {Pr:gQ} {fa:eY} {e:Env} {h:au} {all rest:List Oper} {o:Oper} {q:Env->au->Prop}
def IL {f:Nat} {args args':List AV} {v:AV} {h h':au} (hP:Pr f=none) (h1:gT h args=some args') (h2:gT h' args'=some args') (w:fh C F Pr false f args' h' v h'):fh C F Pr false f args h v h:=by
 obtain ⟨m,hm⟩:=w
 refine ⟨m+1,λk hk=>?_⟩
 obtain ⟨k,rfl⟩:∃ k',k=k'+1:=⟨k - 1,by omega⟩
 have:=hm (k+1) (by omega)
 simp only [gP,hP] at this ⊢
 cases hF:F f with
 | none=>grind
 | some fb =>
   simp only [hF,rG,h1,h2] at this ⊢
   cases hb:tH C fb (gP C F Pr k) k args' au.empty<;>grind [tH,gP,au.empty,frozen,freeze]
def vP {f:Nat} {g:Operand} {c:Call} {args p r:List AV} {v:AV} {d:Option Nat} (hf:c.callee=.value g) (hg:fg e g=.gx f p r) (ha:c.args.toList.map (fg e)=args) (hok:(p++args++r).all AV.kK=true) (hs:fa.fY.elem f=false)
  (w:fh C F Pr false f (p++args++r) { h with aT:=[] } v { h with aT:=[] }):∃ m,∀ k,m<=k->gd (.call c) (XN C F Pr fa k) e h d=some (v,h):=by
 obtain ⟨m,hm⟩:=w
 refine ⟨m,λk hk=>?_⟩
 simp only [gd,nG,mM,hf,hg,ha,rB,yt,hok,hs,hm k hk,sR]
def kD {f:Nat} {g:Operand} {c:Call} {args p r args':List AV} {R:AV->Prop} (ho:o.op=.call c) (hw:fE all e o=some true) (hf:c.callee=.value g) (hg:fg e g=.gx f p r) (ha:c.args.toList.map (fg e)=args) (hok:(p++args++r).all AV.kK=true) (hs:fa.fY.elem f=false)
  (hP:Pr f=none) (h1:gT { h with aT:=[] } (p++args++r)=some args') (h2:gT au.empty args'=some args')
  (w:∀ h:au,∃ v,fh C F Pr false f args' h v h/\R v) (next:∀ v,R v->ic C F Pr fa all rest q (fp e o v) h):ic C F Pr fa all (o::rest) q e h:=by
 obtain ⟨v,hc,hR⟩:=w au.empty
 refine wX hw ?_ (next v hR)
 rw [ho]
 exact vP hf hg ha hok hs (IL hP h1 h2 hc)
def Ek {j:Nat} {sch:List (Nat×List Nat)} {f:Nat} {g:Operand} {c:Call} {args p r args':List AV} {R:AV->Prop} (hj:all[j]?=some o) (ho:o.op=.call c) (hw:fE all e o=some true) (hf:c.callee=.value g) (hg:fg e g=.gx f p r) (ha:c.args.toList.map (fg e)=args) (hok:(p++args++r).all AV.kK=true) (hs:fa.fY.elem f=false)
  (hP:Pr f=none) (h1:gT { h with aT:=[] } (p++args++r)=some args') (h2:gT au.empty args'=some args')
  (w:∀ h:au,∃ v,fh C F Pr false f args' h v h/\R v) (next:∀ v,R v->gZ C F Pr fa all sch q (fp e o v) h):gZ C F Pr fa all ((j,[])::sch) q e h:=by
 obtain ⟨v,hc,hR⟩:=w au.empty
 refine wP hj hw ?_ (next v hR)
 rw [ho]
 exact vP hf hg ha hok hs (IL hP h1 h2 hc)
variable {H:au} {ls:iN}
def gA {f:Nat} {g:Operand} {c:Call} {args p r:List AV} {R:AV->au->Prop} (ho:o.op=.call c) (hw:fE all e o=some true) (hf:c.callee=.value g) (hg:fg e g=.gx f p r) (ha:c.args.toList.map (fg e)=args) (hok:(p++args++r).all AV.kK=true) (hs:fa.fY.elem f=true)
  (w:∃ v H',fh C F Pr true f (p++args++r) { H with aT:=[] } v H'/\R v H') (next:∀ v H',R v H'->ic C F Pr fa all rest q (fp e o v) { H' with aT:=ls }):ic C F Pr fa all (o::rest) q e { H with aT:=ls }:=by
 obtain ⟨v,H',hc,hR⟩:=w
 refine wX hw ?_ (next v H' hR)
 rw [ho]
 exact BG hf hg ha hok hs hc
def Dy {j:Nat} {sch:List (Nat×List Nat)} {f:Nat} {g:Operand} {c:Call} {args p r:List AV} {R:AV->au->Prop} (hj:all[j]?=some o) (ho:o.op=.call c) (hw:fE all e o=some true) (hf:c.callee=.value g) (hg:fg e g=.gx f p r) (ha:c.args.toList.map (fg e)=args) (hok:(p++args++r).all AV.kK=true) (hs:fa.fY.elem f=true)
  (w:∃ v H',fh C F Pr true f (p++args++r) { H with aT:=[] } v H'/\R v H') (next:∀ v H',R v H'->gZ C F Pr fa all sch q (fp e o v) { H' with aT:=ls }):gZ C F Pr fa all ((j,[])::sch) q e { H with aT:=ls }:=by
 obtain ⟨v,H',hc,hR⟩:=w
 refine wP hj hw ?_ (next v H' hR)
 rw [ho]
 exact BG hf hg ha hok hs hc
end
def kq {α:Type} (enc : α->List AV) (r:Row α):List AV:=[r.av enc]
structure mO where
 vE:Int
 steps:ff fi
 pos:ff Int
 left:ff (Row gI)
def mO.ai (x:mO):List AV:=[.int .i64 x.vE,x.steps.av fi.ai,x.pos.av cI,x.left.av (kq gI.ai)]
structure sW where
 from_:Int
 to:Int
 end_:Int
 steps:ff fi
 fX:ff bm
 guards:ff bm
 gB:ff Int
 holds:ff Int
 bare:Bool
def sW.ai (x:sW):List AV:=[.int .i64 x.from_,.int .i64 x.to,.int .i64 x.end_,x.steps.av fi.ai,x.fX.av bm.ai,x.guards.av bm.ai,x.gB.av cI,x.holds.av cI,.bool x.bare]
structure fz where
 cB:bY
 roads:Row fe
def fz.ai (x:fz):List AV:=x.cB.ai++[x.roads.av fe.ai]
def sK (s:List UInt8):AV:=.str s
def bK (b:Bool):AV:=.bool b
def pU (a b:List UInt8):jc (sK a) (sK b)=some (decide (a=b)):=by
 simp only [jc,sK,AV.agg?,kT,Ay,AV.str?]
 grind
def Sep.nB {H:au} {L:List gh} {i:Nat} {w t:Bool} {v:AV} {n:Nat} {xs:List (List AV)} (h:Sep H L) (hi:L[i]?=some (.sl w t v n xs)):Sep H (L.set i (.sl w false v n xs)):=by
 obtain ⟨hxl,hc⟩:=h.at hi
 refine h.mq hi h.lo (Nat.le_refl _) ⟨hxl,?_⟩ (λ_ _ _=>rfl) (λb hb=>.inl hb)
 grind
def jx {ti:TI} {v:AV} (ha:ti.agg=false) (hs:ti.size=1) (hc:v.gY=true):cellsOf ti v=some [v]:=by
 simp_all [cellsOf]
def fT {p:AV->Bool}:([]:List AV).all p=true:=rfl
def ei {p:AV->Bool} {a:AV} {l:List AV} (h:p a=true) (hl:l.all p=true):(a::l).all p=true:=by grind
def xK {a b:Bool} (h:a=true) (hl:b=true):(a&&b)=true:=by grind
def PL {l:List AV} (h:l.all AV.gY=true):AV.qE (.agg l)=true:=h
def ij {κ β:Type} {ek : κ->AV} {ev : β->AV} {p:AV×AV->Prop} {l:List (κ×β)} (h:∀ x : κ×β,p (ek x.1,ev x.2)):∀ x∈cA ek ev l,p x:=by
 intro x hx; obtain ⟨y,_,rfl⟩:=List.mem_map.mp hx; exact h y
def jS {α:Type} {enc : α->List AV} (r:Row α):AV.AM (r.av enc)=true:=by
 have h:=r.sn
 unfold Row.av
 cases hc:r.c<;>rw [hc] at h<;>first | rfl | cases h
def AN {X:Ctx} {e:Env} {h:au} {t n d:Nat} {ps:Array (Nat×Operand)} {ti:TI} {xs:List (List AV)} (hT:sV X.C t=some ti) (hle:Nat.ble (n*ti.size) 16777216=true) (hf:tY ti (oc e ps) (List.replicate n ti.zero)=some xs) (hd:X.fa.vc.elem d=false) (hp:rP xs=true):gd (.buildSlice t n ps) X e h (some d)=some (.sl xs (.exact xs.length),h):=by
 simp only [gd,wL,sv,hT,hle,hf,BP,hd,hp,Bool.not_true,Bool.or_self]
def ff.isNil {α:Type} (r:ff α):Bool:=match r.c with
 | .nil=>true
 | _=>false
def ff.of_nil {α:Type} {r:ff α} (h:r.isNil=true):r.l=[]:=by
 apply r.nl
 grind [ff.isNil]
def mi {α:Type} {enc : α->List AV} {e:Env} {h:au} {X:Ctx} {d:Option Nat} {t u el:Nat} {x y:Operand} {ti:TI} {r:ff α} (hT:X.C.T t=some ti) (hk:ti.kind=.slice el) (hx:fg e x=r.av enc) (hy:fg e y=.sl [] .nil):gd (.binOp .eql t x y u) X e h d=some (.bool r.isNil,h):=by
 simp only [gd,zd,binOp,hx,hy,ff.av,AV.int?,AV.str?,zg,hT,vA,hk,tR,ff.isNil]
 cases r.c<;>rfl
def Sep.Jc {H:au} {L:List gh} {i:Nat} {t:Bool} {v:AV} {n:Nat} {xs:List (List AV)} (h:Sep H L) (hi:L[i]?=some (.sl true t v n xs)):(v=.sl [] .nil/\xs=[])\/(v=.sl [] (.exact 0)/\xs=[])\/∃ b g,v=.hs b g 0 xs.length:=by
 obtain ⟨hxl,h1 | ⟨h1 | h1,h2⟩ | ⟨b,g,j,h1,h2,h3,h4⟩⟩:=h.at hi<;>grind
end Go.Sx
