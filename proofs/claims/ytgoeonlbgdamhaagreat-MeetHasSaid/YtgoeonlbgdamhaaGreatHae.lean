/- Proves rules for the walks and their soundness. -/
import Derived.Test.YtgoeonlbgdamhaaGreatHad
set_option linter.all false
namespace Go.Sx
open Go
def Mc {G:Ga} (hW:WR G) (o:Obj) (s:Bool) :
  let G':Ga:=⟨G.w.alloc o,λs' B=>G.T s' B\/(s'=s/\B=G.w.heap.size),G.h,G.pi,G.L⟩
  Step G G'/\WR G':=by
 intro G'
 obtain ⟨S,W⟩:=BT hW o
 have hold:∀ B,B<G.w.heap.size->(G.w.alloc o).heap[B]?=G.w.heap[B]?:=λB hB=>(kQ.alloc G.w o).rO (G:=G) hB
 have E:Ext G G':=⟨λ_ _ h=>.inl h,S.ext.keep,S.ext.size,S.ext.iG,S.ext.map,S.ext.iq⟩
 refine ⟨⟨E,S.os,S.output,S.tape,S.kV,S.frame,S.mT,S.nr,?_,S.lo,S.out,S.qi,S.ri,S.sh⟩,?_⟩
 ·grind
 ·obtain ⟨k1,k2,k3⟩:=hW.keep E hold
  refine ⟨k1,k2,k3,W.kD,W.mG,?_,W.oc,?_,W.oM,W.lX,?_,W.lo,W.lt⟩
  ·rintro s' b l h (ht | ⟨_,ht⟩)
   ·exact hW.p9 s' b l h ht
   ·have:=(hW.kD b l h).1
    omega
  ·rintro s' d B h (ht | ⟨_,ht⟩)
   ·exact hW.LT s' d B h ht
   ·have:=(hW.lX d B h).1
    omega
  ·rintro s' B (h | ⟨_,rfl⟩)
   ·exact W.m0 s' B h
   ·show G.w.heap.size<(G.w.alloc o).heap.size
    simp
theorem xv {P : Program} {f : Nat} (hex : ∃ fn, P.funcs[f]? = some fn ∧ fn.body.isNone = false ∧ (fn.name == "runtime.NumGoroutine") = false)
  (h1:∀ b es clock (w:World),w.heap[b]?=some (.map es clock)->Calls P f #[.map (some b)] w λe w'=>e=.returned (.map (some w.heap.size))/\w'=w.alloc (.map es clock))
  (h0:∀ w:World,Calls P f #[.map none] w λe w'=>e=.returned (.map none)/\w'=w):nF P f rJ where
 call:=by
  intro shd args h v h' hc G args' hG hlo hL hW hl hr
  refine ⟨hex,?_⟩
  intro R hR
  subst hG
  have one:∀ x:AV,args=[x]->∃ y,args' = #[y]/\VC G x y:=by
   rintro x rfl
   cases args' with | mk l =>
   cases l with
   | nil=>simp at hl
   | cons y l =>
     cases l with
     | nil=>exact ⟨y,rfl,hr 0 x y rfl rfl⟩
     | cons _ _=>simp at hl
  unfold rJ at hc
  split at hc
  ·obtain ⟨y,rfl,hy⟩:=one _ rfl
   cases hc
   have hv:=hy.vr
   cases hv with
   | jn _ hp =>
     cases hp
     refine (h0 G.w).mono ?_
     rintro e w' ⟨rfl,rfl⟩
     exact hR _ G (.refl G) hW (λm=>rfl) (λm L=>VR.jJ (.jn rfl (.kg _)) rfl)
  ·rename_i es s
   obtain ⟨y,rfl,hy⟩:=one _ rfl
   cases hc
   have hv:=hy.vr
   cases hv with
   | jn _ hp =>
     cases hp with
     | fm _ _ _ r ents clk _ hB hI hll hyo hko hk hvv =>
       refine (h1 r ents clk G.w hB).mono ?_
       rintro e w' ⟨rfl,rfl⟩
       obtain ⟨S1,W1⟩:=Mc hW (.map ents clk) s
       refine hR _ _ S1 W1 (λm=>rfl) (λm L=>VR.jJ (.jn rfl ?_) rfl)
       refine .fm _ es s G.w.heap.size ents clk (λ_=>rfl) ((kQ.alloc G.w _).new (G:=G)) (.inr ⟨rfl,rfl⟩) hll hyo hko ?_ ?_
       ·exact λi p e hp he=>(hk i p e hp he).mono S1.ext.T S1.ext.keep
       ·exact λi p e hp he=>(hvv i p e hp he).mono S1.ext.T S1.ext.keep
  ·rename_i b
   obtain ⟨y,rfl,hy⟩:=one _ rfl
   split at hc
   ·split at hc
    ·rename_i es c hget
     cases hc
     obtain ⟨l,ents,hpi,rfl,hB,hent,hyo⟩:=rb hW hy.vr hget
     refine (h1 l.B ents c G.w hB).mono ?_
     rintro e w' ⟨rfl,rfl⟩
     obtain ⟨S1,W1⟩:=Dt (ob:=.map es c) (cap:=0) hW (kQ.alloc G.w (.map ents c)) (by simp) (by
      intro es2 c2 e G' E hnew
      cases e
      have hent2:=hent.mono E
      exact ⟨ents,hnew,by simpa using hent2.1,hyo,λi p e hp he=>hent2.2 i p e hp (by grind)⟩)
     refine hR _ _ S1 W1 (λm=>rfl) (λm L=>VR.jJ (.hm _ _ ?_ ?_) rfl)<;>grind [VR.jJ,aT.size_push,lr]
    grind
   grind
  grind
 A5:=by
  intro args h v h' hc
  unfold rJ at hc
  split at hc
  ·cases hc; exact ⟨rfl,λ_ _=>rfl⟩
  ·cases hc; exact ⟨rfl,λ_ _=>rfl⟩
  ·cases hc
  grind
end Go.Sx
namespace Go.Sx
open Go
def af1 (P:Program) (t n:Nat):Bool:=match P.info? t with
 | some i=>Nat.beq i.size n
 | none=>false
def FE (P:Program) (t:Nat) (k:TK):Bool:=match P.underlying t,k with
 | some .bool,.bool=>true
 | some (.int a),.int b=>nY a b
 | some .string,.str=>true
 | _,_=>false
def HF (P:Program) (t:Nat):Option Nat:=match P.underlying t with
 | some (.struct _)=>(P.info? t).map (·.size)
 | _=>none
def sJ (P:Program) (rec:Nat->List TK->Bool):List Field->Nat->List TK->Bool
 | [],_,ks=>ks.isEmpty
 | f :: fs, off, ks => (f.name != "_") && Nat.beq f.offset off && match HF P f.type with
   | some n=>Nat.ble n ks.length&&rec f.type (ks.take n)&&sJ P rec fs (off+n) (ks.drop n)
   | none=>match ks with
     | k::ks=>FE P f.type k&&sJ P rec fs (off+1) ks
     | []=>false
def sN (P:Program):Nat->Nat->List TK->Bool
 | 0,_,_=>false
 | d+1,t,ks=>match P.underlying t with
   | some (.struct F)=>!P.stoodInHeld t&&sJ P (sN P d) F.toList 0 ks
   | _=>false
section
variable {P:Program}
def zy:∀ {a b:List AV} (c d:List AV),a.length=b.length->me (a++c) (b++d)=match me a b,me c d with
  | some x,some y=>some (x&&y)
  | _,_=>none
 | [],[],c,d,_=>by
   simp only [List.nil_append,me]
   cases me c d<;>simp
 | [],_::_,_,_,h=>by simp at h
 | _::_,[],_,_,h=>by simp at h
 | x::a,y::b,c,d,h=>by
   have ih:=zy c d (a:=a) (b:=b) (by simpa using h)
   simp only [List.cons_append,me]
   cases hs:mj x y with
   | none=>rfl
   | some v =>
     cases v with
     | true=>simp only [ih]
     | false =>
       simp only [ih]
       cases me a b<;>cases me c d<;>simp
theorem zS:∀ {l m:List AV} {b:Bool},me l m=some b->l.length=m.length
 | [],[],_,_=>rfl
 | [],_::_,_,h=>by cases h
 | _::_,[],_,h=>by cases h
 | x::l,y::m,b,h=>by
   simp only [me] at h
   split at h
   ·simp [zS h]
   ·split at h
    ·rename_i q; simp [zS q]
    ·cases h
   ·cases h
theorem wN:∀ {ks:List TK} {l:List AV},fitAll ks l=true->l.length=ks.length
 | [],[],_=>rfl
 | [],_::_,h=>by cases h
 | _::_,[],h=>by cases h
 | _::ks,_::l,h=>by
   simp only [fitAll,Bool.and_eq_true] at h
   simp [wN h.2]
def yl:∀ (n:Nat) {ks:List TK} {l:List AV},fitAll ks l=true->fitAll (ks.take n) (l.take n)=true/\fitAll (ks.drop n) (l.drop n)=true
 | 0,ks,l,h=>⟨by rfl,by grind⟩
 | n+1,[],[],_=>⟨rfl,rfl⟩
 | _+1,[],_::_,h=>by cases h
 | _+1,_::_,[],h=>by cases h
 | n+1,k::ks,a::l,h=>by
   simp only [fitAll,Bool.and_eq_true] at h
   obtain ⟨h1,h2⟩:=yl n h.2
   exact ⟨by simp [fitAll,h.1,h1],by simpa using h2⟩
def Rel (w:World) (T:Bool->Nat->Prop) (l:List AV) (xs:Array Value):Prop:=l.length=xs.size/\∀ (i:Nat) (x:AV) (y:Value),l[i]?=some x->xs[i]?=some y->PR w T true x y
theorem Rel.part {w:World} {T:Bool->Nat->Prop} {l:List AV} {xs:Array Value} (h:Rel w T l xs) (o n:Nat) (hle:o+n<=l.length):Rel w T ((l.drop o).take n) (xs.extract o (o+n)):=by
 refine ⟨by simp [<- h.1]; omega,?_⟩
 intro i x y hx hy
 rw [List.getElem?_take] at hx
 split at hx
 ·rw [List.getElem?_drop] at hx
  rw [Array.getElem?_extract] at hy
  split at hy
  ·exact h.2 (o+i) x y hx hy
  grind
 grind
theorem vi {t:Nat} {k:TK} (hk:FE P t k=true) {xs:Array Value} {o:Nat} {y:Value} (hy:xs[o]?=some y) (w:World):(Go.part t xs o).run P w=.ok y w:=by
 unfold FE at hk
 have:∃ d,P.underlying t=some d/\I0 d=false:=by
  split at hk<;>first | exact ⟨_,by assumption,rfl⟩ | cases hk
 obtain ⟨d,hd,hag⟩:=this
 have hA:(Go.isAgg t).run P w=.ok false w:=by
  unfold Go.isAgg
  rw [Sem.run_bind,run_underlying hd w,<- hag]
  cases d<;>rfl
 simp_all [Go.part,Sem.run_bind]
theorem xp {t n:Nat} (hk:HF P t=some n) (xs:Array Value) (o:Nat) (w:World):(Go.part t xs o).run P w=.ok (.agg (xs.extract o (o+n))) w:=by
 unfold HF at hk
 split at hk
 ·rename_i F hF
  cases hi:P.info? t with
  | none=>grind
  | some i =>
    simp_all [Go.isAgg,Sem.run_bind,run_underlying,Go.part,Go.sizeOf,typeInfo]
 grind
theorem Cg {t:Nat} {k:TK} (hk:FE P t k=true) {a c:AV} {x y:Value} {b:Bool} {w:World} {T:Bool->Nat->Prop} (hf:rh k a=true) (hx:PR w T true a x) (hy:PR w T true c y) (h:mj a c=some b) (d:Nat) :
  (Op.equalIn (d+1) t x y).run P w=.ok b w:=by
 unfold FE at hk
 split at hk
 ·rename_i hd
  cases a<;>simp only [rh,Bool.false_eq_true] at hf
  cases c<;>simp only [mj,yk,AV.bool?,reduceCtorEq] at h
  cases hx; cases hy<;>grind [run_equalIn_bool]
 ·rename_i k1 k2 hd
  cases a<;>simp only [rh,Bool.false_eq_true] at hf
  cases c<;>simp only [mj,uB,AV.int?,reduceCtorEq] at h
  split at h
  ·rename_i hkk
   rw [qP] at hkk
   cases hx; cases hy<;>grind [run_equalIn_int,o7]
  ·cases h
 ·rename_i hd
  cases a<;>simp only [rh,Bool.false_eq_true] at hf
  cases c<;>simp only [mj,y5,AV.str?,reduceCtorEq] at h
  cases hx with
  | str _ _ p hp =>
    cases hy with
    | str _ _ q hq =>
      have:(Op.equalIn (d+1) t (.string p) (.string q)).run P w=.ok (p==q) w:=by simp [Op.equalIn,run_underlying hd]
      grind [EL]
 grind
def qh {rec:Nat->List TK->Bool} {d:Nat}
  (hrec:∀ t ks,rec t ks=true->∀ (l m:List AV) (xs ys:Array Value) (b:Bool) (w:World) (T:Bool->Nat->Prop),fitAll ks l=true->Rel w T l xs->Rel w T m ys->me l m=some b->(Op.equalIn d t (.agg xs) (.agg ys)).run P w=.ok b w)
  (hd:0<d) {l m:List AV} {xs ys:Array Value} {w:World} {T:Bool->Nat->Prop} (hx:Rel w T l xs) (hy:Rel w T m ys) :
  ∀ (fs:List Field) (off:Nat) (ks:List TK) (b:Bool),sJ P rec fs off ks=true->fitAll ks (l.drop off)=true->me (l.drop off) (m.drop off)=some b->off<=l.length->l.length=m.length ->
    (Op.eqFields d xs ys fs).run P w=.ok b w
 | [],off,ks,b,hfl,hfit,he,_,_=>by
   simp only [sJ,List.isEmpty_iff] at hfl
   subst hfl
   have h0:=wN hfit
   have h1:l.drop off=[]:=List.eq_nil_of_length_eq_zero h0
   have h2:m.drop off=[]:=List.eq_nil_of_length_eq_zero (by grind)
   rw [h1,h2] at he
   cases he
   rfl
 | f::fs,off,ks,b,hfl,hfit,he,hol,hlm=>by
   simp only [sJ,Bool.and_eq_true,bne_iff_ne,ne_eq] at hfl
   obtain ⟨⟨hname,hoff⟩,hrest⟩:=hfl
   have hoff:=Nat.eq_of_beq_eq_true hoff
   unfold Op.eqFields
   rw [if_pos hname,hoff]
   split at hrest
   ·rename_i n hn
    simp only [Bool.and_eq_true,Nat.ble_eq] at hrest
    obtain ⟨⟨hnk,hr⟩,hfs⟩:=hrest
    have hlen:=wN hfit
    rw [List.length_drop] at hlen
    obtain ⟨fit1,fit2⟩:=yl n hfit
    rw [List.drop_drop] at fit2
    have hsplit:me (l.drop off) (m.drop off)=match me ((l.drop off).take n) ((m.drop off).take n),me (l.drop (off+n)) (m.drop (off+n)) with
      | some x,some y=>some (x&&y)
      | _,_=>none:=by
     have:=zy (a:=(l.drop off).take n) (b:=(m.drop off).take n) (l.drop (off+n)) (m.drop (off+n)) (by simp [hlm])
     rw [<- List.drop_drop (i:=n) (j:=off),<- List.drop_drop (i:=n) (j:=off),List.take_append_drop,List.take_append_drop] at this
     simp_all
    rw [hsplit] at he
    split at he
    ·rename_i b1 b2 h1 h2
     cases he
     have e1:=hrec _ _ hr _ _ _ _ b1 w T fit1 (hx.part off n (by omega)) (hy.part off n (by omega)) h1
     have e2:=qh hrec hd hx hy fs (off+n) _ b2 hfs fit2 h2 (by omega) hlm
     simp only [Sem.run_bind,xp hn,Result.andThen_ok,e1,Sem.run_ite]
     cases b1<;>simp_all
    grind
   ·rename_i hn
    split at hrest
    ·rename_i k ks
     simp only [Bool.and_eq_true] at hrest
     obtain ⟨hk,hfs⟩:=hrest
     cases hld:l.drop off with
     | nil=>rw [hld] at hfit; cases hfit
     | cons a l' =>
       cases hmd:m.drop off with
       | nil=>rw [hld,hmd] at he; cases he
       | cons c m' =>
         have hl':l'=l.drop (off+1):=by rw [<- List.drop_drop,hld]; rfl
         have hm':m'=m.drop (off+1):=by rw [<- List.drop_drop,hmd]; rfl
         rw [hld] at hfit
         simp only [fitAll,Bool.and_eq_true] at hfit
         have hla:l[off]?=some a:=by
          have:(l.drop off)[0]?=some a:=by grind
          grind
         have hmc:m[off]?=some c:=by
          have:(m.drop off)[0]?=some c:=by grind
          grind
         have hlt:=(List.getElem?_eq_some_iff.1 hla).1
         have hmt:=(List.getElem?_eq_some_iff.1 hmc).1
         have hlx:off<xs.size:=by rw [<- hx.1]; exact hlt
         have hly:off<ys.size:=by rw [<- hy.1]; exact hmt
         have hxo:xs[off]?=some xs[off]:=by simp
         have hyo:ys[off]?=some ys[off]:=by simp
         rw [hld,hmd] at he
         simp only [me] at he
         have next:∀ b2,me l' m'=some b2->(Op.eqFields d xs ys fs).run P w=.ok b2 w:=by
          intro b2 h2
          rw [hl',hm'] at h2
          exact qh hrec hd hx hy fs (off+1) ks b2 hfs (by rw [<- hl']; exact hfit.2) h2 (by omega) hlm
         obtain ⟨d',rfl⟩:∃ d',d=d'+1:=⟨d - 1,by omega⟩
         simp only [Sem.run_bind,vi hk hxo,vi hk hyo,Result.andThen_ok]
         split at he
         ·rename_i hs
          rw [Cg hk hfit.1 (hx.2 off a _ hla hxo) (hy.2 off c _ hmc hyo) hs d']
          grind [Result.andThen_ok]
         ·rename_i hs
          rw [Cg hk hfit.1 (hx.2 off a _ hla hxo) (hy.2 off c _ hmc hyo) hs d']
          split at he<;>simp_all
         grind
    grind
def zn:∀ (d t:Nat) (ks:List TK),sN P d t ks=true->∀ (D:Nat) (l m:List AV) (xs ys:Array Value) (b:Bool) (w:World) (T:Bool->Nat->Prop),fitAll ks l=true->Rel w T l xs->Rel w T m ys->me l m=some b ->
  (Op.equalIn (D+1+d) t (.agg xs) (.agg ys)).run P w=.ok b w
 | 0,_,_,h=>by cases h
 | d+1,t,ks,h=>by
   intro D l m xs ys b w T hfit hx hy he
   simp only [sN] at h
   split at h
   ·rename_i F hF
    simp only [Bool.and_eq_true,Bool.not_eq_true'] at h
    have hfo:P.fieldsOf t=F:=by simp [Program.fieldsOf,hF]
    rw [show D+1+(d+1)=(D+1+d)+1 by omega,run_equalIn_struct w (D+1+d) t xs ys (by rw [hfo]; exact hF) h.1,hfo]
    exact qh (λt' ks' h'=>zn d t' ks' h' D) (by omega) hx hy F.toList 0 ks b h.2 (by simpa using hfit) (by simpa using he) (Nat.zero_le _) (zS he)
   ·cases h
def vQ:∀ (d t:Nat) (ks:List TK),sN P d t ks=true->∀ (D:Nat) (em:Bool) (xs:Array Value) (w:World),xs.size=ks.length->(Instr.checkKey em (D+1+d) t (.agg xs)).run P w=.ok () w
 | 0,_,_,h=>by cases h
 | d+1,t,ks,h=>by
   intro D em xs w hsz
   simp only [sN] at h
   split at h
   ·rename_i F hF
    simp only [Bool.and_eq_true] at h
    have hfl:=h.2
    rw [show D+1+(d+1)=(D+1+d)+1 by omega]
    unfold Instr.checkKey
    simp only [Sem.run_bind,run_underlying hF,Result.andThen_ok]
    rw [<- Array.forIn_toList]
    have go:∀ (fs:List Field) (off:Nat) (ks':List TK),sJ P (sN P d) fs off ks'=true->off+ks'.length=xs.size ->
      (forIn (m := Sem) fs PUnit.unit (fun f _ => if f.name ≠ "_" then do
        Instr.checkKey em (D+1+d) f.type (<- Go.part f.type xs f.offset)
        pure (ForInStep.yield PUnit.unit) else pure (ForInStep.yield PUnit.unit))).run P w=.ok PUnit.unit w:=by
     intro fs
     induction fs with
     | nil=>simp
     | cons f fs ih =>
       intro off ks' hf ho
       simp only [sJ,Bool.and_eq_true,bne_iff_ne,ne_eq] at hf
       obtain ⟨⟨hname,hoff⟩,hrest⟩:=hf
       have hoff:=Nat.eq_of_beq_eq_true hoff
       rw [List.forIn_cons]
       split at hrest
       ·rename_i n hn
        simp only [Bool.and_eq_true,Nat.ble_eq] at hrest
        obtain ⟨⟨hnk,hr⟩,hfs⟩:=hrest
        have e1:=vQ d f.type _ hr D em (xs.extract f.offset (f.offset+n)) w (by grind)
        grind [Sem.run_bind,xp,Result.andThen_ok,Sem.run_pure]
       ·split at hrest
        ·rename_i k ks2
         simp only [Bool.and_eq_true] at hrest
         have hlt:f.offset<xs.size:=by grind
         have hxo:xs[f.offset]?=some xs[f.offset]:=by simp
         have e0:(Instr.checkKey em (D+1+d) f.type xs[f.offset]).run P w=.ok () w:=by
          have hk:=hrest.1
          unfold FE at hk
          grind [wS]
         have e2:=ih (off+1) _ hrest.2 (by grind)
         simp only [Sem.run_bind,if_pos hname,vi hrest.1 hxo,Result.andThen_ok,e0,Sem.run_pure]
         exact e2
        grind
    rw [go F.toList 0 ks hfl (by omega)]
    rfl
   ·cases h
def N8 (P:Program) (d:TypeDesc) (k:TK):Bool:=match d,k with
 | .bool,.bool=>true
 | .int a,.int b=>nY a b
 | .string,.str=>true
 | .pointer _,.ptr=>true
 | .slice a,.slice b=>Nat.beq a b
 | .array n a,.array m b=>Nat.beq n m&&Nat.beq a b
 | .map a b,.map c e=>Nat.beq a c&&Nat.beq b e
 | .struct F,.struct fs=>(fs==F.toList.map λf=>(f.offset,f.type))&&F.toList.all λf=>match P.info? f.type with
   | some i=>!(Nat.beq i.size 0)
   | none=>false
 | .func ..,.func=>true
 | _,.other=>true
 | _,_=>false
def Ql (ti:TI) (z:Value):Bool:=mB (lZ 2) ti.zero (z.cells.toList.map EI)&&Nat.beq z.cells.size ti.size&&z.cells.toList.all (·.oneCell')&&match ti.agg,z with
 | true,.agg _=>true
 | true,_=>false
 | false,z=>z.oneCell'
def Kw (P:Program) (t:Nat) (ti:TI):Bool :=
 (match P.info? t with
 | some i=>Nat.beq i.size ti.size&&Nat.beq i.bytes ti.bytes&&match i.zero with
   | some z=>Ql ti z
   | none=>false
 | none=>false) &&
 (match P.underlying t with
 | some d=>B8 (I0 d) ti.agg&&N8 P d ti.kind
 | none=>false) &&
 Nat.ble ti.bytes 1048576 &&
 (!ti.flat||!(P.eqGuardType P.depth t)) &&
 (!(ti.flat&&ti.agg)||(sN P 3 t ti.sc&&Nat.beq ti.sc.length ti.size))
def TR {t:Nat} {ti:TI} (h:Kw P t ti=true):m8 P t ti:=by
 simp only [Kw,Bool.and_eq_true] at h
 obtain ⟨⟨⟨⟨h1,h2⟩,h3⟩,h4⟩,h5⟩:=h
 have hflat:ti.flat=true->ti.agg=true->sN P 3 t ti.sc=true/\ti.sc.length=ti.size:=by
  intro hf ha
  simp_all
 refine ⟨?_,?_,Nat.le_of_ble_eq_true h3,?_,?_,?_⟩
 ·split at h1
  ·rename_i i hi
   simp only [Bool.and_eq_true] at h1
   obtain ⟨⟨a1,a2⟩,a3⟩:=h1
   split at a3
   ·rename_i z hz
    simp only [Ql,Bool.and_eq_true,List.all_eq_true] at a3
    obtain ⟨⟨⟨z1,z2⟩,z3⟩,z4⟩:=a3
    refine ⟨i,z,hi,Nat.eq_of_beq_eq_true a1,Nat.eq_of_beq_eq_true a2,hz,mO (oG 2) _ _ z1,Nat.eq_of_beq_eq_true z2,z3,?_,?_⟩<;>grind
   grind
  grind
 ·split at h2
  ·rename_i d hd
   simp only [Bool.and_eq_true,DV,beq_iff_eq] at h2
   refine ⟨d,hd,h2.1,?_⟩
   have hk:=h2.2
   generalize ti.kind=kk at hk ⊢
   unfold N8 at hk
   split at hk<;>try (cases hk; done)
   ·exact rfl
   ·rw [qP] at hk; subst hk; exact rfl
   ·exact rfl
   ·exact ⟨_,rfl⟩
   ·have:=Nat.eq_of_beq_eq_true hk; subst this; exact rfl
   ·simp only [Bool.and_eq_true] at hk
    have e1:=Nat.eq_of_beq_eq_true hk.1
    have e2:=Nat.eq_of_beq_eq_true hk.2
    subst e1; subst e2; exact rfl
   ·simp only [Bool.and_eq_true] at hk
    have e1:=Nat.eq_of_beq_eq_true hk.1
    have e2:=Nat.eq_of_beq_eq_true hk.2
    subst e1; subst e2; exact rfl
   ·simp only [Bool.and_eq_true,beq_iff_eq,List.all_eq_true] at hk
    refine ⟨_,rfl,hk.1,?_⟩
    intro f hf
    have:=hk.2 f hf
    split at this
    ·rename_i i hi
     refine ⟨i,hi,?_⟩
     intro h0
     simp_all
    grind
   ·exact ⟨_,_,_,rfl⟩
   ·trivial
  grind
 ·grind
 ·intro hf ha l m xs ys b w T hfit hl hm hx hy he
  obtain ⟨f1,f2⟩:=hflat hf ha
  have rel:∀ {l:List AV} {xs:Array Value},PR w T true (.agg l) (.agg xs)->Rel w T l xs:=by
   intro l xs h
   cases h with
   | agg _ _ _ hl h1 hr=>exact ⟨hl,hr⟩
  exact zn 3 t ti.sc f1 9996 l m xs ys b w T hfit (rel hx) (rel hy) he
 ·intro hf ha e xs w hsz
  obtain ⟨f1,f2⟩:=hflat hf ha
  exact vQ 3 t ti.sc f1 9996 e xs w (by omega)
def Tr.BV {α:Type} (p:Nat->α->Bool):Tr α->(Nat->Nat)->Bool
 | .leaf,_=>true
 | .node l v r,f=>(match v with
   | some x=>p (f 0) x
   | none=>true)&&Tr.BV p l (λn=>f (2*n+1))&&Tr.BV p r (λn=>f (2*n+2))
def Tr.zJ {α:Type} (p:Nat->α->Bool):∀ (t:Tr α) (f:Nat->Nat),Tr.BV p t f=true->∀ (n:Nat) (x : α),t.get n=some x->p (f n) x=true
 | .leaf,_,_,n,x,h=>by simp [Tr.get] at h
 | .node l v r,f,ha,n,x,h=>by
   simp only [Tr.BV,Bool.and_eq_true] at ha
   obtain ⟨⟨h1,h2⟩,h3⟩:=ha
   cases n with
   | zero =>
     simp only [Tr.get] at h
     rw [h] at h1
     exact h1
   | succ m =>
     simp only [Tr.get] at h
     split at h
     ·rename_i hm
      have hm:=Nat.eq_of_beq_eq_true hm
      have:=Tr.zJ p l _ h2 (m / 2) x h
      rw [show 2*(m / 2)+1=m+1 by omega] at this
      exact this
     ·rename_i hm
      have hm:m % 2≠0:=Nat.ne_of_beq_eq_false hm
      have:=Tr.zJ p r _ h3 (m / 2) x h
      rw [show 2*(m / 2)+2=m+1 by omega] at this
      exact this
def Tr.Dv {α:Type} (q:Nat->α->Prop):Tr α->(Nat->Nat)->Prop
 | .leaf,_=>True
 | .node l v r,f=>(match v with
   | some x=>q (f 0) x
   | none=>True)/\Tr.Dv q l (λn=>f (2*n+1))/\Tr.Dv q r (λn=>f (2*n+2))
def Tr.z8 {α:Type} (q:Nat->α->Prop):∀ (t:Tr α) (f:Nat->Nat),Tr.Dv q t f->∀ (n:Nat) (x : α),t.get n=some x->q (f n) x
 | .leaf,_,_,n,x,h=>by simp [Tr.get] at h
 | .node l v r,f,ha,n,x,h=>by
   simp only [Tr.Dv] at ha
   obtain ⟨h1,h2,h3⟩:=ha
   cases n with
   | zero =>
     simp only [Tr.get] at h
     rw [h] at h1
     exact h1
   | succ m =>
     simp only [Tr.get] at h
     split at h
     ·rename_i hm
      have hm:=Nat.eq_of_beq_eq_true hm
      have:=Tr.z8 q l _ h2 (m / 2) x h
      rw [show 2*(m / 2)+1=m+1 by omega] at this
      exact this
     ·rename_i hm
      have hm:m % 2≠0:=Nat.ne_of_beq_eq_false hm
      have:=Tr.z8 q r _ h3 (m / 2) x h
      rw [show 2*(m / 2)+2=m+1 by omega] at this
      exact this
def U0 {t:Tr TI} (h:Tr.BV (Kw P) t id=true):jX P ⟨t.get⟩ :=
 ⟨λn ti hn=>TR (Tr.zJ (Kw P) t id h n ti hn)⟩
end
end Go.Sx
namespace Go.Sx
open Go
section
variable (C:jH) (F:kP) (Pr:kx)
def jf (shd:Bool) (f:Nat) (args:List AV) (h:aT) (v:AV) (h':aT):Prop:=∃ m,∀ k,m<=k->lT C F Pr k shd f args h=some (v,h')
abbrev XN (fa:iA) (k:Nat):Ctx:=⟨C,fa,lT C F Pr k⟩
def Wp (fa:iA) (c:Code) (an:lB) (Q:Ex->Env->aT->Prop) (e:Env) (h:aT):Prop :=
 ∃ x e' h',(∃ m,∀ k,m<=k->jS (XN C F Pr fa k) (kJ k) c an e h=some (x,e',h'))/\Q x e' h'
def ki (fa:iA) (all ops:List Oper) (Q:Env->aT->Prop) (e:Env) (h:aT):Prop :=
 ∃ e' h',(∃ m,∀ k,m<=k->ya (XN C F Pr fa k) all ops e h=some (e',h'))/\Q e' h'
def kB (fa:iA) (all:List Oper) (sch:List (Nat×List Nat)) (Q:Env->aT->Prop) (e:Env) (h:aT):Prop :=
 ∃ e' h',(∃ m,∀ k,m<=k->sP (XN C F Pr fa k) all sch e h=some (e',h'))/\Q e' h'
end
section
variable {C:jH} {F:kP} {Pr:kx} {fa:iA} {Q:Ex->Env->aT->Prop} {e:Env} {h:aT}
def Wp.mono {c:Code} {an:lB} {Q':Ex->Env->aT->Prop} (w:Wp C F Pr fa c an Q e h) (hq:∀ x e h,Q x e h->Q' x e h):Wp C F Pr fa c an Q' e h :=
 let ⟨x,e',h',m,q⟩:=w; ⟨x,e',h',m,hq _ _ _ q⟩
def Mb {an:lB} (q:Q .ka e h):Wp C F Pr fa .skip an Q e h:=⟨_,_,_,⟨0,λ_ _=>rfl⟩,q⟩
def JQ {l:Nat} {an:lB} (q:Q .ka e h):Wp C F Pr fa (.label l) an Q e h:=⟨_,_,_,⟨0,λ_ _=>rfl⟩,q⟩
def MB {id:Nat} {an:lB} (q:Q (.ext id) e h):Wp C F Pr fa (.exit id) an Q e h:=⟨_,_,_,⟨0,λ_ _=>rfl⟩,q⟩
def SS {an:lB} (q:Q .ret e h):Wp C F Pr fa .ret an Q e h:=⟨_,_,_,⟨0,λ_ _=>rfl⟩,q⟩
def u1 {c:Code} {an:lB} (w:Wp C F Pr fa c an Q e h):Wp C F Pr fa (.scope c) an Q e h:=w
def uO (next:Env->aT->Prop) (Q:Ex->Env->aT->Prop):Ex->Env->aT->Prop
 | .ka,e,h=>next e h
 | x,e,h=>Q x e h
def UU {a b:Code} {x y:lB} (w:Wp C F Pr fa a x (uO (Wp C F Pr fa b y Q) Q) e h):Wp C F Pr fa (.seq a b) (.sq x y) Q e h:=by
 obtain ⟨x1,e1,h1,⟨m1,hm1⟩,q1⟩:=w
 cases x1 with
 | ka =>
   obtain ⟨x2,e2,h2,⟨m2,hm2⟩,q2⟩:=q1
   refine ⟨x2,e2,h2,⟨max m1 m2,λk hk=>?_⟩,q2⟩
   simp only [jS,xt,hm1 k (by omega),andThen]
   grind
 | ext id=>exact ⟨_,e1,h1,⟨m1,λk hk=>by simp_all [jS,xt,andThen]⟩,q1⟩
 | ret=>exact ⟨_,e1,h1,⟨m1,λk hk=>by simp_all [jS,xt,andThen]⟩,q1⟩
def FQ {a b:Code} {live:List Nat} {x y:lB} (w:Wp C F Pr fa a x (uO (λe h=>Wp C F Pr fa b y Q (proj live e) { h with iq:=kX live h.iq }) Q) e h):Wp C F Pr fa (.seq a b) (.seq live x y) Q e h:=by
 obtain ⟨x1,e1,h1,⟨m1,hm1⟩,q1⟩:=w
 cases x1 with
 | ka =>
   obtain ⟨x2,e2,h2,⟨m2,hm2⟩,q2⟩:=q1
   refine ⟨x2,e2,h2,⟨max m1 m2,λk hk=>?_⟩,q2⟩
   simp only [jS,xt,hm1 k (by omega),andThen,om]
   grind
 | ext id=>exact ⟨_,e1,h1,⟨m1,λk hk=>by simp_all [jS,xt,andThen]⟩,q1⟩
 | ret=>exact ⟨_,e1,h1,⟨m1,λk hk=>by simp_all [jS,xt,andThen]⟩,q1⟩
def Ez {c:Operand} {a b:Code} {x y:lB} {t:Bool} (hc:iJ e c=.bool t) (w1:t=true->Wp C F Pr fa a x Q e h) (w2:t=false->Wp C F Pr fa b y Q e h):Wp C F Pr fa (.cond c a b) (.two x y) Q e h:=by
 cases t with
 | true =>
   obtain ⟨x1,e1,h1,⟨m1,hm1⟩,q1⟩:=w1 rfl
   exact ⟨x1,e1,h1,⟨m1,λk hk=>by simp_all [jS,C4,C3,AV.bool?]⟩,q1⟩
 | false =>
   obtain ⟨x1,e1,h1,⟨m1,hm1⟩,q1⟩:=w2 rfl
   exact ⟨x1,e1,h1,⟨m1,λk hk=>by simp_all [jS,C4,C3,AV.bool?]⟩,q1⟩
def IH (id:Nat) (Q:Ex->Env->aT->Prop):Ex->Env->aT->Prop
 | .ext i,e,h=>if i=id then Q .ka e h else Q (.ext i) e h
 | x,e,h=>Q x e h
def JN {id:Nat} {a:Code} {an:lB} (w:Wp C F Pr fa a an (IH id Q) e h):Wp C F Pr fa (.block id a) an Q e h:=by
 obtain ⟨x1,e1,h1,⟨m1,hm1⟩,q1⟩:=w
 cases x1 with
 | ka=>exact ⟨_,e1,h1,⟨m1,λk hk=>by simp_all [jS,vP,atEnd]⟩,q1⟩
 | ret=>exact ⟨_,e1,h1,⟨m1,λk hk=>by simp_all [jS,vP,atEnd]⟩,q1⟩
 | ext i =>
   simp only [IH] at q1
   split at q1
   ·rename_i hi
    subst hi
    exact ⟨_,e1,h1,⟨m1,λk hk=>by simp_all [jS,vP,atEnd]⟩,q1⟩
   ·rename_i hi
    have hb:Nat.beq i id=false:=by
     cases hq:Nat.beq i id<;>simp_all
    exact ⟨_,e1,h1,⟨m1,λk hk=>by simp_all [jS,vP,atEnd]⟩,q1⟩
def kF {c:Code} {live:List Nat} {an:lB} (I:Nat->Env->aT->Prop)
  (round:∀ n e h,I n e h->Wp C F Pr fa c an (uO (λe' h'=>∃ m,m<n/\I m e' h') Q) (proj live e) { h with iq:=kX live h.iq }) :
  ∀ (n:Nat) (e:Env) (h:aT),I n e h->Wp C F Pr fa (.loop c) (.loop live an) Q e h:=by
 have key:∀ (n:Nat) (e:Env) (h:aT),I n e h->∃ x e' h',(∃ M,∀ k j,M<=k->M<=j->kJ j (lM live (jS (XN C F Pr fa k) (kJ k) c an)) e h=some (x,e',h'))/\Q x e' h':=by
  intro n
  induction n using Nat.strongRecOn with
  | _ n ih =>
    intro e h hI
    obtain ⟨x1,e1,h1,⟨m1,hm1⟩,q1⟩:=round n e h hI
    have other:∀ x1,(∀ e h,uO (λe' h'=>∃ m,m<n/\I m e' h') Q x1 e h=Q x1 e h)->x1≠.ka->(∀ k,m1<=k->jS (XN C F Pr fa k) (kJ k) c an (proj live e) { h with iq:=kX live h.iq }=some (x1,e1,h1))->Q x1 e1 h1 ->
      ∃ x e' h',(∃ M,∀ k j,M<=k->M<=j->kJ j (lM live (jS (XN C F Pr fa k) (kJ k) c an)) e h=some (x,e',h'))/\Q x e' h':=by
     intro x1 _ hne hm q
     refine ⟨x1,e1,h1,⟨m1+1,λk j hk hj=>?_⟩,q⟩
     obtain ⟨j,rfl⟩:∃ j',j=j'+1:=⟨j - 1,by omega⟩
     grind [kJ,om]
    cases x1 with
    | ka =>
      obtain ⟨m,hlt,hI1⟩:=q1
      obtain ⟨x2,e2,h2,⟨M,hM⟩,q2⟩:=ih m hlt e1 h1 hI1
      refine ⟨x2,e2,h2,⟨max m1 M+1,λk j hk hj=>?_⟩,q2⟩
      obtain ⟨j,rfl⟩:∃ j',j=j'+1:=⟨j - 1,by omega⟩
      grind [kJ,om]
    | ext id=>exact other (.ext id) (λ_ _=>rfl) (by simp) hm1 q1
    | ret=>exact other .ret (λ_ _=>rfl) (by simp) hm1 q1
 intro n e h hI
 obtain ⟨x,e',h',⟨M,hM⟩,q⟩:=key n e h hI
 exact ⟨x,e',h',⟨M,λk hk=>hM k k hk hk⟩,q⟩
def IC {id:Nat} {ops:Array Oper} {an:lB} (w:ki C F Pr fa ops.toList ops.toList (Q .ka) e h):Wp C F Pr fa (.region id ops false) an Q e h:=by
 obtain ⟨e1,h1,⟨m1,hm1⟩,q1⟩:=w
 exact ⟨.ka,e1,h1,⟨m1,λk hk=>by simp_all [jS,vK,HS,wK]⟩,q1⟩
def KF {id:Nat} {ops:Array Oper} {sch:List (Nat×List Nat)} (w:kB C F Pr fa ops.toList sch (Q .ka) e h):Wp C F Pr fa (.region id ops true) (.pC sch) Q e h:=by
 obtain ⟨e1,h1,⟨m1,hm1⟩,q1⟩:=w
 exact ⟨.ka,e1,h1,⟨m1,λk hk=>by simp_all [jS,vK,yj,wK]⟩,q1⟩
variable {all rest:List Oper} {o:Oper} {q:Env->aT->Prop}
def Sf (w:q e h):ki C F Pr fa all [] q e h:=⟨e,h,⟨0,λ_ _=>rfl⟩,w⟩
def vF {v:AV} {h1:aT} (hw:jg all e o=some true) (hop:∃ m,∀ k,m<=k->jt o.op (XN C F Pr fa k) e h o.dst=some (v,h1)) (w:ki C F Pr fa all rest q (iS e o v) h1):ki C F Pr fa all (o::rest) q e h:=by
 obtain ⟨m,hm⟩:=hop
 obtain ⟨e2,h2,⟨m2,hm2⟩,q2⟩:=w
 refine ⟨e2,h2,⟨max m m2,λk hk=>?_⟩,q2⟩
 grind [ya,pF,y8]
theorem iz {v:AV} {h1:aT} (hw:jg all e o=some true) (hop:∀ call,jt o.op ⟨C,fa,call⟩ e h o.dst=some (v,h1)) (w:ki C F Pr fa all rest q (iS e o v) h1):ki C F Pr fa all (o::rest) q e h :=
 vF hw ⟨0,λ_ _=>hop _⟩ w
def MR (hw:jg all e o=some false) (w:ki C F Pr fa all rest q (iS e o (.je [])) h):ki C F Pr fa all (o::rest) q e h:=by
 obtain ⟨e2,h2,⟨m2,hm2⟩,q2⟩:=w
 refine ⟨e2,h2,⟨m2,λk hk=>?_⟩,q2⟩
 grind [ya,pF]
def Sg (w:q e h):kB C F Pr fa all [] q e h:=⟨e,h,⟨0,λ_ _=>rfl⟩,w⟩
def BJ {i:Nat} {sch:List (Nat×List Nat)} {v:AV} {h1:aT} (ho:all[i]?=some o) (hw:jg all e o=some true) (hop:∃ m,∀ k,m<=k->jt o.op (XN C F Pr fa k) e h o.dst=some (v,h1))
  (w:kB C F Pr fa all sch q (iS e o v) h1):kB C F Pr fa all ((i,[])::sch) q e h:=by
 obtain ⟨m,hm⟩:=hop
 obtain ⟨e2,h2,⟨m2,hm2⟩,q2⟩:=w
 refine ⟨e2,h2,⟨max m m2,λk hk=>?_⟩,q2⟩
 grind [sP,pF,y8]
theorem iN {i:Nat} {sch:List (Nat×List Nat)} {v:AV} {h1:aT} (ho:all[i]?=some o) (hw:jg all e o=some true) (hop:∀ call,jt o.op ⟨C,fa,call⟩ e h o.dst=some (v,h1))
  (w:kB C F Pr fa all sch q (iS e o v) h1):kB C F Pr fa all ((i,[])::sch) q e h :=
 BJ ho hw ⟨0,λ_ _=>hop _⟩ w
def LB {i:Nat} {sch:List (Nat×List Nat)} (ho:all[i]?=some o) (hw:jg all e o=some false) (w:kB C F Pr fa all sch q (iS e o (.je [])) h):kB C F Pr fa all ((i,[])::sch) q e h:=by
 obtain ⟨e2,h2,⟨m2,hm2⟩,q2⟩:=w
 refine ⟨e2,h2,⟨m2,λk hk=>?_⟩,q2⟩
 grind [sP,pF]
def Ek {f:Nat} {g:Operand} {c:Call} {args:List AV} {v:AV} {d:Option Nat} (hf:c.callee=.value g) (hg:iJ e g=.jN f [] []) (ha:c.args.toList.map (iJ e)=args) (hok:args.all AV.nq=true) (hs:fa.jm.elem f=false)
  (w:jf C F Pr false f args { h with iq:=[] } v { h with iq:=[] }):∃ m,∀ k,m<=k->jt (.call c) (XN C F Pr fa k) e h d=some (v,h):=by
 obtain ⟨m,hm⟩:=w
 refine ⟨m,λk hk=>?_⟩
 simp only [jt,pr,oz,hf,hg,ha,ua,AE,List.nil_append,List.append_nil,hok,hs,hm k hk,vG]
def EZ {f:Nat} {g:Operand} {c:Call} {args p q:List AV} {v:AV} {d:Option Nat} {h':aT} (hf:c.callee=.value g) (hg:iJ e g=.jN f p q) (ha:c.args.toList.map (iJ e)=args) (hok:(p++args++q).all AV.nq=true) (hs:fa.jm.elem f=true)
  (w:jf C F Pr true f (p++args++q) { h with iq:=[] } v h'):∃ m,∀ k,m<=k->jt (.call c) (XN C F Pr fa k) e h d=some (v,{ h' with iq:=h.iq }):=by
 obtain ⟨m,hm⟩:=w
 refine ⟨m,λk hk=>?_⟩
 simp only [jt,pr,oz,hf,hg,ha,ua,AE,hok,hs,hm k hk,vG]
def Leaves (C:jH) (res:List ResultVar) (R:AV->aT->Prop):Ex->Env->aT->Prop
 | .ext _,_,_=>False
 | _,e,h=>∃ v,leave.leave1 C res e h=some (v,h)/\R v h
def xM {f:Nat} {args:List AV} {R:AV->aT->Prop} (hP:Pr f=none) (hF:F f=some fa) (hi:fa.iter=false) (w:Wp C F Pr fa fa.body fa.lV (Leaves C fa.res R) (params 0 args) h) :
  ∃ v h',jf C F Pr true f args h v h'/\R v h':=by
 obtain ⟨x,e1,h1,⟨m,hm⟩,q⟩:=w
 have fin:∀ x:Ex,(x=.ka\/x=.ret)->(∀ k,m<=k->jS (XN C F Pr fa k) (kJ k) fa.body fa.lV (params 0 args) h=some (x,e1,h1))->(∃ v,leave.leave1 C fa.res e1 h1=some (v,h1)/\R v h1)->∃ v h',jf C F Pr true f args h v h'/\R v h':=by
  rintro x hx hm ⟨v,hv,hR⟩
  refine ⟨v,h1,⟨m+1,λk hk=>?_⟩,hR⟩
  obtain ⟨k,rfl⟩:∃ k',k=k'+1:=⟨k - 1,by omega⟩
  simp only [lT,hP,hF,su,tl,hi,Bk,hm k (by omega)]
  rcases hx with rfl | rfl<;>exact hv
 cases x with
 | ka=>exact fin .ka (.inl rfl) hm q
 | ret=>exact fin .ret (.inr rfl) hm q
 | ext id=>exact q.elim
def JW {f:Nat} {args nK:List AV} {R:AV->Prop} (hP:Pr f=none) (hF:F f=some fa) (hi:fa.iter=false) (ha:lf h args=some nK)
  (w:Wp C F Pr fa fa.body fa.lV (Leaves C fa.res λv h'=>∃ v1,freeze false h' 8 v=some v1/\R v1) (params 0 nK) aT.empty) :
  ∃ v,jf C F Pr false f args h v h/\R v:=by
 obtain ⟨v,h1,⟨m,hm⟩,v1,hv1,hR⟩:=xM hP hF hi w
 refine ⟨v1,⟨m+1,λk hk=>?_⟩,hR⟩
 have hb:=hm k (by omega)
 obtain ⟨k,rfl⟩:∃ k',k=k'+1:=⟨k - 1,by omega⟩
 grind [lT,su,frozen]
end
end Go.Sx
namespace Go.Sx
open Go
section
variable {C:jH} {F:kP} {Pr:kx} {fa:iA} {e:Env} {h:aT} {all rest:List Oper} {o:Oper} {q:Env->aT->Prop}
variable {t u:Nat} {x y:Operand} {k k':IntKind} {a b:Int}
def iZ {c:BinOp} {X:Ctx} {d:Option Nat} {v:AV} (hx:iJ e x=.int k a) (hy:iJ e y=.int k' b) (hk:nY k k'=true) (hv:lI c k a b=some v):jt (.binOp c t x y u) X e h d=some (v,h):=by
 simp_all [jt,zK,binOp,AV.int?,DX,kz]
def GC (k:IntKind) (a b:Int):lI .lss k a b=some (.bool (decide (a<b))):=by
 simp only [lI,GR,wH,vM,tv]
 grind
def Gf (k:IntKind) (a b:Int):lI .leq k a b=some (.bool (decide (a<=b))):=by
 simp only [lI,Iz,wH,vM,zL]
def Gy (k:IntKind) (a b:Int):lI .gtr k a b=some (.bool (decide (a > b))):=by
 simp only [lI,HU,wH,vM,tv]
 grind
def FV (k:IntKind) (a b:Int):lI .geq k a b=some (.bool (decide (a>=b))):=by
 simp_all [lI,IT,wH,vM,zL]
def FK (k:IntKind) (a b:Int):lI .eql k a b=some (.bool (decide (a=b))):=by
 simp only [lI,Iv,wH,o7,zL]
 rfl
def FF (k:IntKind) (a b:Int):lI .neq k a b=some (.bool (decide (a≠b))):=by
 simp only [lI,Jd,wH,o7,tv]
 grind
def pe {p:Prop} [Decidable p] (hw:jg all e o=some true) (hop:∀ call,jt o.op ⟨C,fa,call⟩ e h o.dst=some (.bool (decide p),h))
  (w1:p->ki C F Pr fa all rest q (iS e o (.bool true)) h) (w2:¬ p->ki C F Pr fa all rest q (iS e o (.bool false)) h):ki C F Pr fa all (o::rest) q e h:=by
 by_cases hp:p<;>grind [iz]
def ze {X:Ctx} {d:Option Nat} {s r:List UInt8} (hx:iJ e x=.str s) (hy:iJ e y=.str r):jt (.binOp .eql t x y u) X e h d=some (.bool (decide (s=r)),h):=by
 simp only [jt,zK,binOp,hx,hy,AV.int?,AV.str?,Ds,AW,kz]
 grind
theorem uw (k:IntKind) (a b:Int):lI .add k a b=some (.int k (k.wrap (a+b))):=by
 simp only [lI,Hx,tq,nO,rU,BK]
theorem jF (k:IntKind) (a b:Int):lI .sub k a b=some (.int k (k.wrap (a - b))):=by
 simp only [lI,Jh,tq,nO,rU,BK,B3]
 rfl
def Sq (a b:Int) (h1 : -9223372036854775808<=a+b) (h2:a+b<=9223372036854775807):lI .add .i64 a b=some (.int .i64 (a+b)):=by
 rw [uw,vE _ h1 h2]
def Gb (a b:Int) (h1 : -9223372036854775808<=a - b) (h2:a - b<=9223372036854775807):lI .sub .i64 a b=some (.int .i64 (a - b)):=by
 rw [jF,vE _ h1 h2]
def Rr {X:Ctx} {d:Option Nat} {el:Nat} {ti te:TI} {xs:List (List AV)} {c:mQ} {n:Int} {r:List AV} (hT:X.C.T t=some ti) (hk:ti.kind=.slice el) (hE:X.C.T el=some te) (hx:iJ e x=.sl xs c) (hi:iJ e y=.int k n) (h0:0<=n)
  (hr:xs[n.toNat]?=some r) (hl:r.length=te.size):jt (.indexAddr t x y) X e h d=some (.ip r 0 (pI c),h):=by
 obtain ⟨m,rfl⟩:=Int.eq_ofNat_of_zero_le h0
 simp only [Int.toNat_natCast] at hr
 have hai:oW (.int k (m:Int))=some m:=rfl
 simp_all [jt,oT,nZ,qn]
end
end Go.Sx
namespace Go.Sx
open Go
section
variable {C:jH} {F:kP} {Pr:kx} {fa:iA} {e:Env} {h:aT} {all rest:List Oper} {o:Oper} {q:Env->aT->Prop} {Q:Ex->Env->aT->Prop}
def iF {c:Code} {live:List Nat} {an:lB} (N:Nat) (I:Nat->Env->aT->Prop)
  (round:∀ k e h,k<=N->I k e h->Wp C F Pr fa c an (uO (λe' h'=>k<N/\I (k+1) e' h') Q) (proj live e) { h with iq:=kX live h.iq }) {k0:Nat} (hk:k0<=N) (h0:I k0 e h):Wp C F Pr fa (.loop c) (.loop live an) Q e h:=by
 refine kF (λn e h=>∃ k,k<=N/\n=N - k/\I k e h) ?_ (N - k0) e h ⟨k0,hk,rfl,h0⟩
 rintro n e h ⟨k,hk,rfl,hI⟩
 refine (round k e h hk hI).mono ?_
 intro x e' h' hx
 cases x with
 | ka =>
   obtain ⟨hlt,hI'⟩:=hx
   exact ⟨N - (k+1),by omega,k+1,by omega,rfl,hI'⟩
 | ext id=>exact hx
 | ret=>exact hx
def K8 {f:Nat} {g:Operand} {c:Call} {args:List AV} {R:AV->Prop} (ho:o.op=.call c) (hw:jg all e o=some true) (hf:c.callee=.value g) (hg:iJ e g=.jN f [] []) (ha:c.args.toList.map (iJ e)=args) (hok:args.all AV.nq=true) (hs:fa.jm.elem f=false)
  (w:∀ h:aT,∃ v,jf C F Pr false f args h v h/\R v) (next:∀ v,R v->ki C F Pr fa all rest q (iS e o v) h):ki C F Pr fa all (o::rest) q e h:=by
 obtain ⟨v,hc,hR⟩:=w { h with iq:=[] }
 refine vF hw ?_ (next v hR)
 rw [ho]
 exact Ek hf hg ha hok hs hc
end
def J5 {C:jH} {F:kP} {Pr:kx} {fa:iA} {f:Nat} {args:List AV} {h:aT} {R:AV->Prop} (hP:Pr f=none) (hF:F f=some fa) (hi:fa.iter=false) (ha:lf h args=some args)
  (w:Wp C F Pr fa fa.body fa.lV (Leaves C fa.res λv0 h'=>∃ v1,freeze false h' 8 v0=some v1/\R v1) (params 0 args) aT.empty):∃ v,jf C F Pr false f args h v h/\R v:=JW hP hF hi ha w
abbrev rl:Nat:=9223372036854775807
structure af5 (R:List AV->Prop) (xs:List (List AV)) (c:mQ):Prop where
 row:∀ r∈xs,R r
 len:xs.length<=rl
 sn:pI c=false
end Go.Sx
namespace Go.Sx
open Go
structure Row (α:Type) where
 l:List α
 c:mQ
 ok:l.length<=rl
 sn:pI c=false
 nl:c=.nil->l=[]
def Row.av {α:Type} (enc : α->List AV) (r:Row α):AV:=.sl (r.l.map enc) r.c
structure nm where
 l:List UInt8
 ok:l.length<=rl
def iP (n:Int):List AV:=[.int .i64 n]
def my (s:nm):List AV:=[.str s.l]
def Wd (b:Bool):List AV:=[.bool b]
structure iu where
 elem:Int
 en:Int
 deriving DecidableEq
def iu.af (x:iu):List AV:=[.int .i64 x.elem,.int .i64 x.en]
structure j9 where
 name:nm
 kind:Int
 len:Int
def j9.af (x:j9):List AV:=[.str x.name.l,.int .i64 x.kind,.int .i64 x.len]
structure j3 where
 a:iu
 b:iu
def j3.af (x:j3):List AV:=[.int .i64 x.a.elem,.int .i64 x.a.en,.int .i64 x.b.elem,.int .i64 x.b.en]
structure j6 where
 name:nm
 at_:iu
 auto:Bool
def j6.af (x:j6):List AV:=[.str x.name.l,.int .i64 x.at_.elem,.int .i64 x.at_.en,.bool x.auto]
structure jx where
 name:nm
 elems:Row Int
def jx.af (x:jx):List AV:=[.str x.name.l,x.elems.av iP]
structure bS where
 elems:Row j9
 iO:Row j3
 signals:Row j6
 lines:Row jx
 top:Int
 jY:Int
 j5:Int
 j8:Int
 ke:Bool
def bS.af (p:bS):List AV:=[p.elems.av j9.af,p.iO.av j3.af,p.signals.av j6.af,p.lines.av jx.af,.int .i64 p.top,.int .i64 p.jY,.int .i64 p.j5,.int .i64 p.j8,.bool p.ke]
structure jW where
 name:nm
 len:Int
 top:Int
 acc:Int
 jY:Int
def jW.af (x:jW):List AV:=[.str x.name.l,.int .i64 x.len,.int .i64 x.top,.int .i64 x.acc,.int .i64 x.jY]
structure j7 where
 GM:Bool
 at_:Int
 end_:Int
 to:Int
def j7.af (x:j7):List AV:=[.bool x.GM,.int .i64 x.at_,.int .i64 x.end_,.int .i64 x.to]
structure lb where
 name:nm
 iW:Int
 from_:Int
 left:Int
 jE:Row j7
def lb.af (x:lb):List AV:=[.str x.name.l,.int .i64 x.iW,.int .i64 x.from_,.int .i64 x.left,x.jE.av j7.af]
structure iI where
 xR:Int
 iW:Row jW
 runs:Row lb
def iI.af (x:iI):List AV:=[.int .i64 x.xR,x.iW.av jW.af,x.runs.av lb.af]
structure iL where
 mode:Int
 dO:Row iu
 left:Int
 nt:Int
 v:Int
def iL.af (x:iL):List AV:=[.int .i64 x.mode,x.dO.av iu.af,.int .i64 x.left,.int .i64 x.nt,.int .i64 x.v]
structure kU where
 name:nm
 iW:Int
 at_:iu
 left:Int
def kU.af (x:kU):List AV:=[.str x.name.l,.int .i64 x.iW,.int .i64 x.at_.elem,.int .i64 x.at_.en,.int .i64 x.left]
structure jB where
 out:Int
 pos:Int
def jB.af (x:jB):List AV:=[.int .i64 x.out,.int .i64 x.pos]
structure iT where
 elem:Int
 nX:Int
 out:Int
def iT.af (x:iT):List AV:=[.int .i64 x.elem,.int .i64 x.nX,.int .i64 x.out]
structure jy where
 elem:Int
 pos:Int
def jy.af (x:jy):List AV:=[.int .i64 x.elem,.int .i64 x.pos]
structure iQ where
 from_:Int
 to:Int
 end_:Int
 steps:Row iT
 lQ:Row jy
 guards:Row jy
 mA:Row Int
 holds:Row Int
 bare:Bool
def iQ.af (x:iQ):List AV:=[.int .i64 x.from_,.int .i64 x.to,.int .i64 x.end_,x.steps.av iT.af,x.lQ.av jy.af,x.guards.av jy.af,x.mA.av iP,x.holds.av iP,.bool x.bare]
section
variable {C:jH} {F:kP} {Pr:kx} {fa:iA} {e:Env} {h:aT} {all rest:List Oper} {o:Oper} {q:Env->aT->Prop} {Q:Ex->Env->aT->Prop}
variable {α:Type} {enc : α->List AV}
def acb {c:Code} {an:lB} {e':Env} {h':aT} (he:e=e') (hh:h=h') (w:Wp C F Pr fa c an Q e' h'):Wp C F Pr fa c an Q e h:=by grind
def kS {b:Bool} (hw:jg all e o=some true) (hop:∀ call,jt o.op ⟨C,fa,call⟩ e h o.dst=some (.bool b,h))
  (w1:b=true->ki C F Pr fa all rest q (iS e o (.bool true)) h) (w2:b=false->ki C F Pr fa all rest q (iS e o (.bool false)) h):ki C F Pr fa all (o::rest) q e h:=by
 cases b<;>grind [iz]
def nS {i:Nat} {sch:List (Nat×List Nat)} {p:Prop} [Decidable p] (ho:all[i]?=some o) (hw:jg all e o=some true) (hop:∀ call,jt o.op ⟨C,fa,call⟩ e h o.dst=some (.bool (decide p),h))
  (w1:p->kB C F Pr fa all sch q (iS e o (.bool true)) h) (w2:¬ p->kB C F Pr fa all sch q (iS e o (.bool false)) h):kB C F Pr fa all ((i,[])::sch) q e h:=by
 by_cases hp:p<;>grind [iN]
def K4 {i:Nat} {sch:List (Nat×List Nat)} {f:Nat} {g:Operand} {c:Call} {args:List AV} {R:AV->Prop} (hi:all[i]?=some o) (hw:jg all e o=some true) (ho:o.op=.call c) (hf:c.callee=.value g) (hg:iJ e g=.jN f [] []) (ha:c.args.toList.map (iJ e)=args) (hok:args.all AV.nq=true) (hs:fa.jm.elem f=false)
  (w:∀ h:aT,∃ v,jf C F Pr false f args h v h/\R v) (next:∀ v,R v->kB C F Pr fa all sch q (iS e o v) h):kB C F Pr fa all ((i,[])::sch) q e h:=by
 obtain ⟨v,hc,hR⟩:=w { h with iq:=[] }
 refine BJ hi hw ?_ (next v hR)
 rw [ho]
 exact Ek hf hg ha hok hs hc
def Gg {X:Ctx} {d:Option Nat} {t el:Nat} {x:Operand} {cl:Call} {ti:TI} {r:Row α} (hc:cl.callee=.builtin .len) (ha:cl.args.toList=[x]) (hts:cl.argTypes.toList=[t]) (hT:X.C.T t=some ti) (hk:ti.kind=.slice el) (hx:iJ e x=r.av enc) :
  jt (.call cl) X e h d=some (.int .i64 r.l.length,h):=by
 simp_all [jt,pr,oz,mJ,w8,ui,vd,Row.av,uK,o8]
theorem rF {X:Ctx} {d:Option Nat} {t el:Nat} {x y:Operand} {ti te:TI} {r:Row α} {k:IntKind} {n:Nat} (hT:X.C.T t=some ti) (hk:ti.kind=.slice el) (hE:X.C.T el=some te) (hx:iJ e x=r.av enc) (hi:iJ e y=.int k (n:Int))
  (hn:n<r.l.length) (hl:(enc r.l[n]).length=te.size):jt (.indexAddr t x y) X e h d=some (.ip (enc r.l[n]) 0 false,h):=by
 rw [<- r.sn]
 exact Rr hT hk hE hx hi (by omega) (r:=enc r.l[n]) (by simp [hn]) hl
def jh {X:Ctx} {d:Option Nat} {t el:Nat} {x y:Operand} {ti te:TI} {r:Row α} {k:IntKind} {n:Int} (hT:X.C.T t=some ti) (hk:ti.kind=.slice el) (hE:X.C.T el=some te) (hx:iJ e x=r.av enc) (hi:iJ e y=.int k n) (h0:0<=n)
  (hn:n.toNat<r.l.length) (hl:(enc r.l[n.toNat]).length=te.size):jt (.indexAddr t x y) X e h d=some (.ip (enc r.l[n.toNat]) 0 false,h):=by
 grind [rF]
theorem Kj (a b c d:Int):me [.int .i64 a,.int .i64 b] [.int .i64 c,.int .i64 d]=some (decide (a=c/\b=d)):=by
 simp only [me,mj,uB,AV.int?,nY,o7]
 have e1:(a==c)=decide (a=c):=rfl
 have e2:(b==d)=decide (b=d):=rfl
 rw [e1,e2]
 by_cases h1:a=c<;>by_cases h2:b=d<;>simp [h1,h2]
def wj {X:Ctx} {dd:Option Nat} {t u:Nat} {x y:Operand} {ti:TI} {a b c d:Int} (hx:iJ e x=.agg [.int .i64 a,.int .i64 b]) (hy:iJ e y=.agg [.int .i64 c,.int .i64 d])
  (hT:X.C.T t=some ti) (hf:∀ a b:Int,yP ti (.agg [.int .i64 a,.int .i64 b]) (.agg [.int .i64 c,.int .i64 d])=me [.int .i64 a,.int .i64 b] [.int .i64 c,.int .i64 d]) :
  jt (.binOp .eql t x y u) X e h dd=some (.bool (decide (a=c/\b=d)),h):=by
 simp_all [jt,zK,binOp,AV.int?,AV.str?,Bl,Kj,kz]
theorem tH {sn:Bool} {hp:aT} {n:Nat} (r:Row α):freeze sn hp (n+1) (Row.av enc r)=some (Row.av enc r):=by
 have:=r.sn
 grind [Row.av,freeze,pI]
theorem wi {sn:Bool} {hp:aT} {n:Nat} (k:IntKind) (a:Int):freeze sn hp (n+1) (.int k a)=some (.int k a):=rfl
theorem tO {sn:Bool} {hp:aT} {n:Nat} (a:Bool):freeze sn hp (n+1) (.bool a)=some (.bool a):=rfl
theorem wb {sn:Bool} {hp:aT} {n:Nat} (a:List UInt8):freeze sn hp (n+1) (.str a)=some (.str a):=rfl
theorem SD {sn:Bool} {hp:aT} {n:Nat} (l:List AV):freeze sn hp (n+1) (.agg l)=(match ju (freeze sn hp n) l with
   | some l=>some (.agg l)
   | none=>none):=rfl
def yz {X:Ctx} {d:Option Nat} {t:Nat} {x y:Operand} {ti:TI} {s:List UInt8} {k:IntKind} {n:Nat} (hT:X.C.T t=some ti) (hk:ti.kind=.str) (hx:iJ e x=.str s) (hi:iJ e y=.int k (n:Int)) (hn:n<s.length):jt (.index t x y) X e h d=some (.int .u8 s[n].toNat,h):=by
 have hai:oW (.int k (n:Int))=some n:=rfl
 simp_all [jt,xr,vy,AV.str?]
def Row.isNil (r:Row α):Bool:=match r.c with
 | .nil=>true
 | _=>false
def Row.of_nil {r:Row α} (h:r.isNil=true):r.l=[]:=by
 apply r.nl
 grind [Row.isNil]
end
end Go.Sx
namespace Go.Sx
open Go
def lA:AV->Option Nat
 | .hs b _ _ _=>some b
 | .hm b=>some b
 | .ptr b _ _ _=>some b
 | _=>none
def zl {α:Type} (H:aT) (n:Nat) (enc : α->List AV) (v:AV) (l:List α):Prop :=
 (l=[]/\v=.sl [] .nil)\/(v=.sl (l.map enc) (.exact l.length))\/∃ b g,b<H.size/\v=.hs b g 0 l.length/\H.get b=some (.iG g n (l.map enc))
structure yR (H H':aT) (v v':AV):Prop where
 lo:H'.lo=H.lo
 size:H.size<=H'.size
 get:∀ b,b<H.size->lA v≠some b->H'.get b=H.get b
 own:∀ b,lA v'=some b->lA v=some b\/H.size<=b
theorem aT.kR (H:aT) (ls:kK) (b:Nat):({ H with iq:=ls }:aT).get b=H.get b:=rfl
theorem aT.yx (H:aT) (ls:kK) (o:jU):({ H with iq:=ls }:aT).push o = { H.push o with iq:=ls }:=by simp [aT.wh]
theorem aT.oh (H:aT) (ls:kK) (b:Nat) (o:jU):({ H with iq:=ls }:aT).set b o = { H.set b o with iq:=ls }:=by simp [aT.yb]
def yR.refl (H:aT) (v:AV):yR H H v v:=⟨rfl,Nat.le_refl _,λ_ _ _=>rfl,λ_ h=>.inl h⟩
theorem zl.keep {α:Type} {H H':aT} {n:Nat} {enc : α->List AV} {v v' w:AV} {l:List α} (h:zl H n enc w l) (k:yR H H' v v') (hd:∀ b,lA w=some b->lA v≠some b):zl H' n enc w l:=by
 rcases h with h | h | ⟨b,g,hb,rfl,hg⟩
 ·exact .inl h
 ·exact .inr (.inl h)
 ·exact .inr (.inr ⟨b,g,Nat.lt_of_lt_of_le hb k.size,rfl,by rw [k.get b hb (hd b rfl)]; exact hg⟩)
def zl.lt {α:Type} {H:aT} {n:Nat} {enc : α->List AV} {w:AV} {l:List α} (h:zl H n enc w l):∀ b,lA w=some b->b<H.size:=by
 rcases h with ⟨_,rfl⟩ | rfl | ⟨b,g,hb,rfl,hg⟩<;>grind [lA]
def yR.apart {H H':aT} {v v' w:AV} (k:yR H H' v v') (hd:∀ b,lA w=some b->lA v≠some b) (hl:∀ b,lA w=some b->b<H.size):∀ b,lA w=some b->lA v'≠some b:=by
 intro b hw hv
 rcases k.own b hv with h | h<;>grind
def xg (v w:AV):Prop:=∀ b,lA v=some b->lA w≠some b
theorem xg.symm {v w:AV} (h:xg v w):xg w v:=λb hw hv=>h b hv hw
def xg.nil {w:AV} {xs:List (List AV)} {c:mQ}:xg (.sl xs c) w:=λb h=>by simp [lA] at h
theorem xg.keep {α:Type} {H H':aT} {n:Nat} {enc : α->List AV} {v v' w:AV} {l:List α} (hd:xg v w) (k:yR H H' v v') (h:zl H n enc w l):xg v' w:=xg.symm (k.apart hd.symm h.lt)
theorem zl.Hz {α:Type} {H:aT} {n:Nat} {enc : α->List AV} {v:AV} {l:List α} (h:zl H n enc v l) (t:Nat):Go.Sx.keep t v=v:=by
 rcases h with ⟨_,rfl⟩ | rfl | ⟨_,_,_,rfl,_⟩<;>rfl
section
variable {C:jH} {F:kP} {Pr:kx} {fa:iA} {e:Env} {all rest:List Oper} {o:Oper} {q:Env->aT->Prop}
variable {α:Type} {enc : α->List AV}
theorem zl.nq {H:aT} {n:Nat} {v:AV} {l:List α} (hb:zl H n enc v l):AV.nq v=true:=by
 rcases hb with ⟨rfl,rfl⟩ | rfl | ⟨b,g,hlt,rfl,hg⟩<;>rfl
def kY {C:jH} {res:List ResultVar} {e:Env} {h:aT} {vs:List AV} (h1:B1 C e h res=some vs) (h2:vs.all AV.nq=true):leave.leave1 C res e h=some (result vs,h):=by
 grind [leave.leave1]
def Row.take (r:Row α) (k:Nat):Row α:=⟨r.l.take k,r.c,by have:=r.ok; grind,r.sn,λh=>by rw [r.nl h]; simp⟩
def M7 {X:Ctx} {d:Option Nat} {t el n k:Nat} {x y:Operand} {ti te:TI} {h:aT} {r:Row α} {kd:IntKind} (hT:X.C.T t=some ti) (hk:ti.kind=.slice el) (hE:X.C.T el=some te) (hx:iJ e x=r.av enc) (hy:iJ e y=.int kd (k:Int)) (hn:te.size=n) (hkl:k<=r.l.length) (henc:∀ x,(enc x).length=n) :
  jt (.slice t x none (some y) none) X e h d=some ((r.take k).av enc,h):=by
 have hai:oW (.int kd (k:Int))=some k:=rfl
 have h0:Nat.ble 0 k=true:=Nat.ble_eq.mpr (Nat.zero_le _)
 have h1:Nat.ble k (r.l.map enc).length=true:=Nat.ble_eq.mpr (by grind)
 have h2:nQ n (r.l.map enc)=true:=by
  cases r.l with
  | nil=>rfl
  | cons a l=>simp_all [nQ]
 have h3:o6 0 r.c=r.c:=by cases r.c<;>rfl
 simp only [jt,pG,o5,hT,hk,hE,hx,hy,Row.av,slice,uE,nv,bound,hai,pW,hn,h1,h2,h0,Bool.true_and,Bool.and_true,List.drop_zero,Nat.sub_zero,oI,h3,kz,Row.take,List.map_take]
end
end Go.Sx
namespace Go.Sx
open Go
def look {κ β:Type} [DecidableEq κ] (k : κ):List (κ×β)->Option β
 | []=>none
 | x::l=>if k=x.1 then some x.2 else look k l
def jO {κ β:Type} (ek : κ->AV) (ev : β->AV) (l:List (κ×β)):List (AV×AV):=l.map λx=>(ek x.1,ev x.2)
def pK (p:iu):AV:=.agg p.af
def iK (n:Int):AV:=.int .i64 n
def sR (p:Int×Int):AV:=.agg [.int .i64 p.1,.int .i64 p.2]
structure iR where
 p:bS
 next:List (iu×iu)
 reads:List (iu×Int)
 line:List (Int×Int×Int)
 lead:List (Int×Int)
def iR.af (n:iR):List AV:=[n.p.elems.av j9.af,n.p.iO.av j3.af,n.p.signals.av j6.af,n.p.lines.av jx.af,.int .i64 n.p.top,.int .i64 n.p.jY,.int .i64 n.p.j5,.int .i64 n.p.j8,.bool n.p.ke,
 .fm (jO pK pK n.next) false,.fm (jO pK iK n.reads) false,.fm (jO iK sR n.line) false,.fm (jO iK iK n.lead) false]
def lx (a b:iu):lG (pK a) (pK b)=some (decide (a=b)):=by
 have h:(a=b)↔(a.elem=b.elem/\a.en=b.en):=by cases a; cases b; simp
 grind [lG,pK,iu.af,AV.agg?,Bt,Kj]
def pY (a b:Int):lG (iK a) (iK b)=some (decide (a=b)):=by
 simp only [lG,iK,AV.agg?,mj,uB,AV.int?,nY,o7]
 rfl
theorem D5 {κ β:Type} [DecidableEq κ] {ek : κ->AV} {ev : β->AV} (hk:∀ a b,lG (ek a) (ek b)=some (decide (a=b))) (k : κ) (l:List (κ×β)):qG (ek k) (jO ek ev l)=some ((look k l).map ev):=by
 induction l<;>grind [jO,qG,look]
section
variable {C:jH} {F:kP} {Pr:kx} {fa:iA} {e:Env} {h:aT} {all rest:List Oper} {o:Oper} {q:Env->aT->Prop}
variable {κ β:Type} [DecidableEq κ] {ek : κ->AV} {ev : β->AV}
theorem zf {X:Ctx} {d:Option Nat} {t kt el:Nat} {m k:Operand} {tm te:TI} {key : κ} {l:List (κ×β)} {z:AV} {s:Bool} (hT:X.C.T t=some tm) (hk:tm.kind=.map kt el) (hE:X.C.T el=some te) (hm:iJ e m=.fm (jO ek ev l) s) (hkk:iJ e k=ek key) (hK:qx X.C kt (ek key)=true) (hz:asAgg te te.zero=some z) (hke:∀ a b,lG (ek a) (ek b)=some (decide (a=b))) :
  jt (.lookup t m k true) X e h d=some (match look key l with
   | some v=>.je [ev v,.bool true]
   | none=>.je [z,.bool false],h):=by
 simp only [jt,tM,qX,hT,hk,hE,hkk,hK,hm,qo,D5 hke]
 grind [look,yZ,kz]
def wA {t kt el:Nat} {m k:Operand} {tm te:TI} {key : κ} {l:List (κ×β)} {z:AV} {s:Bool} (hw:jg all e o=some true) (ho:o.op=.lookup t m k true) (hT:C.T t=some tm) (hk:tm.kind=.map kt el) (hE:C.T el=some te) (hm:iJ e m=.fm (jO ek ev l) s) (hkk:iJ e k=ek key) (hK:qx C kt (ek key)=true) (hz:asAgg te te.zero=some z) (hke:∀ a b,lG (ek a) (ek b)=some (decide (a=b)))
  (w1:∀ v,look key l=some v->ki C F Pr fa all rest q (iS e o (.je [ev v,.bool true])) h) (w2:look key l=none->ki C F Pr fa all rest q (iS e o (.je [z,.bool false])) h):ki C F Pr fa all (o::rest) q e h:=by
 cases hl:look key l with
 | none=>exact iz hw (λcall=>by rw [ho,zf hT hk hE hm hkk hK hz hke,hl]) (w2 hl)
 | some v=>exact iz hw (λcall=>by rw [ho,zf hT hk hE hm hkk hK hz hke,hl]) (w1 v hl)
def DK {i:Nat} {sch:List (Nat×List Nat)} {t kt el:Nat} {m k:Operand} {tm te:TI} {key : κ} {l:List (κ×β)} {z:AV} {s:Bool} (hi:all[i]?=some o) (hw:jg all e o=some true) (ho:o.op=.lookup t m k true) (hT:C.T t=some tm) (hk:tm.kind=.map kt el) (hE:C.T el=some te) (hm:iJ e m=.fm (jO ek ev l) s) (hkk:iJ e k=ek key) (hK:qx C kt (ek key)=true) (hz:asAgg te te.zero=some z) (hke:∀ a b,lG (ek a) (ek b)=some (decide (a=b)))
  (w1:∀ v,look key l=some v->kB C F Pr fa all sch q (iS e o (.je [ev v,.bool true])) h) (w2:look key l=none->kB C F Pr fa all sch q (iS e o (.je [z,.bool false])) h):kB C F Pr fa all ((i,[])::sch) q e h:=by
 cases hl:look key l with
 | none=>exact iN hi hw (λcall=>by rw [ho,zf hT hk hE hm hkk hK hz hke,hl]) (w2 hl)
 | some v=>exact iN hi hw (λcall=>by rw [ho,zf hT hk hE hm hkk hK hz hke,hl]) (w1 v hl)
end
end Go.Sx
namespace Go.Sx
open Go
inductive jL where
 | sl (w t:Bool) (v:AV) (n:Nat) (xs:List (List AV))
 | map (v:AV) (es:List (AV×AV))
 | obj (v:AV) (cs:List AV)
def jL.v:jL->AV
 | .sl _ _ v _ _=>v
 | .map v _=>v
 | .obj v _=>v
def ns (es:List (AV×AV×Nat)):List (AV×AV):=es.map λx=>(x.1,x.2.1)
def wo (es:List (AV×AV×Nat)) (c:Nat):Prop:=(∀ x∈es,x.2.2<c)/\es.Pairwise λa b=>a.2.2≠b.2.2
def wo.snoc {es:List (AV×AV×Nat)} {c:Nat} (h:wo es c) (k v:AV):wo (es++[(k,v,c)]) (c+1):=by
 refine ⟨λx hx=>?_,List.pairwise_append.mpr ⟨h.2,by simp,λa ha b hb=>?_⟩⟩
 ·rcases List.mem_append.mp hx with hx | hx
  ·have:=h.1 x hx; omega
  grind
 ·simp at hb; subst hb; have:=h.1 a ha; grind
def wo.modify {es:List (AV×AV×Nat)} {c:Nat} (h:wo es c) (i:Nat) (f:AV×AV×Nat->AV×AV×Nat) (hf:∀ e,(f e).2.2=e.2.2):wo (es.modify i f) c:=by
 have hm:(es.modify i f).map (λx=>x.2.2)=es.map (λx=>x.2.2):=by
  apply List.ext_getElem (by simp)
  grind
 have h1:∀ x∈(es.modify i f).map (λx=>x.2.2),x<c:=by
  rw [hm]; intro x hx; obtain ⟨y,hy,rfl⟩:=List.mem_map.mp hx; exact h.1 y hy
 refine ⟨λx hx=>h1 _ (List.mem_map_of_mem hx),?_⟩
 have h2:((es.modify i f).map (λx=>x.2.2)).Pairwise (·≠·):=by
  rw [hm,List.pairwise_map]; exact h.2
 grind
def jL.ok (H:aT):jL->Prop
 | .sl w t v n xs=>(∀ x∈xs,x.length=n)/\((xs=[]/\v=.sl [] .nil)\/((w=false\/xs=[])/\v=.sl xs (.exact xs.length))\/∃ b g j,b<H.size/\v=.hs b g 0 xs.length/\H.get b=some (.iG g n (xs++j))/\(t=true->j=[]))
 | .map v es=>∃ b es' c,b<H.size/\v=.hm b/\H.get b=some (.map es' c)/\ns es'=es/\wo es' c
 | .obj v cs=>∃ b z,b<H.size/\v=.ptr b 0 0 0/\H.get b=some (.iG 0 z [cs])
structure Sep (H:aT) (L:List jL):Prop where
 lo:H.lo<=H.size
 ok:∀ r∈L,r.ok H
 Al:L.Pairwise λa b=>xg a.v b.v
def j1:Sep aT.empty []:=⟨Nat.le_refl _,by simp,.nil⟩
theorem jL.ok.keep {H H':aT} {r:jL} (h:r.ok H) (hs:H.size<=H'.size) (hg:∀ b,b<H.size->lA r.v=some b->H'.get b=H.get b):r.ok H':=by
 cases r with
 | sl w t v n xs =>
   obtain ⟨hl,h | h | ⟨b,g,j,hb,rfl,hq,ht⟩⟩:=h
   ·exact ⟨hl,.inl h⟩
   ·exact ⟨hl,.inr (.inl h)⟩
   ·exact ⟨hl,.inr (.inr ⟨b,g,j,by omega,rfl,by rw [hg b hb rfl]; exact hq,ht⟩)⟩
 | map v es =>
   obtain ⟨b,es',c,hb,rfl,hq,he,hst⟩:=h
   exact ⟨b,es',c,by omega,rfl,by rw [hg b hb rfl]; exact hq,he,hst⟩
 | obj v cs =>
   obtain ⟨b,z,hb,rfl,hq⟩:=h
   exact ⟨b,z,by omega,rfl,by rw [hg b hb rfl]; exact hq⟩
def jL.ok.lt {H:aT} {r:jL} (h:r.ok H):∀ b,lA r.v=some b->b<H.size:=by
 intro b0 hb0
 cases r with
 | sl w t v n xs =>
   obtain ⟨hl,⟨_,rfl⟩ | ⟨_,rfl⟩ | ⟨b,g,j,hb,rfl,hq,ht⟩⟩:=h<;>simp [lA,jL.v] at hb0
   omega
 | map v es =>
   obtain ⟨b,es',c,hb,rfl,hq,he,hst⟩:=h
   grind [lA,jL.v]
 | obj v cs =>
   obtain ⟨b,z,hb,rfl,hq⟩:=h
   grind [lA,jL.v]
def jL.ok.D9 {H:aT} {r:jL} (h:r.ok H):AV.kh r.v=true/\(∀ t,Go.Sx.keep t r.v=r.v)/\AV.nq r.v=true:=by
 cases r with
 | sl w t v n xs =>
   obtain ⟨hl,⟨_,rfl⟩ | ⟨_,rfl⟩ | ⟨b,g,j,hb,rfl,hq,ht⟩⟩:=h<;>exact ⟨rfl,λ_=>rfl,rfl⟩
 | map v es=>obtain ⟨b,es',c,hb,rfl,hq,he,hst⟩:=h; exact ⟨rfl,λ_=>rfl,rfl⟩
 | obj v cs=>obtain ⟨b,z,hb,rfl,hq⟩:=h; exact ⟨rfl,λ_=>rfl,rfl⟩
theorem Sep.at {H:aT} {L:List jL} (h:Sep H L) {i:Nat} {r:jL} (hi:L[i]?=some r):r.ok H:=h.ok r (List.mem_of_getElem? hi)
theorem Sep.Hz {H:aT} {L:List jL} (h:Sep H L) {i:Nat} {r:jL} (hi:L[i]?=some r) (t:Nat):Go.Sx.keep t r.v=r.v:=(h.at hi).D9.2.1 t
def Sep.cell {H:aT} {L:List jL} (h:Sep H L) {i:Nat} {r:jL} (hi:L[i]?=some r):AV.kh r.v=true:=(h.at hi).D9.1
def Sep.arg {H:aT} {L:List jL} (h:Sep H L) {i:Nat} {r:jL} (hi:L[i]?=some r):AV.nq r.v=true:=(h.at hi).D9.2.2
theorem Sep.mD {H H':aT} {L:List jL} (h:Sep H L) {i:Nat} {r r':jL} (hi:L[i]?=some r) (hlo:H'.lo<=H'.size) (hs:H.size<=H'.size) (hr:r'.ok H') (hg:∀ b,b<H.size->lA r.v≠some b->H'.get b=H.get b) (ho:∀ b,lA r'.v=some b->lA r.v=some b\/H.size<=b):Sep H' (L.set i r'):=by
 have hil:i<L.length:=(List.getElem?_eq_some_iff.mp hi).1
 have hri:L[i]=r:=(List.getElem?_eq_some_iff.mp hi).2
 have hp:=List.pairwise_iff_getElem.mp h.Al
 have Al:∀ j (hj:j<L.length),j≠i->xg r.v L[j].v:=by
  intro j hj hne
  rcases Nat.lt_or_gt_of_ne hne with hlt | hlt
  ·have:=hp j i hj hil hlt; rw [hri] at this; exact this.symm
  grind
 have apt':∀ j (hj:j<L.length),j≠i->xg r'.v L[j].v:=by
  intro j hj hne b hb hb'
  rcases ho b hb with hx | hx
  ·exact Al j hj hne b hx hb'
  ·exact absurd ((h.ok _ (List.getElem_mem hj)).lt b hb') (by omega)
 refine ⟨hlo,?_,?_⟩
 ·intro x hx
  obtain ⟨j,hj,rfl⟩:=List.mem_iff_getElem.mp hx
  rw [List.length_set] at hj
  rw [List.getElem_set]
  split
  ·exact hr
  ·rename_i hne
   refine (h.ok _ (List.getElem_mem hj)).keep hs ?_
   intro b hb hbl
   exact hg b hb λhq=>Al j hj (Ne.symm hne) b hq hbl
 ·rw [List.pairwise_iff_getElem]
  intro j k hj hk hjk
  rw [List.length_set] at hj hk
  simp only [List.getElem_set]
  split
  ·grind
  ·split
   ·rename_i h1 h2; exact (apt' j hj (Ne.symm h1)).symm
   grind
def Sep.new {H H':aT} {L:List jL} (h:Sep H L) {r':jL} (hlo:H'.lo<=H'.size) (hs:H.size<=H'.size) (hr:r'.ok H') (hg:∀ b,b<H.size->H'.get b=H.get b) (ho:∀ b,lA r'.v=some b->H.size<=b):Sep H' (r'::L):=by
 refine ⟨hlo,?_,.cons ?_ h.Al⟩
 ·intro x hx
  rcases List.mem_cons.mp hx with rfl | hx
  ·exact hr
  ·exact (h.ok x hx).keep hs λb hb _=>hg b hb
 ·intro x hx b hb hb'
  exact absurd ((h.ok x hx).lt b hb') (by grind)
def Sep.mn {H:aT} {L:List jL} (h:Sep H L) (n:Nat):Sep H (.sl true true (.sl [] .nil) n []::L):=h.new h.lo (Nat.le_refl _) ⟨by simp,.inl ⟨rfl,rfl⟩⟩ (λ_ _=>rfl) (λb hb=>by simp [lA,jL.v] at hb)
def Sep.Yw {H:aT} {L:List jL} (h:Sep H L) (n:Nat) (xs:List (List AV)) (hn:∀ x∈xs,x.length=n) {k:Nat} (hk:k=xs.length):Sep H (.sl false true (.sl xs (.exact k)) n xs::L):=by
 subst hk
 exact h.new h.lo (Nat.le_refl _) ⟨hn,.inr (.inl ⟨.inl rfl,rfl⟩)⟩ (λ_ _=>rfl) (λb hb=>by simp [lA,jL.v] at hb)
def Sep.qZ {H:aT} {L:List jL} (h:Sep H L) (n:Nat):Sep H (.sl true true (.sl [] (.exact 0)) n []::L):=h.new h.lo (Nat.le_refl _) ⟨by simp,.inr (.inl ⟨.inr rfl,rfl⟩)⟩ (λ_ _=>rfl) (λb hb=>by simp [lA,jL.v] at hb)
def SU {α:Type} {R : α->α->Prop} (hs:∀ a b,R a b->R b a) {L:List α} (h:L.Pairwise R) {i j:Nat} (hi:i<L.length) (hj:j<L.length) (hne:i≠j):R L[i] L[j]:=by
 have hp:=List.pairwise_iff_getElem.mp h
 grind
def Z9 (is:List Nat) (n:Nat) (L:List jL):List jL:=is.filterMap (L[·]?)++L.drop n
def Sep.pick {H:aT} {L:List jL} (h:Sep H L) (is:List Nat) (n:Nat) (hn:is.Nodup) (hlt:∀ i∈is,i<n):Sep H (Z9 is n L):=by
 have hp:=List.pairwise_iff_getElem.mp h.Al
 refine ⟨h.lo,?_,List.pairwise_append.mpr ⟨?_,h.Al.sublist (List.drop_sublist _ _),?_⟩⟩
 ·intro x hx
  rcases List.mem_append.mp hx with hx | hx
  ·obtain ⟨i,_,hi⟩:=List.mem_filterMap.mp hx
   exact h.ok x (List.mem_of_getElem? hi)
  ·exact h.ok x (List.mem_of_mem_drop hx)
 ·rw [List.pairwise_filterMap]
  refine hn.imp ?_
  intro i j hne x hx y hy
  obtain ⟨hi,rfl⟩:=List.getElem?_eq_some_iff.mp hx
  obtain ⟨hj,rfl⟩:=List.getElem?_eq_some_iff.mp hy
  exact SU (λa b hab=>hab.symm) h.Al hi hj hne
 ·intro x hx y hy
  obtain ⟨i,hmem,hi⟩:=List.mem_filterMap.mp hx
  obtain ⟨hil,rfl⟩:=List.getElem?_eq_some_iff.mp hi
  obtain ⟨j,hj,rfl⟩:=List.mem_iff_getElem.mp hy
  grind
theorem Sep.iq {H:aT} {L:List jL} (h:Sep H L) (ls:kK):Sep { H with iq:=ls } L:=by
 refine ⟨h.lo,λr hr=>(h.ok r hr).keep (Nat.le_refl _) λ_ _ _=>rfl,h.Al⟩
section
variable {κ β:Type} [DecidableEq κ] {ek : κ->AV} {ev : β->AV}
def put (k : κ) (x : β):List (κ×β)->List (κ×β)
 | []=>[(k,x)]
 | p::l=>if k=p.1 then (k,x)::l else p::put k x l
theorem l9 (k k' : κ) (x : β) (l:List (κ×β)):look k (put k' x l)=if k=k' then some x else look k l:=by
 induction l<;>grind [put,look]
def vw (hk:∀ a b,lG (ek a) (ek b)=some (decide (a=b))) (k : κ) (l:List (κ×β)) (es:List (AV×AV×Nat)) (he:ns es=jO ek ev l) (i:Nat) :
  (look k l=none->findKey (ek k) es i=some none)/\(∀ x,look k l=some x->∃ j,findKey (ek k) es i=some (some (i+j,ev x))/\j<es.length/\∀ y (f:AV×AV×Nat->AV×AV×Nat),(∀ e,(f e).1=ek k/\(f e).2.1=ev y)->ns (es.modify j f)=jO ek ev (put k y l))/\(look k l=none->∀ y c,ns (es++[(ek k,ev y,c)])=jO ek ev (put k y l)):=by
 induction l generalizing es i with
 | nil =>
   cases es with
   | nil=>exact ⟨λ_=>rfl,λ_ h=>by simp [look] at h,λ_ _ _=>rfl⟩
   | cons e es=>simp [ns,jO] at he
 | cons p l ih =>
   cases es with
   | nil=>simp [ns,jO] at he
   | cons e es =>
     obtain ⟨a,b,c⟩:=e
     simp only [ns,jO,List.map_cons,List.cons.injEq,Prod.mk.injEq] at he
     obtain ⟨⟨rfl,rfl⟩,he⟩:=he
     obtain ⟨i1,i2,i3⟩:=ih es he (i+1)
     by_cases h:k=p.1
     ·simp_all [look,findKey,f1,ns,put,jO]
     ·refine ⟨λhn=>?_,λx hx=>?_,λhn y c'=>?_⟩
      ·grind [look,findKey]
      ·simp only [look,h,if_false] at hx
       obtain ⟨j,hj,hl,hm⟩:=i2 x hx
       refine ⟨j+1,?_,by simpa using hl,λy f hf=>?_⟩<;>grind [findKey,ns,put,jO]
      grind [look,ns,put,jO]
end
section
variable {C:jH} {F:kP} {Pr:kx} {fa:iA} {e:Env} {all rest:List Oper} {o:Oper} {q:Env->aT->Prop}
variable {H:aT} {ls:kK} {L:List jL} {i:Nat}
def jq {P:AV->aT->Prop} (hw:jg all e o=some true) (hop:∃ v H',(∀ call,jt o.op ⟨C,fa,call⟩ e { H with iq:=ls } o.dst=some (v,{ H' with iq:=ls }))/\P v H') (next:∀ v H',P v H'->ki C F Pr fa all rest q (iS e o v) { H' with iq:=ls }):ki C F Pr fa all (o::rest) q e { H with iq:=ls }:=by
 grind [iz]
def l3 {j:Nat} {sch:List (Nat×List Nat)} {P:AV->aT->Prop} (hj:all[j]?=some o) (hw:jg all e o=some true) (hop:∃ v H',(∀ call,jt o.op ⟨C,fa,call⟩ e { H with iq:=ls } o.dst=some (v,{ H' with iq:=ls }))/\P v H') (next:∀ v H',P v H'->kB C F Pr fa all sch q (iS e o v) { H' with iq:=ls }):kB C F Pr fa all ((j,[])::sch) q e { H with iq:=ls }:=by
 grind [iN]
def oe {t:Nat} {d:Option Nat} (hS:Sep H L):∃ v H',(∀ call,jt (.makeMap t none) ⟨C,fa,call⟩ e { H with iq:=ls } d=some (v,{ H' with iq:=ls }))/\∃ b,v=.hm b/\Sep H' (.map (.hm b) []::L):=by
 have hlo:=hS.lo
 refine ⟨.hm H.size,H.push (.map [] 0),λcall=>?_,H.size,rfl,?_⟩
 ·simp only [jt,DW,aT.yx]
 ·refine hS.new (by simp; omega) (by simp) ⟨H.size,[],0,by simp,rfl,?_,rfl,by simp,by simp⟩ ?_ ?_<;>grind [aT.oY,lA,jL.v]
variable {κ β:Type} [DecidableEq κ] {ek : κ->AV} {ev : β->AV}
def mZ {t:Nat} {m k x:Operand} {d:Option Nat} {v:AV} {l:List (κ×β)} (key : κ) (y : β) (hS:Sep H L) (hi:L[i]?=some (.map v (jO ek ev l))) (hm:iJ e m=v) (hk:iJ e k=ek key) (hx:iJ e x=ev y) (hK:mapKey C t (ek key)=true) (hV:AV.yM (ev y)=true) (hke:∀ a b,lG (ek a) (ek b)=some (decide (a=b))) :
  ∃ w H',(∀ call,jt (.mapUpdate t m k x) ⟨C,fa,call⟩ e { H with iq:=ls } d=some (w,{ H' with iq:=ls }))/\w=.undef/\Sep H' (L.set i (.map v (jO ek ev (put key y l)))):=by
 obtain ⟨b,es,c,hb,rfl,hg,he,hst⟩:=hS.at hi
 have hlob:H.lo<=b:=aT.mR hg
 obtain ⟨f1,f2,f3⟩:=vw (ek:=ek) (ev:=ev) hke key l es he 0
 have fin:∀ es' c',xL (ek key) (ev y) es c=some (es',c')->ns es'=jO ek ev (put key y l)->wo es' c'->∃ w H',(∀ call,jt (.mapUpdate t m k x) ⟨C,fa,call⟩ e { H with iq:=ls } d=some (w,{ H' with iq:=ls }))/\w=.undef/\Sep H' (L.set i (.map (.hm b) (jO ek ev (put key y l)))):=by
  intro es' c' hu hun hst'
  refine ⟨.undef,H.set b (.map es' c'),λcall=>?_,rfl,?_⟩
  ·simp_all [jt,tC,tF,aT.kR,aT.oh]
  ·refine hS.mD hi (by simpa using hS.lo) (by simp) ⟨b,es',c',by simp_all,rfl,?_,hun,hst'⟩ ?_ ?_
   ·grind [aT.lg]
   ·intro b' hb' hne
    rw [aT.lg,if_neg (by rintro ⟨rfl,_⟩; exact hne rfl)]
   ·intro b' hb'; exact .inl hb'
 cases hl:look key l with
 | none=>exact fin (es++[(ek key,ev y,c)]) (c+1) (by grind [xL,f1]) (f3 hl y c) (hst.snoc _ _)
 | some x0 =>
   obtain ⟨j,hj,hjl,hjm⟩:=f2 x0 hl
   exact fin _ c (by grind [xL]) (hjm y (λe=>(ek key,ev y,e.2.2)) λ_=>⟨rfl,rfl⟩) (hst.modify _ _ λ_=>rfl)
theorem wP {t kt el:Nat} {m k:Operand} {tm te:TI} {d:Option Nat} {v z:AV} {l:List (κ×β)} {ok:Bool} (key : κ) (hS:Sep H L) (hi:L[i]?=some (.map v (jO ek ev l))) (hT:C.T t=some tm) (hkd:tm.kind=.map kt el) (hE:C.T el=some te) (hm:iJ e m=v) (hk:iJ e k=ek key) (hK:qx C kt (ek key)=true) (hz:asAgg te te.zero=some z) (hke:∀ a b,lG (ek a) (ek b)=some (decide (a=b))) (call:qD) :
  jt (.lookup t m k ok) ⟨C,fa,call⟩ e { H with iq:=ls } d=match yZ ok (look key l).isSome (match look key l with
   | some x=>ev x
   | none=>z) with
   | some r=>some (r,{ H with iq:=ls })
   | none=>none:=by
 obtain ⟨b,es,c,hb,rfl,hg,he,hst⟩:=hS.at hi
 obtain ⟨f1,f2,f3⟩:=vw (ek:=ek) (ev:=ev) hke key l es he 0
 cases hl:look key l with
 | none=>simp only [jt,tM,qX,hT,hkd,hE,hk,hK,hm,qo,aT.kR,hg,f1 hl,hz,Option.isSome_none]; rfl
 | some x0 =>
   obtain ⟨j,hj,_⟩:=f2 x0 hl
   simp only [jt,tM,qX,hT,hkd,hE,hk,hK,hm,qo,aT.kR,hg,hj,Option.isSome_some]
   rfl
end
section
variable {C:jH} {F:kP} {Pr:kx} {fa:iA} {e:Env} {all rest:List Oper} {o:Oper} {q:Env->aT->Prop}
variable {H:aT} {ls:kK} {L:List jL} {i:Nat}
variable {κ β:Type} [DecidableEq κ] {ek : κ->AV} {ev : β->AV}
def OL (ok b:Bool) (v:AV):AV:=match ok with
 | true=>.je [v,.bool b]
 | false=>v
def mw {t kt el:Nat} {m k:Operand} {tm te:TI} {v z:AV} {l:List (κ×β)} {ok:Bool} (key : κ) (hw:jg all e o=some true) (ho:o.op=.lookup t m k ok) (hS:Sep H L) (hi:L[i]?=some (.map v (jO ek ev l))) (hT:C.T t=some tm) (hkd:tm.kind=.map kt el) (hE:C.T el=some te) (hm:iJ e m=v) (hk:iJ e k=ek key) (hK:qx C kt (ek key)=true) (hz:asAgg te te.zero=some z) (hke:∀ a b,lG (ek a) (ek b)=some (decide (a=b)))
  (w1:∀ x,look key l=some x->ki C F Pr fa all rest q (iS e o (OL ok true (ev x))) { H with iq:=ls }) (w2:look key l=none->ki C F Pr fa all rest q (iS e o (OL ok false z)) { H with iq:=ls }):ki C F Pr fa all (o::rest) q e { H with iq:=ls }:=by
 cases hl:look key l with
 | none=>exact iz hw (λcall=>by rw [ho,wP key hS hi hT hkd hE hm hk hK hz hke call,hl]; cases ok<;>rfl) (w2 hl)
 | some x=>exact iz hw (λcall=>by rw [ho,wP key hS hi hT hkd hE hm hk hK hz hke call,hl]; cases ok<;>rfl) (w1 x hl)
def KK {j:Nat} {sch:List (Nat×List Nat)} {t kt el:Nat} {m k:Operand} {tm te:TI} {v z:AV} {l:List (κ×β)} {ok:Bool} (key : κ) (hj:all[j]?=some o) (hw:jg all e o=some true) (ho:o.op=.lookup t m k ok) (hS:Sep H L) (hi:L[i]?=some (.map v (jO ek ev l))) (hT:C.T t=some tm) (hkd:tm.kind=.map kt el) (hE:C.T el=some te) (hm:iJ e m=v) (hk:iJ e k=ek key) (hK:qx C kt (ek key)=true) (hz:asAgg te te.zero=some z) (hke:∀ a b,lG (ek a) (ek b)=some (decide (a=b)))
  (w1:∀ x,look key l=some x->kB C F Pr fa all sch q (iS e o (OL ok true (ev x))) { H with iq:=ls }) (w2:look key l=none->kB C F Pr fa all sch q (iS e o (OL ok false z)) { H with iq:=ls }):kB C F Pr fa all ((j,[])::sch) q e { H with iq:=ls }:=by
 cases hl:look key l with
 | none=>exact iN hj hw (λcall=>by rw [ho,wP key hS hi hT hkd hE hm hk hK hz hke call,hl]; cases ok<;>rfl) (w2 hl)
 | some x=>exact iN hj hw (λcall=>by rw [ho,wP key hS hi hT hkd hE hm hk hK hz hke call,hl]; cases ok<;>rfl) (w1 x hl)
def xY {es:List (AV×AV×Nat)} (hp:es.Pairwise λa b=>a.2.2≠b.2.2) {j:Nat} (hj:j<es.length) (v:AV):pN (es[j].2.2:Int) v es=some (es.modify j λe=>(e.1,v,e.2.2)):=by
 induction es generalizing j with
 | nil=>simp at hj
 | cons e es ih =>
   obtain ⟨a,b,c⟩:=e
   cases j with
   | zero=>simp [pN]
   | succ j =>
     have hj':j<es.length:=by grind
     have hne:c≠es[j].2.2:=(List.pairwise_cons.mp hp).1 _ (List.getElem_mem hj')
     grind [pN]
def qU {t kt el:Nat} {m k:Operand} {tm te:TI} {d:Option Nat} {v z:AV} {l:List (κ×β)} (key : κ) (y : β) (hS:Sep H L) (hi:L[i]?=some (.map v (jO ek ev l))) (hT:C.T t=some tm) (hkd:tm.kind=.map kt el) (hE:C.T el=some te) (hm:iJ e m=v) (hk:iJ e k=ek key) (hK:qx C kt (ek key)=true) (hz:asAgg te te.zero=some z) (hV:AV.yM (ev y)=true) (hke:∀ a b,lG (ek a) (ek b)=some (decide (a=b))) :
  ∃ (u:AV) (H1:aT),(∀ call,jt (.mapEntry t m k) ⟨C,fa,call⟩ e { H with iq:=ls } d=some (u,{ H1 with iq:=ls }))/\∃ (w:AV) (st:Int) (H2:aT),u=.je [w,.int .i64 st] /\
    (∀ (e2:Env) (ls2:kK) (t2:Nat) (m2 s2 x2:Operand) (X:Ctx) (d2:Option Nat),iJ e2 m2=v->iJ e2 s2=.int .i64 st->iJ e2 x2=ev y->jt (.entryStore t2 m2 s2 x2) X e2 { H1 with iq:=ls2 } d2=some (.undef,{ H2 with iq:=ls2 }))/\Sep H2 (L.set i (.map v (jO ek ev (put key y l)))):=by
 obtain ⟨b,es,c,hb,rfl,hg,he,hst⟩:=hS.at hi
 have hlob:H.lo<=b:=aT.mR hg
 obtain ⟨f1,f2,f3⟩:=vw (ek:=ek) (ev:=ev) hke key l es he 0
 have fin:∀ es1 c1 es2 (st:Int) w,(∀ call,jt (.mapEntry t m k) ⟨C,fa,call⟩ e { H with iq:=ls } d=some (.je [w,.int .i64 st],{ H.set b (.map es1 c1) with iq:=ls }))->pN st (ev y) es1=some es2->ns es2=jO ek ev (put key y l)->wo es2 c1 ->
   ∃ (u:AV) (H1:aT),(∀ call,jt (.mapEntry t m k) ⟨C,fa,call⟩ e { H with iq:=ls } d=some (u,{ H1 with iq:=ls }))/\∃ (w:AV) (st:Int) (H2:aT),u=.je [w,.int .i64 st] /\
   (∀ (e2:Env) (ls2:kK) (t2:Nat) (m2 s2 x2:Operand) (X:Ctx) (d2:Option Nat),iJ e2 m2=.hm b->iJ e2 s2=.int .i64 st->iJ e2 x2=ev y->jt (.entryStore t2 m2 s2 x2) X e2 { H1 with iq:=ls2 } d2=some (.undef,{ H2 with iq:=ls2 }))/\Sep H2 (L.set i (.map (.hm b) (jO ek ev (put key y l)))):=by
  intro es1 c1 es2 st w h1 h2 h3 h4
  have hg1:(H.set b (.map es1 c1)).get b=some (.map es1 c1):=by grind [aT.lg]
  refine ⟨_,H.set b (.map es1 c1),h1,w,st,(H.set b (.map es1 c1)).set b (.map es2 c1),rfl,?_,?_⟩
  ·intro e2 ls2 t2 m2 s2 x2 X d2 hm2 hs2 hx2
   simp only [jt,vq,sr,hm2,hs2,hx2,AV.int?,aT.kR,hg1,hV,h2,aT.oh]
  ·refine hS.mD hi (by simpa using hS.lo) (by simp) ⟨b,es2,c1,by simp_all,rfl,?_,h3,h4⟩ ?_ ?_
   ·simp_all [aT.lg]
   ·intro b' hb' hne
    rw [aT.lg,if_neg (by rintro ⟨rfl,_⟩; exact hne rfl),aT.lg,if_neg (by rintro ⟨rfl,_⟩; exact hne rfl)]
   ·intro b' hb'; exact .inl hb'
 cases hl:look key l with
 | none =>
   refine fin (es++[(ek key,z,c)]) (c+1) (es++[(ek key,ev y,c)]) c z ?_ ?_ (f3 hl y c) (hst.snoc _ _)
   ·intro call
    simp only [jt,uP,sC,hT,hkd,hm,hE,aT.kR,hg,hk,hK,f1 hl,hz,aT.oh]
   ·have h0:=xY (hst.snoc (ek key) z).2 (j:=es.length) (by simp) (ev y)
    simp only [List.getElem_concat_length] at h0
    rw [h0]
    congr 1
    apply List.ext_getElem (by simp)
    grind
 | some x0 =>
   obtain ⟨j,hj,hjl,hjm⟩:=f2 x0 hl
   rw [Nat.zero_add] at hj
   have hst1:wo (es.modify j λx=>(ek key,x.2)) c:=hst.modify _ _ λ_=>rfl
   refine fin (es.modify j λx=>(ek key,x.2)) c ((es.modify j λx=>(ek key,x.2)).modify j λe=>(e.1,ev y,e.2.2)) (es[j].2.2:Nat) (ev x0) ?_ ?_ ?_ (hst1.modify _ _ λ_=>rfl)
   ·intro call
    have hso:vS es j=es[j].2.2:=by simp [vS,hjl]
    simp only [jt,uP,sC,hT,hkd,hm,hE,aT.kR,hg,hk,hK,hj,hso,aT.oh]
   ·have h0:=xY hst1.2 (j:=j) (by grind) (ev y)
    grind
   grind
end
section
variable {C:jH} {F:kP} {Pr:kx} {fa:iA} {e:Env} {all rest:List Oper} {o:Oper} {q:Env->aT->Prop}
variable {H:aT} {ls:kK} {L:List jL} {i:Nat}
variable {α:Type} {enc : α->List AV} {w tt:Bool} {v:AV} {n:Nat} {l:List α}
def Gw {n:Nat} {xs:List (List AV)} (h:∀ x∈xs,x.length=n):nJ n xs=true:=by
 simp_all [nJ]
def Dy {xs ys:List (List AV)} (hS:Sep H L) (hi:L[i]?=some (.sl w tt v n xs)) (hys:∀ x∈ys,x.length=n) (ht:tt=true\/ys.length=1) (hm:xs.length+ys.length<=sj) :
  ∃ v' H',append n { H with iq:=ls } v ys=some (v',{ H' with iq:=ls })/\Sep H' (L.set i (.sl w tt v' n (xs++ys))):=by
 have hlo:=hS.lo
 obtain ⟨hxl,hc⟩:=hS.at hi
 have hal:nJ n ys=true:=Gw hys
 have hxal:nJ n xs=true:=Gw hxl
 have hxy:∀ x∈xs++ys,x.length=n:=by
  grind
 have hset:∀ v',v'=v->Sep H (L.set i (.sl w tt v' n xs)):=by
  rintro v' rfl
  exact hS.mD hi hlo (Nat.le_refl _) ⟨hxl,hc⟩ (λ_ _ _=>rfl) (λb hb=>.inl hb)
 cases ys with
 | nil =>
   rw [List.append_nil]
   refine ⟨v,H,?_,hset v rfl⟩
   rcases hc with ⟨rfl,rfl⟩ | ⟨_,rfl⟩ | ⟨b,g,j,hb,rfl,hg,htj⟩<;>rfl
 | cons y ys =>
   have new:∀ (hle:Nat.ble (xs.length+(ys.length+1)) sj=true),append n { H with iq:=ls } v (y::ys)=rz n { H with iq:=ls } xs (y::ys)->∃ v' H',append n { H with iq:=ls } v (y::ys)=some (v',{ H' with iq:=ls })/\Sep H' (L.set i (.sl w tt v' n (xs++(y::ys)))):=by
    intro hle hap
    refine ⟨.hs H.size 0 0 (xs.length+(ys.length+1)),H.push (.iG 0 n (xs++(y::ys))),?_,?_⟩
    ·rw [hap]
     simp [rz,hxal,hle,aT.yx]
    ·refine hS.mD hi (by simp; omega) (by simp) ⟨hxy,.inr (.inr ⟨H.size,0,[],by simp,by simp,?_,λ_=>rfl⟩)⟩ ?_ ?_<;>grind [aT.oY,lA,jL.v]
   have hle:Nat.ble (xs.length+(ys.length+1)) sj=true:=Nat.ble_eq.mpr (by omega)
   rcases hc with ⟨rfl,rfl⟩ | ⟨_,rfl⟩ | ⟨b,g,j,hb,rfl,hg,htj⟩
   ·grind [append]
   ·have hbt:Nat.blt xs.length (xs.length+(ys.length+1))=true:=by simp
    grind [append]
   ·have hlob:H.lo<=b:=aT.mR hg
    have grow:j=[]->∃ v' H',append n { H with iq:=ls } (.hs b g 0 xs.length) (y::ys)=some (v',{ H' with iq:=ls })/\Sep H' (L.set i (.sl w tt v' n (xs++(y::ys)))):=by
     rintro rfl
     rw [List.append_nil] at hg
     refine ⟨.hs b (g+1) 0 (xs.length+(y::ys).length),H.set b (.iG (g+1) n (xs++(y::ys))),?_,?_⟩
     ·have h2:Nat.ble (xs.length+(ys.length+1)) xs.length=false:=by
       cases hq:Nat.ble (xs.length+(ys.length+1)) xs.length with
       | false=>rfl
       | true=>exact absurd (Nat.ble_eq.mp hq) (by omega)
      simp [append,hal,AO,aT.kR,hg,hle,h2,aT.oh]
     ·refine hS.mD hi (by simp_all) (by simp) ⟨hxy,.inr (.inr ⟨b,g+1,[],by simp_all,by simp,?_,λ_=>rfl⟩)⟩ ?_ ?_
      ·grind [aT.lg]
      ·intro b' hb' hne; rw [aT.lg,if_neg (by rintro ⟨rfl,_⟩; exact hne rfl)]
      ·intro b' hb'; exact .inl hb'
    cases j with
    | nil=>grind
    | cons j0 j =>
      have htt:tt=false:=by grind
      have hy:ys=[]:=by
       grind
      subst hy
      refine ⟨.hs b g 0 (xs.length+1),H.set b (.iG g n (xs++y::j)),?_,?_⟩
      ·have h1:Nat.ble (xs.length+1) (xs++j0::j).length=true:=Nat.ble_eq.mpr (by simp)
       have h3:Nat.ble (xs.length+1) sj=true:=hle
       have h2:overwrite (xs++j0::j) xs.length [y]=xs++y::j:=by
        simp_all [overwrite]
       simp only [append,hal,AO,aT.kR,hg,Nat.zero_add,List.length_singleton,h1,h2,h3,Nat.beq_refl,Bool.and_self,nf,aT.oh,Bool.and_true]
      ·refine hS.mD hi (by simp_all) (by simp) ⟨hxy,.inr (.inr ⟨b,g,j,by simp_all,by simp,?_,λh=>absurd h (by simp [htt])⟩)⟩ ?_ ?_
       ·grind [aT.lg]
       ·intro b' hb' hne; rw [aT.lg,if_neg (by rintro ⟨rfl,_⟩; exact hne rfl)]
       ·intro b' hb'; exact .inl hb'
def jZ {cl:Call} {s x:Operand} {t u:Nat} {ti:TI} {d:Option Nat} (ys:List α) (hS:Sep H L) (hi:L[i]?=some (.sl w tt v n (l.map enc))) (hc:cl.callee=.builtin .append) (ha:cl.args.toList=[s,x]) (hts:cl.argTypes.toList=[t,u]) (hT:rv C [t,u]=some ti) (hSr:En C [t,u]=true) (hn:ti.size=n)
  (hs:iJ e s=v) (hx:pH { H with iq:=ls } (iJ e x)=some (ys.map enc)) (hok:∀ y,(enc y).all AV.kh=true) (ht:tt=true\/ys.length=1) (hm:l.length+ys.length<=sj) (henc:∀ x,(enc x).length=n) :
  ∃ v' H',(∀ call,jt (.call cl) ⟨C,fa,call⟩ e { H with iq:=ls } d=some (v',{ H' with iq:=ls }))/\Sep H' (L.set i (.sl w tt v' n ((l++ys).map enc))):=by
 obtain ⟨v',H',h1,h2⟩:=Dy (ls:=ls) (ys:=ys.map enc) hS hi (by grind) (by grind) (by grind)
 refine ⟨v',H',λcall=>?_,by grind⟩
 have hall:zb (ys.map enc)=true:=by
  grind [zb]
 simp only [jt,pr,oz,hc,ha,hts,mJ,Ac,rZ,List.map_cons,List.map_nil,hT,hSr,hn,hs,hx,hall,h1]
def oJ {X:Ctx} {d:Option Nat} {cl:Call} {t el:Nat} {x:Operand} {ti:TI} {h:aT} (hS:Sep H L) (hi:L[i]?=some (.sl w tt v n (l.map enc))) (hc:cl.callee=.builtin .len) (ha:cl.args.toList=[x]) (hts:cl.argTypes.toList=[t]) (hT:X.C.T t=some ti) (hk:ti.kind=.slice el) (hx:iJ e x=v) :
  jt (.call cl) X e h d=some (.int .i64 l.length,h):=by
 obtain ⟨hxl,⟨h0,rfl⟩ | ⟨_,rfl⟩ | ⟨b,g,j,hb,rfl,hg,htj⟩⟩:=hS.at hi
 ·simp_all [jt,pr,oz,mJ,w8,ui,vd,uK,o8]
 ·simp_all [jt,pr,oz,mJ,w8,ui,vd,uK,o8]
 simp_all [jt,pr,oz,mJ,w8,ui,vd,uK,o8]
def EA (v:AV) (m:Nat) (a:AV) (cs:List AV):Prop:=(∃ xs k,v=.sl xs (.exact k)/\a=.ip cs 0 false)\/∃ b g len,v=.hs b g 0 len/\a=.ptr b g m 0
def nj (a:AV) (o:Nat):AV:=match a with
 | .ip cs _ s=>.ip cs o s
 | .ptr b g i _=>.ptr b g i o
 | v=>v
def lO {m:Nat} {x : α} (h:m<l.length) (hx:l[m]=x):(l.map enc)[m]?=some (enc x):=by grind
def sa {P:AV->Prop} {h:aT} (hw:jg all e o=some true) (hop:∃ v,(∀ call,jt o.op ⟨C,fa,call⟩ e h o.dst=some (v,h))/\P v) (next:∀ v,P v->ki C F Pr fa all rest q (iS e o v) h):ki C F Pr fa all (o::rest) q e h:=by
 grind [iz]
def pd {j:Nat} {sch:List (Nat×List Nat)} {P:AV->Prop} {h:aT} (hj:all[j]?=some o) (hw:jg all e o=some true) (hop:∃ v,(∀ call,jt o.op ⟨C,fa,call⟩ e h o.dst=some (v,h))/\P v) (next:∀ v,P v->kB C F Pr fa all sch q (iS e o v) h):kB C F Pr fa all ((j,[])::sch) q e h:=by
 grind [iN]
def nd {t el:Nat} {x y:Operand} {ti te:TI} {k:IntKind} {m:Nat} {d:Option Nat} {cs:List AV} {xs:List (List AV)} (hS:Sep H L) (hi:L[i]?=some (.sl w tt v n xs)) (hT:C.T t=some ti) (hk:ti.kind=.slice el) (hE:C.T el=some te) (hn:te.size=n) (hx:iJ e x=v) (hy:iJ e y=.int k (m:Int)) (hm:xs[m]?=some cs) :
  ∃ a,(∀ call,jt (.indexAddr t x y) ⟨C,fa,call⟩ e { H with iq:=ls } d=some (a,{ H with iq:=ls }))/\a=nj a 0/\EA v m a cs:=by
 have hml:m<xs.length:=(List.getElem?_eq_some_iff.mp hm).1
 have hai:oW (.int k (m:Int))=some m:=rfl
 obtain ⟨hxl,⟨h0,rfl⟩ | ⟨_,rfl⟩ | ⟨b,g,j,hb,rfl,hg,htj⟩⟩:=hS.at hi
 ·grind
 ·refine ⟨.ip cs 0 false,λcall=>?_,rfl,.inl ⟨xs,_,rfl,rfl⟩⟩
  have hl:Nat.beq cs.length te.size=true:=by
   rw [hn,hxl _ (List.mem_of_getElem? hm)]; simp
  simp_all [jt,oT,nZ,qn,pI]
 ·refine ⟨.ptr b g m 0,λcall=>?_,rfl,.inr ⟨b,g,_,rfl,rfl⟩⟩
  have h1:Nat.blt m xs.length=true:=by simp_all
  simp only [jt,oT,nZ,hT,hy,hai,hk,hE,hx,qn,aT.kR,hg,h1,hn,Nat.beq_refl,Bool.and_self,nf,Nat.zero_add]
def EA.Rx {m o off ft f t:Nat} {a:AV} {cs:List AV} {x:Operand} {X:Ctx} {d:Option Nat} {ti:TI} {fs:List (Nat×Nat)} {h:aT} (hE:EA v m a cs) (hT:X.C.T t=some ti) (hk:ti.kind=.struct fs) (hf:fs[f]?=some (off,ft)) (hx:iJ e x=nj a o):jt (.fieldAddr t x f) X e h d=some (nj a (o+off),h):=by
 rcases hE with ⟨xs,k,rfl,rfl⟩ | ⟨b,g,len,rfl,rfl⟩<;>simp only [jt,rr,pZ,hT,hk,hf,hx,nj,zW,MK,CS,nf,kz]
def o9 {m o t:Nat} {a r:AV} {cs:List AV} {x:Operand} {X:Ctx} {d:Option Nat} {ti:TI} {xs:List (List AV)} (hS:Sep H L) (hi:L[i]?=some (.sl w tt v n xs)) (hm:xs[m]?=some cs) (hE:EA v m a cs) (hT:X.C.T t=some ti) (hp:part ti cs o=some r) (hx:iJ e x=nj a o):jt (.load t x) X e { H with iq:=ls } d=some (r,{ H with iq:=ls }):=by
 have hml:m<xs.length:=(List.getElem?_eq_some_iff.mp hm).1
 obtain ⟨hxl,hc⟩:=hS.at hi
 rcases hE with ⟨xs',k,rfl,rfl⟩ | ⟨b,g,len,rfl,rfl⟩
 ·simp_all [jt,wL,uV,nj,re,Vp,kz]
 ·rcases hc with ⟨h0,hv⟩ | ⟨_,hv⟩ | ⟨b',g',j,hb,hv,hg,htj⟩
  ·cases hv
  ·cases hv
  ·cases hv
   have hmj:(xs++j)[m]?=some cs:=by grind
   simp_all [jt,wL,uV,nj,re,AH,aT.kR,kz]
theorem IU {cs new cs':List AV} {o:Nat} (h:nc cs o new=some cs'):cs'.length=cs.length:=by
 unfold nc at h
 split at h
 ·rename_i hle
  have hle:=Nat.ble_eq.mp hle
  grind [oI]
 ·cases h
def UQ {m o t:Nat} {a r:AV} {cs new cs':List AV} {x y:Operand} {d:Option Nat} {ti:TI} {xs:List (List AV)} (hS:Sep H L) (hi:L[i]?=some (.sl true tt v n xs)) (hm:xs[m]?=some cs) (hE:EA v m a cs) (hT:C.T t=some ti) (hx:iJ e x=nj a o) (hy:iJ e y=r) (hnew:cellsOf ti r=some new) (hok:new.all AV.kh=true) (hsp:nc cs o new=some cs') :
  ∃ u H',(∀ call,jt (.store t x y) ⟨C,fa,call⟩ e { H with iq:=ls } d=some (u,{ H' with iq:=ls }))/\u=.undef/\Sep H' (L.set i (.sl true tt v n (xs.set m cs'))):=by
 have hml:m<xs.length:=(List.getElem?_eq_some_iff.mp hm).1
 obtain ⟨hxl,hc⟩:=hS.at hi
 rcases hc with ⟨h0,rfl⟩ | ⟨h0 | h0,_⟩ | ⟨b,g,j,hb,rfl,hg,htj⟩
 ·grind
 ·cases h0
 ·grind
 ·rcases hE with ⟨xs',k,h0,_⟩ | ⟨b',g',len,hv,rfl⟩
  ·cases h0
  ·cases hv
   have hlob:H.lo<=b:=aT.mR hg
   have hmj:(xs++j)[m]?=some cs:=by grind
   refine ⟨.undef,H.set b (.iG g n ((xs.set m cs')++j)),λcall=>?_,rfl,?_⟩
   ·have hse:(xs++j).set m cs'=xs.set m cs'++j:=by grind
    simp only [jt,xP,vC,hT,hx,hy,wa,hnew,hok,nj,xH,Da,aT.kR,hg,Nat.beq_refl,hmj,hsp,aT.oh,hse]
   ·refine hS.mD hi (by simpa using hS.lo) (by simp) ⟨?_,.inr (.inr ⟨b,g,j,by simp_all,by simp,?_,htj⟩)⟩ ?_ ?_
    ·intro z hz
     rcases List.mem_or_eq_of_mem_set hz with hz | rfl
     ·grind
     ·rw [IU hsp]; grind
    ·grind [aT.lg]
    ·intro b' hb' hne; rw [aT.lg,if_neg (by rintro ⟨rfl,_⟩; exact hne rfl)]
    ·intro b' hb'; exact .inl hb'
def vB {m o t:Nat} {a r:AV} {new:List AV} {x y:Operand} {d:Option Nat} {ti:TI} (z z' : α) (hS:Sep H L) (hi:L[i]?=some (.sl true tt v n (l.map enc))) (hml:m<l.length) (hz:l[m]=z) (hE:EA v m a (enc z)) (hT:C.T t=some ti) (hx:iJ e x=nj a o) (hy:iJ e y=r) (hnew:cellsOf ti r=some new) (hok:new.all AV.kh=true) (hsp:nc (enc z) o new=some (enc z')) :
  ∃ u H',(∀ call,jt (.store t x y) ⟨C,fa,call⟩ e { H with iq:=ls } d=some (u,{ H' with iq:=ls }))/\u=.undef/\Sep H' (L.set i (.sl true tt v n ((l.set m z').map enc))):=by
 rw [List.map_set]
 exact UQ hS hi (lO hml hz) hE hT hx hy hnew hok hsp
def TG (v:AV) (k:Nat) (v':AV):Prop:=(v=.sl [] .nil/\v'=.sl [] .nil/\k=0)\/(v=.sl [] (.exact 0)/\v'=.sl [] (.exact 0)/\k=0)\/∃ b g len,v=.hs b g 0 len/\v'=.hs b g 0 k
def R0 {t el k:Nat} {x y:Operand} {ti te:TI} {kd:IntKind} {d:Option Nat} {xs:List (List AV)} (hS:Sep H L) (hi:L[i]?=some (.sl true tt v n xs)) (hT:C.T t=some ti) (hk:ti.kind=.slice el) (hE:C.T el=some te) (hn:te.size=n) (hx:iJ e x=v) (hy:iJ e y=.int kd (k:Int)) (hkl:k<=xs.length) :
  ∃ v' H',(∀ call,jt (.slice t x none (some y) none) ⟨C,fa,call⟩ e { H with iq:=ls } d=some (v',{ H' with iq:=ls }))/\TG v k v'/\Sep H' (L.set i (.sl true false v' n (xs.take k))):=by
 obtain ⟨hxl,hc⟩:=hS.at hi
 have hai:oW (.int kd (k:Int))=some k:=rfl
 rcases hc with ⟨h0,rfl⟩ | ⟨h0 | h0,rfl⟩ | ⟨b,g,j,hb,rfl,hg,htj⟩
 ·subst h0
  have hk0:k=0:=by grind
  subst hk0
  refine ⟨.sl [] .nil,H,λcall=>?_,.inl ⟨rfl,rfl,rfl⟩,?_⟩
  ·simp only [jt,pG,o5,hT,hk,hE,hx,hy,slice,uE,nv,bound,hai,pW,nQ,o6]
   rfl
  ·exact hS.mD hi hS.lo (Nat.le_refl _) ⟨by simp,.inl ⟨by simp,rfl⟩⟩ (λ_ _ _=>rfl) (λb hb=>by simp [lA,jL.v] at hb)
 ·cases h0
 ·subst h0
  have hk0:k=0:=by grind
  subst hk0
  refine ⟨.sl [] (.exact 0),H,λcall=>?_,.inr (.inl ⟨rfl,rfl,rfl⟩),?_⟩
  ·simp only [jt,pG,o5,hT,hk,hE,hx,hy,slice,uE,nv,bound,hai,pW,nQ,o6]
   rfl
  ·exact hS.mD hi hS.lo (Nat.le_refl _) ⟨by simp,.inr (.inl ⟨.inr (by simp),rfl⟩)⟩ (λ_ _ _=>rfl) (λb hb=>by simp [lA,jL.v] at hb)
 ·have h0:Nat.ble 0 k=true:=Nat.ble_eq.mpr (Nat.zero_le _)
  have h1:Nat.ble k (xs++j).length=true:=Nat.ble_eq.mpr (by grind)
  have h2:Nat.ble 0 (xs++j).length=true:=Nat.ble_eq.mpr (Nat.zero_le _)
  refine ⟨.hs b g 0 k,H,λcall=>?_,.inr (.inr ⟨b,g,_,rfl,rfl⟩),?_⟩
  ·simp only [jt,pG,o5,hT,hk,hE,hx,hy,slice,EO,aT.kR,hg,hn,Nat.beq_refl,Bool.and_self,nv,bound,hai,pW,Option.getD_none,Nat.zero_add,h0,h1,h2,Bool.and_true,Bool.true_and,C6,nf,Nat.sub_zero,kz]
  ·refine hS.mD hi hS.lo (Nat.le_refl _) ⟨λz hz=>hxl z (List.mem_of_mem_take hz),.inr (.inr ⟨b,g,xs.drop k++j,hb,?_,?_,λh=>by cases h⟩)⟩ (λ_ _ _=>rfl) (λb' hb'=>.inl hb')
   ·grind
   ·rw [hg,<- List.append_assoc,List.take_append_drop]
def wV {t el k:Nat} {x y:Operand} {ti te:TI} {kd:IntKind} {d:Option Nat} (hS:Sep H L) (hi:L[i]?=some (.sl true tt v n (l.map enc))) (hT:C.T t=some ti) (hk:ti.kind=.slice el) (hE:C.T el=some te) (hn:te.size=n) (hx:iJ e x=v) (hy:iJ e y=.int kd (k:Int)) (hkl:k<=l.length) :
  ∃ v' H',(∀ call,jt (.slice t x none (some y) none) ⟨C,fa,call⟩ e { H with iq:=ls } d=some (v',{ H' with iq:=ls }))/\TG v k v'/\Sep H' (L.set i (.sl true false v' n ((l.take k).map enc))):=by
 rw [List.map_take]
 exact R0 hS hi hT hk hE hn hx hy (by grind)
def sQ {t el k:Nat} {x y:Operand} {ti te:TI} {kd:IntKind} {d:Option Nat} {v':AV} {ys:List (List AV)} {X:Ctx} (hS:Sep H L) (hi:L[i]?=some (.sl true tt v' n ys)) (hc:TG v k v') (hT:X.C.T t=some ti) (hk:ti.kind=.slice el) (hE:X.C.T el=some te) (hn:te.size=n) (hx:iJ e x=v) (hy:iJ e y=.int kd (k:Int)) :
  jt (.slice t x none (some y) none) X e { H with iq:=ls } d=some (v',{ H with iq:=ls }):=by
 have hai:oW (.int kd (k:Int))=some k:=rfl
 obtain ⟨hxl,hq⟩:=hS.at hi
 rcases hc with ⟨rfl,rfl,rfl⟩ | ⟨rfl,rfl,rfl⟩ | ⟨b,g,len,rfl,rfl⟩
 ·simp only [jt,pG,o5,hT,hk,hE,hx,hy,slice,uE,nv,bound,hai,pW,nQ,o6]
  rfl
 ·simp only [jt,pG,o5,hT,hk,hE,hx,hy,slice,uE,nv,bound,hai,pW,nQ,o6]
  rfl
 ·rcases hq with ⟨_,hv⟩ | ⟨_,hv⟩ | ⟨b',g',j,hb,hv,hg,htj⟩
  ·cases hv
  ·cases hv
  ·cases hv
   have h0:Nat.ble 0 ys.length=true:=Nat.ble_eq.mpr (Nat.zero_le _)
   have h1:Nat.ble ys.length (ys++j).length=true:=Nat.ble_eq.mpr (by simp)
   have h2:Nat.ble 0 (ys++j).length=true:=Nat.ble_eq.mpr (Nat.zero_le _)
   simp only [jt,pG,o5,hT,hk,hE,hx,hy,slice,EO,aT.kR,hg,hn,Nat.beq_refl,Bool.and_self,nv,bound,hai,pW,Option.getD_none,Nat.zero_add,h0,h1,h2,Bool.and_true,Bool.true_and,C6,nf,Nat.sub_zero,kz]
end
section
variable {C:jH} {F:kP} {Pr:kx} {fa:iA} {e:Env} {all rest:List Oper} {o:Oper} {q:Env->aT->Prop}
variable {H:aT} {ls:kK} {L:List jL} {i:Nat} {v:AV} {cs:List AV}
def Bn {d:Nat} (hS:Sep H L) (hd:fa.iq.elem d=false):∃ v H',newVar fa d { H with iq:=ls } cs=some (v,{ H' with iq:=ls })/\∃ b,v=.ptr b 0 0 0/\Sep H' (.obj (.ptr b 0 0 0) cs::L):=by
 have hlo:=hS.lo
 refine ⟨.ptr H.size 0 0 0,H.push (.iG 0 cs.length [cs]),?_,H.size,rfl,?_⟩
 ·grind [newVar,aT.yx]
 ·refine hS.new (by simp; omega) (by simp) ⟨H.size,cs.length,by simp,rfl,?_⟩ ?_ ?_<;>grind [aT.oY,lA,jL.v]
def KX {t d:Nat} {ti:TI} (hS:Sep H L) (hd:fa.iq.elem d=false) (hT:C.T t=some ti):∃ v H',(∀ call,jt (.alloc t) ⟨C,fa,call⟩ e { H with iq:=ls } (some d)=some (v,{ H' with iq:=ls }))/\∃ b,v=.ptr b 0 0 0/\Sep H' (.obj (.ptr b 0 0 0) ti.zero::L):=by
 obtain ⟨v,H',h1,h2⟩:=Bn (ls:=ls) (cs:=ti.zero) hS hd
 refine ⟨v,H',λcall=>?_,h2⟩
 simp_all [jt,Kg,Ap]
def vZ {t d:Nat} {ti:TI} {x:Operand} {r:AV} (hS:Sep H L) (hd:fa.iq.elem d=false) (hT:C.T t=some ti) (hx:iJ e x=r) (hc:cellsOf ti r=some cs) (hok:cs.all AV.kh=true):∃ v H',(∀ call,jt (.box t x) ⟨C,fa,call⟩ e { H with iq:=ls } (some d)=some (v,{ H' with iq:=ls }))/\∃ b,v=.ptr b 0 0 0/\Sep H' (.obj (.ptr b 0 0 0) cs::L):=by
 obtain ⟨v,H',h1,h2⟩:=Bn (ls:=ls) (cs:=cs) hS hd
 refine ⟨v,H',λcall=>?_,h2⟩
 simp only [jt,Mz,Hf,hT,hx,hc,hok,h1]
def Sep.p0 (hS:Sep H L) (hi:L[i]?=some (.obj v cs)):v=nj v 0:=by
 obtain ⟨b,z,hb,rfl,hg⟩:=hS.at hi; rfl
def pM {o off ft f t:Nat} {x:Operand} {X:Ctx} {d:Option Nat} {ti:TI} {fs:List (Nat×Nat)} {h:aT} (hS:Sep H L) (hi:L[i]?=some (.obj v cs)) (hT:X.C.T t=some ti) (hk:ti.kind=.struct fs) (hf:fs[f]?=some (off,ft)) (hx:iJ e x=nj v o):jt (.fieldAddr t x f) X e h d=some (nj v (o+off),h):=by
 obtain ⟨b,z,hb,rfl,hg⟩:=hS.at hi
 simp_all [jt,rr,pZ,nj,zW,CS,nf,kz]
def qw {x:Operand} {X:Ctx} {d:Option Nat} {h:aT} {o:Nat} (hS:Sep H L) (hi:L[i]?=some (.obj v cs)) (hx:iJ e x=nj v o):jt (.nilCheck x) X e h d=some (nj v o,h):=by
 obtain ⟨b,z,hb,rfl,hg⟩:=hS.at hi
 simp only [jt,va,hx,nj,Bs,kz]
def nT {o t:Nat} {r:AV} {x:Operand} {X:Ctx} {d:Option Nat} {ti:TI} (hS:Sep H L) (hi:L[i]?=some (.obj v cs)) (hT:X.C.T t=some ti) (hp:part ti cs o=some r) (hx:iJ e x=nj v o):jt (.load t x) X e { H with iq:=ls } d=some (r,{ H with iq:=ls }):=by
 obtain ⟨b,z,hb,rfl,hg⟩:=hS.at hi
 simp_all [jt,wL,uV,nj,re,AH,aT.kR,kz]
def mP {o t:Nat} {r:AV} {new cs':List AV} {x y:Operand} {d:Option Nat} {ti:TI} (hS:Sep H L) (hi:L[i]?=some (.obj v cs)) (hT:C.T t=some ti) (hx:iJ e x=nj v o) (hy:iJ e y=r) (hnew:cellsOf ti r=some new) (hok:new.all AV.kh=true) (hsp:nc cs o new=some cs') :
  ∃ u H',(∀ call,jt (.store t x y) ⟨C,fa,call⟩ e { H with iq:=ls } d=some (u,{ H' with iq:=ls }))/\u=.undef/\Sep H' (L.set i (.obj v cs')):=by
 obtain ⟨b,z,hb,rfl,hg⟩:=hS.at hi
 have hlob:H.lo<=b:=aT.mR hg
 refine ⟨.undef,H.set b (.iG 0 z [cs']),λcall=>?_,rfl,?_⟩
 ·simp only [jt,xP,vC,hT,hx,hy,wa,hnew,hok,nj,xH,Da,aT.kR,hg,Nat.beq_refl,List.getElem?_cons_zero,hsp,aT.oh,List.set_cons_zero]
 ·refine hS.mD hi (by simpa using hS.lo) (by simp) ⟨b,z,by simp_all,rfl,?_⟩ ?_ ?_
  ·grind [aT.lg]
  ·intro b' hb' hne; rw [aT.lg,if_neg (by rintro ⟨rfl,_⟩; exact hne rfl)]
  ·intro b' hb'; exact .inl hb'
end
def Sb (n:Nat) (k:IntKind) (a:Int):lZ (n+1) (.int k a) (.int k a)=true:=by simp [lZ,nY,o7]
def BP {H:aT} {L:List jL} {i:Nat} {n:Nat} {tt:Bool} {v:AV} {m:Nat} {xs:List (List AV)} (hS:Sep H L) (hi:L[i]?=some (.sl true tt v m xs)):lZ (n+1) v v=true:=by
 obtain ⟨hxl,⟨h0,rfl⟩ | ⟨h0 | h0,rfl⟩ | ⟨b,g,j,hb,rfl,hg,htj⟩⟩:=hS.at hi
 ·rfl
 ·cases h0
 ·subst h0; rfl
 ·simp [lZ]
def l8 {X:Ctx} {all:List Oper} {e:Env} {h h':aT} {i d:Nat} {o:Oper} {v:AV} (ho:all[i]?=some o) (hw:jg all e o=some true) (hd:o.dst=some d) (hop:jt o.op X e h (some d)=some (v,h')) (hv:lF e d=v) (hq:lZ 8 v v=true):again X all e h i=true:=by
 grind [again,EC]
section
variable {C:jH} {F:kP} {Pr:kx} {fa:iA} {e:Env} {h:aT} {all rest:List Oper} {o:Oper} {q:Env->aT->Prop} {H:aT} {ls:kK}
def EU {i:Nat} {chk:List Nat} {sch:List (Nat×List Nat)} {v:AV} {h1:aT} (ho:all[i]?=some o) (hw:jg all e o=some true) (hop:∃ m,∀ k,m<=k->jt o.op (XN C F Pr fa k) e h o.dst=some (v,h1))
  (hc:∀ call,∀ j∈chk,again ⟨C,fa,call⟩ all (iS e o v) h1 j=true) (w:kB C F Pr fa all sch q (iS e o v) h1):kB C F Pr fa all ((i,chk)::sch) q e h:=by
 obtain ⟨m,hm⟩:=hop
 obtain ⟨e2,h2,⟨m2,hm2⟩,q2⟩:=w
 refine ⟨e2,h2,⟨max m m2,λk hk=>?_⟩,q2⟩
 grind [again,iS,sP,pF,y8]
def qN {j:Nat} {chk:List Nat} {sch:List (Nat×List Nat)} {P:AV->aT->Prop} (hj:all[j]?=some o) (hw:jg all e o=some true) (hop:∃ v H',(∀ call,jt o.op ⟨C,fa,call⟩ e { H with iq:=ls } o.dst=some (v,{ H' with iq:=ls }))/\P v H')
  (next:∀ v H',P v H'->(∀ call,∀ j∈chk,again ⟨C,fa,call⟩ all (iS e o v) { H' with iq:=ls } j=true)/\kB C F Pr fa all sch q (iS e o v) { H' with iq:=ls }):kB C F Pr fa all ((j,chk)::sch) q e { H with iq:=ls }:=by
 obtain ⟨v,H',h1,h2⟩:=hop
 obtain ⟨n1,n2⟩:=next v H' h2
 exact EU hj hw ⟨0,λk _=>h1 _⟩ n1 n2
end
def wM {p:Nat->Prop} {a:Nat} (h:p a):∀ j∈[a],p j:=by grind
def zE {p:Nat->Prop} {a:Nat} {l:List Nat} (h:p a) (hl:∀ j∈l,p j):∀ j∈a::l,p j:=by
 grind
structure jo (α:Type) where
 l:List α
 c:mQ
 ok:l.length<=rl
 nl:c=.nil->l=[]
def jo.av {α:Type} (enc : α->List AV) (r:jo α):AV:=.sl (r.l.map enc) r.c
def Row.ow {α:Type} (r:Row α):jo α:=⟨r.l,r.c,r.ok,r.nl⟩
section
variable {H:aT} {L:List jL} {i:Nat} {v:AV} {cs:List AV} {w tt:Bool} {n:Nat}
variable {α:Type} {enc : α->List AV} {l:List α}
def Gz {xs:List (List AV)} {sn:Bool} (hS:Sep H L) (hi:L[i]?=some (.sl w tt v n xs)):∃ c,(pI c=true->sn=true)/\(c=.nil->xs=[])/\∀ ls m,(∀ x∈xs,ju (freeze sn { H with iq:=ls } m) x=some x)->freeze sn { H with iq:=ls } (m+1) v=some (.sl xs c):=by
 obtain ⟨hxl,⟨h0,rfl⟩ | ⟨_,rfl⟩ | ⟨b,g,j,hb,rfl,hg,htj⟩⟩:=hS.at hi
 ·subst h0; exact ⟨.nil,λh=>(by cases h),λ_=>rfl,λ_ _ _=>rfl⟩
 ·exact ⟨.exact xs.length,λh=>(by cases h),λh=>(by cases h),λ_ _ _=>rfl⟩
 ·refine ⟨A6 sn,?_,?_,λls m hm=>?_⟩
  ·cases sn
   ·intro h; cases h
   simp
  ·cases sn<;>exact λh=>by cases h
  ·have h2:Nat.ble (0+xs.length) (xs++j).length=true:=Nat.ble_eq.mpr (by simp)
   have h3:((xs++j).drop 0).take xs.length=xs:=by simp
   have h5:∀ ys:List (List AV),(∀ x∈ys,ju (freeze sn { H with iq:=ls } m) x=some x)->ni (freeze sn { H with iq:=ls } m) ys=some ys:=by
    intro ys
    induction ys<;>grind [ni]
   simp only [freeze,aT.kR,hg,Nat.beq_refl,h2,Bool.and_self,h3,h5 xs hm]
def lS (hS:Sep H L) (hi:L[i]?=some (.sl w tt v n (l.map enc))) (hl:l.length<=rl):∃ r:Row α,r.l=l/\∀ ls m,(∀ x,ju (freeze false { H with iq:=ls } m) (enc x)=some (enc x))->freeze false { H with iq:=ls } (m+1) v=some (r.av enc):=by
 obtain ⟨c,h1,h2,h3⟩:=Gz (sn:=false) hS hi
 refine ⟨⟨l,c,hl,?_,λh=>List.map_eq_nil_iff.mp (h2 h)⟩,rfl,λls m hm=>h3 ls m ?_⟩<;>grind
def Sd (hS:Sep H L) (hi:L[i]?=some (.sl w tt v n (l.map enc))) (hl:l.length<=rl):∃ r:jo α,r.l=l/\∀ ls m,(∀ x,ju (freeze true { H with iq:=ls } m) (enc x)=some (enc x))->freeze true { H with iq:=ls } (m+1) v=some (r.av enc):=by
 obtain ⟨c,h1,h2,h3⟩:=Gz (sn:=true) hS hi
 refine ⟨⟨l,c,hl,λh=>List.map_eq_nil_iff.mp (h2 h)⟩,rfl,λls m hm=>h3 ls m ?_⟩
 grind
theorem FN {f:AV->Option AV}:∀ {es:List (AV×AV×Nat)},(∀ x∈ns es,f x.2=some x.2)->oD f es=some (ns es)
 | [],_=>rfl
 | (k,v,c)::es,h=>by
   have h1:f v=some v:=h (k,v) (by simp [ns])
   have h2:oD f es=some (ns es):=FN λx hx=>h x (by simp only [ns,List.map_cons,List.mem_cons]; exact .inr hx)
   simp only [oD,h1,h2,ns,List.map_cons]
def tW {sn:Bool} {es:List (AV×AV)} (hS:Sep H L) (hi:L[i]?=some (.map v es)) (ls:kK) (m:Nat) (hm:∀ x∈es,freeze sn { H with iq:=ls } m x.2=some x.2):freeze sn { H with iq:=ls } (m+1) v=some (.fm es sn):=by
 obtain ⟨b,es',c,hb,rfl,hg,rfl,hst⟩:=hS.at hi
 grind [freeze,aT.kR,FN]
def uo {sn:Bool} {cs':List AV} (hS:Sep H L) (hi:L[i]?=some (.obj v cs)) (ls:kK) (m:Nat) (hm:ju (freeze sn { H with iq:=ls } m) cs=some cs'):freeze sn { H with iq:=ls } (m+1) v=some (.ip cs' 0 sn):=by
 obtain ⟨b,z,hb,rfl,hg⟩:=hS.at hi
 grind [freeze,aT.kR]
end
def AV.oZ:AV->Bool
 | .agg l=>l.all AV.kh
 | .je _=>false
 | _=>true
theorem Kl {sn:Bool} {h:aT} {n:Nat} {v w:AV} (hp:v.lK=true) (hf:freeze sn h n v=some w):w=v:=by
 cases n with
 | zero=>simp [freeze] at hf
 | succ n =>
   cases v<;>simp only [AV.lK,Bool.false_eq_true] at hp<;>simp only [freeze,Option.some.injEq] at hf<;>try exact hf.symm
   ·grind
   ·grind
   grind
theorem uH {f:AV->Option AV}:∀ {l l':List AV},(∀ x∈l,∀ y,f x=some y->y=x)->ju f l=some l'->l'=l
 | [],_,_,h=>by grind [ju]
 | a::l,l',hx,h=>by
   simp only [ju] at h
   split at h
   ·cases h
   ·rename_i w hw
    split at h
    ·cases h
    ·rename_i r hr
     simp only [Option.some.injEq] at h
     subst h
     rw [hx a (by simp) w hw,uH (λx hm=>hx x (by simp [hm])) hr]
theorem Gd {hp:aT} {n:Nat} (c:List AV) (o:Nat) (s:Bool):freeze true hp (n+1) (.ip c o s)=some (.ip c o s):=by simp [freeze]
theorem FW {hp:aT} {n:Nat} (c:List (AV×AV)) (s:Bool):freeze true hp (n+1) (.fm c s)=some (.fm c s):=by simp [freeze]
theorem EM {h:aT} {n:Nat} {v w:AV} (hr:v.qI=false) (hc:v.kh=true) (hf:freeze true h n v=some w):w=v:=by
 cases n with
 | zero=>simp [freeze] at hf
 | succ n =>
   cases v with
   | undef=>cases hc
   | la _ _=>cases hc
   | agg _=>cases hc
   | je _=>cases hc
   | ptr _ _ _ _=>cases hr
   | hs _ _ _ _=>cases hr
   | hm _=>cases hr
   | sl xs c=>cases c<;>exact (Option.some.inj hf).symm
   | ip c o s=>grind [Gd]
   | fm c s=>grind [FW]
   | jN f a c =>
     simp only [AV.qI,Bool.not_eq_false',Bool.and_eq_true,List.all_eq_true] at hr
     grind [freeze,uH,Kl]
   | _=>exact (Option.some.inj hf).symm
theorem Ke {l:List AV} (hr:(AV.agg l).qI=false) {x:AV} (hx:x∈l) (hc:x.kh=true):x.qI=false:=by
 simp only [AV.qI,List.any_eq_false] at hr
 have h1:=hr x hx
 cases x with
 | ptr _ _ _ _=>simp at h1
 | hs _ _ _ _=>simp at h1
 | hm _=>simp at h1
 | jN f a c=>grind [AV.qI]
 | agg _=>cases hc
 | _=>rfl
theorem Mi {h:aT} {n:Nat} {v w:AV} (hr:v.qI=false) (hfi:v.oZ=true) (hf:freeze true h n v=some w):w=v:=by
 cases n with
 | zero=>simp [freeze] at hf
 | succ n =>
   cases v with
   | agg l =>
     rw [SD] at hf
     split at hf
     ·rename_i l' hl
      simp only [Option.some.injEq] at hf
      subst hf
      simp only [AV.oZ,List.all_eq_true] at hfi
      rw [uH (λx hx y hy=>EM (Ke hr hx (hfi x hx)) (hfi x hx) hy) hl]
     grind
   | je l=>cases hfi
   | undef=>cases hf
   | la _ _=>cases hf
   | _=>exact EM hr rfl hf
def kO {h:aT} {args args':List AV} (hf:ju (freeze true h 8) args=some args') (hfi:args.all AV.oZ=true):lf h args=some args':=by
 grind [lf,AV.qI,uH,Mi]
theorem Sep.oZ {H:aT} {L:List jL} (h:Sep H L) {i:Nat} {r:jL} (hi:L[i]?=some r):AV.oZ r.v=true:=by
 cases r with
 | sl w t v n xs=>obtain ⟨hl,⟨_,rfl⟩ | ⟨_,rfl⟩ | ⟨b,g,j,hb,rfl,hq,ht⟩⟩:=h.at hi<;>rfl
 | map v es=>obtain ⟨b,es',c,hb,rfl,hq,he,hst⟩:=h.at hi; rfl
 | obj v cs=>obtain ⟨b,z,hb,rfl,hq⟩:=h.at hi; rfl
def EW {α:Type} {enc : α->List AV} {hp:aT} {n:Nat} (r:jo α):freeze true hp (n+1) (jo.av enc r)=some (jo.av enc r):=by
 grind [jo.av,freeze]
theorem uj {α:Type} {enc : α->List AV} {hp:aT} {n:Nat} (r:Row α):freeze true hp (n+1) (Row.av enc r)=some (Row.av enc r):=EW r.ow
def R9 {sn:Bool} {hp:aT} {n:Nat} (c:List AV) (o:Nat):freeze sn hp (n+1) (.ip c o false)=some (.ip c o false):=by rfl
def R7 {sn:Bool} {hp:aT} {n:Nat} (c:List (AV×AV)):freeze sn hp (n+1) (.fm c false)=some (.fm c false):=by rfl
def yW {C:jH} {fa:iA} {e:Env} {h:aT} {call:qD} {f:Nat} {a c:Array Operand} {as cs:List AV} {d:Option Nat} (ha:a.toList.map (iJ e)=as) (hc:c.toList.map (iJ e)=cs) (hok:(as.all AV.kh&&cs.all AV.kh)=true):jt (.makeFunc (.func f) a c) ⟨C,fa,call⟩ e h d=some (.jN f as cs,h):=by
 simp only [jt,u6,sD,ha,hc,hok]
section
variable {C:jH} {fa:iA} {e:Env} {h:aT} {α:Type} {enc : α->List AV}
def pP {X:Ctx} {d:Option Nat} {t el:Nat} {x:Operand} {cl:Call} {ti:TI} {r:jo α} (hc:cl.callee=.builtin .len) (ha:cl.args.toList=[x]) (hts:cl.argTypes.toList=[t]) (hT:X.C.T t=some ti) (hk:ti.kind=.slice el) (hx:iJ e x=r.av enc) :
  jt (.call cl) X e h d=some (.int .i64 r.l.length,h):=by
 simp_all [jt,pr,oz,mJ,w8,ui,vd,jo.av,uK,o8]
def pV {X:Ctx} {d:Option Nat} {t el:Nat} {x y:Operand} {ti te:TI} {r:jo α} {k:IntKind} {n:Nat} (hT:X.C.T t=some ti) (hk:ti.kind=.slice el) (hE:X.C.T el=some te) (hx:iJ e x=r.av enc) (hi:iJ e y=.int k (n:Int))
  (hn:n<r.l.length) (hl:(enc r.l[n]).length=te.size):jt (.indexAddr t x y) X e h d=some (.ip (enc r.l[n]) 0 (pI r.c),h) :=
 Rr hT hk hE hx hi (by omega) (r:=enc r.l[n]) (by simp [hn]) hl
def Row.drop (r:Row α) (k:Nat):Row α:=⟨r.l.drop k,o6 k r.c,by have:=r.ok; grind,by have:=r.sn; cases hc:r.c<;>rw [hc] at this<;>first | rfl | exact this,λh=>by
 cases hc:r.c<;>rw [hc] at h<;>first | (rw [r.nl hc]; simp) | cases h⟩
def Lm {X:Ctx} {d:Option Nat} {t el n k:Nat} {x y:Operand} {ti te:TI} {r:Row α} {kd:IntKind} (hT:X.C.T t=some ti) (hk:ti.kind=.slice el) (hE:X.C.T el=some te) (hx:iJ e x=r.av enc) (hy:iJ e y=.int kd (k:Int)) (hn:te.size=n) (hkl:k<=r.l.length) (henc:∀ x,(enc x).length=n) :
  jt (.slice t x (some y) none none) X e h d=some ((r.drop k).av enc,h):=by
 have hai:oW (.int kd (k:Int))=some k:=rfl
 have h0:Nat.ble k (r.l.map enc).length=true:=Nat.ble_eq.mpr (by grind)
 have h1:Nat.ble (r.l.map enc).length (r.l.map enc).length=true:=Nat.ble_eq.mpr (Nat.le_refl _)
 have h2:nQ n (r.l.map enc)=true:=by
  cases r.l with
  | nil=>rfl
  | cons a l=>simp_all [nQ]
 have h3:((r.l.map enc).drop k).take ((r.l.map enc).length - k)=(r.l.drop k).map enc:=by
  rw [List.take_of_length_le (by simp),List.map_drop]
 simp only [jt,pG,o5,hT,hk,hE,hx,hy,Row.av,slice,uE,nv,bound,hai,pW,hn,h1,h2,h0,Bool.and_true,h3,oI,kz,Row.drop]
end
section
variable {C:jH} {F:kP} {Pr:kx} {fa:iA} {e:Env} {h:aT} {all rest:List Oper} {o:Oper} {q:Env->aT->Prop}
def Su {f:Nat} {args args':List AV} {v:AV} {h h':aT} (hP:Pr f=none) (h1:lf h args=some args') (h2:lf h' args'=some args') (w:jf C F Pr false f args' h' v h'):jf C F Pr false f args h v h:=by
 obtain ⟨m,hm⟩:=w
 refine ⟨m+1,λk hk=>?_⟩
 obtain ⟨k,rfl⟩:∃ k',k=k'+1:=⟨k - 1,by omega⟩
 have:=hm (k+1) (by omega)
 simp only [lT,hP] at this ⊢
 cases hF:F f with
 | none=>grind
 | some fb =>
   simp only [hF,su,h1,h2] at this ⊢
   cases hb:tl C fb (lT C F Pr k) k args' aT.empty<;>grind [tl,lT,aT.empty,frozen,freeze]
def B7 {f:Nat} {g:Operand} {c:Call} {args p r:List AV} {v:AV} {d:Option Nat} (hf:c.callee=.value g) (hg:iJ e g=.jN f p r) (ha:c.args.toList.map (iJ e)=args) (hok:(p++args++r).all AV.nq=true) (hs:fa.jm.elem f=false)
  (w:jf C F Pr false f (p++args++r) { h with iq:=[] } v { h with iq:=[] }):∃ m,∀ k,m<=k->jt (.call c) (XN C F Pr fa k) e h d=some (v,h):=by
 obtain ⟨m,hm⟩:=w
 refine ⟨m,λk hk=>?_⟩
 simp only [jt,pr,oz,hf,hg,ha,ua,AE,hok,hs,hm k hk,vG]
def mS {f:Nat} {g:Operand} {c:Call} {args p r args':List AV} {R:AV->Prop} (ho:o.op=.call c) (hw:jg all e o=some true) (hf:c.callee=.value g) (hg:iJ e g=.jN f p r) (ha:c.args.toList.map (iJ e)=args) (hok:(p++args++r).all AV.nq=true) (hs:fa.jm.elem f=false)
  (hP:Pr f=none) (h1:lf { h with iq:=[] } (p++args++r)=some args') (h2:lf aT.empty args'=some args')
  (w:∀ h:aT,∃ v,jf C F Pr false f args' h v h/\R v) (next:∀ v,R v->ki C F Pr fa all rest q (iS e o v) h):ki C F Pr fa all (o::rest) q e h:=by
 obtain ⟨v,hc,hR⟩:=w aT.empty
 refine vF hw ?_ (next v hR)
 rw [ho]
 exact B7 hf hg ha hok hs (Su hP h1 h2 hc)
variable {H:aT} {ls:kK}
def kj {f:Nat} {g:Operand} {c:Call} {args p r:List AV} {R:AV->aT->Prop} (ho:o.op=.call c) (hw:jg all e o=some true) (hf:c.callee=.value g) (hg:iJ e g=.jN f p r) (ha:c.args.toList.map (iJ e)=args) (hok:(p++args++r).all AV.nq=true) (hs:fa.jm.elem f=true)
  (w:∃ v H',jf C F Pr true f (p++args++r) { H with iq:=[] } v H'/\R v H') (next:∀ v H',R v H'->ki C F Pr fa all rest q (iS e o v) { H' with iq:=ls }):ki C F Pr fa all (o::rest) q e { H with iq:=ls }:=by
 obtain ⟨v,H',hc,hR⟩:=w
 refine vF hw ?_ (next v H' hR)
 rw [ho]
 exact EZ hf hg ha hok hs hc
def Se {j:Nat} {sch:List (Nat×List Nat)} {f:Nat} {g:Operand} {c:Call} {args p r:List AV} {R:AV->aT->Prop} (hj:all[j]?=some o) (ho:o.op=.call c) (hw:jg all e o=some true) (hf:c.callee=.value g) (hg:iJ e g=.jN f p r) (ha:c.args.toList.map (iJ e)=args) (hok:(p++args++r).all AV.nq=true) (hs:fa.jm.elem f=true)
  (w:∃ v H',jf C F Pr true f (p++args++r) { H with iq:=[] } v H'/\R v H') (next:∀ v H',R v H'->kB C F Pr fa all sch q (iS e o v) { H' with iq:=ls }):kB C F Pr fa all ((j,[])::sch) q e { H with iq:=ls }:=by
 obtain ⟨v,H',hc,hR⟩:=w
 refine BJ hj hw ?_ (next v H' hR)
 rw [ho]
 exact EZ hf hg ha hok hs hc
end
def kp {α:Type} (enc : α->List AV) (r:Row α):List AV:=[r.av enc]
structure nw where
 uG:Int
 steps:jo iT
 pos:jo Int
 left:jo (Row jB)
def nw.af (x:nw):List AV:=[.int .i64 x.uG,x.steps.av iT.af,x.pos.av iP,x.left.av (kp jB.af)]
structure sL where
 from_:Int
 to:Int
 end_:Int
 steps:jo iT
 lQ:jo jy
 guards:jo jy
 mA:jo Int
 holds:jo Int
 bare:Bool
def sL.af (x:sL):List AV:=[.int .i64 x.from_,.int .i64 x.to,.int .i64 x.end_,x.steps.av iT.af,x.lQ.av jy.af,x.guards.av jy.af,x.mA.av iP,x.holds.av iP,.bool x.bare]
structure jR where
 vk:bS
 roads:Row iQ
def jR.af (x:jR):List AV:=x.vk.af++[x.roads.av iQ.af]
def sK (s:List UInt8):AV:=.str s
def bK (b:Bool):AV:=.bool b
def pU (a b:List UInt8):lG (sK a) (sK b)=some (decide (a=b)):=by
 simp only [lG,sK,AV.agg?,mj,y5,AV.str?]
 grind
def Sep.vD {H:aT} {L:List jL} {i:Nat} {w t:Bool} {v:AV} {n:Nat} {xs:List (List AV)} (h:Sep H L) (hi:L[i]?=some (.sl w t v n xs)):Sep H (L.set i (.sl w false v n xs)):=by
 obtain ⟨hxl,hc⟩:=h.at hi
 refine h.mD hi h.lo (Nat.le_refl _) ⟨hxl,?_⟩ (λ_ _ _=>rfl) (λb hb=>.inl hb)
 grind
def nG {ti:TI} {v:AV} (ha:ti.agg=false) (hs:ti.size=1) (hc:v.kh=true):cellsOf ti v=some [v]:=by
 simp_all [cellsOf]
def jP {p:AV->Bool}:([]:List AV).all p=true:=rfl
def iM {p:AV->Bool} {a:AV} {l:List AV} (h:p a=true) (hl:l.all p=true):(a::l).all p=true:=by grind
def yS {a b:Bool} (h:a=true) (hl:b=true):(a&&b)=true:=by grind
def X7 {l:List AV} (h:l.all AV.kh=true):AV.oZ (.agg l)=true:=h
def vH {κ β:Type} {ek : κ->AV} {ev : β->AV} {p:AV×AV->Prop} {l:List (κ×β)} (h:∀ x : κ×β,p (ek x.1,ev x.2)):∀ x∈jO ek ev l,p x:=by
 intro x hx; obtain ⟨y,_,rfl⟩:=List.mem_map.mp hx; exact h y
def TF (a b:Int):lI .xor .i64 a b=some (.int .i64 (IntKind.i64.wrap ((BitVec.ofInt 64 a ^^^ BitVec.ofInt 64 b).toNat:Int))):=by
 simp only [lI,Ah,tq,nO,IntKind.bits]
 rfl
def ma {α:Type} {enc : α->List AV} (r:Row α):AV.yH (r.av enc)=true:=by
 have h:=r.sn
 unfold Row.av
 cases hc:r.c<;>rw [hc] at h<;>first | rfl | cases h
def CU {X:Ctx} {e:Env} {h:aT} {t n d:Nat} {ps:Array (Nat×Operand)} {ti:TI} {xs:List (List AV)} (hT:uu X.C t=some ti) (hle:Nat.ble (n*ti.size) 16777216=true) (hf:tz ti (pb e ps) (List.replicate n ti.zero)=some xs) (hd:X.fa.qY.elem d=false) (hp:sf xs=true):jt (.buildSlice t n ps) X e h (some d)=some (.sl xs (.exact xs.length),h):=by
 simp only [jt,vv,sx,hT,hle,hf,zH,hd,hp,Bool.not_true,Bool.or_self]
def jo.isNil {α:Type} (r:jo α):Bool:=match r.c with
 | .nil=>true
 | _=>false
def jo.of_nil {α:Type} {r:jo α} (h:r.isNil=true):r.l=[]:=by
 apply r.nl
 grind [jo.isNil]
def qJ {α:Type} {enc : α->List AV} {e:Env} {h:aT} {X:Ctx} {d:Option Nat} {t u el:Nat} {x y:Operand} {ti:TI} {r:jo α} (hT:X.C.T t=some ti) (hk:ti.kind=.slice el) (hx:iJ e x=r.av enc) (hy:iJ e y=.sl [] .nil):jt (.binOp .eql t x y u) X e h d=some (.bool r.isNil,h):=by
 simp only [jt,zK,binOp,hx,hy,jo.av,AV.int?,AV.str?,Bl,hT,yP,hk,tG,jo.isNil]
 cases r.c<;>rfl
def Sep.YD {H:aT} {L:List jL} {i:Nat} {t:Bool} {v:AV} {n:Nat} {xs:List (List AV)} (h:Sep H L) (hi:L[i]?=some (.sl true t v n xs)):(v=.sl [] .nil/\xs=[])\/(v=.sl [] (.exact 0)/\xs=[])\/∃ b g,v=.hs b g 0 xs.length:=by
 obtain ⟨hxl,h1 | ⟨h1 | h1,h2⟩ | ⟨b,g,j,h1,h2,h3,h4⟩⟩:=h.at hi<;>grind
end Go.Sx
