/- Proves rules for the walks and their soundness. -/
import Derived.Test.YtpelnddplemngaaGreatHad
set_option linter.all false
namespace Go.Sx
open Go
def Og {G:Ga} (hW:WR G) (o:Obj) (s:Bool) :
  let G':Ga:=⟨G.w.alloc o,λs' B=>G.T s' B\/(s'=s/\B=G.w.heap.size),G.h,G.pi,G.L⟩
  Step G G'/\WR G':=by
 intro G'
 obtain ⟨S,W⟩:=Cg hW o
 have hold:∀ B,B<G.w.heap.size->(G.w.alloc o).heap[B]?=G.w.heap[B]?:=λB hB=>(lq.alloc G.w o).se (G:=G) hB
 have E:Ext G G':=⟨λ_ _ h=>.inl h,S.ext.keep,S.ext.size,S.ext.iQ,S.ext.map,S.ext.iI⟩
 refine ⟨⟨E,S.os,S.output,S.tape,S.lv,S.frame,S.mW,S.nF,?_,S.lo,S.out,S.qu,S.rJ,S.sx⟩,?_⟩
 ·grind
 ·obtain ⟨k1,k2,k3⟩:=hW.keep E hold
  refine ⟨k1,k2,k3,W.kY,W.mK,?_,W.oE,?_,W.o9,W.me,?_,W.lo,W.lt⟩
  ·rintro s' b l h (ht | ⟨_,ht⟩)
   ·exact hW.qp s' b l h ht
   ·have:=(hW.kY b l h).1
    omega
  ·rintro s' d B h (ht | ⟨_,ht⟩)
   ·exact hW.LT s' d B h ht
   ·have:=(hW.me d B h).1
    omega
  ·rintro s' B (h | ⟨_,rfl⟩)
   ·exact W.nc s' B h
   ·show G.w.heap.size<(G.w.alloc o).heap.size
    simp
theorem yO {P : Program} {f : Nat} (hex : ∃ fn, P.funcs[f]? = some fn ∧ fn.body.isNone = false ∧ (fn.name == "runtime.NumGoroutine") = false)
  (h1:∀ b es clock (w:World),w.heap[b]?=some (.map es clock)->Calls P f #[.map (some b)] w λe w'=>e=.returned (.map (some w.heap.size))/\w'=w.alloc (.map es clock))
  (h0:∀ w:World,Calls P f #[.map none] w λe w'=>e=.returned (.map none)/\w'=w):nT P f rB where
 call:=by
  intro shd args h v h' hc G args' hG hlo hL hW hl hr
  refine ⟨hex,?_⟩
  intro R hR
  subst hG
  have one:∀ x:AV,args=[x]->∃ y,args' = #[y]/\VC G x y:=by
   rintro x rfl
   cases args' with | mk l =>
   cases l with
   | nil=>simp at hl
   | cons y l =>
     cases l with
     | nil=>exact ⟨y,rfl,hr 0 x y rfl rfl⟩
     | cons _ _=>simp at hl
  unfold rB at hc
  split at hc
  ·obtain ⟨y,rfl,hy⟩:=one _ rfl
   cases hc
   have hv:=hy.vr
   cases hv with
   | jE _ hp =>
     cases hp
     refine (h0 G.w).mono ?_
     rintro e w' ⟨rfl,rfl⟩
     exact hR _ G (.refl G) hW (λm=>rfl) (λm L=>VR.j5 (.jE rfl (.kJ _)) rfl)
  ·rename_i es s
   obtain ⟨y,rfl,hy⟩:=one _ rfl
   cases hc
   have hv:=hy.vr
   cases hv with
   | jE _ hp =>
     cases hp with
     | fm _ _ _ r ents clk _ hB hI hll hyo hko hk hvv =>
       refine (h1 r ents clk G.w hB).mono ?_
       rintro e w' ⟨rfl,rfl⟩
       obtain ⟨S1,W1⟩:=Og hW (.map ents clk) s
       refine hR _ _ S1 W1 (λm=>rfl) (λm L=>VR.j5 (.jE rfl ?_) rfl)
       refine .fm _ es s G.w.heap.size ents clk (λ_=>rfl) ((lq.alloc G.w _).new (G:=G)) (.inr ⟨rfl,rfl⟩) hll hyo hko ?_ ?_
       ·exact λi p e hp he=>(hk i p e hp he).mono S1.ext.T S1.ext.keep
       ·exact λi p e hp he=>(hvv i p e hp he).mono S1.ext.T S1.ext.keep
  ·rename_i b
   obtain ⟨y,rfl,hy⟩:=one _ rfl
   split at hc
   ·split at hc
    ·rename_i es c hget
     cases hc
     obtain ⟨l,ents,hpi,rfl,hB,hent,hyo⟩:=rE hW hy.vr hget
     refine (h1 l.B ents c G.w hB).mono ?_
     rintro e w' ⟨rfl,rfl⟩
     obtain ⟨S1,W1⟩:=DW (ob:=.map es c) (cap:=0) hW (lq.alloc G.w (.map ents c)) (by simp) (by
      intro es2 c2 e G' E hnew
      cases e
      have hent2:=hent.mono E
      exact ⟨ents,hnew,by simpa using hent2.1,hyo,λi p e hp he=>hent2.2 i p e hp (by grind)⟩)
     refine hR _ _ S1 W1 (λm=>rfl) (λm L=>VR.j5 (.hm _ _ ?_ ?_) rfl)<;>grind [VR.j5,aT.size_push,lH]
    grind
   grind
  grind
 BR:=by
  intro args h v h' hc
  unfold rB at hc
  split at hc
  ·cases hc; exact ⟨rfl,λ_ _=>rfl⟩
  ·cases hc; exact ⟨rfl,λ_ _=>rfl⟩
  ·cases hc
  grind
end Go.Sx
namespace Go.Sx
open Go
def aiM (P:Program) (t n:Nat):Bool:=match P.info? t with
 | some i=>Nat.beq i.size n
 | none=>false
def GU (P:Program) (t:Nat) (k:TK):Bool:=match P.underlying t,k with
 | some .bool,.bool=>true
 | some (.int a),.int b=>pa a b
 | some .string,.str=>true
 | _,_=>false
def Hw (P:Program) (t:Nat):Option Nat:=match P.underlying t with
 | some (.struct _)=>(P.info? t).map (·.size)
 | _=>none
def sX (P:Program) (rec:Nat->List TK->Bool):List Field->Nat->List TK->Bool
 | [],_,ks=>ks.isEmpty
 | f :: fs, off, ks => (f.name != "_") && Nat.beq f.offset off && match Hw P f.type with
   | some n=>Nat.ble n ks.length&&rec f.type (ks.take n)&&sX P rec fs (off+n) (ks.drop n)
   | none=>match ks with
     | k::ks=>GU P f.type k&&sX P rec fs (off+1) ks
     | []=>false
def sQ (P:Program):Nat->Nat->List TK->Bool
 | 0,_,_=>false
 | d+1,t,ks=>match P.underlying t with
   | some (.struct F)=>!P.stoodInHeld t&&sX P (sQ P d) F.toList 0 ks
   | _=>false
section
variable {P:Program}
def Ac:∀ {a b:List AV} (c d:List AV),a.length=b.length->mh (a++c) (b++d)=match mh a b,mh c d with
  | some x,some y=>some (x&&y)
  | _,_=>none
 | [],[],c,d,_=>by
   simp only [List.nil_append,mh]
   cases mh c d<;>simp
 | [],_::_,_,_,h=>by simp at h
 | _::_,[],_,_,h=>by simp at h
 | x::a,y::b,c,d,h=>by
   have ih:=Ac c d (a:=a) (b:=b) (by simpa using h)
   simp only [List.cons_append,mh]
   cases hs:mz x y with
   | none=>rfl
   | some v =>
     cases v with
     | true=>simp only [ih]
     | false =>
       simp only [ih]
       cases mh a b<;>cases mh c d<;>simp
theorem AM:∀ {l m:List AV} {b:Bool},mh l m=some b->l.length=m.length
 | [],[],_,_=>rfl
 | [],_::_,_,h=>by cases h
 | _::_,[],_,h=>by cases h
 | x::l,y::m,b,h=>by
   simp only [mh] at h
   split at h
   ·simp [AM h]
   ·split at h
    ·rename_i q; simp [AM q]
    ·cases h
   ·cases h
theorem xD:∀ {ks:List TK} {l:List AV},fitAll ks l=true->l.length=ks.length
 | [],[],_=>rfl
 | [],_::_,h=>by cases h
 | _::_,[],h=>by cases h
 | _::ks,_::l,h=>by
   simp only [fitAll,Bool.and_eq_true] at h
   simp [xD h.2]
def yA:∀ (n:Nat) {ks:List TK} {l:List AV},fitAll ks l=true->fitAll (ks.take n) (l.take n)=true/\fitAll (ks.drop n) (l.drop n)=true
 | 0,ks,l,h=>⟨by rfl,by grind⟩
 | n+1,[],[],_=>⟨rfl,rfl⟩
 | _+1,[],_::_,h=>by cases h
 | _+1,_::_,[],h=>by cases h
 | n+1,k::ks,a::l,h=>by
   simp only [fitAll,Bool.and_eq_true] at h
   obtain ⟨h1,h2⟩:=yA n h.2
   exact ⟨by simp [fitAll,h.1,h1],by simpa using h2⟩
def Rel (w:World) (T:Bool->Nat->Prop) (l:List AV) (xs:Array Value):Prop:=l.length=xs.size/\∀ (i:Nat) (x:AV) (y:Value),l[i]?=some x->xs[i]?=some y->PR w T true x y
theorem Rel.part {w:World} {T:Bool->Nat->Prop} {l:List AV} {xs:Array Value} (h:Rel w T l xs) (o n:Nat) (hle:o+n<=l.length):Rel w T ((l.drop o).take n) (xs.extract o (o+n)):=by
 refine ⟨by simp [<- h.1]; omega,?_⟩
 intro i x y hx hy
 rw [List.getElem?_take] at hx
 split at hx
 ·rw [List.getElem?_drop] at hx
  rw [Array.getElem?_extract] at hy
  split at hy
  ·exact h.2 (o+i) x y hx hy
  grind
 grind
theorem vV {t:Nat} {k:TK} (hk:GU P t k=true) {xs:Array Value} {o:Nat} {y:Value} (hy:xs[o]?=some y) (w:World):(Go.part t xs o).run P w=.ok y w:=by
 unfold GU at hk
 have:∃ d,P.underlying t=some d/\I8 d=false:=by
  split at hk<;>first | exact ⟨_,by assumption,rfl⟩ | cases hk
 obtain ⟨d,hd,hag⟩:=this
 have hA:(Go.isAgg t).run P w=.ok false w:=by
  unfold Go.isAgg
  rw [Sem.run_bind,run_underlying hd w,<- hag]
  cases d<;>rfl
 simp_all [Go.part,Sem.run_bind]
theorem xU {t n:Nat} (hk:Hw P t=some n) (xs:Array Value) (o:Nat) (w:World):(Go.part t xs o).run P w=.ok (.agg (xs.extract o (o+n))) w:=by
 unfold Hw at hk
 split at hk
 ·rename_i F hF
  cases hi:P.info? t with
  | none=>grind
  | some i =>
    simp_all [Go.isAgg,Sem.run_bind,run_underlying,Go.part,Go.sizeOf,typeInfo]
 grind
theorem CP {t:Nat} {k:TK} (hk:GU P t k=true) {a c:AV} {x y:Value} {b:Bool} {w:World} {T:Bool->Nat->Prop} (hf:rM k a=true) (hx:PR w T true a x) (hy:PR w T true c y) (h:mz a c=some b) (d:Nat) :
  (Op.equalIn (d+1) t x y).run P w=.ok b w:=by
 unfold GU at hk
 split at hk
 ·rename_i hd
  cases a<;>simp only [rM,Bool.false_eq_true] at hf
  cases c<;>simp only [mz,yS,AV.bool?,reduceCtorEq] at h
  cases hx; cases hy<;>grind [run_equalIn_bool]
 ·rename_i k1 k2 hd
  cases a<;>simp only [rM,Bool.false_eq_true] at hf
  cases c<;>simp only [mz,vE,AV.int?,reduceCtorEq] at h
  split at h
  ·rename_i hkk
   rw [rl] at hkk
   cases hx; cases hy<;>grind [run_equalIn_int,qC]
  ·cases h
 ·rename_i hd
  cases a<;>simp only [rM,Bool.false_eq_true] at hf
  cases c<;>simp only [mz,y8,AV.str?,reduceCtorEq] at h
  cases hx with
  | str _ _ p hp =>
    cases hy with
    | str _ _ q hq =>
      have:(Op.equalIn (d+1) t (.string p) (.string q)).run P w=.ok (p==q) w:=by simp [Op.equalIn,run_underlying hd]
      grind [Eb]
 grind
def qy {rec:Nat->List TK->Bool} {d:Nat}
  (hrec:∀ t ks,rec t ks=true->∀ (l m:List AV) (xs ys:Array Value) (b:Bool) (w:World) (T:Bool->Nat->Prop),fitAll ks l=true->Rel w T l xs->Rel w T m ys->mh l m=some b->(Op.equalIn d t (.agg xs) (.agg ys)).run P w=.ok b w)
  (hd:0<d) {l m:List AV} {xs ys:Array Value} {w:World} {T:Bool->Nat->Prop} (hx:Rel w T l xs) (hy:Rel w T m ys) :
  ∀ (fs:List Field) (off:Nat) (ks:List TK) (b:Bool),sX P rec fs off ks=true->fitAll ks (l.drop off)=true->mh (l.drop off) (m.drop off)=some b->off<=l.length->l.length=m.length ->
    (Op.eqFields d xs ys fs).run P w=.ok b w
 | [],off,ks,b,hfl,hfit,he,_,_=>by
   simp only [sX,List.isEmpty_iff] at hfl
   subst hfl
   have h0:=xD hfit
   have h1:l.drop off=[]:=List.eq_nil_of_length_eq_zero h0
   have h2:m.drop off=[]:=List.eq_nil_of_length_eq_zero (by grind)
   rw [h1,h2] at he
   cases he
   rfl
 | f::fs,off,ks,b,hfl,hfit,he,hol,hlm=>by
   simp only [sX,Bool.and_eq_true,bne_iff_ne,ne_eq] at hfl
   obtain ⟨⟨hname,hoff⟩,hrest⟩:=hfl
   have hoff:=Nat.eq_of_beq_eq_true hoff
   unfold Op.eqFields
   rw [if_pos hname,hoff]
   split at hrest
   ·rename_i n hn
    simp only [Bool.and_eq_true,Nat.ble_eq] at hrest
    obtain ⟨⟨hnk,hr⟩,hfs⟩:=hrest
    have hlen:=xD hfit
    rw [List.length_drop] at hlen
    obtain ⟨fit1,fit2⟩:=yA n hfit
    rw [List.drop_drop] at fit2
    have hsplit:mh (l.drop off) (m.drop off)=match mh ((l.drop off).take n) ((m.drop off).take n),mh (l.drop (off+n)) (m.drop (off+n)) with
      | some x,some y=>some (x&&y)
      | _,_=>none:=by
     have:=Ac (a:=(l.drop off).take n) (b:=(m.drop off).take n) (l.drop (off+n)) (m.drop (off+n)) (by simp [hlm])
     rw [<- List.drop_drop (i:=n) (j:=off),<- List.drop_drop (i:=n) (j:=off),List.take_append_drop,List.take_append_drop] at this
     simp_all
    rw [hsplit] at he
    split at he
    ·rename_i b1 b2 h1 h2
     cases he
     have e1:=hrec _ _ hr _ _ _ _ b1 w T fit1 (hx.part off n (by omega)) (hy.part off n (by omega)) h1
     have e2:=qy hrec hd hx hy fs (off+n) _ b2 hfs fit2 h2 (by omega) hlm
     simp only [Sem.run_bind,xU hn,Result.andThen_ok,e1,Sem.run_ite]
     cases b1<;>simp_all
    grind
   ·rename_i hn
    split at hrest
    ·rename_i k ks
     simp only [Bool.and_eq_true] at hrest
     obtain ⟨hk,hfs⟩:=hrest
     cases hld:l.drop off with
     | nil=>rw [hld] at hfit; cases hfit
     | cons a l' =>
       cases hmd:m.drop off with
       | nil=>rw [hld,hmd] at he; cases he
       | cons c m' =>
         have hl':l'=l.drop (off+1):=by rw [<- List.drop_drop,hld]; rfl
         have hm':m'=m.drop (off+1):=by rw [<- List.drop_drop,hmd]; rfl
         rw [hld] at hfit
         simp only [fitAll,Bool.and_eq_true] at hfit
         have hla:l[off]?=some a:=by
          have:(l.drop off)[0]?=some a:=by grind
          grind
         have hmc:m[off]?=some c:=by
          have:(m.drop off)[0]?=some c:=by grind
          grind
         have hlt:=(List.getElem?_eq_some_iff.1 hla).1
         have hmt:=(List.getElem?_eq_some_iff.1 hmc).1
         have hlx:off<xs.size:=by rw [<- hx.1]; exact hlt
         have hly:off<ys.size:=by rw [<- hy.1]; exact hmt
         have hxo:xs[off]?=some xs[off]:=by simp
         have hyo:ys[off]?=some ys[off]:=by simp
         rw [hld,hmd] at he
         simp only [mh] at he
         have next:∀ b2,mh l' m'=some b2->(Op.eqFields d xs ys fs).run P w=.ok b2 w:=by
          intro b2 h2
          rw [hl',hm'] at h2
          exact qy hrec hd hx hy fs (off+1) ks b2 hfs (by rw [<- hl']; exact hfit.2) h2 (by omega) hlm
         obtain ⟨d',rfl⟩:∃ d',d=d'+1:=⟨d - 1,by omega⟩
         simp only [Sem.run_bind,vV hk hxo,vV hk hyo,Result.andThen_ok]
         split at he
         ·rename_i hs
          rw [CP hk hfit.1 (hx.2 off a _ hla hxo) (hy.2 off c _ hmc hyo) hs d']
          grind [Result.andThen_ok]
         ·rename_i hs
          rw [CP hk hfit.1 (hx.2 off a _ hla hxo) (hy.2 off c _ hmc hyo) hs d']
          split at he<;>simp_all
         grind
    grind
def zR:∀ (d t:Nat) (ks:List TK),sQ P d t ks=true->∀ (D:Nat) (l m:List AV) (xs ys:Array Value) (b:Bool) (w:World) (T:Bool->Nat->Prop),fitAll ks l=true->Rel w T l xs->Rel w T m ys->mh l m=some b ->
  (Op.equalIn (D+1+d) t (.agg xs) (.agg ys)).run P w=.ok b w
 | 0,_,_,h=>by cases h
 | d+1,t,ks,h=>by
   intro D l m xs ys b w T hfit hx hy he
   simp only [sQ] at h
   split at h
   ·rename_i F hF
    simp only [Bool.and_eq_true,Bool.not_eq_true'] at h
    have hfo:P.fieldsOf t=F:=by simp [Program.fieldsOf,hF]
    rw [show D+1+(d+1)=(D+1+d)+1 by omega,run_equalIn_struct w (D+1+d) t xs ys (by rw [hfo]; exact hF) h.1,hfo]
    exact qy (λt' ks' h'=>zR d t' ks' h' D) (by omega) hx hy F.toList 0 ks b h.2 (by simpa using hfit) (by simpa using he) (Nat.zero_le _) (AM he)
   ·cases h
def wu:∀ (d t:Nat) (ks:List TK),sQ P d t ks=true->∀ (D:Nat) (em:Bool) (xs:Array Value) (w:World),xs.size=ks.length->(Instr.checkKey em (D+1+d) t (.agg xs)).run P w=.ok () w
 | 0,_,_,h=>by cases h
 | d+1,t,ks,h=>by
   intro D em xs w hsz
   simp only [sQ] at h
   split at h
   ·rename_i F hF
    simp only [Bool.and_eq_true] at h
    have hfl:=h.2
    rw [show D+1+(d+1)=(D+1+d)+1 by omega]
    unfold Instr.checkKey
    simp only [Sem.run_bind,run_underlying hF,Result.andThen_ok]
    rw [<- Array.forIn_toList]
    have go:∀ (fs:List Field) (off:Nat) (ks':List TK),sX P (sQ P d) fs off ks'=true->off+ks'.length=xs.size ->
      (forIn (m := Sem) fs PUnit.unit (fun f _ => if f.name ≠ "_" then do
        Instr.checkKey em (D+1+d) f.type (<- Go.part f.type xs f.offset)
        pure (ForInStep.yield PUnit.unit) else pure (ForInStep.yield PUnit.unit))).run P w=.ok PUnit.unit w:=by
     intro fs
     induction fs with
     | nil=>simp
     | cons f fs ih =>
       intro off ks' hf ho
       simp only [sX,Bool.and_eq_true,bne_iff_ne,ne_eq] at hf
       obtain ⟨⟨hname,hoff⟩,hrest⟩:=hf
       have hoff:=Nat.eq_of_beq_eq_true hoff
       rw [List.forIn_cons]
       split at hrest
       ·rename_i n hn
        simp only [Bool.and_eq_true,Nat.ble_eq] at hrest
        obtain ⟨⟨hnk,hr⟩,hfs⟩:=hrest
        have e1:=wu d f.type _ hr D em (xs.extract f.offset (f.offset+n)) w (by grind)
        grind [Sem.run_bind,xU,Result.andThen_ok,Sem.run_pure]
       ·split at hrest
        ·rename_i k ks2
         simp only [Bool.and_eq_true] at hrest
         have hlt:f.offset<xs.size:=by grind
         have hxo:xs[f.offset]?=some xs[f.offset]:=by simp
         have e0:(Instr.checkKey em (D+1+d) f.type xs[f.offset]).run P w=.ok () w:=by
          have hk:=hrest.1
          unfold GU at hk
          grind [xd]
         have e2:=ih (off+1) _ hrest.2 (by grind)
         simp only [Sem.run_bind,if_pos hname,vV hrest.1 hxo,Result.andThen_ok,e0,Sem.run_pure]
         exact e2
        grind
    rw [go F.toList 0 ks hfl (by omega)]
    rfl
   ·cases h
def Qy (P:Program) (d:TypeDesc) (k:TK):Bool:=match d,k with
 | .bool,.bool=>true
 | .int a,.int b=>pa a b
 | .string,.str=>true
 | .pointer _,.ptr=>true
 | .slice a,.slice b=>Nat.beq a b
 | .array n a,.array m b=>Nat.beq n m&&Nat.beq a b
 | .map a b,.map c e=>Nat.beq a c&&Nat.beq b e
 | .struct F,.struct fs=>(fs==F.toList.map λf=>(f.offset,f.type))&&F.toList.all λf=>match P.info? f.type with
   | some i=>!(Nat.beq i.size 0)
   | none=>false
 | .func ..,.func=>true
 | _,.other=>true
 | _,_=>false
def QG (ti:TI) (z:Value):Bool:=oK (og 2) ti.zero (z.cells.toList.map E6)&&Nat.beq z.cells.size ti.size&&z.cells.toList.all (·.oneCell')&&match ti.agg,z with
 | true,.agg _=>true
 | true,_=>false
 | false,z=>z.oneCell'
def Lg (P:Program) (t:Nat) (ti:TI):Bool :=
 (match P.info? t with
 | some i=>Nat.beq i.size ti.size&&Nat.beq i.bytes ti.bytes&&match i.zero with
   | some z=>QG ti z
   | none=>false
 | none=>false) &&
 (match P.underlying t with
 | some d=>Em (I8 d) ti.agg&&Qy P d ti.kind
 | none=>false) &&
 Nat.ble ti.bytes 1048576 &&
 (!ti.flat||!(P.eqGuardType P.depth t)) &&
 (!(ti.flat&&ti.agg)||(sQ P 3 t ti.sc&&Nat.beq ti.sc.length ti.size))
def WH {t:Nat} {ti:TI} (h:Lg P t ti=true):nf P t ti:=by
 simp only [Lg,Bool.and_eq_true] at h
 obtain ⟨⟨⟨⟨h1,h2⟩,h3⟩,h4⟩,h5⟩:=h
 have hflat:ti.flat=true->ti.agg=true->sQ P 3 t ti.sc=true/\ti.sc.length=ti.size:=by
  intro hf ha
  simp_all
 refine ⟨?_,?_,Nat.le_of_ble_eq_true h3,?_,?_,?_⟩
 ·split at h1
  ·rename_i i hi
   simp only [Bool.and_eq_true] at h1
   obtain ⟨⟨a1,a2⟩,a3⟩:=h1
   split at a3
   ·rename_i z hz
    simp only [QG,Bool.and_eq_true,List.all_eq_true] at a3
    obtain ⟨⟨⟨z1,z2⟩,z3⟩,z4⟩:=a3
    refine ⟨i,z,hi,Nat.eq_of_beq_eq_true a1,Nat.eq_of_beq_eq_true a2,hz,mP (oQ 2) _ _ z1,Nat.eq_of_beq_eq_true z2,z3,?_,?_⟩<;>grind
   grind
  grind
 ·split at h2
  ·rename_i d hd
   simp only [Bool.and_eq_true,E3,beq_iff_eq] at h2
   refine ⟨d,hd,h2.1,?_⟩
   have hk:=h2.2
   generalize ti.kind=kk at hk ⊢
   unfold Qy at hk
   split at hk<;>try (cases hk; done)
   ·exact rfl
   ·rw [rl] at hk; subst hk; exact rfl
   ·exact rfl
   ·exact ⟨_,rfl⟩
   ·have:=Nat.eq_of_beq_eq_true hk; subst this; exact rfl
   ·simp only [Bool.and_eq_true] at hk
    have e1:=Nat.eq_of_beq_eq_true hk.1
    have e2:=Nat.eq_of_beq_eq_true hk.2
    subst e1; subst e2; exact rfl
   ·simp only [Bool.and_eq_true] at hk
    have e1:=Nat.eq_of_beq_eq_true hk.1
    have e2:=Nat.eq_of_beq_eq_true hk.2
    subst e1; subst e2; exact rfl
   ·simp only [Bool.and_eq_true,beq_iff_eq,List.all_eq_true] at hk
    refine ⟨_,rfl,hk.1,?_⟩
    intro f hf
    have:=hk.2 f hf
    split at this
    ·rename_i i hi
     refine ⟨i,hi,?_⟩
     intro h0
     simp_all
    grind
   ·exact ⟨_,_,_,rfl⟩
   ·trivial
  grind
 ·grind
 ·intro hf ha l m xs ys b w T hfit hl hm hx hy he
  obtain ⟨f1,f2⟩:=hflat hf ha
  have rel:∀ {l:List AV} {xs:Array Value},PR w T true (.agg l) (.agg xs)->Rel w T l xs:=by
   intro l xs h
   cases h with
   | agg _ _ _ hl h1 hr=>exact ⟨hl,hr⟩
  exact zR 3 t ti.sc f1 9996 l m xs ys b w T hfit (rel hx) (rel hy) he
 ·intro hf ha e xs w hsz
  obtain ⟨f1,f2⟩:=hflat hf ha
  exact wu 3 t ti.sc f1 9996 e xs w (by omega)
def Tr.Cl {α:Type} (p:Nat->α->Bool):Tr α->(Nat->Nat)->Bool
 | .leaf,_=>true
 | .node l v r,f=>(match v with
   | some x=>p (f 0) x
   | none=>true)&&Tr.Cl p l (λn=>f (2*n+1))&&Tr.Cl p r (λn=>f (2*n+2))
def Tr.AN {α:Type} (p:Nat->α->Bool):∀ (t:Tr α) (f:Nat->Nat),Tr.Cl p t f=true->∀ (n:Nat) (x : α),t.get n=some x->p (f n) x=true
 | .leaf,_,_,n,x,h=>by simp [Tr.get] at h
 | .node l v r,f,ha,n,x,h=>by
   simp only [Tr.Cl,Bool.and_eq_true] at ha
   obtain ⟨⟨h1,h2⟩,h3⟩:=ha
   cases n with
   | zero =>
     simp only [Tr.get] at h
     rw [h] at h1
     exact h1
   | succ m =>
     simp only [Tr.get] at h
     split at h
     ·rename_i hm
      have hm:=Nat.eq_of_beq_eq_true hm
      have:=Tr.AN p l _ h2 (m / 2) x h
      rw [show 2*(m / 2)+1=m+1 by omega] at this
      exact this
     ·rename_i hm
      have hm:m % 2≠0:=Nat.ne_of_beq_eq_false hm
      have:=Tr.AN p r _ h3 (m / 2) x h
      rw [show 2*(m / 2)+2=m+1 by omega] at this
      exact this
def Tr.FG {α:Type} (q:Nat->α->Prop):Tr α->(Nat->Nat)->Prop
 | .leaf,_=>True
 | .node l v r,f=>(match v with
   | some x=>q (f 0) x
   | none=>True)/\Tr.FG q l (λn=>f (2*n+1))/\Tr.FG q r (λn=>f (2*n+2))
def Tr.AI {α:Type} (q:Nat->α->Prop):∀ (t:Tr α) (f:Nat->Nat),Tr.FG q t f->∀ (n:Nat) (x : α),t.get n=some x->q (f n) x
 | .leaf,_,_,n,x,h=>by simp [Tr.get] at h
 | .node l v r,f,ha,n,x,h=>by
   simp only [Tr.FG] at ha
   obtain ⟨h1,h2,h3⟩:=ha
   cases n with
   | zero =>
     simp only [Tr.get] at h
     rw [h] at h1
     exact h1
   | succ m =>
     simp only [Tr.get] at h
     split at h
     ·rename_i hm
      have hm:=Nat.eq_of_beq_eq_true hm
      have:=Tr.AI q l _ h2 (m / 2) x h
      rw [show 2*(m / 2)+1=m+1 by omega] at this
      exact this
     ·rename_i hm
      have hm:m % 2≠0:=Nat.ne_of_beq_eq_false hm
      have:=Tr.AI q r _ h3 (m / 2) x h
      rw [show 2*(m / 2)+2=m+1 by omega] at this
      exact this
def US {t:Tr TI} (h:Tr.Cl (Lg P) t id=true):kx P ⟨t.get⟩ :=
 ⟨λn ti hn=>WH (Tr.AN (Lg P) t id h n ti hn)⟩
end
end Go.Sx
namespace Go.Sx
open Go
section
variable (C:jZ) (F:lA) (Pr:kU)
def ji (shd:Bool) (f:Nat) (args:List AV) (h:aT) (v:AV) (h':aT):Prop:=∃ m,∀ k,m<=k->l3 C F Pr k shd f args h=some (v,h')
abbrev XN (fa:iN) (k:Nat):Ctx:=⟨C,fa,l3 C F Pr k⟩
def Wp (fa:iN) (c:Code) (an:lK) (Q:Ex->Env->aT->Prop) (e:Env) (h:aT):Prop :=
 ∃ x e' h',(∃ m,∀ k,m<=k->kj (XN C F Pr fa k) (kP k) c an e h=some (x,e',h'))/\Q x e' h'
def kO (fa:iN) (all ops:List Oper) (Q:Env->aT->Prop) (e:Env) (h:aT):Prop :=
 ∃ e' h',(∃ m,∀ k,m<=k->yu (XN C F Pr fa k) all ops e h=some (e',h'))/\Q e' h'
def kX (fa:iN) (all:List Oper) (sch:List (Nat×List Nat)) (Q:Env->aT->Prop) (e:Env) (h:aT):Prop :=
 ∃ e' h',(∃ m,∀ k,m<=k->tb (XN C F Pr fa k) all sch e h=some (e',h'))/\Q e' h'
end
section
variable {C:jZ} {F:lA} {Pr:kU} {fa:iN} {Q:Ex->Env->aT->Prop} {e:Env} {h:aT}
def Wp.mono {c:Code} {an:lK} {Q':Ex->Env->aT->Prop} (w:Wp C F Pr fa c an Q e h) (hq:∀ x e h,Q x e h->Q' x e h):Wp C F Pr fa c an Q' e h :=
 let ⟨x,e',h',m,q⟩:=w; ⟨x,e',h',m,hq _ _ _ q⟩
def N3 {an:lK} (q:Q .kE e h):Wp C F Pr fa .skip an Q e h:=⟨_,_,_,⟨0,λ_ _=>rfl⟩,q⟩
def Lt {l:Nat} {an:lK} (q:Q .kE e h):Wp C F Pr fa (.label l) an Q e h:=⟨_,_,_,⟨0,λ_ _=>rfl⟩,q⟩
def Ou {id:Nat} {an:lK} (q:Q (.ext id) e h):Wp C F Pr fa (.exit id) an Q e h:=⟨_,_,_,⟨0,λ_ _=>rfl⟩,q⟩
def T2 {an:lK} (q:Q .ret e h):Wp C F Pr fa .ret an Q e h:=⟨_,_,_,⟨0,λ_ _=>rfl⟩,q⟩
def sT {c:Code} {an:lK} (w:Wp C F Pr fa c an Q e h):Wp C F Pr fa (.scope c) an Q e h:=w
def vJ (next:Env->aT->Prop) (Q:Ex->Env->aT->Prop):Ex->Env->aT->Prop
 | .kE,e,h=>next e h
 | x,e,h=>Q x e h
def V8 {a b:Code} {x y:lK} (w:Wp C F Pr fa a x (vJ (Wp C F Pr fa b y Q) Q) e h):Wp C F Pr fa (.seq a b) (.sq x y) Q e h:=by
 obtain ⟨x1,e1,h1,⟨m1,hm1⟩,q1⟩:=w
 cases x1 with
 | kE =>
   obtain ⟨x2,e2,h2,⟨m2,hm2⟩,q2⟩:=q1
   refine ⟨x2,e2,h2,⟨max m1 m2,λk hk=>?_⟩,q2⟩
   simp only [kj,yy,hm1 k (by omega),andThen]
   grind
 | ext id=>exact ⟨_,e1,h1,⟨m1,λk hk=>by simp_all [kj,yy,andThen]⟩,q1⟩
 | ret=>exact ⟨_,e1,h1,⟨m1,λk hk=>by simp_all [kj,yy,andThen]⟩,q1⟩
def Gz {a b:Code} {live:List Nat} {x y:lK} (w:Wp C F Pr fa a x (vJ (λe h=>Wp C F Pr fa b y Q (proj live e) { h with iI:=lz live h.iI }) Q) e h):Wp C F Pr fa (.seq a b) (.seq live x y) Q e h:=by
 obtain ⟨x1,e1,h1,⟨m1,hm1⟩,q1⟩:=w
 cases x1 with
 | kE =>
   obtain ⟨x2,e2,h2,⟨m2,hm2⟩,q2⟩:=q1
   refine ⟨x2,e2,h2,⟨max m1 m2,λk hk=>?_⟩,q2⟩
   simp only [kj,yy,hm1 k (by omega),andThen,oJ]
   grind
 | ext id=>exact ⟨_,e1,h1,⟨m1,λk hk=>by simp_all [kj,yy,andThen]⟩,q1⟩
 | ret=>exact ⟨_,e1,h1,⟨m1,λk hk=>by simp_all [kj,yy,andThen]⟩,q1⟩
def FO {c:Operand} {a b:Code} {x y:lK} {t:Bool} (hc:iZ e c=.bool t) (w1:t=true->Wp C F Pr fa a x Q e h) (w2:t=false->Wp C F Pr fa b y Q e h):Wp C F Pr fa (.cond c a b) (.two x y) Q e h:=by
 cases t with
 | true =>
   obtain ⟨x1,e1,h1,⟨m1,hm1⟩,q1⟩:=w1 rfl
   exact ⟨x1,e1,h1,⟨m1,λk hk=>by simp_all [kj,Dw,DC,AV.bool?]⟩,q1⟩
 | false =>
   obtain ⟨x1,e1,h1,⟨m1,hm1⟩,q1⟩:=w2 rfl
   exact ⟨x1,e1,h1,⟨m1,λk hk=>by simp_all [kj,Dw,DC,AV.bool?]⟩,q1⟩
def HJ (id:Nat) (Q:Ex->Env->aT->Prop):Ex->Env->aT->Prop
 | .ext i,e,h=>if i=id then Q .kE e h else Q (.ext i) e h
 | x,e,h=>Q x e h
def Kl {id:Nat} {a:Code} {an:lK} (w:Wp C F Pr fa a an (HJ id Q) e h):Wp C F Pr fa (.block id a) an Q e h:=by
 obtain ⟨x1,e1,h1,⟨m1,hm1⟩,q1⟩:=w
 cases x1 with
 | kE=>exact ⟨_,e1,h1,⟨m1,λk hk=>by simp_all [kj,wD,atEnd]⟩,q1⟩
 | ret=>exact ⟨_,e1,h1,⟨m1,λk hk=>by simp_all [kj,wD,atEnd]⟩,q1⟩
 | ext i =>
   simp only [HJ] at q1
   split at q1
   ·rename_i hi
    subst hi
    exact ⟨_,e1,h1,⟨m1,λk hk=>by simp_all [kj,wD,atEnd]⟩,q1⟩
   ·rename_i hi
    have hb:Nat.beq i id=false:=by
     cases hq:Nat.beq i id<;>simp_all
    exact ⟨_,e1,h1,⟨m1,λk hk=>by simp_all [kj,wD,atEnd]⟩,q1⟩
def nS {c:Code} {live:List Nat} {an:lK} (I:Nat->Env->aT->Prop)
  (round:∀ n e h,I n e h->Wp C F Pr fa c an (vJ (λe' h'=>∃ m,m<n/\I m e' h') Q) (proj live e) { h with iI:=lz live h.iI }) :
  ∀ (n:Nat) (e:Env) (h:aT),I n e h->Wp C F Pr fa (.loop c) (.loop live an) Q e h:=by
 have key:∀ (n:Nat) (e:Env) (h:aT),I n e h->∃ x e' h',(∃ M,∀ k j,M<=k->M<=j->kP j (lQ live (kj (XN C F Pr fa k) (kP k) c an)) e h=some (x,e',h'))/\Q x e' h':=by
  intro n
  induction n using Nat.strongRecOn with
  | _ n ih =>
    intro e h hI
    obtain ⟨x1,e1,h1,⟨m1,hm1⟩,q1⟩:=round n e h hI
    have other:∀ x1,(∀ e h,vJ (λe' h'=>∃ m,m<n/\I m e' h') Q x1 e h=Q x1 e h)->x1≠.kE->(∀ k,m1<=k->kj (XN C F Pr fa k) (kP k) c an (proj live e) { h with iI:=lz live h.iI }=some (x1,e1,h1))->Q x1 e1 h1 ->
      ∃ x e' h',(∃ M,∀ k j,M<=k->M<=j->kP j (lQ live (kj (XN C F Pr fa k) (kP k) c an)) e h=some (x,e',h'))/\Q x e' h':=by
     intro x1 _ hne hm q
     refine ⟨x1,e1,h1,⟨m1+1,λk j hk hj=>?_⟩,q⟩
     obtain ⟨j,rfl⟩:∃ j',j=j'+1:=⟨j - 1,by omega⟩
     grind [kP,oJ]
    cases x1 with
    | kE =>
      obtain ⟨m,hlt,hI1⟩:=q1
      obtain ⟨x2,e2,h2,⟨M,hM⟩,q2⟩:=ih m hlt e1 h1 hI1
      refine ⟨x2,e2,h2,⟨max m1 M+1,λk j hk hj=>?_⟩,q2⟩
      obtain ⟨j,rfl⟩:∃ j',j=j'+1:=⟨j - 1,by omega⟩
      grind [kP,oJ]
    | ext id=>exact other (.ext id) (λ_ _=>rfl) (by simp) hm1 q1
    | ret=>exact other .ret (λ_ _=>rfl) (by simp) hm1 q1
 intro n e h hI
 obtain ⟨x,e',h',⟨M,hM⟩,q⟩:=key n e h hI
 exact ⟨x,e',h',⟨M,λk hk=>hM k k hk hk⟩,q⟩
def Ig {id:Nat} {ops:Array Oper} {an:lK} (w:kO C F Pr fa ops.toList ops.toList (Q .kE) e h):Wp C F Pr fa (.region id ops false) an Q e h:=by
 obtain ⟨e1,h1,⟨m1,hm1⟩,q1⟩:=w
 exact ⟨.kE,e1,h1,⟨m1,λk hk=>by simp_all [kj,wx,IZ,xH]⟩,q1⟩
def Ki {id:Nat} {ops:Array Oper} {sch:List (Nat×List Nat)} (w:kX C F Pr fa ops.toList sch (Q .kE) e h):Wp C F Pr fa (.region id ops true) (.oU sch) Q e h:=by
 obtain ⟨e1,h1,⟨m1,hm1⟩,q1⟩:=w
 exact ⟨.kE,e1,h1,⟨m1,λk hk=>by simp_all [kj,wx,yT,xH]⟩,q1⟩
variable {all rest:List Oper} {o:Oper} {q:Env->aT->Prop}
def TR (w:q e h):kO C F Pr fa all [] q e h:=⟨e,h,⟨0,λ_ _=>rfl⟩,w⟩
def zK {v:AV} {h1:aT} (hw:jt all e o=some true) (hop:∃ m,∀ k,m<=k->jL o.op (XN C F Pr fa k) e h o.dst=some (v,h1)) (w:kO C F Pr fa all rest q (jn e o v) h1):kO C F Pr fa all (o::rest) q e h:=by
 obtain ⟨m,hm⟩:=hop
 obtain ⟨e2,h2,⟨m2,hm2⟩,q2⟩:=w
 refine ⟨e2,h2,⟨max m m2,λk hk=>?_⟩,q2⟩
 grind [yu,pX,zc]
theorem iT {v:AV} {h1:aT} (hw:jt all e o=some true) (hop:∀ call,jL o.op ⟨C,fa,call⟩ e h o.dst=some (v,h1)) (w:kO C F Pr fa all rest q (jn e o v) h1):kO C F Pr fa all (o::rest) q e h :=
 zK hw ⟨0,λ_ _=>hop _⟩ w
def N5 (hw:jt all e o=some false) (w:kO C F Pr fa all rest q (jn e o (.jl [])) h):kO C F Pr fa all (o::rest) q e h:=by
 obtain ⟨e2,h2,⟨m2,hm2⟩,q2⟩:=w
 refine ⟨e2,h2,⟨m2,λk hk=>?_⟩,q2⟩
 grind [yu,pX]
def Ut (w:q e h):kX C F Pr fa all [] q e h:=⟨e,h,⟨0,λ_ _=>rfl⟩,w⟩
def Cs {i:Nat} {sch:List (Nat×List Nat)} {v:AV} {h1:aT} (ho:all[i]?=some o) (hw:jt all e o=some true) (hop:∃ m,∀ k,m<=k->jL o.op (XN C F Pr fa k) e h o.dst=some (v,h1))
  (w:kX C F Pr fa all sch q (jn e o v) h1):kX C F Pr fa all ((i,[])::sch) q e h:=by
 obtain ⟨m,hm⟩:=hop
 obtain ⟨e2,h2,⟨m2,hm2⟩,q2⟩:=w
 refine ⟨e2,h2,⟨max m m2,λk hk=>?_⟩,q2⟩
 grind [tb,pX,zc]
theorem jh {i:Nat} {sch:List (Nat×List Nat)} {v:AV} {h1:aT} (ho:all[i]?=some o) (hw:jt all e o=some true) (hop:∀ call,jL o.op ⟨C,fa,call⟩ e h o.dst=some (v,h1))
  (w:kX C F Pr fa all sch q (jn e o v) h1):kX C F Pr fa all ((i,[])::sch) q e h :=
 Cs ho hw ⟨0,λ_ _=>hop _⟩ w
def Mm {i:Nat} {sch:List (Nat×List Nat)} (ho:all[i]?=some o) (hw:jt all e o=some false) (w:kX C F Pr fa all sch q (jn e o (.jl [])) h):kX C F Pr fa all ((i,[])::sch) q e h:=by
 obtain ⟨e2,h2,⟨m2,hm2⟩,q2⟩:=w
 refine ⟨e2,h2,⟨m2,λk hk=>?_⟩,q2⟩
 grind [tb,pX]
def D2 {f:Nat} {g:Operand} {c:Call} {args:List AV} {v:AV} {d:Option Nat} (hf:c.callee=.value g) (hg:iZ e g=.jQ f [] []) (ha:c.args.toList.map (iZ e)=args) (hok:args.all AV.nA=true) (hs:fa.jw.elem f=false)
  (w:ji C F Pr false f args { h with iI:=[] } v { h with iI:=[] }):∃ m,∀ k,m<=k->jL (.call c) (XN C F Pr fa k) e h d=some (v,h):=by
 obtain ⟨m,hm⟩:=w
 refine ⟨m,λk hk=>?_⟩
 simp only [jL,pJ,oO,hf,hg,ha,uQ,BW,List.nil_append,List.append_nil,hok,hs,hm k hk,wI]
def EN {f:Nat} {g:Operand} {c:Call} {args p q:List AV} {v:AV} {d:Option Nat} {h':aT} (hf:c.callee=.value g) (hg:iZ e g=.jQ f p q) (ha:c.args.toList.map (iZ e)=args) (hok:(p++args++q).all AV.nA=true) (hs:fa.jw.elem f=true)
  (w:ji C F Pr true f (p++args++q) { h with iI:=[] } v h'):∃ m,∀ k,m<=k->jL (.call c) (XN C F Pr fa k) e h d=some (v,{ h' with iI:=h.iI }):=by
 obtain ⟨m,hm⟩:=w
 refine ⟨m,λk hk=>?_⟩
 simp only [jL,pJ,oO,hf,hg,ha,uQ,BW,hok,hs,hm k hk,wI]
def Leaves (C:jZ) (res:List ResultVar) (R:AV->aT->Prop):Ex->Env->aT->Prop
 | .ext _,_,_=>False
 | _,e,h=>∃ v,leave.leave1 C res e h=some (v,h)/\R v h
def ya {f:Nat} {args:List AV} {R:AV->aT->Prop} (hP:Pr f=none) (hF:F f=some fa) (hi:fa.iter=false) (w:Wp C F Pr fa fa.body fa.lX (Leaves C fa.res R) (params 0 args) h) :
  ∃ v h',ji C F Pr true f args h v h'/\R v h':=by
 obtain ⟨x,e1,h1,⟨m,hm⟩,q⟩:=w
 have fin:∀ x:Ex,(x=.kE\/x=.ret)->(∀ k,m<=k->kj (XN C F Pr fa k) (kP k) fa.body fa.lX (params 0 args) h=some (x,e1,h1))->(∃ v,leave.leave1 C fa.res e1 h1=some (v,h1)/\R v h1)->∃ v h',ji C F Pr true f args h v h'/\R v h':=by
  rintro x hx hm ⟨v,hv,hR⟩
  refine ⟨v,h1,⟨m+1,λk hk=>?_⟩,hR⟩
  obtain ⟨k,rfl⟩:∃ k',k=k'+1:=⟨k - 1,by omega⟩
  simp only [l3,hP,hF,sD,tF,hi,Bn,hm k (by omega)]
  rcases hx with rfl | rfl<;>exact hv
 cases x with
 | kE=>exact fin .kE (.inl rfl) hm q
 | ret=>exact fin .ret (.inr rfl) hm q
 | ext id=>exact q.elim
def Lz {f:Nat} {args oc:List AV} {R:AV->Prop} (hP:Pr f=none) (hF:F f=some fa) (hi:fa.iter=false) (ha:lB h args=some oc)
  (w:Wp C F Pr fa fa.body fa.lX (Leaves C fa.res λv h'=>∃ v1,freeze false h' 8 v=some v1/\R v1) (params 0 oc) aT.empty) :
  ∃ v,ji C F Pr false f args h v h/\R v:=by
 obtain ⟨v,h1,⟨m,hm⟩,v1,hv1,hR⟩:=ya hP hF hi w
 refine ⟨v1,⟨m+1,λk hk=>?_⟩,hR⟩
 have hb:=hm k (by omega)
 obtain ⟨k,rfl⟩:∃ k',k=k'+1:=⟨k - 1,by omega⟩
 grind [l3,sD,frozen]
end
end Go.Sx
namespace Go.Sx
open Go
section
variable {C:jZ} {F:lA} {Pr:kU} {fa:iN} {e:Env} {h:aT} {all rest:List Oper} {o:Oper} {q:Env->aT->Prop}
variable {t u:Nat} {x y:Operand} {k k':IntKind} {a b:Int}
def j9 {c:BinOp} {X:Ctx} {d:Option Nat} {v:AV} (hx:iZ e x=.int k a) (hy:iZ e y=.int k' b) (hk:pa k k'=true) (hv:l9 c k a b=some v):jL (.binOp c t x y u) X e h d=some (v,h):=by
 simp_all [jL,Ao,binOp,AV.int?,EH,kV]
def GM (k:IntKind) (a b:Int):l9 .lss k a b=some (.bool (decide (a<b))):=by
 simp only [l9,I0,w8,wS,tK]
 grind
def Ul (k:IntKind) (a b:Int):l9 .leq k a b=some (.bool (decide (a<=b))):=by
 simp only [l9,Ic,w8,wS,Av]
def He (k:IntKind) (a b:Int):l9 .gtr k a b=some (.bool (decide (a > b))):=by
 simp only [l9,Ho,w8,wS,tK]
 grind
def GA (k:IntKind) (a b:Int):l9 .geq k a b=some (.bool (decide (a>=b))):=by
 simp_all [l9,Hn,w8,wS,Av]
def GH (k:IntKind) (a b:Int):l9 .eql k a b=some (.bool (decide (a=b))):=by
 simp only [l9,IT,w8,qC,Av]
 rfl
def G5 (k:IntKind) (a b:Int):l9 .neq k a b=some (.bool (decide (a≠b))):=by
 simp only [l9,HX,w8,qC,tK]
 grind
def om {p:Prop} [Decidable p] (hw:jt all e o=some true) (hop:∀ call,jL o.op ⟨C,fa,call⟩ e h o.dst=some (.bool (decide p),h))
  (w1:p->kO C F Pr fa all rest q (jn e o (.bool true)) h) (w2:¬ p->kO C F Pr fa all rest q (jn e o (.bool false)) h):kO C F Pr fa all (o::rest) q e h:=by
 by_cases hp:p<;>grind [iT]
def uh {X:Ctx} {d:Option Nat} {s r:List UInt8} (hx:iZ e x=.str s) (hy:iZ e y=.str r):jL (.binOp .eql t x y u) X e h d=some (.bool (decide (s=r)),h):=by
 simp only [jL,Ao,binOp,hx,hy,AV.int?,AV.str?,EO,B2,kV]
 grind
theorem mu (k:IntKind) (a b:Int):l9 .add k a b=some (.int k (k.wrap (a+b))):=by
 simp only [l9,Ht,tG,oi,qS,Cv]
theorem pW (k:IntKind) (a b:Int):l9 .sub k a b=some (.int k (k.wrap (a - b))):=by
 simp only [l9,JW,tG,oi,qS,Cv,CA]
 rfl
def TM (a b:Int) (h1 : -9223372036854775808<=a+b) (h2:a+b<=9223372036854775807):l9 .add .i64 a b=some (.int .i64 (a+b)):=by
 rw [mu,zm _ h1 h2]
def GC (a b:Int) (h1 : -9223372036854775808<=a - b) (h2:a - b<=9223372036854775807):l9 .sub .i64 a b=some (.int .i64 (a - b)):=by
 rw [pW,zm _ h1 h2]
def Sh {X:Ctx} {d:Option Nat} {el:Nat} {ti te:TI} {xs:List (List AV)} {c:m6} {n:Int} {r:List AV} (hT:X.C.T t=some ti) (hk:ti.kind=.slice el) (hE:X.C.T el=some te) (hx:iZ e x=.sl xs c) (hi:iZ e y=.int k n) (h0:0<=n)
  (hr:xs[n.toNat]?=some r) (hl:r.length=te.size):jL (.indexAddr t x y) X e h d=some (.ip r 0 (p6 c),h):=by
 obtain ⟨m,rfl⟩:=Int.eq_ofNat_of_zero_le h0
 simp only [Int.toNat_natCast] at hr
 have hai:p9 (.int k (m:Int))=some m:=rfl
 simp_all [jL,qa,pg,qE]
end
end Go.Sx
namespace Go.Sx
open Go
section
variable {C:jZ} {F:lA} {Pr:kU} {fa:iN} {e:Env} {h:aT} {all rest:List Oper} {o:Oper} {q:Env->aT->Prop} {Q:Ex->Env->aT->Prop}
def iW {c:Code} {live:List Nat} {an:lK} (N:Nat) (I:Nat->Env->aT->Prop)
  (round:∀ k e h,k<=N->I k e h->Wp C F Pr fa c an (vJ (λe' h'=>k<N/\I (k+1) e' h') Q) (proj live e) { h with iI:=lz live h.iI }) {k0:Nat} (hk:k0<=N) (h0:I k0 e h):Wp C F Pr fa (.loop c) (.loop live an) Q e h:=by
 refine nS (λn e h=>∃ k,k<=N/\n=N - k/\I k e h) ?_ (N - k0) e h ⟨k0,hk,rfl,h0⟩
 rintro n e h ⟨k,hk,rfl,hI⟩
 refine (round k e h hk hI).mono ?_
 intro x e' h' hx
 cases x with
 | kE =>
   obtain ⟨hlt,hI'⟩:=hx
   exact ⟨N - (k+1),by omega,k+1,by omega,rfl,hI'⟩
 | ext id=>exact hx
 | ret=>exact hx
def NZ {f:Nat} {g:Operand} {c:Call} {args:List AV} {R:AV->Prop} (ho:o.op=.call c) (hw:jt all e o=some true) (hf:c.callee=.value g) (hg:iZ e g=.jQ f [] []) (ha:c.args.toList.map (iZ e)=args) (hok:args.all AV.nA=true) (hs:fa.jw.elem f=false)
  (w:∀ h:aT,∃ v,ji C F Pr false f args h v h/\R v) (next:∀ v,R v->kO C F Pr fa all rest q (jn e o v) h):kO C F Pr fa all (o::rest) q e h:=by
 obtain ⟨v,hc,hR⟩:=w { h with iI:=[] }
 refine zK hw ?_ (next v hR)
 rw [ho]
 exact D2 hf hg ha hok hs hc
end
def Li {C:jZ} {F:lA} {Pr:kU} {fa:iN} {f:Nat} {args:List AV} {h:aT} {R:AV->Prop} (hP:Pr f=none) (hF:F f=some fa) (hi:fa.iter=false) (ha:lB h args=some args)
  (w:Wp C F Pr fa fa.body fa.lX (Leaves C fa.res λv0 h'=>∃ v1,freeze false h' 8 v0=some v1/\R v1) (params 0 args) aT.empty):∃ v,ji C F Pr false f args h v h/\R v:=Lz hP hF hi ha w
abbrev rX:Nat:=9223372036854775807
structure aiO (R:List AV->Prop) (xs:List (List AV)) (c:m6):Prop where
 row:∀ r∈xs,R r
 len:xs.length<=rX
 sn:p6 c=false
end Go.Sx
namespace Go.Sx
open Go
structure Row (α:Type) where
 l:List α
 c:m6
 ok:l.length<=rX
 sn:p6 c=false
 nl:c=.nil->l=[]
def Row.av {α:Type} (enc : α->List AV) (r:Row α):AV:=.sl (r.l.map enc) r.c
structure ns where
 l:List UInt8
 ok:l.length<=rX
def j4 (n:Int):List AV:=[.int .i64 n]
def mf (s:ns):List AV:=[.str s.l]
def Yb (b:Bool):List AV:=[.bool b]
structure iM where
 elem:Int
 en:Int
 deriving DecidableEq
def iM.ag (x:iM):List AV:=[.int .i64 x.elem,.int .i64 x.en]
structure ko where
 name:ns
 kind:Int
 len:Int
def ko.ag (x:ko):List AV:=[.str x.name.l,.int .i64 x.kind,.int .i64 x.len]
structure kD where
 a:iM
 b:iM
def kD.ag (x:kD):List AV:=[.int .i64 x.a.elem,.int .i64 x.a.en,.int .i64 x.b.elem,.int .i64 x.b.en]
structure kb where
 name:ns
 at_:iM
 auto:Bool
def kb.ag (x:kb):List AV:=[.str x.name.l,.int .i64 x.at_.elem,.int .i64 x.at_.en,.bool x.auto]
structure jN where
 name:ns
 elems:Row Int
def jN.ag (x:jN):List AV:=[.str x.name.l,x.elems.av j4]
structure bG where
 elems:Row ko
 jd:Row kD
 signals:Row kb
 lines:Row jN
 top:Int
 jT:Int
 kq:Int
 jX:Int
 kI:Bool
def bG.ag (p:bG):List AV:=[p.elems.av ko.ag,p.jd.av kD.ag,p.signals.av kb.ag,p.lines.av jN.ag,.int .i64 p.top,.int .i64 p.jT,.int .i64 p.kq,.int .i64 p.jX,.bool p.kI]
structure jr where
 name:ns
 len:Int
 top:Int
 acc:Int
 jT:Int
def jr.ag (x:jr):List AV:=[.str x.name.l,.int .i64 x.len,.int .i64 x.top,.int .i64 x.acc,.int .i64 x.jT]
structure jR where
 Al:Bool
 at_:Int
 end_:Int
 to:Int
def jR.ag (x:jR):List AV:=[.bool x.Al,.int .i64 x.at_,.int .i64 x.end_,.int .i64 x.to]
structure jC where
 name:ns
 iU:Int
 from_:Int
 left:Int
 iY:Row jR
def jC.ag (x:jC):List AV:=[.str x.name.l,.int .i64 x.iU,.int .i64 x.from_,.int .i64 x.left,x.iY.av jR.ag]
structure iO where
 uu:Int
 iU:Row jr
 runs:Row jC
def iO.ag (x:iO):List AV:=[.int .i64 x.uu,x.iU.av jr.ag,x.runs.av jC.ag]
structure lE where
 mode:Int
 mY:Row iM
 left:Int
 yk:Int
 v:Int
def lE.ag (x:lE):List AV:=[.int .i64 x.mode,x.mY.av iM.ag,.int .i64 x.left,.int .i64 x.yk,.int .i64 x.v]
structure kF where
 name:ns
 iU:Int
 at_:iM
 left:Int
def kF.ag (x:kF):List AV:=[.str x.name.l,.int .i64 x.iU,.int .i64 x.at_.elem,.int .i64 x.at_.en,.int .i64 x.left]
structure j8 where
 out:Int
 pos:Int
def j8.ag (x:j8):List AV:=[.int .i64 x.out,.int .i64 x.pos]
structure jg where
 elem:Int
 oB:Int
 out:Int
def jg.ag (x:jg):List AV:=[.int .i64 x.elem,.int .i64 x.oB,.int .i64 x.out]
structure jO where
 elem:Int
 pos:Int
def jO.ag (x:jO):List AV:=[.int .i64 x.elem,.int .i64 x.pos]
structure ja where
 from_:Int
 to:Int
 end_:Int
 steps:Row jg
 l8:Row jO
 guards:Row jO
 mB:Row Int
 holds:Row Int
 bare:Bool
def ja.ag (x:ja):List AV:=[.int .i64 x.from_,.int .i64 x.to,.int .i64 x.end_,x.steps.av jg.ag,x.l8.av jO.ag,x.guards.av jO.ag,x.mB.av j4,x.holds.av j4,.bool x.bare]
section
variable {C:jZ} {F:lA} {Pr:kU} {fa:iN} {e:Env} {h:aT} {all rest:List Oper} {o:Oper} {q:Env->aT->Prop} {Q:Ex->Env->aT->Prop}
variable {α:Type} {enc : α->List AV}
def abz {c:Code} {an:lK} {e':Env} {h':aT} (he:e=e') (hh:h=h') (w:Wp C F Pr fa c an Q e' h'):Wp C F Pr fa c an Q e h:=by grind
def lY {b:Bool} (hw:jt all e o=some true) (hop:∀ call,jL o.op ⟨C,fa,call⟩ e h o.dst=some (.bool b,h))
  (w1:b=true->kO C F Pr fa all rest q (jn e o (.bool true)) h) (w2:b=false->kO C F Pr fa all rest q (jn e o (.bool false)) h):kO C F Pr fa all (o::rest) q e h:=by
 cases b<;>grind [iT]
def o3 {i:Nat} {sch:List (Nat×List Nat)} {p:Prop} [Decidable p] (ho:all[i]?=some o) (hw:jt all e o=some true) (hop:∀ call,jL o.op ⟨C,fa,call⟩ e h o.dst=some (.bool (decide p),h))
  (w1:p->kX C F Pr fa all sch q (jn e o (.bool true)) h) (w2:¬ p->kX C F Pr fa all sch q (jn e o (.bool false)) h):kX C F Pr fa all ((i,[])::sch) q e h:=by
 by_cases hp:p<;>grind [jh]
def Mb {i:Nat} {sch:List (Nat×List Nat)} {b:Bool} (ho:all[i]?=some o) (hw:jt all e o=some true) (hop:∀ call,jL o.op ⟨C,fa,call⟩ e h o.dst=some (.bool b,h))
  (w1:b=true->kX C F Pr fa all sch q (jn e o (.bool true)) h) (w2:b=false->kX C F Pr fa all sch q (jn e o (.bool false)) h):kX C F Pr fa all ((i,[])::sch) q e h:=by
 cases b<;>grind [jh]
def Mq {i:Nat} {sch:List (Nat×List Nat)} {f:Nat} {g:Operand} {c:Call} {args:List AV} {R:AV->Prop} (hi:all[i]?=some o) (hw:jt all e o=some true) (ho:o.op=.call c) (hf:c.callee=.value g) (hg:iZ e g=.jQ f [] []) (ha:c.args.toList.map (iZ e)=args) (hok:args.all AV.nA=true) (hs:fa.jw.elem f=false)
  (w:∀ h:aT,∃ v,ji C F Pr false f args h v h/\R v) (next:∀ v,R v->kX C F Pr fa all sch q (jn e o v) h):kX C F Pr fa all ((i,[])::sch) q e h:=by
 obtain ⟨v,hc,hR⟩:=w { h with iI:=[] }
 refine Cs hi hw ?_ (next v hR)
 rw [ho]
 exact D2 hf hg ha hok hs hc
def Hg {X:Ctx} {d:Option Nat} {t el:Nat} {x:Operand} {cl:Call} {ti:TI} {r:Row α} (hc:cl.callee=.builtin .len) (ha:cl.args.toList=[x]) (hts:cl.argTypes.toList=[t]) (hT:X.C.T t=some ti) (hk:ti.kind=.slice el) (hx:iZ e x=r.av enc) :
  jL (.call cl) X e h d=some (.int .i64 r.l.length,h):=by
 simp_all [jL,pJ,oO,mH,w7,uV,vW,Row.av,u5,py]
theorem wY {X:Ctx} {d:Option Nat} {t el:Nat} {x y:Operand} {ti te:TI} {r:Row α} {k:IntKind} {n:Nat} (hT:X.C.T t=some ti) (hk:ti.kind=.slice el) (hE:X.C.T el=some te) (hx:iZ e x=r.av enc) (hi:iZ e y=.int k (n:Int))
  (hn:n<r.l.length) (hl:(enc r.l[n]).length=te.size):jL (.indexAddr t x y) X e h d=some (.ip (enc r.l[n]) 0 false,h):=by
 rw [<- r.sn]
 exact Sh hT hk hE hx hi (by omega) (r:=enc r.l[n]) (by simp [hn]) hl
def jA {X:Ctx} {d:Option Nat} {t el:Nat} {x y:Operand} {ti te:TI} {r:Row α} {k:IntKind} {n:Int} (hT:X.C.T t=some ti) (hk:ti.kind=.slice el) (hE:X.C.T el=some te) (hx:iZ e x=r.av enc) (hi:iZ e y=.int k n) (h0:0<=n)
  (hn:n.toNat<r.l.length) (hl:(enc r.l[n.toNat]).length=te.size):jL (.indexAddr t x y) X e h d=some (.ip (enc r.l[n.toNat]) 0 false,h):=by
 grind [wY]
theorem Kk (a b c d:Int):mh [.int .i64 a,.int .i64 b] [.int .i64 c,.int .i64 d]=some (decide (a=c/\b=d)):=by
 simp only [mh,mz,vE,AV.int?,pa,qC]
 have e1:(a==c)=decide (a=c):=rfl
 have e2:(b==d)=decide (b=d):=rfl
 rw [e1,e2]
 by_cases h1:a=c<;>by_cases h2:b=d<;>simp [h1,h2]
def wO {X:Ctx} {dd:Option Nat} {t u:Nat} {x y:Operand} {ti:TI} {a b c d:Int} (hx:iZ e x=.agg [.int .i64 a,.int .i64 b]) (hy:iZ e y=.agg [.int .i64 c,.int .i64 d])
  (hT:X.C.T t=some ti) (hf:∀ a b:Int,zp ti (.agg [.int .i64 a,.int .i64 b]) (.agg [.int .i64 c,.int .i64 d])=mh [.int .i64 a,.int .i64 b] [.int .i64 c,.int .i64 d]) :
  jL (.binOp .eql t x y u) X e h dd=some (.bool (decide (a=c/\b=d)),h):=by
 simp_all [jL,Ao,binOp,AV.int?,AV.str?,Bx,Kk,kV]
theorem ug {sn:Bool} {hp:aT} {n:Nat} (r:Row α):freeze sn hp (n+1) (Row.av enc r)=some (Row.av enc r):=by
 have:=r.sn
 grind [Row.av,freeze,p6]
theorem wR {sn:Bool} {hp:aT} {n:Nat} (k:IntKind) (a:Int):freeze sn hp (n+1) (.int k a)=some (.int k a):=rfl
theorem uG {sn:Bool} {hp:aT} {n:Nat} (a:Bool):freeze sn hp (n+1) (.bool a)=some (.bool a):=rfl
theorem wQ {sn:Bool} {hp:aT} {n:Nat} (a:List UInt8):freeze sn hp (n+1) (.str a)=some (.str a):=rfl
theorem T6 {sn:Bool} {hp:aT} {n:Nat} (l:List AV):freeze sn hp (n+1) (.agg l)=(match jJ (freeze sn hp n) l with
   | some l=>some (.agg l)
   | none=>none):=rfl
def yK {X:Ctx} {d:Option Nat} {t:Nat} {x y:Operand} {ti:TI} {s:List UInt8} {k:IntKind} {n:Nat} (hT:X.C.T t=some ti) (hk:ti.kind=.str) (hx:iZ e x=.str s) (hi:iZ e y=.int k (n:Int)) (hn:n<s.length):jL (.index t x y) X e h d=some (.int .u8 s[n].toNat,h):=by
 have hai:p9 (.int k (n:Int))=some n:=rfl
 simp_all [jL,AT,yU,AV.str?]
def Row.isNil (r:Row α):Bool:=match r.c with
 | .nil=>true
 | _=>false
def Row.of_nil {r:Row α} (h:r.isNil=true):r.l=[]:=by
 apply r.nl
 grind [Row.isNil]
end
end Go.Sx
namespace Go.Sx
open Go
def lJ:AV->Option Nat
 | .hs b _ _ _=>some b
 | .hm b=>some b
 | .ptr b _ _ _=>some b
 | _=>none
def zX {α:Type} (H:aT) (n:Nat) (enc : α->List AV) (v:AV) (l:List α):Prop :=
 (l=[]/\v=.sl [] .nil)\/(v=.sl (l.map enc) (.exact l.length))\/∃ b g,b<H.size/\v=.hs b g 0 l.length/\H.get b=some (.iQ g n (l.map enc))
structure zb (H H':aT) (v v':AV):Prop where
 lo:H'.lo=H.lo
 size:H.size<=H'.size
 get:∀ b,b<H.size->lJ v≠some b->H'.get b=H.get b
 own:∀ b,lJ v'=some b->lJ v=some b\/H.size<=b
theorem aT.lO (H:aT) (ls:lh) (b:Nat):({ H with iI:=ls }:aT).get b=H.get b:=rfl
theorem aT.yd (H:aT) (ls:lh) (o:kH):({ H with iI:=ls }:aT).push o = { H.push o with iI:=ls }:=by simp [aT.wm]
theorem aT.p5 (H:aT) (ls:lh) (b:Nat) (o:kH):({ H with iI:=ls }:aT).set b o = { H.set b o with iI:=ls }:=by simp [aT.yB]
def zb.refl (H:aT) (v:AV):zb H H v v:=⟨rfl,Nat.le_refl _,λ_ _ _=>rfl,λ_ h=>.inl h⟩
theorem zX.keep {α:Type} {H H':aT} {n:Nat} {enc : α->List AV} {v v' w:AV} {l:List α} (h:zX H n enc w l) (k:zb H H' v v') (hd:∀ b,lJ w=some b->lJ v≠some b):zX H' n enc w l:=by
 rcases h with h | h | ⟨b,g,hb,rfl,hg⟩
 ·exact .inl h
 ·exact .inr (.inl h)
 ·exact .inr (.inr ⟨b,g,Nat.lt_of_lt_of_le hb k.size,rfl,by rw [k.get b hb (hd b rfl)]; exact hg⟩)
def zX.lt {α:Type} {H:aT} {n:Nat} {enc : α->List AV} {w:AV} {l:List α} (h:zX H n enc w l):∀ b,lJ w=some b->b<H.size:=by
 rcases h with ⟨_,rfl⟩ | rfl | ⟨b,g,hb,rfl,hg⟩<;>grind [lJ]
def zb.apart {H H':aT} {v v' w:AV} (k:zb H H' v v') (hd:∀ b,lJ w=some b->lJ v≠some b) (hl:∀ b,lJ w=some b->b<H.size):∀ b,lJ w=some b->lJ v'≠some b:=by
 intro b hw hv
 rcases k.own b hv with h | h<;>grind
def xL (v w:AV):Prop:=∀ b,lJ v=some b->lJ w≠some b
theorem xL.symm {v w:AV} (h:xL v w):xL w v:=λb hw hv=>h b hv hw
def xL.nil {w:AV} {xs:List (List AV)} {c:m6}:xL (.sl xs c) w:=λb h=>by simp [lJ] at h
theorem xL.keep {α:Type} {H H':aT} {n:Nat} {enc : α->List AV} {v v' w:AV} {l:List α} (hd:xL v w) (k:zb H H' v v') (h:zX H n enc w l):xL v' w:=xL.symm (k.apart hd.symm h.lt)
theorem zX.I5 {α:Type} {H:aT} {n:Nat} {enc : α->List AV} {v:AV} {l:List α} (h:zX H n enc v l) (t:Nat):Go.Sx.keep t v=v:=by
 rcases h with ⟨_,rfl⟩ | rfl | ⟨_,_,_,rfl,_⟩<;>rfl
section
variable {C:jZ} {F:lA} {Pr:kU} {fa:iN} {e:Env} {all rest:List Oper} {o:Oper} {q:Env->aT->Prop}
variable {α:Type} {enc : α->List AV}
theorem zX.nA {H:aT} {n:Nat} {v:AV} {l:List α} (hb:zX H n enc v l):AV.nA v=true:=by
 rcases hb with ⟨rfl,rfl⟩ | rfl | ⟨b,g,hlt,rfl,hg⟩<;>rfl
def lN {C:jZ} {res:List ResultVar} {e:Env} {h:aT} {vs:List AV} (h1:Co C e h res=some vs) (h2:vs.all AV.nA=true):leave.leave1 C res e h=some (result vs,h):=by
 grind [leave.leave1]
def Row.take (r:Row α) (k:Nat):Row α:=⟨r.l.take k,r.c,by have:=r.ok; grind,r.sn,λh=>by rw [r.nl h]; simp⟩
def Aw {X:Ctx} {d:Option Nat} {t el n k:Nat} {x y:Operand} {ti te:TI} {h:aT} {r:Row α} {kd:IntKind} (hT:X.C.T t=some ti) (hk:ti.kind=.slice el) (hE:X.C.T el=some te) (hx:iZ e x=r.av enc) (hy:iZ e y=.int kd (k:Int)) (hn:te.size=n) (hkl:k<=r.l.length) (henc:∀ x,(enc x).length=n) :
  jL (.slice t x none (some y) none) X e h d=some ((r.take k).av enc,h):=by
 have hai:p9 (.int kd (k:Int))=some k:=rfl
 have h0:Nat.ble 0 k=true:=Nat.ble_eq.mpr (Nat.zero_le _)
 have h1:Nat.ble k (r.l.map enc).length=true:=Nat.ble_eq.mpr (by grind)
 have h2:oj n (r.l.map enc)=true:=by
  cases r.l with
  | nil=>rfl
  | cons a l=>simp_all [oj]
 have h3:pv 0 r.c=r.c:=by cases r.c<;>rfl
 simp only [jL,pU,pz,hT,hk,hE,hx,hy,Row.av,slice,vD,nE,bound,hai,qf,hn,h1,h2,h0,Bool.true_and,Bool.and_true,List.drop_zero,Nat.sub_zero,p3,h3,kV,Row.take,List.map_take]
end
end Go.Sx
namespace Go.Sx
open Go
def look {κ β:Type} [DecidableEq κ] (k : κ):List (κ×β)->Option β
 | []=>none
 | x::l=>if k=x.1 then some x.2 else look k l
def j1 {κ β:Type} (ek : κ->AV) (ev : β->AV) (l:List (κ×β)):List (AV×AV):=l.map λx=>(ek x.1,ev x.2)
def pK (p:iM):AV:=.agg p.ag
def iK (n:Int):AV:=.int .i64 n
def tc (p:Int×Int):AV:=.agg [.int .i64 p.1,.int .i64 p.2]
structure iX where
 p:bG
 next:List (iM×iM)
 reads:List (iM×Int)
 line:List (Int×Int×Int)
 lead:List (Int×Int)
def iX.ag (n:iX):List AV:=[n.p.elems.av ko.ag,n.p.jd.av kD.ag,n.p.signals.av kb.ag,n.p.lines.av jN.ag,.int .i64 n.p.top,.int .i64 n.p.jT,.int .i64 n.p.kq,.int .i64 n.p.jX,.bool n.p.kI,
 .fm (j1 pK pK n.next) false,.fm (j1 pK iK n.reads) false,.fm (j1 iK tc n.line) false,.fm (j1 iK iK n.lead) false]
def lF (a b:iM):lR (pK a) (pK b)=some (decide (a=b)):=by
 have h:(a=b)↔(a.elem=b.elem/\a.en=b.en):=by cases a; cases b; simp
 grind [lR,pK,iM.ag,AV.agg?,BJ,Kk]
def pE (a b:Int):lR (iK a) (iK b)=some (decide (a=b)):=by
 simp only [lR,iK,AV.agg?,mz,vE,AV.int?,pa,qC]
 rfl
theorem Fc {κ β:Type} [DecidableEq κ] {ek : κ->AV} {ev : β->AV} (hk:∀ a b,lR (ek a) (ek b)=some (decide (a=b))) (k : κ) (l:List (κ×β)):ra (ek k) (j1 ek ev l)=some ((look k l).map ev):=by
 induction l<;>grind [j1,ra,look]
section
variable {C:jZ} {F:lA} {Pr:kU} {fa:iN} {e:Env} {h:aT} {all rest:List Oper} {o:Oper} {q:Env->aT->Prop}
variable {κ β:Type} [DecidableEq κ] {ek : κ->AV} {ev : β->AV}
theorem zw {X:Ctx} {d:Option Nat} {t kt el:Nat} {m k:Operand} {tm te:TI} {key : κ} {l:List (κ×β)} {z:AV} {s:Bool} (hT:X.C.T t=some tm) (hk:tm.kind=.map kt el) (hE:X.C.T el=some te) (hm:iZ e m=.fm (j1 ek ev l) s) (hkk:iZ e k=ek key) (hK:qQ X.C kt (ek key)=true) (hz:asAgg te te.zero=some z) (hke:∀ a b,lR (ek a) (ek b)=some (decide (a=b))) :
  jL (.lookup t m k true) X e h d=some (match look key l with
   | some v=>.jl [ev v,.bool true]
   | none=>.jl [z,.bool false],h):=by
 simp only [jL,um,re,hT,hk,hE,hkk,hK,hm,qA,Fc hke]
 grind [look,zJ,kV]
def xq {t kt el:Nat} {m k:Operand} {tm te:TI} {key : κ} {l:List (κ×β)} {z:AV} {s:Bool} (hw:jt all e o=some true) (ho:o.op=.lookup t m k true) (hT:C.T t=some tm) (hk:tm.kind=.map kt el) (hE:C.T el=some te) (hm:iZ e m=.fm (j1 ek ev l) s) (hkk:iZ e k=ek key) (hK:qQ C kt (ek key)=true) (hz:asAgg te te.zero=some z) (hke:∀ a b,lR (ek a) (ek b)=some (decide (a=b)))
  (w1:∀ v,look key l=some v->kO C F Pr fa all rest q (jn e o (.jl [ev v,.bool true])) h) (w2:look key l=none->kO C F Pr fa all rest q (jn e o (.jl [z,.bool false])) h):kO C F Pr fa all (o::rest) q e h:=by
 cases hl:look key l with
 | none=>exact iT hw (λcall=>by rw [ho,zw hT hk hE hm hkk hK hz hke,hl]) (w2 hl)
 | some v=>exact iT hw (λcall=>by rw [ho,zw hT hk hE hm hkk hK hz hke,hl]) (w1 v hl)
def Ev {i:Nat} {sch:List (Nat×List Nat)} {t kt el:Nat} {m k:Operand} {tm te:TI} {key : κ} {l:List (κ×β)} {z:AV} {s:Bool} (hi:all[i]?=some o) (hw:jt all e o=some true) (ho:o.op=.lookup t m k true) (hT:C.T t=some tm) (hk:tm.kind=.map kt el) (hE:C.T el=some te) (hm:iZ e m=.fm (j1 ek ev l) s) (hkk:iZ e k=ek key) (hK:qQ C kt (ek key)=true) (hz:asAgg te te.zero=some z) (hke:∀ a b,lR (ek a) (ek b)=some (decide (a=b)))
  (w1:∀ v,look key l=some v->kX C F Pr fa all sch q (jn e o (.jl [ev v,.bool true])) h) (w2:look key l=none->kX C F Pr fa all sch q (jn e o (.jl [z,.bool false])) h):kX C F Pr fa all ((i,[])::sch) q e h:=by
 cases hl:look key l with
 | none=>exact jh hi hw (λcall=>by rw [ho,zw hT hk hE hm hkk hK hz hke,hl]) (w2 hl)
 | some v=>exact jh hi hw (λcall=>by rw [ho,zw hT hk hE hm hkk hK hz hke,hl]) (w1 v hl)
end
end Go.Sx
namespace Go.Sx
open Go
inductive jW where
 | sl (w t:Bool) (v:AV) (n:Nat) (xs:List (List AV))
 | map (v:AV) (es:List (AV×AV))
 | obj (v:AV) (cs:List AV)
def jW.v:jW->AV
 | .sl _ _ v _ _=>v
 | .map v _=>v
 | .obj v _=>v
def od (es:List (AV×AV×Nat)):List (AV×AV):=es.map λx=>(x.1,x.2.1)
def wE (es:List (AV×AV×Nat)) (c:Nat):Prop:=(∀ x∈es,x.2.2<c)/\es.Pairwise λa b=>a.2.2≠b.2.2
def wE.snoc {es:List (AV×AV×Nat)} {c:Nat} (h:wE es c) (k v:AV):wE (es++[(k,v,c)]) (c+1):=by
 refine ⟨λx hx=>?_,List.pairwise_append.mpr ⟨h.2,by simp,λa ha b hb=>?_⟩⟩
 ·rcases List.mem_append.mp hx with hx | hx
  ·have:=h.1 x hx; omega
  grind
 ·simp at hb; subst hb; have:=h.1 a ha; grind
def wE.modify {es:List (AV×AV×Nat)} {c:Nat} (h:wE es c) (i:Nat) (f:AV×AV×Nat->AV×AV×Nat) (hf:∀ e,(f e).2.2=e.2.2):wE (es.modify i f) c:=by
 have hm:(es.modify i f).map (λx=>x.2.2)=es.map (λx=>x.2.2):=by
  apply List.ext_getElem (by simp)
  grind
 have h1:∀ x∈(es.modify i f).map (λx=>x.2.2),x<c:=by
  rw [hm]; intro x hx; obtain ⟨y,hy,rfl⟩:=List.mem_map.mp hx; exact h.1 y hy
 refine ⟨λx hx=>h1 _ (List.mem_map_of_mem hx),?_⟩
 have h2:((es.modify i f).map (λx=>x.2.2)).Pairwise (·≠·):=by
  rw [hm,List.pairwise_map]; exact h.2
 grind
def jW.ok (H:aT):jW->Prop
 | .sl w t v n xs=>(∀ x∈xs,x.length=n)/\((xs=[]/\v=.sl [] .nil)\/((w=false\/xs=[])/\v=.sl xs (.exact xs.length))\/∃ b g j,b<H.size/\v=.hs b g 0 xs.length/\H.get b=some (.iQ g n (xs++j))/\(t=true->j=[]))
 | .map v es=>∃ b es' c,b<H.size/\v=.hm b/\H.get b=some (.map es' c)/\od es'=es/\wE es' c
 | .obj v cs=>∃ b z,b<H.size/\v=.ptr b 0 0 0/\H.get b=some (.iQ 0 z [cs])
structure Sep (H:aT) (L:List jW):Prop where
 lo:H.lo<=H.size
 ok:∀ r∈L,r.ok H
 Ca:L.Pairwise λa b=>xL a.v b.v
def kB:Sep aT.empty []:=⟨Nat.le_refl _,by simp,.nil⟩
theorem jW.ok.keep {H H':aT} {r:jW} (h:r.ok H) (hs:H.size<=H'.size) (hg:∀ b,b<H.size->lJ r.v=some b->H'.get b=H.get b):r.ok H':=by
 cases r with
 | sl w t v n xs =>
   obtain ⟨hl,h | h | ⟨b,g,j,hb,rfl,hq,ht⟩⟩:=h
   ·exact ⟨hl,.inl h⟩
   ·exact ⟨hl,.inr (.inl h)⟩
   ·exact ⟨hl,.inr (.inr ⟨b,g,j,by omega,rfl,by rw [hg b hb rfl]; exact hq,ht⟩)⟩
 | map v es =>
   obtain ⟨b,es',c,hb,rfl,hq,he,hst⟩:=h
   exact ⟨b,es',c,by omega,rfl,by rw [hg b hb rfl]; exact hq,he,hst⟩
 | obj v cs =>
   obtain ⟨b,z,hb,rfl,hq⟩:=h
   exact ⟨b,z,by omega,rfl,by rw [hg b hb rfl]; exact hq⟩
def jW.ok.lt {H:aT} {r:jW} (h:r.ok H):∀ b,lJ r.v=some b->b<H.size:=by
 intro b0 hb0
 cases r with
 | sl w t v n xs =>
   obtain ⟨hl,⟨_,rfl⟩ | ⟨_,rfl⟩ | ⟨b,g,j,hb,rfl,hq,ht⟩⟩:=h<;>simp [lJ,jW.v] at hb0
   omega
 | map v es =>
   obtain ⟨b,es',c,hb,rfl,hq,he,hst⟩:=h
   grind [lJ,jW.v]
 | obj v cs =>
   obtain ⟨b,z,hb,rfl,hq⟩:=h
   grind [lJ,jW.v]
def jW.ok.DS {H:aT} {r:jW} (h:r.ok H):AV.kK r.v=true/\(∀ t,Go.Sx.keep t r.v=r.v)/\AV.nA r.v=true:=by
 cases r with
 | sl w t v n xs =>
   obtain ⟨hl,⟨_,rfl⟩ | ⟨_,rfl⟩ | ⟨b,g,j,hb,rfl,hq,ht⟩⟩:=h<;>exact ⟨rfl,λ_=>rfl,rfl⟩
 | map v es=>obtain ⟨b,es',c,hb,rfl,hq,he,hst⟩:=h; exact ⟨rfl,λ_=>rfl,rfl⟩
 | obj v cs=>obtain ⟨b,z,hb,rfl,hq⟩:=h; exact ⟨rfl,λ_=>rfl,rfl⟩
theorem Sep.at {H:aT} {L:List jW} (h:Sep H L) {i:Nat} {r:jW} (hi:L[i]?=some r):r.ok H:=h.ok r (List.mem_of_getElem? hi)
theorem Sep.I5 {H:aT} {L:List jW} (h:Sep H L) {i:Nat} {r:jW} (hi:L[i]?=some r) (t:Nat):Go.Sx.keep t r.v=r.v:=(h.at hi).DS.2.1 t
def Sep.cell {H:aT} {L:List jW} (h:Sep H L) {i:Nat} {r:jW} (hi:L[i]?=some r):AV.kK r.v=true:=(h.at hi).DS.1
def Sep.arg {H:aT} {L:List jW} (h:Sep H L) {i:Nat} {r:jW} (hi:L[i]?=some r):AV.nA r.v=true:=(h.at hi).DS.2.2
theorem Sep.mR {H H':aT} {L:List jW} (h:Sep H L) {i:Nat} {r r':jW} (hi:L[i]?=some r) (hlo:H'.lo<=H'.size) (hs:H.size<=H'.size) (hr:r'.ok H') (hg:∀ b,b<H.size->lJ r.v≠some b->H'.get b=H.get b) (ho:∀ b,lJ r'.v=some b->lJ r.v=some b\/H.size<=b):Sep H' (L.set i r'):=by
 have hil:i<L.length:=(List.getElem?_eq_some_iff.mp hi).1
 have hri:L[i]=r:=(List.getElem?_eq_some_iff.mp hi).2
 have hp:=List.pairwise_iff_getElem.mp h.Ca
 have Ca:∀ j (hj:j<L.length),j≠i->xL r.v L[j].v:=by
  intro j hj hne
  rcases Nat.lt_or_gt_of_ne hne with hlt | hlt
  ·have:=hp j i hj hil hlt; rw [hri] at this; exact this.symm
  grind
 have apt':∀ j (hj:j<L.length),j≠i->xL r'.v L[j].v:=by
  intro j hj hne b hb hb'
  rcases ho b hb with hx | hx
  ·exact Ca j hj hne b hx hb'
  ·exact absurd ((h.ok _ (List.getElem_mem hj)).lt b hb') (by omega)
 refine ⟨hlo,?_,?_⟩
 ·intro x hx
  obtain ⟨j,hj,rfl⟩:=List.mem_iff_getElem.mp hx
  rw [List.length_set] at hj
  rw [List.getElem_set]
  split
  ·exact hr
  ·rename_i hne
   refine (h.ok _ (List.getElem_mem hj)).keep hs ?_
   intro b hb hbl
   exact hg b hb λhq=>Ca j hj (Ne.symm hne) b hq hbl
 ·rw [List.pairwise_iff_getElem]
  intro j k hj hk hjk
  rw [List.length_set] at hj hk
  simp only [List.getElem_set]
  split
  ·grind
  ·split
   ·rename_i h1 h2; exact (apt' j hj (Ne.symm h1)).symm
   grind
def Sep.new {H H':aT} {L:List jW} (h:Sep H L) {r':jW} (hlo:H'.lo<=H'.size) (hs:H.size<=H'.size) (hr:r'.ok H') (hg:∀ b,b<H.size->H'.get b=H.get b) (ho:∀ b,lJ r'.v=some b->H.size<=b):Sep H' (r'::L):=by
 refine ⟨hlo,?_,.cons ?_ h.Ca⟩
 ·intro x hx
  rcases List.mem_cons.mp hx with rfl | hx
  ·exact hr
  ·exact (h.ok x hx).keep hs λb hb _=>hg b hb
 ·intro x hx b hb hb'
  exact absurd ((h.ok x hx).lt b hb') (by grind)
def Sep.mX {H:aT} {L:List jW} (h:Sep H L) (n:Nat):Sep H (.sl true true (.sl [] .nil) n []::L):=h.new h.lo (Nat.le_refl _) ⟨by simp,.inl ⟨rfl,rfl⟩⟩ (λ_ _=>rfl) (λb hb=>by simp [lJ,jW.v] at hb)
def Sep.Y1 {H:aT} {L:List jW} (h:Sep H L) (n:Nat) (xs:List (List AV)) (hn:∀ x∈xs,x.length=n) {k:Nat} (hk:k=xs.length):Sep H (.sl false true (.sl xs (.exact k)) n xs::L):=by
 subst hk
 exact h.new h.lo (Nat.le_refl _) ⟨hn,.inr (.inl ⟨.inl rfl,rfl⟩)⟩ (λ_ _=>rfl) (λb hb=>by simp [lJ,jW.v] at hb)
def Sep.uJ {H:aT} {L:List jW} (h:Sep H L) (n:Nat):Sep H (.sl true true (.sl [] (.exact 0)) n []::L):=h.new h.lo (Nat.le_refl _) ⟨by simp,.inr (.inl ⟨.inr rfl,rfl⟩)⟩ (λ_ _=>rfl) (λb hb=>by simp [lJ,jW.v] at hb)
def TO {α:Type} {R : α->α->Prop} (hs:∀ a b,R a b->R b a) {L:List α} (h:L.Pairwise R) {i j:Nat} (hi:i<L.length) (hj:j<L.length) (hne:i≠j):R L[i] L[j]:=by
 have hp:=List.pairwise_iff_getElem.mp h
 grind
def Zr (is:List Nat) (n:Nat) (L:List jW):List jW:=is.filterMap (L[·]?)++L.drop n
def Sep.pick {H:aT} {L:List jW} (h:Sep H L) (is:List Nat) (n:Nat) (hn:is.Nodup) (hlt:∀ i∈is,i<n):Sep H (Zr is n L):=by
 have hp:=List.pairwise_iff_getElem.mp h.Ca
 refine ⟨h.lo,?_,List.pairwise_append.mpr ⟨?_,h.Ca.sublist (List.drop_sublist _ _),?_⟩⟩
 ·intro x hx
  rcases List.mem_append.mp hx with hx | hx
  ·obtain ⟨i,_,hi⟩:=List.mem_filterMap.mp hx
   exact h.ok x (List.mem_of_getElem? hi)
  ·exact h.ok x (List.mem_of_mem_drop hx)
 ·rw [List.pairwise_filterMap]
  refine hn.imp ?_
  intro i j hne x hx y hy
  obtain ⟨hi,rfl⟩:=List.getElem?_eq_some_iff.mp hx
  obtain ⟨hj,rfl⟩:=List.getElem?_eq_some_iff.mp hy
  exact TO (λa b hab=>hab.symm) h.Ca hi hj hne
 ·intro x hx y hy
  obtain ⟨i,hmem,hi⟩:=List.mem_filterMap.mp hx
  obtain ⟨hil,rfl⟩:=List.getElem?_eq_some_iff.mp hi
  obtain ⟨j,hj,rfl⟩:=List.mem_iff_getElem.mp hy
  grind
theorem Sep.iI {H:aT} {L:List jW} (h:Sep H L) (ls:lh):Sep { H with iI:=ls } L:=by
 refine ⟨h.lo,λr hr=>(h.ok r hr).keep (Nat.le_refl _) λ_ _ _=>rfl,h.Ca⟩
section
variable {κ β:Type} [DecidableEq κ] {ek : κ->AV} {ev : β->AV}
def put (k : κ) (x : β):List (κ×β)->List (κ×β)
 | []=>[(k,x)]
 | p::l=>if k=p.1 then (k,x)::l else p::put k x l
theorem nb (k k' : κ) (x : β) (l:List (κ×β)):look k (put k' x l)=if k=k' then some x else look k l:=by
 induction l<;>grind [put,look]
def vT (hk:∀ a b,lR (ek a) (ek b)=some (decide (a=b))) (k : κ) (l:List (κ×β)) (es:List (AV×AV×Nat)) (he:od es=j1 ek ev l) (i:Nat) :
  (look k l=none->findKey (ek k) es i=some none)/\(∀ x,look k l=some x->∃ j,findKey (ek k) es i=some (some (i+j,ev x))/\j<es.length/\∀ y (f:AV×AV×Nat->AV×AV×Nat),(∀ e,(f e).1=ek k/\(f e).2.1=ev y)->od (es.modify j f)=j1 ek ev (put k y l))/\(look k l=none->∀ y c,od (es++[(ek k,ev y,c)])=j1 ek ev (put k y l)):=by
 induction l generalizing es i with
 | nil =>
   cases es with
   | nil=>exact ⟨λ_=>rfl,λ_ h=>by simp [look] at h,λ_ _ _=>rfl⟩
   | cons e es=>simp [od,j1] at he
 | cons p l ih =>
   cases es with
   | nil=>simp [od,j1] at he
   | cons e es =>
     obtain ⟨a,b,c⟩:=e
     simp only [od,j1,List.map_cons,List.cons.injEq,Prod.mk.injEq] at he
     obtain ⟨⟨rfl,rfl⟩,he⟩:=he
     obtain ⟨i1,i2,i3⟩:=ih es he (i+1)
     by_cases h:k=p.1
     ·simp_all [look,findKey,f1,od,put,j1]
     ·refine ⟨λhn=>?_,λx hx=>?_,λhn y c'=>?_⟩
      ·grind [look,findKey]
      ·simp only [look,h,if_false] at hx
       obtain ⟨j,hj,hl,hm⟩:=i2 x hx
       refine ⟨j+1,?_,by simpa using hl,λy f hf=>?_⟩<;>grind [findKey,od,put,j1]
      grind [look,od,put,j1]
end
section
variable {C:jZ} {F:lA} {Pr:kU} {fa:iN} {e:Env} {all rest:List Oper} {o:Oper} {q:Env->aT->Prop}
variable {H:aT} {ls:lh} {L:List jW} {i:Nat}
def jG {P:AV->aT->Prop} (hw:jt all e o=some true) (hop:∃ v H',(∀ call,jL o.op ⟨C,fa,call⟩ e { H with iI:=ls } o.dst=some (v,{ H' with iI:=ls }))/\P v H') (next:∀ v H',P v H'->kO C F Pr fa all rest q (jn e o v) { H' with iI:=ls }):kO C F Pr fa all (o::rest) q e { H with iI:=ls }:=by
 grind [iT]
def mF {j:Nat} {sch:List (Nat×List Nat)} {P:AV->aT->Prop} (hj:all[j]?=some o) (hw:jt all e o=some true) (hop:∃ v H',(∀ call,jL o.op ⟨C,fa,call⟩ e { H with iI:=ls } o.dst=some (v,{ H' with iI:=ls }))/\P v H') (next:∀ v H',P v H'->kX C F Pr fa all sch q (jn e o v) { H' with iI:=ls }):kX C F Pr fa all ((j,[])::sch) q e { H with iI:=ls }:=by
 grind [jh]
def mc {t:Nat} {d:Option Nat} (hS:Sep H L):∃ v H',(∀ call,jL (.makeMap t none) ⟨C,fa,call⟩ e { H with iI:=ls } d=some (v,{ H' with iI:=ls }))/\∃ b,v=.hm b/\Sep H' (.map (.hm b) []::L):=by
 have hlo:=hS.lo
 refine ⟨.hm H.size,H.push (.map [] 0),λcall=>?_,H.size,rfl,?_⟩
 ·simp only [jL,ET,aT.yd]
 ·refine hS.new (by simp; omega) (by simp) ⟨H.size,[],0,by simp,rfl,?_,rfl,by simp,by simp⟩ ?_ ?_<;>grind [aT.po,lJ,jW.v]
variable {κ β:Type} [DecidableEq κ] {ek : κ->AV} {ev : β->AV}
def nj {t:Nat} {m k x:Operand} {d:Option Nat} {v:AV} {l:List (κ×β)} (key : κ) (y : β) (hS:Sep H L) (hi:L[i]?=some (.map v (j1 ek ev l))) (hm:iZ e m=v) (hk:iZ e k=ek key) (hx:iZ e x=ev y) (hK:mapKey C t (ek key)=true) (hV:AV.zj (ev y)=true) (hke:∀ a b,lR (ek a) (ek b)=some (decide (a=b))) :
  ∃ w H',(∀ call,jL (.mapUpdate t m k x) ⟨C,fa,call⟩ e { H with iI:=ls } d=some (w,{ H' with iI:=ls }))/\w=.undef/\Sep H' (L.set i (.map v (j1 ek ev (put key y l)))):=by
 obtain ⟨b,es,c,hb,rfl,hg,he,hst⟩:=hS.at hi
 have hlob:H.lo<=b:=aT.nO hg
 obtain ⟨f1,f2,f3⟩:=vT (ek:=ek) (ev:=ev) hke key l es he 0
 have fin:∀ es' c',yC (ek key) (ev y) es c=some (es',c')->od es'=j1 ek ev (put key y l)->wE es' c'->∃ w H',(∀ call,jL (.mapUpdate t m k x) ⟨C,fa,call⟩ e { H with iI:=ls } d=some (w,{ H' with iI:=ls }))/\w=.undef/\Sep H' (L.set i (.map (.hm b) (j1 ek ev (put key y l)))):=by
  intro es' c' hu hun hst'
  refine ⟨.undef,H.set b (.map es' c'),λcall=>?_,rfl,?_⟩
  ·simp_all [jL,tM,tY,aT.lO,aT.p5]
  ·refine hS.mR hi (by simpa using hS.lo) (by simp) ⟨b,es',c',by simp_all,rfl,?_,hun,hst'⟩ ?_ ?_
   ·grind [aT.lZ]
   ·intro b' hb' hne
    rw [aT.lZ,if_neg (by rintro ⟨rfl,_⟩; exact hne rfl)]
   ·intro b' hb'; exact .inl hb'
 cases hl:look key l with
 | none=>exact fin (es++[(ek key,ev y,c)]) (c+1) (by grind [yC,f1]) (f3 hl y c) (hst.snoc _ _)
 | some x0 =>
   obtain ⟨j,hj,hjl,hjm⟩:=f2 x0 hl
   exact fin _ c (by grind [yC]) (hjm y (λe=>(ek key,ev y,e.2.2)) λ_=>⟨rfl,rfl⟩) (hst.modify _ _ λ_=>rfl)
theorem xr {t kt el:Nat} {m k:Operand} {tm te:TI} {d:Option Nat} {v z:AV} {l:List (κ×β)} {ok:Bool} (key : κ) (hS:Sep H L) (hi:L[i]?=some (.map v (j1 ek ev l))) (hT:C.T t=some tm) (hkd:tm.kind=.map kt el) (hE:C.T el=some te) (hm:iZ e m=v) (hk:iZ e k=ek key) (hK:qQ C kt (ek key)=true) (hz:asAgg te te.zero=some z) (hke:∀ a b,lR (ek a) (ek b)=some (decide (a=b))) (call:qR) :
  jL (.lookup t m k ok) ⟨C,fa,call⟩ e { H with iI:=ls } d=match zJ ok (look key l).isSome (match look key l with
   | some x=>ev x
   | none=>z) with
   | some r=>some (r,{ H with iI:=ls })
   | none=>none:=by
 obtain ⟨b,es,c,hb,rfl,hg,he,hst⟩:=hS.at hi
 obtain ⟨f1,f2,f3⟩:=vT (ek:=ek) (ev:=ev) hke key l es he 0
 cases hl:look key l with
 | none=>simp only [jL,um,re,hT,hkd,hE,hk,hK,hm,qA,aT.lO,hg,f1 hl,hz,Option.isSome_none]; rfl
 | some x0 =>
   obtain ⟨j,hj,_⟩:=f2 x0 hl
   simp only [jL,um,re,hT,hkd,hE,hk,hK,hm,qA,aT.lO,hg,hj,Option.isSome_some]
   rfl
end
section
variable {C:jZ} {F:lA} {Pr:kU} {fa:iN} {e:Env} {all rest:List Oper} {o:Oper} {q:Env->aT->Prop}
variable {H:aT} {ls:lh} {L:List jW} {i:Nat}
variable {κ β:Type} [DecidableEq κ] {ek : κ->AV} {ev : β->AV}
def SD (ok b:Bool) (v:AV):AV:=match ok with
 | true=>.jl [v,.bool b]
 | false=>v
def ma {t kt el:Nat} {m k:Operand} {tm te:TI} {v z:AV} {l:List (κ×β)} {ok:Bool} (key : κ) (hw:jt all e o=some true) (ho:o.op=.lookup t m k ok) (hS:Sep H L) (hi:L[i]?=some (.map v (j1 ek ev l))) (hT:C.T t=some tm) (hkd:tm.kind=.map kt el) (hE:C.T el=some te) (hm:iZ e m=v) (hk:iZ e k=ek key) (hK:qQ C kt (ek key)=true) (hz:asAgg te te.zero=some z) (hke:∀ a b,lR (ek a) (ek b)=some (decide (a=b)))
  (w1:∀ x,look key l=some x->kO C F Pr fa all rest q (jn e o (SD ok true (ev x))) { H with iI:=ls }) (w2:look key l=none->kO C F Pr fa all rest q (jn e o (SD ok false z)) { H with iI:=ls }):kO C F Pr fa all (o::rest) q e { H with iI:=ls }:=by
 cases hl:look key l with
 | none=>exact iT hw (λcall=>by rw [ho,xr key hS hi hT hkd hE hm hk hK hz hke call,hl]; cases ok<;>rfl) (w2 hl)
 | some x=>exact iT hw (λcall=>by rw [ho,xr key hS hi hT hkd hE hm hk hK hz hke call,hl]; cases ok<;>rfl) (w1 x hl)
def LF {j:Nat} {sch:List (Nat×List Nat)} {t kt el:Nat} {m k:Operand} {tm te:TI} {v z:AV} {l:List (κ×β)} {ok:Bool} (key : κ) (hj:all[j]?=some o) (hw:jt all e o=some true) (ho:o.op=.lookup t m k ok) (hS:Sep H L) (hi:L[i]?=some (.map v (j1 ek ev l))) (hT:C.T t=some tm) (hkd:tm.kind=.map kt el) (hE:C.T el=some te) (hm:iZ e m=v) (hk:iZ e k=ek key) (hK:qQ C kt (ek key)=true) (hz:asAgg te te.zero=some z) (hke:∀ a b,lR (ek a) (ek b)=some (decide (a=b)))
  (w1:∀ x,look key l=some x->kX C F Pr fa all sch q (jn e o (SD ok true (ev x))) { H with iI:=ls }) (w2:look key l=none->kX C F Pr fa all sch q (jn e o (SD ok false z)) { H with iI:=ls }):kX C F Pr fa all ((j,[])::sch) q e { H with iI:=ls }:=by
 cases hl:look key l with
 | none=>exact jh hj hw (λcall=>by rw [ho,xr key hS hi hT hkd hE hm hk hK hz hke call,hl]; cases ok<;>rfl) (w2 hl)
 | some x=>exact jh hj hw (λcall=>by rw [ho,xr key hS hi hT hkd hE hm hk hK hz hke call,hl]; cases ok<;>rfl) (w1 x hl)
def yN {es:List (AV×AV×Nat)} (hp:es.Pairwise λa b=>a.2.2≠b.2.2) {j:Nat} (hj:j<es.length) (v:AV):pY (es[j].2.2:Int) v es=some (es.modify j λe=>(e.1,v,e.2.2)):=by
 induction es generalizing j with
 | nil=>simp at hj
 | cons e es ih =>
   obtain ⟨a,b,c⟩:=e
   cases j with
   | zero=>simp [pY]
   | succ j =>
     have hj':j<es.length:=by grind
     have hne:c≠es[j].2.2:=(List.pairwise_cons.mp hp).1 _ (List.getElem_mem hj')
     grind [pY]
def rm {t kt el:Nat} {m k:Operand} {tm te:TI} {d:Option Nat} {v z:AV} {l:List (κ×β)} (key : κ) (y : β) (hS:Sep H L) (hi:L[i]?=some (.map v (j1 ek ev l))) (hT:C.T t=some tm) (hkd:tm.kind=.map kt el) (hE:C.T el=some te) (hm:iZ e m=v) (hk:iZ e k=ek key) (hK:qQ C kt (ek key)=true) (hz:asAgg te te.zero=some z) (hV:AV.zj (ev y)=true) (hke:∀ a b,lR (ek a) (ek b)=some (decide (a=b))) :
  ∃ (u:AV) (H1:aT),(∀ call,jL (.mapEntry t m k) ⟨C,fa,call⟩ e { H with iI:=ls } d=some (u,{ H1 with iI:=ls }))/\∃ (w:AV) (st:Int) (H2:aT),u=.jl [w,.int .i64 st] /\
    (∀ (e2:Env) (ls2:lh) (t2:Nat) (m2 s2 x2:Operand) (X:Ctx) (d2:Option Nat),iZ e2 m2=v->iZ e2 s2=.int .i64 st->iZ e2 x2=ev y->jL (.entryStore t2 m2 s2 x2) X e2 { H1 with iI:=ls2 } d2=some (.undef,{ H2 with iI:=ls2 }))/\Sep H2 (L.set i (.map v (j1 ek ev (put key y l)))):=by
 obtain ⟨b,es,c,hb,rfl,hg,he,hst⟩:=hS.at hi
 have hlob:H.lo<=b:=aT.nO hg
 obtain ⟨f1,f2,f3⟩:=vT (ek:=ek) (ev:=ev) hke key l es he 0
 have fin:∀ es1 c1 es2 (st:Int) w,(∀ call,jL (.mapEntry t m k) ⟨C,fa,call⟩ e { H with iI:=ls } d=some (.jl [w,.int .i64 st],{ H.set b (.map es1 c1) with iI:=ls }))->pY st (ev y) es1=some es2->od es2=j1 ek ev (put key y l)->wE es2 c1 ->
   ∃ (u:AV) (H1:aT),(∀ call,jL (.mapEntry t m k) ⟨C,fa,call⟩ e { H with iI:=ls } d=some (u,{ H1 with iI:=ls }))/\∃ (w:AV) (st:Int) (H2:aT),u=.jl [w,.int .i64 st] /\
   (∀ (e2:Env) (ls2:lh) (t2:Nat) (m2 s2 x2:Operand) (X:Ctx) (d2:Option Nat),iZ e2 m2=.hm b->iZ e2 s2=.int .i64 st->iZ e2 x2=ev y->jL (.entryStore t2 m2 s2 x2) X e2 { H1 with iI:=ls2 } d2=some (.undef,{ H2 with iI:=ls2 }))/\Sep H2 (L.set i (.map (.hm b) (j1 ek ev (put key y l)))):=by
  intro es1 c1 es2 st w h1 h2 h3 h4
  have hg1:(H.set b (.map es1 c1)).get b=some (.map es1 c1):=by grind [aT.lZ]
  refine ⟨_,H.set b (.map es1 c1),h1,w,st,(H.set b (.map es1 c1)).set b (.map es2 c1),rfl,?_,?_⟩
  ·intro e2 ls2 t2 m2 s2 x2 X d2 hm2 hs2 hx2
   simp only [jL,vP,sI,hm2,hs2,hx2,AV.int?,aT.lO,hg1,hV,h2,aT.p5]
  ·refine hS.mR hi (by simpa using hS.lo) (by simp) ⟨b,es2,c1,by simp_all,rfl,?_,h3,h4⟩ ?_ ?_
   ·simp_all [aT.lZ]
   ·intro b' hb' hne
    rw [aT.lZ,if_neg (by rintro ⟨rfl,_⟩; exact hne rfl),aT.lZ,if_neg (by rintro ⟨rfl,_⟩; exact hne rfl)]
   ·intro b' hb'; exact .inl hb'
 cases hl:look key l with
 | none =>
   refine fin (es++[(ek key,z,c)]) (c+1) (es++[(ek key,ev y,c)]) c z ?_ ?_ (f3 hl y c) (hst.snoc _ _)
   ·intro call
    simp only [jL,vF,sO,hT,hkd,hm,hE,aT.lO,hg,hk,hK,f1 hl,hz,aT.p5]
   ·have h0:=yN (hst.snoc (ek key) z).2 (j:=es.length) (by simp) (ev y)
    simp only [List.getElem_concat_length] at h0
    rw [h0]
    congr 1
    apply List.ext_getElem (by simp)
    grind
 | some x0 =>
   obtain ⟨j,hj,hjl,hjm⟩:=f2 x0 hl
   rw [Nat.zero_add] at hj
   have hst1:wE (es.modify j λx=>(ek key,x.2)) c:=hst.modify _ _ λ_=>rfl
   refine fin (es.modify j λx=>(ek key,x.2)) c ((es.modify j λx=>(ek key,x.2)).modify j λe=>(e.1,ev y,e.2.2)) (es[j].2.2:Nat) (ev x0) ?_ ?_ ?_ (hst1.modify _ _ λ_=>rfl)
   ·intro call
    have hso:wT es j=es[j].2.2:=by simp [wT,hjl]
    simp only [jL,vF,sO,hT,hkd,hm,hE,aT.lO,hg,hk,hK,hj,hso,aT.p5]
   ·have h0:=yN hst1.2 (j:=j) (by grind) (ev y)
    grind
   grind
end
section
variable {C:jZ} {F:lA} {Pr:kU} {fa:iN} {e:Env} {all rest:List Oper} {o:Oper} {q:Env->aT->Prop}
variable {H:aT} {ls:lh} {L:List jW} {i:Nat}
variable {α:Type} {enc : α->List AV} {w tt:Bool} {v:AV} {n:Nat} {l:List α}
def GO {n:Nat} {xs:List (List AV)} (h:∀ x∈xs,x.length=n):nU n xs=true:=by
 simp_all [nU]
def FU {xs ys:List (List AV)} (hS:Sep H L) (hi:L[i]?=some (.sl w tt v n xs)) (hys:∀ x∈ys,x.length=n) (ht:tt=true\/ys.length=1) (hm:xs.length+ys.length<=sv) :
  ∃ v' H',append n { H with iI:=ls } v ys=some (v',{ H' with iI:=ls })/\Sep H' (L.set i (.sl w tt v' n (xs++ys))):=by
 have hlo:=hS.lo
 obtain ⟨hxl,hc⟩:=hS.at hi
 have hal:nU n ys=true:=GO hys
 have hxal:nU n xs=true:=GO hxl
 have hxy:∀ x∈xs++ys,x.length=n:=by
  grind
 have hset:∀ v',v'=v->Sep H (L.set i (.sl w tt v' n xs)):=by
  rintro v' rfl
  exact hS.mR hi hlo (Nat.le_refl _) ⟨hxl,hc⟩ (λ_ _ _=>rfl) (λb hb=>.inl hb)
 cases ys with
 | nil =>
   rw [List.append_nil]
   refine ⟨v,H,?_,hset v rfl⟩
   rcases hc with ⟨rfl,rfl⟩ | ⟨_,rfl⟩ | ⟨b,g,j,hb,rfl,hg,htj⟩<;>rfl
 | cons y ys =>
   have new:∀ (hle:Nat.ble (xs.length+(ys.length+1)) sv=true),append n { H with iI:=ls } v (y::ys)=rH n { H with iI:=ls } xs (y::ys)->∃ v' H',append n { H with iI:=ls } v (y::ys)=some (v',{ H' with iI:=ls })/\Sep H' (L.set i (.sl w tt v' n (xs++(y::ys)))):=by
    intro hle hap
    refine ⟨.hs H.size 0 0 (xs.length+(ys.length+1)),H.push (.iQ 0 n (xs++(y::ys))),?_,?_⟩
    ·rw [hap]
     simp [rH,hxal,hle,aT.yd]
    ·refine hS.mR hi (by simp; omega) (by simp) ⟨hxy,.inr (.inr ⟨H.size,0,[],by simp,by simp,?_,λ_=>rfl⟩)⟩ ?_ ?_<;>grind [aT.po,lJ,jW.v]
   have hle:Nat.ble (xs.length+(ys.length+1)) sv=true:=Nat.ble_eq.mpr (by omega)
   rcases hc with ⟨rfl,rfl⟩ | ⟨_,rfl⟩ | ⟨b,g,j,hb,rfl,hg,htj⟩
   ·grind [append]
   ·have hbt:Nat.blt xs.length (xs.length+(ys.length+1))=true:=by simp
    grind [append]
   ·have hlob:H.lo<=b:=aT.nO hg
    have grow:j=[]->∃ v' H',append n { H with iI:=ls } (.hs b g 0 xs.length) (y::ys)=some (v',{ H' with iI:=ls })/\Sep H' (L.set i (.sl w tt v' n (xs++(y::ys)))):=by
     rintro rfl
     rw [List.append_nil] at hg
     refine ⟨.hs b (g+1) 0 (xs.length+(y::ys).length),H.set b (.iQ (g+1) n (xs++(y::ys))),?_,?_⟩
     ·have h2:Nat.ble (xs.length+(ys.length+1)) xs.length=false:=by
       cases hq:Nat.ble (xs.length+(ys.length+1)) xs.length with
       | false=>rfl
       | true=>exact absurd (Nat.ble_eq.mp hq) (by omega)
      simp [append,hal,AY,aT.lO,hg,hle,h2,aT.p5]
     ·refine hS.mR hi (by simp_all) (by simp) ⟨hxy,.inr (.inr ⟨b,g+1,[],by simp_all,by simp,?_,λ_=>rfl⟩)⟩ ?_ ?_
      ·grind [aT.lZ]
      ·intro b' hb' hne; rw [aT.lZ,if_neg (by rintro ⟨rfl,_⟩; exact hne rfl)]
      ·intro b' hb'; exact .inl hb'
    cases j with
    | nil=>grind
    | cons j0 j =>
      have htt:tt=false:=by grind
      have hy:ys=[]:=by
       grind
      subst hy
      refine ⟨.hs b g 0 (xs.length+1),H.set b (.iQ g n (xs++y::j)),?_,?_⟩
      ·have h1:Nat.ble (xs.length+1) (xs++j0::j).length=true:=Nat.ble_eq.mpr (by simp)
       have h3:Nat.ble (xs.length+1) sv=true:=hle
       have h2:overwrite (xs++j0::j) xs.length [y]=xs++y::j:=by
        simp_all [overwrite]
       simp only [append,hal,AY,aT.lO,hg,Nat.zero_add,List.length_singleton,h1,h2,h3,Nat.beq_refl,Bool.and_self,nH,aT.p5,Bool.and_true]
      ·refine hS.mR hi (by simp_all) (by simp) ⟨hxy,.inr (.inr ⟨b,g,j,by simp_all,by simp,?_,λh=>absurd h (by simp [htt])⟩)⟩ ?_ ?_
       ·grind [aT.lZ]
       ·intro b' hb' hne; rw [aT.lZ,if_neg (by rintro ⟨rfl,_⟩; exact hne rfl)]
       ·intro b' hb'; exact .inl hb'
def lf {cl:Call} {s x:Operand} {t u:Nat} {ti:TI} {d:Option Nat} (ys:List α) (hS:Sep H L) (hi:L[i]?=some (.sl w tt v n (l.map enc))) (hc:cl.callee=.builtin .append) (ha:cl.args.toList=[s,x]) (hts:cl.argTypes.toList=[t,u]) (hT:rZ C [t,u]=some ti) (hSr:Fo C [t,u]=true) (hn:ti.size=n)
  (hs:iZ e s=v) (hx:pV { H with iI:=ls } (iZ e x)=some (ys.map enc)) (hok:∀ y,(enc y).all AV.kK=true) (ht:tt=true\/ys.length=1) (hm:l.length+ys.length<=sv) (henc:∀ x,(enc x).length=n) :
  ∃ v' H',(∀ call,jL (.call cl) ⟨C,fa,call⟩ e { H with iI:=ls } d=some (v',{ H' with iI:=ls }))/\Sep H' (L.set i (.sl w tt v' n ((l++ys).map enc))):=by
 obtain ⟨v',H',h1,h2⟩:=FU (ls:=ls) (ys:=ys.map enc) hS hi (by grind) (by grind) (by grind)
 refine ⟨v',H',λcall=>?_,by grind⟩
 have hall:zD (ys.map enc)=true:=by
  grind [zD]
 simp only [jL,pJ,oO,hc,ha,hts,mH,Aj,sm,List.map_cons,List.map_nil,hT,hSr,hn,hs,hx,hall,h1]
def oT {X:Ctx} {d:Option Nat} {cl:Call} {t el:Nat} {x:Operand} {ti:TI} {h:aT} (hS:Sep H L) (hi:L[i]?=some (.sl w tt v n (l.map enc))) (hc:cl.callee=.builtin .len) (ha:cl.args.toList=[x]) (hts:cl.argTypes.toList=[t]) (hT:X.C.T t=some ti) (hk:ti.kind=.slice el) (hx:iZ e x=v) :
  jL (.call cl) X e h d=some (.int .i64 l.length,h):=by
 obtain ⟨hxl,⟨h0,rfl⟩ | ⟨_,rfl⟩ | ⟨b,g,j,hb,rfl,hg,htj⟩⟩:=hS.at hi
 ·simp_all [jL,pJ,oO,mH,w7,uV,vW,u5,py]
 ·simp_all [jL,pJ,oO,mH,w7,uV,vW,u5,py]
 simp_all [jL,pJ,oO,mH,w7,uV,vW,u5,py]
def EA (v:AV) (m:Nat) (a:AV) (cs:List AV):Prop:=(∃ xs k,v=.sl xs (.exact k)/\a=.ip cs 0 false)\/∃ b g len,v=.hs b g 0 len/\a=.ptr b g m 0
def nw (a:AV) (o:Nat):AV:=match a with
 | .ip cs _ s=>.ip cs o s
 | .ptr b g i _=>.ptr b g i o
 | v=>v
def mn {m:Nat} {x : α} (h:m<l.length) (hx:l[m]=x):(l.map enc)[m]?=some (enc x):=by grind
def v8 {P:AV->Prop} {h:aT} (hw:jt all e o=some true) (hop:∃ v,(∀ call,jL o.op ⟨C,fa,call⟩ e h o.dst=some (v,h))/\P v) (next:∀ v,P v->kO C F Pr fa all rest q (jn e o v) h):kO C F Pr fa all (o::rest) q e h:=by
 grind [iT]
def pC {j:Nat} {sch:List (Nat×List Nat)} {P:AV->Prop} {h:aT} (hj:all[j]?=some o) (hw:jt all e o=some true) (hop:∃ v,(∀ call,jL o.op ⟨C,fa,call⟩ e h o.dst=some (v,h))/\P v) (next:∀ v,P v->kX C F Pr fa all sch q (jn e o v) h):kX C F Pr fa all ((j,[])::sch) q e h:=by
 grind [jh]
def nY {t el:Nat} {x y:Operand} {ti te:TI} {k:IntKind} {m:Nat} {d:Option Nat} {cs:List AV} {xs:List (List AV)} (hS:Sep H L) (hi:L[i]?=some (.sl w tt v n xs)) (hT:C.T t=some ti) (hk:ti.kind=.slice el) (hE:C.T el=some te) (hn:te.size=n) (hx:iZ e x=v) (hy:iZ e y=.int k (m:Int)) (hm:xs[m]?=some cs) :
  ∃ a,(∀ call,jL (.indexAddr t x y) ⟨C,fa,call⟩ e { H with iI:=ls } d=some (a,{ H with iI:=ls }))/\a=nw a 0/\EA v m a cs:=by
 have hml:m<xs.length:=(List.getElem?_eq_some_iff.mp hm).1
 have hai:p9 (.int k (m:Int))=some m:=rfl
 obtain ⟨hxl,⟨h0,rfl⟩ | ⟨_,rfl⟩ | ⟨b,g,j,hb,rfl,hg,htj⟩⟩:=hS.at hi
 ·grind
 ·refine ⟨.ip cs 0 false,λcall=>?_,rfl,.inl ⟨xs,_,rfl,rfl⟩⟩
  have hl:Nat.beq cs.length te.size=true:=by
   rw [hn,hxl _ (List.mem_of_getElem? hm)]; simp
  simp_all [jL,qa,pg,qE,p6]
 ·refine ⟨.ptr b g m 0,λcall=>?_,rfl,.inr ⟨b,g,_,rfl,rfl⟩⟩
  have h1:Nat.blt m xs.length=true:=by simp_all
  simp only [jL,qa,pg,hT,hy,hai,hk,hE,hx,qE,aT.lO,hg,h1,hn,Nat.beq_refl,Bool.and_self,nH,Nat.zero_add]
def EA.Tg {m o off ft f t:Nat} {a:AV} {cs:List AV} {x:Operand} {X:Ctx} {d:Option Nat} {ti:TI} {fs:List (Nat×Nat)} {h:aT} (hE:EA v m a cs) (hT:X.C.T t=some ti) (hk:ti.kind=.struct fs) (hf:fs[f]?=some (off,ft)) (hx:iZ e x=nw a o):jL (.fieldAddr t x f) X e h d=some (nw a (o+off),h):=by
 rcases hE with ⟨xs,k,rfl,rfl⟩ | ⟨b,g,len,rfl,rfl⟩<;>simp only [jL,rT,p8,hT,hk,hf,hx,nw,Cz,Nd,Du,nH,kV]
def qJ {m o t:Nat} {a r:AV} {cs:List AV} {x:Operand} {X:Ctx} {d:Option Nat} {ti:TI} {xs:List (List AV)} (hS:Sep H L) (hi:L[i]?=some (.sl w tt v n xs)) (hm:xs[m]?=some cs) (hE:EA v m a cs) (hT:X.C.T t=some ti) (hp:part ti cs o=some r) (hx:iZ e x=nw a o):jL (.load t x) X e { H with iI:=ls } d=some (r,{ H with iI:=ls }):=by
 have hml:m<xs.length:=(List.getElem?_eq_some_iff.mp hm).1
 obtain ⟨hxl,hc⟩:=hS.at hi
 rcases hE with ⟨xs',k,rfl,rfl⟩ | ⟨b,g,len,rfl,rfl⟩
 ·simp_all [jL,zB,xp,nw,sG,VZ,kV]
 ·rcases hc with ⟨h0,hv⟩ | ⟨_,hv⟩ | ⟨b',g',j,hb,hv,hg,htj⟩
  ·cases hv
  ·cases hv
  ·cases hv
   have hmj:(xs++j)[m]?=some cs:=by grind
   simp_all [jL,zB,xp,nw,sG,Bt,aT.lO,kV]
theorem Il {cs new cs':List AV} {o:Nat} (h:nu cs o new=some cs'):cs'.length=cs.length:=by
 unfold nu at h
 split at h
 ·rename_i hle
  have hle:=Nat.ble_eq.mp hle
  grind [p3]
 ·cases h
def Wg {m o t:Nat} {a r:AV} {cs new cs':List AV} {x y:Operand} {d:Option Nat} {ti:TI} {xs:List (List AV)} (hS:Sep H L) (hi:L[i]?=some (.sl true tt v n xs)) (hm:xs[m]?=some cs) (hE:EA v m a cs) (hT:C.T t=some ti) (hx:iZ e x=nw a o) (hy:iZ e y=r) (hnew:cellsOf ti r=some new) (hok:new.all AV.kK=true) (hsp:nu cs o new=some cs') :
  ∃ u H',(∀ call,jL (.store t x y) ⟨C,fa,call⟩ e { H with iI:=ls } d=some (u,{ H' with iI:=ls }))/\u=.undef/\Sep H' (L.set i (.sl true tt v n (xs.set m cs'))):=by
 have hml:m<xs.length:=(List.getElem?_eq_some_iff.mp hm).1
 obtain ⟨hxl,hc⟩:=hS.at hi
 rcases hc with ⟨h0,rfl⟩ | ⟨h0 | h0,_⟩ | ⟨b,g,j,hb,rfl,hg,htj⟩
 ·grind
 ·cases h0
 ·grind
 ·rcases hE with ⟨xs',k,h0,_⟩ | ⟨b',g',len,hv,rfl⟩
  ·cases h0
  ·cases hv
   have hlob:H.lo<=b:=aT.nO hg
   have hmj:(xs++j)[m]?=some cs:=by grind
   refine ⟨.undef,H.set b (.iQ g n ((xs.set m cs')++j)),λcall=>?_,rfl,?_⟩
   ·have hse:(xs++j).set m cs'=xs.set m cs'++j:=by grind
    simp only [jL,yc,wF,hT,hx,hy,wa,hnew,hok,nw,yv,Dr,aT.lO,hg,Nat.beq_refl,hmj,hsp,aT.p5,hse]
   ·refine hS.mR hi (by simpa using hS.lo) (by simp) ⟨?_,.inr (.inr ⟨b,g,j,by simp_all,by simp,?_,htj⟩)⟩ ?_ ?_
    ·intro z hz
     rcases List.mem_or_eq_of_mem_set hz with hz | rfl
     ·grind
     ·rw [Il hsp]; grind
    ·grind [aT.lZ]
    ·intro b' hb' hne; rw [aT.lZ,if_neg (by rintro ⟨rfl,_⟩; exact hne rfl)]
    ·intro b' hb'; exact .inl hb'
def wA {m o t:Nat} {a r:AV} {new:List AV} {x y:Operand} {d:Option Nat} {ti:TI} (z z' : α) (hS:Sep H L) (hi:L[i]?=some (.sl true tt v n (l.map enc))) (hml:m<l.length) (hz:l[m]=z) (hE:EA v m a (enc z)) (hT:C.T t=some ti) (hx:iZ e x=nw a o) (hy:iZ e y=r) (hnew:cellsOf ti r=some new) (hok:new.all AV.kK=true) (hsp:nu (enc z) o new=some (enc z')) :
  ∃ u H',(∀ call,jL (.store t x y) ⟨C,fa,call⟩ e { H with iI:=ls } d=some (u,{ H' with iI:=ls }))/\u=.undef/\Sep H' (L.set i (.sl true tt v n ((l.set m z').map enc))):=by
 rw [List.map_set]
 exact Wg hS hi (mn hml hz) hE hT hx hy hnew hok hsp
def WZ (v:AV) (k:Nat) (v':AV):Prop:=(v=.sl [] .nil/\v'=.sl [] .nil/\k=0)\/(v=.sl [] (.exact 0)/\v'=.sl [] (.exact 0)/\k=0)\/∃ b g len,v=.hs b g 0 len/\v'=.hs b g 0 k
def TS {t el k:Nat} {x y:Operand} {ti te:TI} {kd:IntKind} {d:Option Nat} {xs:List (List AV)} (hS:Sep H L) (hi:L[i]?=some (.sl true tt v n xs)) (hT:C.T t=some ti) (hk:ti.kind=.slice el) (hE:C.T el=some te) (hn:te.size=n) (hx:iZ e x=v) (hy:iZ e y=.int kd (k:Int)) (hkl:k<=xs.length) :
  ∃ v' H',(∀ call,jL (.slice t x none (some y) none) ⟨C,fa,call⟩ e { H with iI:=ls } d=some (v',{ H' with iI:=ls }))/\WZ v k v'/\Sep H' (L.set i (.sl true false v' n (xs.take k))):=by
 obtain ⟨hxl,hc⟩:=hS.at hi
 have hai:p9 (.int kd (k:Int))=some k:=rfl
 rcases hc with ⟨h0,rfl⟩ | ⟨h0 | h0,rfl⟩ | ⟨b,g,j,hb,rfl,hg,htj⟩
 ·subst h0
  have hk0:k=0:=by grind
  subst hk0
  refine ⟨.sl [] .nil,H,λcall=>?_,.inl ⟨rfl,rfl,rfl⟩,?_⟩
  ·simp only [jL,pU,pz,hT,hk,hE,hx,hy,slice,vD,nE,bound,hai,qf,oj,pv]
   rfl
  ·exact hS.mR hi hS.lo (Nat.le_refl _) ⟨by simp,.inl ⟨by simp,rfl⟩⟩ (λ_ _ _=>rfl) (λb hb=>by simp [lJ,jW.v] at hb)
 ·cases h0
 ·subst h0
  have hk0:k=0:=by grind
  subst hk0
  refine ⟨.sl [] (.exact 0),H,λcall=>?_,.inr (.inl ⟨rfl,rfl,rfl⟩),?_⟩
  ·simp only [jL,pU,pz,hT,hk,hE,hx,hy,slice,vD,nE,bound,hai,qf,oj,pv]
   rfl
  ·exact hS.mR hi hS.lo (Nat.le_refl _) ⟨by simp,.inr (.inl ⟨.inr (by simp),rfl⟩)⟩ (λ_ _ _=>rfl) (λb hb=>by simp [lJ,jW.v] at hb)
 ·have h0:Nat.ble 0 k=true:=Nat.ble_eq.mpr (Nat.zero_le _)
  have h1:Nat.ble k (xs++j).length=true:=Nat.ble_eq.mpr (by grind)
  have h2:Nat.ble 0 (xs++j).length=true:=Nat.ble_eq.mpr (Nat.zero_le _)
  refine ⟨.hs b g 0 k,H,λcall=>?_,.inr (.inr ⟨b,g,_,rfl,rfl⟩),?_⟩
  ·simp only [jL,pU,pz,hT,hk,hE,hx,hy,slice,Ee,aT.lO,hg,hn,Nat.beq_refl,Bool.and_self,nE,bound,hai,qf,Option.getD_none,Nat.zero_add,h0,h1,h2,Bool.and_true,Bool.true_and,Dx,nH,Nat.sub_zero,kV]
  ·refine hS.mR hi hS.lo (Nat.le_refl _) ⟨λz hz=>hxl z (List.mem_of_mem_take hz),.inr (.inr ⟨b,g,xs.drop k++j,hb,?_,?_,λh=>by cases h⟩)⟩ (λ_ _ _=>rfl) (λb' hb'=>.inl hb')
   ·grind
   ·rw [hg,<- List.append_assoc,List.take_append_drop]
def w9 {t el k:Nat} {x y:Operand} {ti te:TI} {kd:IntKind} {d:Option Nat} (hS:Sep H L) (hi:L[i]?=some (.sl true tt v n (l.map enc))) (hT:C.T t=some ti) (hk:ti.kind=.slice el) (hE:C.T el=some te) (hn:te.size=n) (hx:iZ e x=v) (hy:iZ e y=.int kd (k:Int)) (hkl:k<=l.length) :
  ∃ v' H',(∀ call,jL (.slice t x none (some y) none) ⟨C,fa,call⟩ e { H with iI:=ls } d=some (v',{ H' with iI:=ls }))/\WZ v k v'/\Sep H' (L.set i (.sl true false v' n ((l.take k).map enc))):=by
 rw [List.map_take]
 exact TS hS hi hT hk hE hn hx hy (by grind)
def tg {t el k:Nat} {x y:Operand} {ti te:TI} {kd:IntKind} {d:Option Nat} {v':AV} {ys:List (List AV)} {X:Ctx} (hS:Sep H L) (hi:L[i]?=some (.sl true tt v' n ys)) (hc:WZ v k v') (hT:X.C.T t=some ti) (hk:ti.kind=.slice el) (hE:X.C.T el=some te) (hn:te.size=n) (hx:iZ e x=v) (hy:iZ e y=.int kd (k:Int)) :
  jL (.slice t x none (some y) none) X e { H with iI:=ls } d=some (v',{ H with iI:=ls }):=by
 have hai:p9 (.int kd (k:Int))=some k:=rfl
 obtain ⟨hxl,hq⟩:=hS.at hi
 rcases hc with ⟨rfl,rfl,rfl⟩ | ⟨rfl,rfl,rfl⟩ | ⟨b,g,len,rfl,rfl⟩
 ·simp only [jL,pU,pz,hT,hk,hE,hx,hy,slice,vD,nE,bound,hai,qf,oj,pv]
  rfl
 ·simp only [jL,pU,pz,hT,hk,hE,hx,hy,slice,vD,nE,bound,hai,qf,oj,pv]
  rfl
 ·rcases hq with ⟨_,hv⟩ | ⟨_,hv⟩ | ⟨b',g',j,hb,hv,hg,htj⟩
  ·cases hv
  ·cases hv
  ·cases hv
   have h0:Nat.ble 0 ys.length=true:=Nat.ble_eq.mpr (Nat.zero_le _)
   have h1:Nat.ble ys.length (ys++j).length=true:=Nat.ble_eq.mpr (by simp)
   have h2:Nat.ble 0 (ys++j).length=true:=Nat.ble_eq.mpr (Nat.zero_le _)
   simp only [jL,pU,pz,hT,hk,hE,hx,hy,slice,Ee,aT.lO,hg,hn,Nat.beq_refl,Bool.and_self,nE,bound,hai,qf,Option.getD_none,Nat.zero_add,h0,h1,h2,Bool.and_true,Bool.true_and,Dx,nH,Nat.sub_zero,kV]
end
section
variable {C:jZ} {F:lA} {Pr:kU} {fa:iN} {e:Env} {all rest:List Oper} {o:Oper} {q:Env->aT->Prop}
variable {H:aT} {ls:lh} {L:List jW} {i:Nat} {v:AV} {cs:List AV}
def BH {d:Nat} (hS:Sep H L) (hd:fa.iI.elem d=false):∃ v H',newVar fa d { H with iI:=ls } cs=some (v,{ H' with iI:=ls })/\∃ b,v=.ptr b 0 0 0/\Sep H' (.obj (.ptr b 0 0 0) cs::L):=by
 have hlo:=hS.lo
 refine ⟨.ptr H.size 0 0 0,H.push (.iQ 0 cs.length [cs]),?_,H.size,rfl,?_⟩
 ·grind [newVar,aT.yd]
 ·refine hS.new (by simp; omega) (by simp) ⟨H.size,cs.length,by simp,rfl,?_⟩ ?_ ?_<;>grind [aT.po,lJ,jW.v]
def C1 {t d:Nat} {ti:TI} (hS:Sep H L) (hd:fa.iI.elem d=false) (hT:C.T t=some ti):∃ v H',(∀ call,jL (.alloc t) ⟨C,fa,call⟩ e { H with iI:=ls } (some d)=some (v,{ H' with iI:=ls }))/\∃ b,v=.ptr b 0 0 0/\Sep H' (.obj (.ptr b 0 0 0) ti.zero::L):=by
 obtain ⟨v,H',h1,h2⟩:=BH (ls:=ls) (cs:=ti.zero) hS hd
 refine ⟨v,H',λcall=>?_,h2⟩
 simp_all [jL,Kx,Bo]
def sr {t d:Nat} {ti:TI} {x:Operand} {r:AV} (hS:Sep H L) (hd:fa.iI.elem d=false) (hT:C.T t=some ti) (hx:iZ e x=r) (hc:cellsOf ti r=some cs) (hok:cs.all AV.kK=true):∃ v H',(∀ call,jL (.box t x) ⟨C,fa,call⟩ e { H with iI:=ls } (some d)=some (v,{ H' with iI:=ls }))/\∃ b,v=.ptr b 0 0 0/\Sep H' (.obj (.ptr b 0 0 0) cs::L):=by
 obtain ⟨v,H',h1,h2⟩:=BH (ls:=ls) (cs:=cs) hS hd
 refine ⟨v,H',λcall=>?_,h2⟩
 simp only [jL,MI,Jn,hT,hx,hc,hok,h1]
def Sep.p0 (hS:Sep H L) (hi:L[i]?=some (.obj v cs)):v=nw v 0:=by
 obtain ⟨b,z,hb,rfl,hg⟩:=hS.at hi; rfl
def pB {o off ft f t:Nat} {x:Operand} {X:Ctx} {d:Option Nat} {ti:TI} {fs:List (Nat×Nat)} {h:aT} (hS:Sep H L) (hi:L[i]?=some (.obj v cs)) (hT:X.C.T t=some ti) (hk:ti.kind=.struct fs) (hf:fs[f]?=some (off,ft)) (hx:iZ e x=nw v o):jL (.fieldAddr t x f) X e h d=some (nw v (o+off),h):=by
 obtain ⟨b,z,hb,rfl,hg⟩:=hS.at hi
 simp_all [jL,rT,p8,nw,Cz,Du,nH,kV]
def qI {x:Operand} {X:Ctx} {d:Option Nat} {h:aT} {o:Nat} (hS:Sep H L) (hi:L[i]?=some (.obj v cs)) (hx:iZ e x=nw v o):jL (.nilCheck x) X e h d=some (nw v o,h):=by
 obtain ⟨b,z,hb,rfl,hg⟩:=hS.at hi
 simp only [jL,vG,hx,nw,Cf,kV]
def oY {o t:Nat} {r:AV} {x:Operand} {X:Ctx} {d:Option Nat} {ti:TI} (hS:Sep H L) (hi:L[i]?=some (.obj v cs)) (hT:X.C.T t=some ti) (hp:part ti cs o=some r) (hx:iZ e x=nw v o):jL (.load t x) X e { H with iI:=ls } d=some (r,{ H with iI:=ls }):=by
 obtain ⟨b,z,hb,rfl,hg⟩:=hS.at hi
 simp_all [jL,zB,xp,nw,sG,Bt,aT.lO,kV]
def mN {o t:Nat} {r:AV} {new cs':List AV} {x y:Operand} {d:Option Nat} {ti:TI} (hS:Sep H L) (hi:L[i]?=some (.obj v cs)) (hT:C.T t=some ti) (hx:iZ e x=nw v o) (hy:iZ e y=r) (hnew:cellsOf ti r=some new) (hok:new.all AV.kK=true) (hsp:nu cs o new=some cs') :
  ∃ u H',(∀ call,jL (.store t x y) ⟨C,fa,call⟩ e { H with iI:=ls } d=some (u,{ H' with iI:=ls }))/\u=.undef/\Sep H' (L.set i (.obj v cs')):=by
 obtain ⟨b,z,hb,rfl,hg⟩:=hS.at hi
 have hlob:H.lo<=b:=aT.nO hg
 refine ⟨.undef,H.set b (.iQ 0 z [cs']),λcall=>?_,rfl,?_⟩
 ·simp only [jL,yc,wF,hT,hx,hy,wa,hnew,hok,nw,yv,Dr,aT.lO,hg,Nat.beq_refl,List.getElem?_cons_zero,hsp,aT.p5,List.set_cons_zero]
 ·refine hS.mR hi (by simpa using hS.lo) (by simp) ⟨b,z,by simp_all,rfl,?_⟩ ?_ ?_
  ·grind [aT.lZ]
  ·intro b' hb' hne; rw [aT.lZ,if_neg (by rintro ⟨rfl,_⟩; exact hne rfl)]
  ·intro b' hb'; exact .inl hb'
end
def CE {H:aT} {L:List jW} {i:Nat} {n:Nat} {tt:Bool} {v:AV} {m:Nat} {xs:List (List AV)} (hS:Sep H L) (hi:L[i]?=some (.sl true tt v m xs)):og (n+1) v v=true:=by
 obtain ⟨hxl,⟨h0,rfl⟩ | ⟨h0 | h0,rfl⟩ | ⟨b,g,j,hb,rfl,hg,htj⟩⟩:=hS.at hi
 ·rfl
 ·cases h0
 ·subst h0; rfl
 ·simp [og]
def nq {X:Ctx} {all:List Oper} {e:Env} {h h':aT} {i d:Nat} {o:Oper} {v:AV} (ho:all[i]?=some o) (hw:jt all e o=some true) (hd:o.dst=some d) (hop:jL o.op X e h (some d)=some (v,h')) (hv:lM e d=v) (hq:og 8 v v=true):again X all e h i=true:=by
 grind [again,Fg]
section
variable {C:jZ} {F:lA} {Pr:kU} {fa:iN} {e:Env} {h:aT} {all rest:List Oper} {o:Oper} {q:Env->aT->Prop} {H:aT} {ls:lh}
def FP {i:Nat} {chk:List Nat} {sch:List (Nat×List Nat)} {v:AV} {h1:aT} (ho:all[i]?=some o) (hw:jt all e o=some true) (hop:∃ m,∀ k,m<=k->jL o.op (XN C F Pr fa k) e h o.dst=some (v,h1))
  (hc:∀ call,∀ j∈chk,again ⟨C,fa,call⟩ all (jn e o v) h1 j=true) (w:kX C F Pr fa all sch q (jn e o v) h1):kX C F Pr fa all ((i,chk)::sch) q e h:=by
 obtain ⟨m,hm⟩:=hop
 obtain ⟨e2,h2,⟨m2,hm2⟩,q2⟩:=w
 refine ⟨e2,h2,⟨max m m2,λk hk=>?_⟩,q2⟩
 grind [again,jn,tb,pX,zc]
def uj {j:Nat} {chk:List Nat} {sch:List (Nat×List Nat)} {P:AV->aT->Prop} (hj:all[j]?=some o) (hw:jt all e o=some true) (hop:∃ v H',(∀ call,jL o.op ⟨C,fa,call⟩ e { H with iI:=ls } o.dst=some (v,{ H' with iI:=ls }))/\P v H')
  (next:∀ v H',P v H'->(∀ call,∀ j∈chk,again ⟨C,fa,call⟩ all (jn e o v) { H' with iI:=ls } j=true)/\kX C F Pr fa all sch q (jn e o v) { H' with iI:=ls }):kX C F Pr fa all ((j,chk)::sch) q e { H with iI:=ls }:=by
 obtain ⟨v,H',h1,h2⟩:=hop
 obtain ⟨n1,n2⟩:=next v H' h2
 exact FP hj hw ⟨0,λk _=>h1 _⟩ n1 n2
end
def AE {p:Nat->Prop} {a:Nat} (h:p a):∀ j∈[a],p j:=by grind
def Ez {p:Nat->Prop} {a:Nat} {l:List Nat} (h:p a) (hl:∀ j∈l,p j):∀ j∈a::l,p j:=by
 grind
structure jm (α:Type) where
 l:List α
 c:m6
 ok:l.length<=rX
 nl:c=.nil->l=[]
def jm.av {α:Type} (enc : α->List AV) (r:jm α):AV:=.sl (r.l.map enc) r.c
def Row.ny {α:Type} (r:Row α):jm α:=⟨r.l,r.c,r.ok,r.nl⟩
section
variable {H:aT} {L:List jW} {i:Nat} {v:AV} {cs:List AV} {w tt:Bool} {n:Nat}
variable {α:Type} {enc : α->List AV} {l:List α}
def GF {xs:List (List AV)} {sn:Bool} (hS:Sep H L) (hi:L[i]?=some (.sl w tt v n xs)):∃ c,(p6 c=true->sn=true)/\(c=.nil->xs=[])/\∀ ls m,(∀ x∈xs,jJ (freeze sn { H with iI:=ls } m) x=some x)->freeze sn { H with iI:=ls } (m+1) v=some (.sl xs c):=by
 obtain ⟨hxl,⟨h0,rfl⟩ | ⟨_,rfl⟩ | ⟨b,g,j,hb,rfl,hg,htj⟩⟩:=hS.at hi
 ·subst h0; exact ⟨.nil,λh=>(by cases h),λ_=>rfl,λ_ _ _=>rfl⟩
 ·exact ⟨.exact xs.length,λh=>(by cases h),λh=>(by cases h),λ_ _ _=>rfl⟩
 ·refine ⟨A1 sn,?_,?_,λls m hm=>?_⟩
  ·cases sn
   ·intro h; cases h
   simp
  ·cases sn<;>exact λh=>by cases h
  ·have h2:Nat.ble (0+xs.length) (xs++j).length=true:=Nat.ble_eq.mpr (by simp)
   have h3:((xs++j).drop 0).take xs.length=xs:=by simp
   have h5:∀ ys:List (List AV),(∀ x∈ys,jJ (freeze sn { H with iI:=ls } m) x=some x)->np (freeze sn { H with iI:=ls } m) ys=some ys:=by
    intro ys
    induction ys<;>grind [np]
   simp only [freeze,aT.lO,hg,Nat.beq_refl,h2,Bool.and_self,h3,h5 xs hm]
def mE (hS:Sep H L) (hi:L[i]?=some (.sl w tt v n (l.map enc))) (hl:l.length<=rX):∃ r:Row α,r.l=l/\∀ ls m,(∀ x,jJ (freeze false { H with iI:=ls } m) (enc x)=some (enc x))->freeze false { H with iI:=ls } (m+1) v=some (r.av enc):=by
 obtain ⟨c,h1,h2,h3⟩:=GF (sn:=false) hS hi
 refine ⟨⟨l,c,hl,?_,λh=>List.map_eq_nil_iff.mp (h2 h)⟩,rfl,λls m hm=>h3 ls m ?_⟩<;>grind
def UG (hS:Sep H L) (hi:L[i]?=some (.sl w tt v n (l.map enc))) (hl:l.length<=rX):∃ r:jm α,r.l=l/\∀ ls m,(∀ x,jJ (freeze true { H with iI:=ls } m) (enc x)=some (enc x))->freeze true { H with iI:=ls } (m+1) v=some (r.av enc):=by
 obtain ⟨c,h1,h2,h3⟩:=GF (sn:=true) hS hi
 refine ⟨⟨l,c,hl,λh=>List.map_eq_nil_iff.mp (h2 h)⟩,rfl,λls m hm=>h3 ls m ?_⟩
 grind
theorem G3 {f:AV->Option AV}:∀ {es:List (AV×AV×Nat)},(∀ x∈od es,f x.2=some x.2)->o6 f es=some (od es)
 | [],_=>rfl
 | (k,v,c)::es,h=>by
   have h1:f v=some v:=h (k,v) (by simp [od])
   have h2:o6 f es=some (od es):=G3 λx hx=>h x (by simp only [od,List.map_cons,List.mem_cons]; exact .inr hx)
   simp only [o6,h1,h2,od,List.map_cons]
def uD {sn:Bool} {es:List (AV×AV)} (hS:Sep H L) (hi:L[i]?=some (.map v es)) (ls:lh) (m:Nat) (hm:∀ x∈es,freeze sn { H with iI:=ls } m x.2=some x.2):freeze sn { H with iI:=ls } (m+1) v=some (.fm es sn):=by
 obtain ⟨b,es',c,hb,rfl,hg,rfl,hst⟩:=hS.at hi
 grind [freeze,aT.lO,G3]
def uI {sn:Bool} {cs':List AV} (hS:Sep H L) (hi:L[i]?=some (.obj v cs)) (ls:lh) (m:Nat) (hm:jJ (freeze sn { H with iI:=ls } m) cs=some cs'):freeze sn { H with iI:=ls } (m+1) v=some (.ip cs' 0 sn):=by
 obtain ⟨b,z,hb,rfl,hg⟩:=hS.at hi
 grind [freeze,aT.lO]
end
def AV.oX:AV->Bool
 | .agg l=>l.all AV.kK
 | .jl _=>false
 | _=>true
theorem Lm {sn:Bool} {h:aT} {n:Nat} {v w:AV} (hp:v.lV=true) (hf:freeze sn h n v=some w):w=v:=by
 cases n with
 | zero=>simp [freeze] at hf
 | succ n =>
   cases v<;>simp only [AV.lV,Bool.false_eq_true] at hp<;>simp only [freeze,Option.some.injEq] at hf<;>try exact hf.symm
   ·grind
   ·grind
   grind
theorem ve {f:AV->Option AV}:∀ {l l':List AV},(∀ x∈l,∀ y,f x=some y->y=x)->jJ f l=some l'->l'=l
 | [],_,_,h=>by grind [jJ]
 | a::l,l',hx,h=>by
   simp only [jJ] at h
   split at h
   ·cases h
   ·rename_i w hw
    split at h
    ·cases h
    ·rename_i r hr
     simp only [Option.some.injEq] at h
     subst h
     rw [hx a (by simp) w hw,ve (λx hm=>hx x (by simp [hm])) hr]
theorem GV {hp:aT} {n:Nat} (c:List AV) (o:Nat) (s:Bool):freeze true hp (n+1) (.ip c o s)=some (.ip c o s):=by simp [freeze]
theorem Gt {hp:aT} {n:Nat} (c:List (AV×AV)) (s:Bool):freeze true hp (n+1) (.fm c s)=some (.fm c s):=by simp [freeze]
theorem Fj {h:aT} {n:Nat} {v w:AV} (hr:v.qZ=false) (hc:v.kK=true) (hf:freeze true h n v=some w):w=v:=by
 cases n with
 | zero=>simp [freeze] at hf
 | succ n =>
   cases v with
   | undef=>cases hc
   | la _ _=>cases hc
   | agg _=>cases hc
   | jl _=>cases hc
   | ptr _ _ _ _=>cases hr
   | hs _ _ _ _=>cases hr
   | hm _=>cases hr
   | sl xs c=>cases c<;>exact (Option.some.inj hf).symm
   | ip c o s=>grind [GV]
   | fm c s=>grind [Gt]
   | jQ f a c =>
     simp only [AV.qZ,Bool.not_eq_false',Bool.and_eq_true,List.all_eq_true] at hr
     grind [freeze,ve,Lm]
   | _=>exact (Option.some.inj hf).symm
theorem Kq {l:List AV} (hr:(AV.agg l).qZ=false) {x:AV} (hx:x∈l) (hc:x.kK=true):x.qZ=false:=by
 simp only [AV.qZ,List.any_eq_false] at hr
 have h1:=hr x hx
 cases x with
 | ptr _ _ _ _=>simp at h1
 | hs _ _ _ _=>simp at h1
 | hm _=>simp at h1
 | jQ f a c=>grind [AV.qZ]
 | agg _=>cases hc
 | _=>rfl
theorem MY {h:aT} {n:Nat} {v w:AV} (hr:v.qZ=false) (hfi:v.oX=true) (hf:freeze true h n v=some w):w=v:=by
 cases n with
 | zero=>simp [freeze] at hf
 | succ n =>
   cases v with
   | agg l =>
     rw [T6] at hf
     split at hf
     ·rename_i l' hl
      simp only [Option.some.injEq] at hf
      subst hf
      simp only [AV.oX,List.all_eq_true] at hfi
      rw [ve (λx hx y hy=>Fj (Kq hr hx (hfi x hx)) (hfi x hx) hy) hl]
     grind
   | jl l=>cases hfi
   | undef=>cases hf
   | la _ _=>cases hf
   | _=>exact Fj hr rfl hf
def lj {h:aT} {args args':List AV} (hf:jJ (freeze true h 8) args=some args') (hfi:args.all AV.oX=true):lB h args=some args':=by
 grind [lB,AV.qZ,ve,MY]
theorem Sep.oX {H:aT} {L:List jW} (h:Sep H L) {i:Nat} {r:jW} (hi:L[i]?=some r):AV.oX r.v=true:=by
 cases r with
 | sl w t v n xs=>obtain ⟨hl,⟨_,rfl⟩ | ⟨_,rfl⟩ | ⟨b,g,j,hb,rfl,hq,ht⟩⟩:=h.at hi<;>rfl
 | map v es=>obtain ⟨b,es',c,hb,rfl,hq,he,hst⟩:=h.at hi; rfl
 | obj v cs=>obtain ⟨b,z,hb,rfl,hq⟩:=h.at hi; rfl
def Fy {α:Type} {enc : α->List AV} {hp:aT} {n:Nat} (r:jm α):freeze true hp (n+1) (jm.av enc r)=some (jm.av enc r):=by
 grind [jm.av,freeze]
theorem uO {α:Type} {enc : α->List AV} {hp:aT} {n:Nat} (r:Row α):freeze true hp (n+1) (Row.av enc r)=some (Row.av enc r):=Fy r.ny
def Ux {sn:Bool} {hp:aT} {n:Nat} (c:List AV) (o:Nat):freeze sn hp (n+1) (.ip c o false)=some (.ip c o false):=by rfl
def UD {sn:Bool} {hp:aT} {n:Nat} (c:List (AV×AV)):freeze sn hp (n+1) (.fm c false)=some (.fm c false):=by rfl
def ua {C:jZ} {fa:iN} {e:Env} {h:aT} {call:qR} {f:Nat} {a c:Array Operand} {as cs:List AV} {d:Option Nat} (ha:a.toList.map (iZ e)=as) (hc:c.toList.map (iZ e)=cs) (hok:(as.all AV.kK&&cs.all AV.kK)=true):jL (.makeFunc (.func f) a c) ⟨C,fa,call⟩ e h d=some (.jQ f as cs,h):=by
 simp only [jL,va,sY,ha,hc,hok]
section
variable {C:jZ} {fa:iN} {e:Env} {h:aT} {α:Type} {enc : α->List AV}
def oH {X:Ctx} {d:Option Nat} {t el:Nat} {x:Operand} {cl:Call} {ti:TI} {r:jm α} (hc:cl.callee=.builtin .len) (ha:cl.args.toList=[x]) (hts:cl.argTypes.toList=[t]) (hT:X.C.T t=some ti) (hk:ti.kind=.slice el) (hx:iZ e x=r.av enc) :
  jL (.call cl) X e h d=some (.int .i64 r.l.length,h):=by
 simp_all [jL,pJ,oO,mH,w7,uV,vW,jm.av,u5,py]
def nQ {X:Ctx} {d:Option Nat} {t el:Nat} {x y:Operand} {ti te:TI} {r:jm α} {k:IntKind} {n:Nat} (hT:X.C.T t=some ti) (hk:ti.kind=.slice el) (hE:X.C.T el=some te) (hx:iZ e x=r.av enc) (hi:iZ e y=.int k (n:Int))
  (hn:n<r.l.length) (hl:(enc r.l[n]).length=te.size):jL (.indexAddr t x y) X e h d=some (.ip (enc r.l[n]) 0 (p6 r.c),h) :=
 Sh hT hk hE hx hi (by omega) (r:=enc r.l[n]) (by simp [hn]) hl
def Row.drop (r:Row α) (k:Nat):Row α:=⟨r.l.drop k,pv k r.c,by have:=r.ok; grind,by have:=r.sn; cases hc:r.c<;>rw [hc] at this<;>first | rfl | exact this,λh=>by
 cases hc:r.c<;>rw [hc] at h<;>first | (rw [r.nl hc]; simp) | cases h⟩
def Ma {X:Ctx} {d:Option Nat} {t el n k:Nat} {x y:Operand} {ti te:TI} {r:Row α} {kd:IntKind} (hT:X.C.T t=some ti) (hk:ti.kind=.slice el) (hE:X.C.T el=some te) (hx:iZ e x=r.av enc) (hy:iZ e y=.int kd (k:Int)) (hn:te.size=n) (hkl:k<=r.l.length) (henc:∀ x,(enc x).length=n) :
  jL (.slice t x (some y) none none) X e h d=some ((r.drop k).av enc,h):=by
 have hai:p9 (.int kd (k:Int))=some k:=rfl
 have h0:Nat.ble k (r.l.map enc).length=true:=Nat.ble_eq.mpr (by grind)
 have h1:Nat.ble (r.l.map enc).length (r.l.map enc).length=true:=Nat.ble_eq.mpr (Nat.le_refl _)
 have h2:oj n (r.l.map enc)=true:=by
  cases r.l with
  | nil=>rfl
  | cons a l=>simp_all [oj]
 have h3:((r.l.map enc).drop k).take ((r.l.map enc).length - k)=(r.l.drop k).map enc:=by
  rw [List.take_of_length_le (by simp),List.map_drop]
 simp only [jL,pU,pz,hT,hk,hE,hx,hy,Row.av,slice,vD,nE,bound,hai,qf,hn,h1,h2,h0,Bool.and_true,h3,p3,kV,Row.drop]
end
section
variable {C:jZ} {F:lA} {Pr:kU} {fa:iN} {e:Env} {h:aT} {all rest:List Oper} {o:Oper} {q:Env->aT->Prop}
def Um {f:Nat} {args args':List AV} {v:AV} {h h':aT} (hP:Pr f=none) (h1:lB h args=some args') (h2:lB h' args'=some args') (w:ji C F Pr false f args' h' v h'):ji C F Pr false f args h v h:=by
 obtain ⟨m,hm⟩:=w
 refine ⟨m+1,λk hk=>?_⟩
 obtain ⟨k,rfl⟩:∃ k',k=k'+1:=⟨k - 1,by omega⟩
 have:=hm (k+1) (by omega)
 simp only [l3,hP] at this ⊢
 cases hF:F f with
 | none=>grind
 | some fb =>
   simp only [hF,sD,h1,h2] at this ⊢
   cases hb:tF C fb (l3 C F Pr k) k args' aT.empty<;>grind [tF,l3,aT.empty,frozen,freeze]
def J6 {f:Nat} {g:Operand} {c:Call} {args p r:List AV} {v:AV} {d:Option Nat} (hf:c.callee=.value g) (hg:iZ e g=.jQ f p r) (ha:c.args.toList.map (iZ e)=args) (hok:(p++args++r).all AV.nA=true) (hs:fa.jw.elem f=false)
  (w:ji C F Pr false f (p++args++r) { h with iI:=[] } v { h with iI:=[] }):∃ m,∀ k,m<=k->jL (.call c) (XN C F Pr fa k) e h d=some (v,h):=by
 obtain ⟨m,hm⟩:=w
 refine ⟨m,λk hk=>?_⟩
 simp only [jL,pJ,oO,hf,hg,ha,uQ,BW,hok,hs,hm k hk,wI]
def mV {f:Nat} {g:Operand} {c:Call} {args p r args':List AV} {R:AV->Prop} (ho:o.op=.call c) (hw:jt all e o=some true) (hf:c.callee=.value g) (hg:iZ e g=.jQ f p r) (ha:c.args.toList.map (iZ e)=args) (hok:(p++args++r).all AV.nA=true) (hs:fa.jw.elem f=false)
  (hP:Pr f=none) (h1:lB { h with iI:=[] } (p++args++r)=some args') (h2:lB aT.empty args'=some args')
  (w:∀ h:aT,∃ v,ji C F Pr false f args' h v h/\R v) (next:∀ v,R v->kO C F Pr fa all rest q (jn e o v) h):kO C F Pr fa all (o::rest) q e h:=by
 obtain ⟨v,hc,hR⟩:=w aT.empty
 refine zK hw ?_ (next v hR)
 rw [ho]
 exact J6 hf hg ha hok hs (Um hP h1 h2 hc)
variable {H:aT} {ls:lh}
def jV {f:Nat} {g:Operand} {c:Call} {args p r:List AV} {R:AV->aT->Prop} (ho:o.op=.call c) (hw:jt all e o=some true) (hf:c.callee=.value g) (hg:iZ e g=.jQ f p r) (ha:c.args.toList.map (iZ e)=args) (hok:(p++args++r).all AV.nA=true) (hs:fa.jw.elem f=true)
  (w:∃ v H',ji C F Pr true f (p++args++r) { H with iI:=[] } v H'/\R v H') (next:∀ v H',R v H'->kO C F Pr fa all rest q (jn e o v) { H' with iI:=ls }):kO C F Pr fa all (o::rest) q e { H with iI:=ls }:=by
 obtain ⟨v,H',hc,hR⟩:=w
 refine zK hw ?_ (next v H' hR)
 rw [ho]
 exact EN hf hg ha hok hs hc
def TU {j:Nat} {sch:List (Nat×List Nat)} {f:Nat} {g:Operand} {c:Call} {args p r:List AV} {R:AV->aT->Prop} (hj:all[j]?=some o) (ho:o.op=.call c) (hw:jt all e o=some true) (hf:c.callee=.value g) (hg:iZ e g=.jQ f p r) (ha:c.args.toList.map (iZ e)=args) (hok:(p++args++r).all AV.nA=true) (hs:fa.jw.elem f=true)
  (w:∃ v H',ji C F Pr true f (p++args++r) { H with iI:=[] } v H'/\R v H') (next:∀ v H',R v H'->kX C F Pr fa all sch q (jn e o v) { H' with iI:=ls }):kX C F Pr fa all ((j,[])::sch) q e { H with iI:=ls }:=by
 obtain ⟨v,H',hc,hR⟩:=w
 refine Cs hj hw ?_ (next v H' hR)
 rw [ho]
 exact EN hf hg ha hok hs hc
end
def mj {α:Type} (enc : α->List AV) (r:Row α):List AV:=[r.av enc]
structure nC where
 vC:Int
 steps:jm jg
 pos:jm Int
 left:jm (Row j8)
def nC.ag (x:nC):List AV:=[.int .i64 x.vC,x.steps.av jg.ag,x.pos.av j4,x.left.av (mj j8.ag)]
structure sN where
 from_:Int
 to:Int
 end_:Int
 steps:jm jg
 l8:jm jO
 guards:jm jO
 mB:jm Int
 holds:jm Int
 bare:Bool
def sN.ag (x:sN):List AV:=[.int .i64 x.from_,.int .i64 x.to,.int .i64 x.end_,x.steps.av jg.ag,x.l8.av jO.ag,x.guards.av jO.ag,x.mB.av j4,x.holds.av j4,.bool x.bare]
structure jY where
 ki:bG
 roads:Row ja
def jY.ag (x:jY):List AV:=x.ki.ag++[x.roads.av ja.ag]
def sK (s:List UInt8):AV:=.str s
def bK (b:Bool):AV:=.bool b
def p7 (a b:List UInt8):lR (sK a) (sK b)=some (decide (a=b)):=by
 simp only [lR,sK,AV.agg?,mz,y8,AV.str?]
 grind
def Sep.wZ {H:aT} {L:List jW} {i:Nat} {w t:Bool} {v:AV} {n:Nat} {xs:List (List AV)} (h:Sep H L) (hi:L[i]?=some (.sl w t v n xs)):Sep H (L.set i (.sl w false v n xs)):=by
 obtain ⟨hxl,hc⟩:=h.at hi
 refine h.mR hi h.lo (Nat.le_refl _) ⟨hxl,?_⟩ (λ_ _ _=>rfl) (λb hb=>.inl hb)
 grind
def nW {ti:TI} {v:AV} (ha:ti.agg=false) (hs:ti.size=1) (hc:v.kK=true):cellsOf ti v=some [v]:=by
 simp_all [cellsOf]
def kg {p:AV->Bool}:([]:List AV).all p=true:=rfl
def jb {p:AV->Bool} {a:AV} {l:List AV} (h:p a=true) (hl:l.all p=true):(a::l).all p=true:=by grind
def tP {a b:Bool} (h:a=true) (hl:b=true):(a&&b)=true:=by grind
def ach {l:List AV} (h:l.all AV.kK=true):AV.oX (.agg l)=true:=h
def v7 {κ β:Type} {ek : κ->AV} {ev : β->AV} {p:AV×AV->Prop} {l:List (κ×β)} (h:∀ x : κ×β,p (ek x.1,ev x.2)):∀ x∈j1 ek ev l,p x:=by
 intro x hx; obtain ⟨y,_,rfl⟩:=List.mem_map.mp hx; exact h y
def mg {α:Type} {enc : α->List AV} (r:Row α):AV.zd (r.av enc)=true:=by
 have h:=r.sn
 unfold Row.av
 cases hc:r.c<;>rw [hc] at h<;>first | rfl | cases h
def DF {X:Ctx} {e:Env} {h:aT} {t n d:Nat} {ps:Array (Nat×Operand)} {ti:TI} {xs:List (List AV)} (hT:uq X.C t=some ti) (hle:Nat.ble (n*ti.size) 16777216=true) (hf:tO ti (pD e ps) (List.replicate n ti.zero)=some xs) (hd:X.fa.sZ.elem d=false) (hp:so xs=true):jL (.buildSlice t n ps) X e h (some d)=some (.sl xs (.exact xs.length),h):=by
 simp only [jL,vR,sH,hT,hle,hf,An,hd,hp,Bool.not_true,Bool.or_self]
def jm.isNil {α:Type} (r:jm α):Bool:=match r.c with
 | .nil=>true
 | _=>false
def jm.of_nil {α:Type} {r:jm α} (h:r.isNil=true):r.l=[]:=by
 apply r.nl
 grind [jm.isNil]
def qW {α:Type} {enc : α->List AV} {e:Env} {h:aT} {X:Ctx} {d:Option Nat} {t u el:Nat} {x y:Operand} {ti:TI} {r:jm α} (hT:X.C.T t=some ti) (hk:ti.kind=.slice el) (hx:iZ e x=r.av enc) (hy:iZ e y=.sl [] .nil):jL (.binOp .eql t x y u) X e h d=some (.bool r.isNil,h):=by
 simp only [jL,Ao,binOp,hx,hy,jm.av,AV.int?,AV.str?,Bx,hT,zp,hk,tN,jm.isNil]
 cases r.c<;>rfl
def Sep.aaH {H:aT} {L:List jW} {i:Nat} {t:Bool} {v:AV} {n:Nat} {xs:List (List AV)} (h:Sep H L) (hi:L[i]?=some (.sl true t v n xs)):(v=.sl [] .nil/\xs=[])\/(v=.sl [] (.exact 0)/\xs=[])\/∃ b g,v=.hs b g 0 xs.length:=by
 obtain ⟨hxl,h1 | ⟨h1 | h1,h2⟩ | ⟨b,g,j,h1,h2,h3,h4⟩⟩:=h.at hi<;>grind
end Go.Sx
