/- Proves rules for the walks and their soundness. -/
import Derived.Test.YtojhnkioagammaaGreatTaa
import Derived.Test.YtojhnkioagammaaGreatTad
set_option linter.all false
namespace Go.Sx
def mG (shd:Bool) (args:List AV) (h:ah):R2:=match args with
 | [.g8]=>some (.g8,h)
 | [.fm es s]=>some (.fm es s,h)
 | [.hm b]=>match shd with
   | true=>match h.get b with
     | some (.map es c)=>some (.hm h.size,h.push (.map es c))
     | _=>none
   | false=>none
 | _=>none
def OB (f:Func):Code:=match f.body with
 | some c=>c
 | none=>.skip
end Go.Sx
namespace Go.Sx
open Go
theorem G4 {G:Ga} (hW:WR G) (o:Obj) (s:Bool) :
  let G':Ga:=⟨G.w.alloc o,fun s' B=>G.T s' B∨(s'=s∧B=G.w.heap.size),G.h,G.pi,G.L⟩
  Step G G'∧WR G':=by
 intro G'
 obtain ⟨S,W⟩:=yf hW o
 have hold:∀ B,B<G.w.heap.size→(G.w.alloc o).heap[B]?=G.w.heap[B]?:=fun B hB=>(iQ.alloc G.w o).oP (G:=G) hB
 have E:Ext G G':=⟨fun _ _ h=>.inl h,S.ext.fi,S.ext.size,S.ext.fW,S.ext.map,S.ext.aq⟩
 refine ⟨⟨E,S.os,S.output,S.tape,S.iX,S.frame,S.kn,S.kZ,?_,S.lo,S.out,S.nz,S.ou,S.oW⟩,?_⟩
 ·grind
 ·obtain ⟨k1,k2,k3⟩:=hW.fi E hold
  refine ⟨k1,k2,k3,W.iV,W.kC,?_,W.mv,?_,W.mY,W.j4,?_,W.lo,W.lt⟩
  ·rintro s' b l h (ht | ⟨_,ht⟩)
   ·exact hW.nX s' b l h ht
   ·have:=(hW.iV b l h).1
    omega
  ·rintro s' d B h (ht | ⟨_,ht⟩)
   ·exact hW.LT s' d B h ht
   ·have:=(hW.j4 d B h).1
    omega
  ·rintro s' B (h | ⟨_,rfl⟩)
   ·exact W.lu s' B h
   ·show G.w.heap.size<(G.w.alloc o).heap.size
    simp
theorem ua {P : Program} {f : Nat} (hex : ∃ fn, P.funcs[f]? = some fn ∧ fn.body.isNone = false ∧ (fn.name == "runtime.NumGoroutine") = false)
  (h1:∀ b es clock (w:World),w.heap[b]?=some (.map es clock)→Calls P f #[.map (some b)] w fun e w'=>e=.returned (.map (some w.heap.size))∧w'=w.alloc (.map es clock))
  (h0:∀ w:World,Calls P f #[.map none] w fun e w'=>e=.returned (.map none)∧w'=w):sh P f mG where
 call:=by
  intro shd args h v h' hc G args' hG hlo hL hW hl hr
  refine ⟨hex,?_⟩
  intro R hR
  subst hG
  have one:∀ x:AV,args=[x]→∃ y,args' = #[y]∧VC G x y:=by
   rintro x rfl
   cases args' with | mk l =>
   cases l with
   | nil=>simp at hl
   | cons y l =>
     cases l with
     | nil=>exact ⟨y,rfl,hr 0 x y rfl rfl⟩
     | cons _ _=>simp at hl
  unfold mG at hc
  split at hc
  ·obtain ⟨y,rfl,hy⟩:=one _ rfl
   cases hc
   have hv:=hy.vr
   cases hv with
   | gF _ hp =>
     cases hp
     refine (h0 G.w).mono ?_
     rintro e w' ⟨rfl,rfl⟩
     exact hR _ G (.refl G) hW (fun m=>rfl) (fun m L=>VR.gV (.gF rfl (.g8 _)) rfl)
  ·rename_i es s
   obtain ⟨y,rfl,hy⟩:=one _ rfl
   cases hc
   have hv:=hy.vr
   cases hv with
   | gF _ hp =>
     cases hp with
     | fm _ _ _ r ents clk _ hB hI hll hyo hko hk hvv =>
       refine (h1 r ents clk G.w hB).mono ?_
       rintro e w' ⟨rfl,rfl⟩
       obtain ⟨S1,W1⟩:=G4 hW (.map ents clk) s
       refine hR _ _ S1 W1 (fun m=>rfl) (fun m L=>VR.gV (.gF rfl ?_) rfl)
       refine .fm _ es s G.w.heap.size ents clk (fun _=>rfl) ((iQ.alloc G.w _).new (G:=G)) (.inr ⟨rfl,rfl⟩) hll hyo hko ?_ ?_
       ·exact fun i p e hp he=>(hk i p e hp he).mono S1.ext.T S1.ext.fi
       ·exact fun i p e hp he=>(hvv i p e hp he).mono S1.ext.T S1.ext.fi
  ·rename_i b
   obtain ⟨y,rfl,hy⟩:=one _ rfl
   split at hc
   ·split at hc
    ·rename_i es c hget
     cases hc
     obtain ⟨l,ents,hpi,rfl,hB,hent,hyo⟩:=py hW hy.vr hget
     refine (h1 l.B ents c G.w hB).mono ?_
     rintro e w' ⟨rfl,rfl⟩
     obtain ⟨S1,W1⟩:=zO (ob:=.map es c) (cap:=0) hW (iQ.alloc G.w (.map ents c)) (by simp) (by
      intro es2 c2 e G' E hnew
      cases e
      have hent2:=hent.mono E
      exact ⟨ents,hnew,by simpa using hent2.1,hyo,fun i p e hp he=>hent2.2 i p e hp (by grind)⟩)
     refine hR _ _ S1 W1 (fun m=>rfl) (fun m L=>VR.gV (.hm _ _ ?_ ?_) rfl)<;>grind [VR.gV,ah.size_push,jy]
    grind
   grind
  grind
 Bv:=by
  intro args h v h' hc
  unfold mG at hc
  split at hc
  ·cases hc; exact ⟨rfl,fun _ _=>rfl⟩
  ·cases hc; exact ⟨rfl,fun _ _=>rfl⟩
  ·cases hc
  grind
end Go.Sx
namespace Go.Sx
open Go
def acY (P:Program) (t n:Nat):Bool:=match P.info? t with
 | some i=>Nat.beq i.size n
 | none=>false
def BD (P:Program) (t:Nat) (k:TK):Bool:=match P.underlying t,k with
 | some .bool,.bool=>true
 | some (.int a),.int b=>ma a b
 | some .string,.str=>true
 | _,_=>false
def Cm (P:Program) (t:Nat):Option Nat:=match P.underlying t with
 | some (.struct _)=>(P.info? t).map (·.size)
 | _=>none
def pA (P:Program) (rec:Nat→List TK→Bool):List Field→Nat→List TK→Bool
 | [],_,ks=>ks.isEmpty
 | f :: fs, off, ks => (f.name != "_") && Nat.beq f.offset off && match Cm P f.type with
   | some n=>Nat.ble n ks.length&&rec f.type (ks.take n)&&pA P rec fs (off+n) (ks.drop n)
   | none=>match ks with
     | k::ks=>BD P f.type k&&pA P rec fs (off+1) ks
     | []=>false
def px (P:Program):Nat→Nat→List TK→Bool
 | 0,_,_=>false
 | d+1,t,ks=>match P.underlying t with
   | some (.struct F)=>!P.stoodInHeld t&&pA P (px P d) F.toList 0 ks
   | _=>false
section
variable {P:Program}
theorem vP:∀ {a b:List AV} (c d:List AV),a.length=b.length→jx (a++c) (b++d)=match jx a b,jx c d with
  | some x,some y=>some (x&&y)
  | _,_=>none
 | [],[],c,d,_=>by
   simp only [List.nil_append,jx]
   cases jx c d<;>simp
 | [],_::_,_,_,h=>by simp at h
 | _::_,[],_,_,h=>by simp at h
 | x::a,y::b,c,d,h=>by
   have ih:=vP c d (a:=a) (b:=b) (by simpa using h)
   simp only [List.cons_append,jx]
   cases hs:jO x y with
   | none=>rfl
   | some v =>
     cases v with
     | true=>simp only [ih]
     | false =>
       simp only [ih]
       cases jx a b<;>cases jx c d<;>simp
theorem wF:∀ {l m:List AV} {b:Bool},jx l m=some b→l.length=m.length
 | [],[],_,_=>rfl
 | [],_::_,_,h=>by cases h
 | _::_,[],_,h=>by cases h
 | x::l,y::m,b,h=>by
   simp only [jx] at h
   split at h
   ·simp [wF h]
   ·split at h
    ·rename_i q; simp [wF q]
    ·cases h
   ·cases h
theorem sO:∀ {ks:List TK} {l:List AV},fitAll ks l=true→l.length=ks.length
 | [],[],_=>rfl
 | [],_::_,h=>by cases h
 | _::_,[],h=>by cases h
 | _::ks,_::l,h=>by
   simp only [fitAll,Bool.and_eq_true] at h
   simp [sO h.2]
theorem uL:∀ (n:Nat) {ks:List TK} {l:List AV},fitAll ks l=true→fitAll (ks.take n) (l.take n)=true∧fitAll (ks.drop n) (l.drop n)=true
 | 0,ks,l,h=>⟨by rfl,by grind⟩
 | n+1,[],[],_=>⟨rfl,rfl⟩
 | _+1,[],_::_,h=>by cases h
 | _+1,_::_,[],h=>by cases h
 | n+1,k::ks,a::l,h=>by
   simp only [fitAll,Bool.and_eq_true] at h
   obtain ⟨h1,h2⟩:=uL n h.2
   exact ⟨by simp [fitAll,h.1,h1],by simpa using h2⟩
def Rel (w:World) (T:Bool→Nat→Prop) (l:List AV) (xs:Array Value):Prop:=l.length=xs.size∧∀ (i:Nat) (x:AV) (y:Value),l[i]?=some x→xs[i]?=some y→PR w T true x y
theorem Rel.part {w:World} {T:Bool→Nat→Prop} {l:List AV} {xs:Array Value} (h:Rel w T l xs) (o n:Nat) (hle:o+n≤l.length):Rel w T ((l.drop o).take n) (xs.extract o (o+n)):=by
 refine ⟨by simp [← h.1]; omega,?_⟩
 intro i x y hx hy
 rw [List.getElem?_take] at hx
 split at hx
 ·rw [List.getElem?_drop] at hx
  rw [Array.getElem?_extract] at hy
  split at hy
  ·exact h.2 (o+i) x y hx hy
  grind
 grind
theorem rY {t:Nat} {k:TK} (hk:BD P t k=true) {xs:Array Value} {o:Nat} {y:Value} (hy:xs[o]?=some y) (w:World):(Go.part t xs o).run P w=.ok y w:=by
 unfold BD at hk
 have:∃ d,P.underlying t=some d∧DE d=false:=by
  split at hk<;>first | exact ⟨_,by assumption,rfl⟩ | cases hk
 obtain ⟨d,hd,hag⟩:=this
 have hA:(Go.isAgg t).run P w=.ok false w:=by
  unfold Go.isAgg
  rw [Sem.run_bind,run_underlying hd w,← hag]
  cases d<;>rfl
 simp_all [Go.part,Sem.run_bind]
theorem tJ {t n:Nat} (hk:Cm P t=some n) (xs:Array Value) (o:Nat) (w:World):(Go.part t xs o).run P w=.ok (.agg (xs.extract o (o+n))) w:=by
 unfold Cm at hk
 split at hk
 ·rename_i F hF
  cases hi:P.info? t with
  | none=>grind
  | some i =>
    simp_all [Go.isAgg,Sem.run_bind,run_underlying,Go.part,Go.sizeOf,typeInfo]
 grind
theorem yw {t:Nat} {k:TK} (hk:BD P t k=true) {a c:AV} {x y:Value} {b:Bool} {w:World} {T:Bool→Nat→Prop} (hf:oM k a=true) (hx:PR w T true a x) (hy:PR w T true c y) (h:jO a c=some b) (d:Nat) :
  (Op.equalIn (d+1) t x y).run P w=.ok b w:=by
 unfold BD at hk
 split at hk
 ·rename_i hd
  cases a<;>simp only [oM,Bool.false_eq_true] at hf
  cases c<;>simp only [jO,uH,AV.bool?,reduceCtorEq] at h
  cases hx; cases hy<;>grind [run_equalIn_bool]
 ·rename_i k1 k2 hd
  cases a<;>simp only [oM,Bool.false_eq_true] at hf
  cases c<;>simp only [jO,ra,AV.int?,reduceCtorEq] at h
  split at h
  ·rename_i hkk
   rw [nf] at hkk
   cases hx; cases hy<;>grind [run_equalIn_int,m3]
  ·cases h
 ·rename_i hd
  cases a<;>simp only [oM,Bool.false_eq_true] at hf
  cases c<;>simp only [jO,ve,AV.str?,reduceCtorEq] at h
  cases hx with
  | str _ _ p hp =>
    cases hy with
    | str _ _ q hq =>
      have:(Op.equalIn (d+1) t (.string p) (.string q)).run P w=.ok (p==q) w:=by simp [Op.equalIn,run_underlying hd]
      grind [zw]
 grind
theorem ny {rec:Nat→List TK→Bool} {d:Nat}
  (hrec:∀ t ks,rec t ks=true→∀ (l m:List AV) (xs ys:Array Value) (b:Bool) (w:World) (T:Bool→Nat→Prop),fitAll ks l=true→Rel w T l xs→Rel w T m ys→jx l m=some b→(Op.equalIn d t (.agg xs) (.agg ys)).run P w=.ok b w)
  (hd:0<d) {l m:List AV} {xs ys:Array Value} {w:World} {T:Bool→Nat→Prop} (hx:Rel w T l xs) (hy:Rel w T m ys) :
  ∀ (fs:List Field) (off:Nat) (ks:List TK) (b:Bool),pA P rec fs off ks=true→fitAll ks (l.drop off)=true→jx (l.drop off) (m.drop off)=some b→off≤l.length→l.length=m.length →
    (Op.eqFields d xs ys fs).run P w=.ok b w
 | [],off,ks,b,hfl,hfit,he,_,_=>by
   simp only [pA,List.isEmpty_iff] at hfl
   subst hfl
   have h0:=sO hfit
   have h1:l.drop off=[]:=List.eq_nil_of_length_eq_zero h0
   have h2:m.drop off=[]:=List.eq_nil_of_length_eq_zero (by grind)
   rw [h1,h2] at he
   cases he
   rfl
 | f::fs,off,ks,b,hfl,hfit,he,hol,hlm=>by
   simp only [pA,Bool.and_eq_true,bne_iff_ne,ne_eq] at hfl
   obtain ⟨⟨hname,hoff⟩,hrest⟩:=hfl
   have hoff:=Nat.eq_of_beq_eq_true hoff
   unfold Op.eqFields
   rw [if_pos hname,hoff]
   split at hrest
   ·rename_i n hn
    simp only [Bool.and_eq_true,Nat.ble_eq] at hrest
    obtain ⟨⟨hnk,hr⟩,hfs⟩:=hrest
    have hlen:=sO hfit
    rw [List.length_drop] at hlen
    obtain ⟨fit1,fit2⟩:=uL n hfit
    rw [List.drop_drop] at fit2
    have hsplit:jx (l.drop off) (m.drop off)=match jx ((l.drop off).take n) ((m.drop off).take n),jx (l.drop (off+n)) (m.drop (off+n)) with
      | some x,some y=>some (x&&y)
      | _,_=>none:=by
     have:=vP (a:=(l.drop off).take n) (b:=(m.drop off).take n) (l.drop (off+n)) (m.drop (off+n)) (by simp [hlm])
     rw [← List.drop_drop (i:=n) (j:=off),← List.drop_drop (i:=n) (j:=off),List.take_append_drop,List.take_append_drop] at this
     simp_all
    rw [hsplit] at he
    split at he
    ·rename_i b1 b2 h1 h2
     cases he
     have e1:=hrec _ _ hr _ _ _ _ b1 w T fit1 (hx.part off n (by omega)) (hy.part off n (by omega)) h1
     have e2:=ny hrec hd hx hy fs (off+n) _ b2 hfs fit2 h2 (by omega) hlm
     simp only [Sem.run_bind,tJ hn,Result.andThen_ok,e1,Sem.run_ite]
     cases b1<;>simp_all
    grind
   ·rename_i hn
    split at hrest
    ·rename_i k ks
     simp only [Bool.and_eq_true] at hrest
     obtain ⟨hk,hfs⟩:=hrest
     cases hld:l.drop off with
     | nil=>rw [hld] at hfit; cases hfit
     | cons a l' =>
       cases hmd:m.drop off with
       | nil=>rw [hld,hmd] at he; cases he
       | cons c m' =>
         have hl':l'=l.drop (off+1):=by rw [← List.drop_drop,hld]; rfl
         have hm':m'=m.drop (off+1):=by rw [← List.drop_drop,hmd]; rfl
         rw [hld] at hfit
         simp only [fitAll,Bool.and_eq_true] at hfit
         have hla:l[off]?=some a:=by
          have:(l.drop off)[0]?=some a:=by grind
          grind
         have hmc:m[off]?=some c:=by
          have:(m.drop off)[0]?=some c:=by grind
          grind
         have hlt:=(List.getElem?_eq_some_iff.1 hla).1
         have hmt:=(List.getElem?_eq_some_iff.1 hmc).1
         have hlx:off<xs.size:=by rw [← hx.1]; exact hlt
         have hly:off<ys.size:=by rw [← hy.1]; exact hmt
         have hxo:xs[off]?=some xs[off]:=by simp
         have hyo:ys[off]?=some ys[off]:=by simp
         rw [hld,hmd] at he
         simp only [jx] at he
         have next:∀ b2,jx l' m'=some b2→(Op.eqFields d xs ys fs).run P w=.ok b2 w:=by
          intro b2 h2
          rw [hl',hm'] at h2
          exact ny hrec hd hx hy fs (off+1) ks b2 hfs (by rw [← hl']; exact hfit.2) h2 (by omega) hlm
         obtain ⟨d',rfl⟩:∃ d',d=d'+1:=⟨d - 1,by omega⟩
         simp only [Sem.run_bind,rY hk hxo,rY hk hyo,Result.andThen_ok]
         split at he
         ·rename_i hs
          rw [yw hk hfit.1 (hx.2 off a _ hla hxo) (hy.2 off c _ hmc hyo) hs d']
          grind [Result.andThen_ok]
         ·rename_i hs
          rw [yw hk hfit.1 (hx.2 off a _ hla hxo) (hy.2 off c _ hmc hyo) hs d']
          split at he<;>simp_all
         grind
    grind
theorem vO:∀ (d t:Nat) (ks:List TK),px P d t ks=true→∀ (D:Nat) (l m:List AV) (xs ys:Array Value) (b:Bool) (w:World) (T:Bool→Nat→Prop),fitAll ks l=true→Rel w T l xs→Rel w T m ys→jx l m=some b →
  (Op.equalIn (D+1+d) t (.agg xs) (.agg ys)).run P w=.ok b w
 | 0,_,_,h=>by cases h
 | d+1,t,ks,h=>by
   intro D l m xs ys b w T hfit hx hy he
   simp only [px] at h
   split at h
   ·rename_i F hF
    simp only [Bool.and_eq_true,Bool.not_eq_true'] at h
    have hfo:P.fieldsOf t=F:=by simp [Program.fieldsOf,hF]
    rw [show D+1+(d+1)=(D+1+d)+1 by omega,run_equalIn_struct w (D+1+d) t xs ys (by rw [hfo]; exact hF) h.1,hfo]
    exact ny (fun t' ks' h'=>vO d t' ks' h' D) (by omega) hx hy F.toList 0 ks b h.2 (by simpa using hfit) (by simpa using he) (Nat.zero_le _) (wF he)
   ·cases h
theorem sB:∀ (d t:Nat) (ks:List TK),px P d t ks=true→∀ (D:Nat) (em:Bool) (xs:Array Value) (w:World),xs.size=ks.length→(Instr.checkKey em (D+1+d) t (.agg xs)).run P w=.ok () w
 | 0,_,_,h=>by cases h
 | d+1,t,ks,h=>by
   intro D em xs w hsz
   simp only [px] at h
   split at h
   ·rename_i F hF
    simp only [Bool.and_eq_true] at h
    have hfl:=h.2
    rw [show D+1+(d+1)=(D+1+d)+1 by omega]
    unfold Instr.checkKey
    simp only [Sem.run_bind,run_underlying hF,Result.andThen_ok]
    rw [← Array.forIn_toList]
    have go:∀ (fs:List Field) (off:Nat) (ks':List TK),pA P (px P d) fs off ks'=true→off+ks'.length=xs.size →
      (forIn (m := Sem) fs PUnit.unit (fun f _ => if f.name ≠ "_" then do
        Instr.checkKey em (D+1+d) f.type (← Go.part f.type xs f.offset)
        pure (ForInStep.yield PUnit.unit) else pure (ForInStep.yield PUnit.unit))).run P w=.ok PUnit.unit w:=by
     intro fs
     induction fs with
     | nil=>simp
     | cons f fs ih =>
       intro off ks' hf ho
       simp only [pA,Bool.and_eq_true,bne_iff_ne,ne_eq] at hf
       obtain ⟨⟨hname,hoff⟩,hrest⟩:=hf
       have hoff:=Nat.eq_of_beq_eq_true hoff
       rw [List.forIn_cons]
       split at hrest
       ·rename_i n hn
        simp only [Bool.and_eq_true,Nat.ble_eq] at hrest
        obtain ⟨⟨hnk,hr⟩,hfs⟩:=hrest
        have e1:=sB d f.type _ hr D em (xs.extract f.offset (f.offset+n)) w (by grind)
        grind [Sem.run_bind,tJ,Result.andThen_ok,Sem.run_pure]
       ·split at hrest
        ·rename_i k ks2
         simp only [Bool.and_eq_true] at hrest
         have hlt:f.offset<xs.size:=by grind
         have hxo:xs[f.offset]?=some xs[f.offset]:=by simp
         have e0:(Instr.checkKey em (D+1+d) f.type xs[f.offset]).run P w=.ok () w:=by
          have hk:=hrest.1
          unfold BD at hk
          grind [ta]
         have e2:=ih (off+1) _ hrest.2 (by grind)
         simp only [Sem.run_bind,if_pos hname,rY hrest.1 hxo,Result.andThen_ok,e0,Sem.run_pure]
         exact e2
        grind
    rw [go F.toList 0 ks hfl (by omega)]
    rfl
   ·cases h
def K0 (P:Program) (d:TypeDesc) (k:TK):Bool:=match d,k with
 | .bool,.bool=>true
 | .int a,.int b=>ma a b
 | .string,.str=>true
 | .pointer _,.ptr=>true
 | .slice a,.slice b=>Nat.beq a b
 | .array n a,.array m b=>Nat.beq n m&&Nat.beq a b
 | .map a b,.map c e=>Nat.beq a c&&Nat.beq b e
 | .struct F,.struct fs=>(fs==F.toList.map fun f=>(f.offset,f.type))&&F.toList.all fun f=>match P.info? f.type with
   | some i=>!(Nat.beq i.size 0)
   | none=>false
 | .func ..,.func=>true
 | _,.other=>true
 | _,_=>false
def Jw (ti:TI) (z:Value):Bool:=my (mc 2) ti.zero (z.cells.toList.map zN)&&Nat.beq z.cells.size ti.size&&z.cells.toList.all (·.oneCell')&&match ti.agg,z with
 | true,.agg _=>true
 | true,_=>false
 | false,z=>z.oneCell'
def ES (P:Program) (t:Nat) (ti:TI):Bool :=
 (match P.info? t with
 | some i=>Nat.beq i.size ti.size&&Nat.beq i.bytes ti.bytes&&match i.zero with
   | some z=>Jw ti z
   | none=>false
 | none=>false) &&
 (match P.underlying t with
 | some d=>AN (DE d) ti.agg&&K0 P d ti.kind
 | none=>false) &&
 Nat.ble ti.bytes 1048576 &&
 (!ti.flat||!(P.eqGuardType P.depth t)) &&
 (!(ti.flat&&ti.agg)||(px P 3 t ti.sc&&Nat.beq ti.sc.length ti.size))
theorem Rm {t:Nat} {ti:TI} (h:ES P t ti=true):kD P t ti:=by
 simp only [ES,Bool.and_eq_true] at h
 obtain ⟨⟨⟨⟨h1,h2⟩,h3⟩,h4⟩,h5⟩:=h
 have hflat:ti.flat=true→ti.agg=true→px P 3 t ti.sc=true∧ti.sc.length=ti.size:=by
  intro hf ha
  simp_all
 refine ⟨?_,?_,Nat.le_of_ble_eq_true h3,?_,?_,?_⟩
 ·split at h1
  ·rename_i i hi
   simp only [Bool.and_eq_true] at h1
   obtain ⟨⟨a1,a2⟩,a3⟩:=h1
   split at a3
   ·rename_i z hz
    simp only [Jw,Bool.and_eq_true,List.all_eq_true] at a3
    obtain ⟨⟨⟨z1,z2⟩,z3⟩,z4⟩:=a3
    refine ⟨i,z,hi,Nat.eq_of_beq_eq_true a1,Nat.eq_of_beq_eq_true a2,hz,kr (mK 2) _ _ z1,Nat.eq_of_beq_eq_true z2,z3,?_,?_⟩<;>grind
   grind
  grind
 ·split at h2
  ·rename_i d hd
   simp only [Bool.and_eq_true,Ac,beq_iff_eq] at h2
   refine ⟨d,hd,h2.1,?_⟩
   have hk:=h2.2
   generalize ti.kind=kk at hk ⊢
   unfold K0 at hk
   split at hk<;>try (cases hk; done)
   ·exact rfl
   ·rw [nf] at hk; subst hk; exact rfl
   ·exact rfl
   ·exact ⟨_,rfl⟩
   ·have:=Nat.eq_of_beq_eq_true hk; subst this; exact rfl
   ·simp only [Bool.and_eq_true] at hk
    have e1:=Nat.eq_of_beq_eq_true hk.1
    have e2:=Nat.eq_of_beq_eq_true hk.2
    subst e1; subst e2; exact rfl
   ·simp only [Bool.and_eq_true] at hk
    have e1:=Nat.eq_of_beq_eq_true hk.1
    have e2:=Nat.eq_of_beq_eq_true hk.2
    subst e1; subst e2; exact rfl
   ·simp only [Bool.and_eq_true,beq_iff_eq,List.all_eq_true] at hk
    refine ⟨_,rfl,hk.1,?_⟩
    intro f hf
    have:=hk.2 f hf
    split at this
    ·rename_i i hi
     refine ⟨i,hi,?_⟩
     intro h0
     simp_all
    grind
   ·exact ⟨_,_,_,rfl⟩
   ·trivial
  grind
 ·grind
 ·intro hf ha l m xs ys b w T hfit hl hm hx hy he
  obtain ⟨f1,f2⟩:=hflat hf ha
  have rel:∀ {l:List AV} {xs:Array Value},PR w T true (.agg l) (.agg xs)→Rel w T l xs:=by
   intro l xs h
   cases h with
   | agg _ _ _ hl h1 hr=>exact ⟨hl,hr⟩
  exact vO 3 t ti.sc f1 9996 l m xs ys b w T hfit (rel hx) (rel hy) he
 ·intro hf ha e xs w hsz
  obtain ⟨f1,f2⟩:=hflat hf ha
  exact sB 3 t ti.sc f1 9996 e xs w (by omega)
def Tr.xZ {α:Type} (p:Nat→α→Bool):Tr α→(Nat→Nat)→Bool
 | .leaf,_=>true
 | .node l v r,f=>(match v with
   | some x=>p (f 0) x
   | none=>true)&&Tr.xZ p l (fun n=>f (2*n+1))&&Tr.xZ p r (fun n=>f (2*n+2))
theorem Tr.wA {α:Type} (p:Nat→α→Bool):∀ (t:Tr α) (f:Nat→Nat),Tr.xZ p t f=true→∀ (n:Nat) (x : α),t.get n=some x→p (f n) x=true
 | .leaf,_,_,n,x,h=>by simp [Tr.get] at h
 | .node l v r,f,ha,n,x,h=>by
   simp only [Tr.xZ,Bool.and_eq_true] at ha
   obtain ⟨⟨h1,h2⟩,h3⟩:=ha
   cases n with
   | zero =>
     simp only [Tr.get] at h
     rw [h] at h1
     exact h1
   | succ m =>
     simp only [Tr.get] at h
     split at h
     ·rename_i hm
      have hm:=Nat.eq_of_beq_eq_true hm
      have:=Tr.wA p l _ h2 (m / 2) x h
      rw [show 2*(m / 2)+1=m+1 by omega] at this
      exact this
     ·rename_i hm
      have hm:m % 2≠0:=Nat.ne_of_beq_eq_false hm
      have:=Tr.wA p r _ h3 (m / 2) x h
      rw [show 2*(m / 2)+2=m+1 by omega] at this
      exact this
def Tr.AG {α:Type} (q:Nat→α→Prop):Tr α→(Nat→Nat)→Prop
 | .leaf,_=>True
 | .node l v r,f=>(match v with
   | some x=>q (f 0) x
   | none=>True)∧Tr.AG q l (fun n=>f (2*n+1))∧Tr.AG q r (fun n=>f (2*n+2))
theorem Tr.wx {α:Type} (q:Nat→α→Prop):∀ (t:Tr α) (f:Nat→Nat),Tr.AG q t f→∀ (n:Nat) (x : α),t.get n=some x→q (f n) x
 | .leaf,_,_,n,x,h=>by simp [Tr.get] at h
 | .node l v r,f,ha,n,x,h=>by
   simp only [Tr.AG] at ha
   obtain ⟨h1,h2,h3⟩:=ha
   cases n with
   | zero =>
     simp only [Tr.get] at h
     rw [h] at h1
     exact h1
   | succ m =>
     simp only [Tr.get] at h
     split at h
     ·rename_i hm
      have hm:=Nat.eq_of_beq_eq_true hm
      have:=Tr.wx q l _ h2 (m / 2) x h
      rw [show 2*(m / 2)+1=m+1 by omega] at this
      exact this
     ·rename_i hm
      have hm:m % 2≠0:=Nat.ne_of_beq_eq_false hm
      have:=Tr.wx q r _ h3 (m / 2) x h
      rw [show 2*(m / 2)+2=m+1 by omega] at this
      exact this
theorem Oh {t:Tr TI} (h:Tr.xZ (ES P) t id=true):g5 P ⟨t.get⟩ :=
 ⟨fun n ti hn=>Rm (Tr.wA (ES P) t id h n ti hn)⟩
end
end Go.Sx
namespace Go.Sx
open Go
section
variable (C:gP) (F:jf) (Pr:iO)
def fj (shd:Bool) (f:Nat) (args:List AV) (h:ah) (v:AV) (h':ah):Prop:=∃ m,∀ k,m≤k→jt C F Pr k shd f args h=some (v,h')
abbrev XN (fa:fA) (k:Nat):Ctx:=⟨C,fa,jt C F Pr k⟩
def Wp (fa:fA) (c:Code) (an:jr) (Q:Ex→Env→ah→Prop) (e:Env) (h:ah):Prop :=
 ∃ x e' h',(∃ m,∀ k,m≤k→gX (XN C F Pr fa k) (iP k) c an e h=some (x,e',h'))∧Q x e' h'
def iu (fa:fA) (all ops:List Oper) (Q:Env→ah→Prop) (e:Env) (h:ah):Prop :=
 ∃ e' h',(∃ m,∀ k,m≤k→uI (XN C F Pr fa k) all ops e h=some (e',h'))∧Q e' h'
def iC (fa:fA) (all:List Oper) (sch:List (Nat×List Nat)) (Q:Env→ah→Prop) (e:Env) (h:ah):Prop :=
 ∃ e' h',(∃ m,∀ k,m≤k→pJ (XN C F Pr fa k) all sch e h=some (e',h'))∧Q e' h'
end
section
variable {C:gP} {F:jf} {Pr:iO} {fa:fA} {Q:Ex→Env→ah→Prop} {e:Env} {h:ah}
theorem Wp.mono {c:Code} {an:jr} {Q':Ex→Env→ah→Prop} (w:Wp C F Pr fa c an Q e h) (hq:∀ x e h,Q x e h→Q' x e h):Wp C F Pr fa c an Q' e h :=
 let ⟨x,e',h',m,q⟩:=w; ⟨x,e',h',m,hq _ _ _ q⟩
theorem Ii {an:jr} (q:Q .ig e h):Wp C F Pr fa .skip an Q e h:=⟨_,_,_,⟨0,fun _ _=>rfl⟩,q⟩
theorem Ez {l:Nat} {an:jr} (q:Q .ig e h):Wp C F Pr fa (.label l) an Q e h:=⟨_,_,_,⟨0,fun _ _=>rfl⟩,q⟩
theorem Ib {id:Nat} {an:jr} (q:Q (.ext id) e h):Wp C F Pr fa (.exit id) an Q e h:=⟨_,_,_,⟨0,fun _ _=>rfl⟩,q⟩
theorem MV {an:jr} (q:Q .ret e h):Wp C F Pr fa .ret an Q e h:=⟨_,_,_,⟨0,fun _ _=>rfl⟩,q⟩
theorem pD {c:Code} {an:jr} (w:Wp C F Pr fa c an Q e h):Wp C F Pr fa (.scope c) an Q e h:=w
def rA (next:Env→ah→Prop) (Q:Ex→Env→ah→Prop):Ex→Env→ah→Prop
 | .ig,e,h=>next e h
 | x,e,h=>Q x e h
theorem Qp {a b:Code} {x y:jr} (w:Wp C F Pr fa a x (rA (Wp C F Pr fa b y Q) Q) e h):Wp C F Pr fa (.seq a b) (.sq x y) Q e h:=by
 obtain ⟨x1,e1,h1,⟨m1,hm1⟩,q1⟩:=w
 cases x1 with
 | ig =>
   obtain ⟨x2,e2,h2,⟨m2,hm2⟩,q2⟩:=q1
   refine ⟨x2,e2,h2,⟨max m1 m2,fun k hk=>?_⟩,q2⟩
   simp only [gX,uS,hm1 k (by omega),andThen]
   grind
 | ext id=>exact ⟨_,e1,h1,⟨m1,fun k hk=>by simp_all [gX,uS,andThen]⟩,q1⟩
 | ret=>exact ⟨_,e1,h1,⟨m1,fun k hk=>by simp_all [gX,uS,andThen]⟩,q1⟩
theorem Br {a b:Code} {live:List Nat} {x y:jr} (w:Wp C F Pr fa a x (rA (fun e h=>Wp C F Pr fa b y Q (proj live e) { h with aq:=fU live h.aq }) Q) e h):Wp C F Pr fa (.seq a b) (.seq live x y) Q e h:=by
 obtain ⟨x1,e1,h1,⟨m1,hm1⟩,q1⟩:=w
 cases x1 with
 | ig =>
   obtain ⟨x2,e2,h2,⟨m2,hm2⟩,q2⟩:=q1
   refine ⟨x2,e2,h2,⟨max m1 m2,fun k hk=>?_⟩,q2⟩
   simp only [gX,uS,hm1 k (by omega),andThen,lT]
   grind
 | ext id=>exact ⟨_,e1,h1,⟨m1,fun k hk=>by simp_all [gX,uS,andThen]⟩,q1⟩
 | ret=>exact ⟨_,e1,h1,⟨m1,fun k hk=>by simp_all [gX,uS,andThen]⟩,q1⟩
theorem zu {c:Operand} {a b:Code} {x y:jr} {t:Bool} (hc:fM e c=.bool t) (w1:t=true→Wp C F Pr fa a x Q e h) (w2:t=false→Wp C F Pr fa b y Q e h):Wp C F Pr fa (.cond c a b) (.two x y) Q e h:=by
 cases t with
 | true =>
   obtain ⟨x1,e1,h1,⟨m1,hm1⟩,q1⟩:=w1 rfl
   exact ⟨x1,e1,h1,⟨m1,fun k hk=>by simp_all [gX,y6,yS,AV.bool?]⟩,q1⟩
 | false =>
   obtain ⟨x1,e1,h1,⟨m1,hm1⟩,q1⟩:=w2 rfl
   exact ⟨x1,e1,h1,⟨m1,fun k hk=>by simp_all [gX,y6,yS,AV.bool?]⟩,q1⟩
def Dn (id:Nat) (Q:Ex→Env→ah→Prop):Ex→Env→ah→Prop
 | .ext i,e,h=>if i=id then Q .ig e h else Q (.ext i) e h
 | x,e,h=>Q x e h
theorem FI {id:Nat} {a:Code} {an:jr} (w:Wp C F Pr fa a an (Dn id Q) e h):Wp C F Pr fa (.block id a) an Q e h:=by
 obtain ⟨x1,e1,h1,⟨m1,hm1⟩,q1⟩:=w
 cases x1 with
 | ig=>exact ⟨_,e1,h1,⟨m1,fun k hk=>by simp_all [gX,sy,atEnd]⟩,q1⟩
 | ret=>exact ⟨_,e1,h1,⟨m1,fun k hk=>by simp_all [gX,sy,atEnd]⟩,q1⟩
 | ext i =>
   simp only [Dn] at q1
   split at q1
   ·rename_i hi
    subst hi
    exact ⟨_,e1,h1,⟨m1,fun k hk=>by simp_all [gX,sy,atEnd]⟩,q1⟩
   ·rename_i hi
    have hb:Nat.beq i id=false:=by
     cases hq:Nat.beq i id<;>simp_all
    exact ⟨_,e1,h1,⟨m1,fun k hk=>by simp_all [gX,sy,atEnd]⟩,q1⟩
theorem lD {c:Code} {live:List Nat} {an:jr} (I:Nat→Env→ah→Prop)
  (round:∀ n e h,I n e h→Wp C F Pr fa c an (rA (fun e' h'=>∃ m,m<n∧I m e' h') Q) (proj live e) { h with aq:=fU live h.aq }) :
  ∀ (n:Nat) (e:Env) (h:ah),I n e h→Wp C F Pr fa (.loop c) (.loop live an) Q e h:=by
 have key:∀ (n:Nat) (e:Env) (h:ah),I n e h→∃ x e' h',(∃ M,∀ k j,M≤k→M≤j→iP j (jA live (gX (XN C F Pr fa k) (iP k) c an)) e h=some (x,e',h'))∧Q x e' h':=by
  intro n
  induction n using Nat.strongRecOn with
  | _ n ih =>
    intro e h hI
    obtain ⟨x1,e1,h1,⟨m1,hm1⟩,q1⟩:=round n e h hI
    have other:∀ x1,(∀ e h,rA (fun e' h'=>∃ m,m<n∧I m e' h') Q x1 e h=Q x1 e h)→x1≠.ig→(∀ k,m1≤k→gX (XN C F Pr fa k) (iP k) c an (proj live e) { h with aq:=fU live h.aq }=some (x1,e1,h1))→Q x1 e1 h1 →
      ∃ x e' h',(∃ M,∀ k j,M≤k→M≤j→iP j (jA live (gX (XN C F Pr fa k) (iP k) c an)) e h=some (x,e',h'))∧Q x e' h':=by
     intro x1 _ hne hm q
     refine ⟨x1,e1,h1,⟨m1+1,fun k j hk hj=>?_⟩,q⟩
     obtain ⟨j,rfl⟩:∃ j',j=j'+1:=⟨j - 1,by omega⟩
     grind [iP,lT]
    cases x1 with
    | ig =>
      obtain ⟨m,hlt,hI1⟩:=q1
      obtain ⟨x2,e2,h2,⟨M,hM⟩,q2⟩:=ih m hlt e1 h1 hI1
      refine ⟨x2,e2,h2,⟨max m1 M+1,fun k j hk hj=>?_⟩,q2⟩
      obtain ⟨j,rfl⟩:∃ j',j=j'+1:=⟨j - 1,by omega⟩
      grind [iP,lT]
    | ext id=>exact other (.ext id) (fun _ _=>rfl) (by simp) hm1 q1
    | ret=>exact other .ret (fun _ _=>rfl) (by simp) hm1 q1
 intro n e h hI
 obtain ⟨x,e',h',⟨M,hM⟩,q⟩:=key n e h hI
 exact ⟨x,e',h',⟨M,fun k hk=>hM k k hk hk⟩,q⟩
theorem D6 {id:Nat} {ops:Array Oper} {an:jr} (w:iu C F Pr fa ops.toList ops.toList (Q .ig) e h):Wp C F Pr fa (.region id ops false) an Q e h:=by
 obtain ⟨e1,h1,⟨m1,hm1⟩,q1⟩:=w
 exact ⟨.ig,e1,h1,⟨m1,fun k hk=>by simp_all [gX,si,CY,s9]⟩,q1⟩
theorem EH {id:Nat} {ops:Array Oper} {sch:List (Nat×List Nat)} (w:iC C F Pr fa ops.toList sch (Q .ig) e h):Wp C F Pr fa (.region id ops true) (.nA sch) Q e h:=by
 obtain ⟨e1,h1,⟨m1,hm1⟩,q1⟩:=w
 exact ⟨.ig,e1,h1,⟨m1,fun k hk=>by simp_all [gX,si,uq,s9]⟩,q1⟩
variable {all rest:List Oper} {o:Oper} {q:Env→ah→Prop}
theorem Lr (w:q e h):iu C F Pr fa all [] q e h:=⟨e,h,⟨0,fun _ _=>rfl⟩,w⟩
theorem vm {v:AV} {h1:ah} (hw:gq all e o=some true) (hop:∃ m,∀ k,m≤k→gD o.op (XN C F Pr fa k) e h o.dst=some (v,h1)) (w:iu C F Pr fa all rest q (gk e o v) h1):iu C F Pr fa all (o::rest) q e h:=by
 obtain ⟨m,hm⟩:=hop
 obtain ⟨e2,h2,⟨m2,hm2⟩,q2⟩:=w
 refine ⟨e2,h2,⟨max m m2,fun k hk=>?_⟩,q2⟩
 grind [uI,m8,uY]
theorem fq {v:AV} {h1:ah} (hw:gq all e o=some true) (hop:∀ call,gD o.op ⟨C,fa,call⟩ e h o.dst=some (v,h1)) (w:iu C F Pr fa all rest q (gk e o v) h1):iu C F Pr fa all (o::rest) q e h :=
 vm hw ⟨0,fun _ _=>hop _⟩ w
theorem If (hw:gq all e o=some false) (w:iu C F Pr fa all rest q (gk e o (.fz [])) h):iu C F Pr fa all (o::rest) q e h:=by
 obtain ⟨e2,h2,⟨m2,hm2⟩,q2⟩:=w
 refine ⟨e2,h2,⟨m2,fun k hk=>?_⟩,q2⟩
 grind [uI,m8]
theorem Mg (w:q e h):iC C F Pr fa all [] q e h:=⟨e,h,⟨0,fun _ _=>rfl⟩,w⟩
theorem xP {i:Nat} {sch:List (Nat×List Nat)} {v:AV} {h1:ah} (ho:all[i]?=some o) (hw:gq all e o=some true) (hop:∃ m,∀ k,m≤k→gD o.op (XN C F Pr fa k) e h o.dst=some (v,h1))
  (w:iC C F Pr fa all sch q (gk e o v) h1):iC C F Pr fa all ((i,[])::sch) q e h:=by
 obtain ⟨m,hm⟩:=hop
 obtain ⟨e2,h2,⟨m2,hm2⟩,q2⟩:=w
 refine ⟨e2,h2,⟨max m m2,fun k hk=>?_⟩,q2⟩
 grind [pJ,m8,uY]
theorem ga {i:Nat} {sch:List (Nat×List Nat)} {v:AV} {h1:ah} (ho:all[i]?=some o) (hw:gq all e o=some true) (hop:∀ call,gD o.op ⟨C,fa,call⟩ e h o.dst=some (v,h1))
  (w:iC C F Pr fa all sch q (gk e o v) h1):iC C F Pr fa all ((i,[])::sch) q e h :=
 xP ho hw ⟨0,fun _ _=>hop _⟩ w
theorem Hi {i:Nat} {sch:List (Nat×List Nat)} (ho:all[i]?=some o) (hw:gq all e o=some false) (w:iC C F Pr fa all sch q (gk e o (.fz [])) h):iC C F Pr fa all ((i,[])::sch) q e h:=by
 obtain ⟨e2,h2,⟨m2,hm2⟩,q2⟩:=w
 refine ⟨e2,h2,⟨m2,fun k hk=>?_⟩,q2⟩
 grind [pJ,m8]
theorem Ag {f:Nat} {g:Operand} {c:Call} {args:List AV} {v:AV} {d:Option Nat} (hf:c.callee=.value g) (hg:fM e g=.gL f [] []) (ha:c.args.toList.map (fM e)=args) (hok:args.all AV.ld=true) (hs:fa.gx.elem f=false)
  (w:fj C F Pr false f args { h with aq:=[] } v { h with aq:=[] }):∃ m,∀ k,m≤k→gD (.call c) (XN C F Pr fa k) e h d=some (v,h):=by
 obtain ⟨m,hm⟩:=w
 refine ⟨m,fun k hk=>?_⟩
 simp only [gD,mS,lZ,hf,hg,ha,qG,xq,List.nil_append,List.append_nil,hok,hs,hm k hk,sE]
theorem Aj {f:Nat} {g:Operand} {c:Call} {args p q:List AV} {v:AV} {d:Option Nat} {h':ah} (hf:c.callee=.value g) (hg:fM e g=.gL f p q) (ha:c.args.toList.map (fM e)=args) (hok:(p++args++q).all AV.ld=true) (hs:fa.gx.elem f=true)
  (w:fj C F Pr true f (p++args++q) { h with aq:=[] } v h'):∃ m,∀ k,m≤k→gD (.call c) (XN C F Pr fa k) e h d=some (v,{ h' with aq:=h.aq }):=by
 obtain ⟨m,hm⟩:=w
 refine ⟨m,fun k hk=>?_⟩
 simp only [gD,mS,lZ,hf,hg,ha,qG,xq,hok,hs,hm k hk,sE]
def Leaves (C:gP) (res:List ResultVar) (R:AV→ah→Prop):Ex→Env→ah→Prop
 | .ext _,_,_=>False
 | _,e,h=>∃ v,leave.leave1 C res e h=some (v,h)∧R v h
theorem gB {f:Nat} {args:List AV} {R:AV→ah→Prop} (hP:Pr f=none) (hF:F f=some fa) (hi:fa.iter=false) (w:Wp C F Pr fa fa.body fa.j7 (Leaves C fa.res R) (params 0 args) h) :
  ∃ v h',fj C F Pr true f args h v h'∧R v h':=by
 obtain ⟨x,e1,h1,⟨m,hm⟩,q⟩:=w
 have fin:∀ x:Ex,(x=.ig∨x=.ret)→(∀ k,m≤k→gX (XN C F Pr fa k) (iP k) fa.body fa.j7 (params 0 args) h=some (x,e1,h1))→(∃ v,leave.leave1 C fa.res e1 h1=some (v,h1)∧R v h1)→∃ v h',fj C F Pr true f args h v h'∧R v h':=by
  rintro x hx hm ⟨v,hv,hR⟩
  refine ⟨v,h1,⟨m+1,fun k hk=>?_⟩,hR⟩
  obtain ⟨k,rfl⟩:∃ k',k=k'+1:=⟨k - 1,by omega⟩
  simp only [jt,hP,hF,pj,pT,hi,wY,hm k (by omega)]
  rcases hx with rfl | rfl<;>exact hv
 cases x with
 | ig=>exact fin .ig (.inl rfl) hm q
 | ret=>exact fin .ret (.inr rfl) hm q
 | ext id=>exact q.elim
theorem FQ {f:Nat} {args mr:List AV} {R:AV→Prop} (hP:Pr f=none) (hF:F f=some fa) (hi:fa.iter=false) (ha:kx h args=some mr)
  (w:Wp C F Pr fa fa.body fa.j7 (Leaves C fa.res fun v h'=>∃ v1,freeze false h' 8 v=some v1∧R v1) (params 0 mr) ah.empty) :
  ∃ v,fj C F Pr false f args h v h∧R v:=by
 obtain ⟨v,h1,⟨m,hm⟩,v1,hv1,hR⟩:=gB hP hF hi w
 refine ⟨v1,⟨m+1,fun k hk=>?_⟩,hR⟩
 have hb:=hm k (by omega)
 obtain ⟨k,rfl⟩:∃ k',k=k'+1:=⟨k - 1,by omega⟩
 grind [jt,pj,frozen]
end
end Go.Sx
namespace Go.Sx
open Go
section
variable {C:gP} {F:jf} {Pr:iO} {fa:fA} {e:Env} {h:ah} {all rest:List Oper} {o:Oper} {q:Env→ah→Prop}
variable {t u:Nat} {x y:Operand} {k k':IntKind} {a b:Int}
theorem gY {c:BinOp} {X:Ctx} {d:Option Nat} {v:AV} (hx:fM e x=.int k a) (hy:fM e y=.int k' b) (hk:ma k k'=true) (hv:jF c k a b=some v):gD (.binOp c t x y u) X e h d=some (v,h):=by
 simp_all [gD,uQ,binOp,AV.int?,zT,iw]
theorem BN (k:IntKind) (a b:Int):jF .lss k a b=some (.bool (decide (a<b))):=by
 simp only [jF,Dt,s6,pE,pg]
 grind
theorem MC (k:IntKind) (a b:Int):jF .leq k a b=some (.bool (decide (a≤b))):=by
 simp only [jF,Ch,s6,pE,v7]
theorem Mr (k:IntKind) (a b:Int):jF .gtr k a b=some (.bool (decide (a > b))):=by
 simp only [jF,Da,s6,pE,pg]
 grind
theorem Bq (k:IntKind) (a b:Int):jF .geq k a b=some (.bool (decide (a≥b))):=by
 simp_all [jF,DM,s6,pE,v7]
theorem Bs (k:IntKind) (a b:Int):jF .eql k a b=some (.bool (decide (a=b))):=by
 simp only [jF,Ei,s6,m3,v7]
 rfl
theorem BO (k:IntKind) (a b:Int):jF .neq k a b=some (.bool (decide (a≠b))):=by
 simp only [jF,CC,s6,m3,pg]
 grind
theorem lJ {p:Prop} [Decidable p] (hw:gq all e o=some true) (hop:∀ call,gD o.op ⟨C,fa,call⟩ e h o.dst=some (.bool (decide p),h))
  (w1:p→iu C F Pr fa all rest q (gk e o (.bool true)) h) (w2:¬ p→iu C F Pr fa all rest q (gk e o (.bool false)) h):iu C F Pr fa all (o::rest) q e h:=by
 by_cases hp:p<;>grind [fq]
theorem qo {X:Ctx} {d:Option Nat} {s r:List UInt8} (hx:fM e x=.str s) (hy:fM e y=.str r):gD (.binOp .eql t x y u) X e h d=some (.bool (decide (s=r)),h):=by
 simp only [gD,uQ,binOp,hx,hy,AV.int?,AV.str?,zV,xe,iw]
 grind
theorem lQ (k:IntKind) (a b:Int):jF .add k a b=some (.int k (k.wrap (a+b))):=by
 simp only [jF,Ee,qi,lH,nW,xM]
theorem nb (k:IntKind) (a b:Int):jF .sub k a b=some (.int k (k.wrap (a - b))):=by
 simp only [jF,CA,qi,lH,nW,xM,xR]
 rfl
theorem vv (a b:Int) (h1 : -9223372036854775808≤a+b) (h2:a+b≤9223372036854775807):jF .add .i64 a b=some (.int .i64 (a+b)):=by
 rw [lQ,vB _ h1 h2]
theorem Bw (a b:Int) (h1 : -9223372036854775808≤a - b) (h2:a - b≤9223372036854775807):jF .sub .i64 a b=some (.int .i64 (a - b)):=by
 rw [nb,vB _ h1 h2]
theorem Lm {X:Ctx} {d:Option Nat} {el:Nat} {ti te:TI} {xs:List (List AV)} {c:kq} {n:Int} {r:List AV} (hT:X.C.T t=some ti) (hk:ti.kind=.slice el) (hE:X.C.T el=some te) (hx:fM e x=.sl xs c) (hi:fM e y=.int k n) (h0:0≤n)
  (hr:xs[n.toNat]?=some r) (hl:r.length=te.size):gD (.indexAddr t x y) X e h d=some (.ip r 0 (m5 c),h):=by
 obtain ⟨m,rfl⟩:=Int.eq_ofNat_of_zero_le h0
 simp only [Int.toNat_natCast] at hr
 have hai:mC (.int k (m:Int))=some m:=rfl
 simp_all [gD,mD,lN,nC]
end
end Go.Sx
namespace Go.Sx
open Go
section
variable {C:gP} {F:jf} {Pr:iO} {fa:fA} {e:Env} {h:ah} {all rest:List Oper} {o:Oper} {q:Env→ah→Prop} {Q:Ex→Env→ah→Prop}
theorem fC {c:Code} {live:List Nat} {an:jr} (N:Nat) (I:Nat→Env→ah→Prop)
  (round:∀ k e h,k≤N→I k e h→Wp C F Pr fa c an (rA (fun e' h'=>k<N∧I (k+1) e' h') Q) (proj live e) { h with aq:=fU live h.aq }) {k0:Nat} (hk:k0≤N) (h0:I k0 e h):Wp C F Pr fa (.loop c) (.loop live an) Q e h:=by
 refine lD (fun n e h=>∃ k,k≤N∧n=N - k∧I k e h) ?_ (N - k0) e h ⟨k0,hk,rfl,h0⟩
 rintro n e h ⟨k,hk,rfl,hI⟩
 refine (round k e h hk hI).mono ?_
 intro x e' h' hx
 cases x with
 | ig =>
   obtain ⟨hlt,hI'⟩:=hx
   exact ⟨N - (k+1),by omega,k+1,by omega,rfl,hI'⟩
 | ext id=>exact hx
 | ret=>exact hx
theorem Gz {f:Nat} {g:Operand} {c:Call} {args:List AV} {R:AV→Prop} (ho:o.op=.call c) (hw:gq all e o=some true) (hf:c.callee=.value g) (hg:fM e g=.gL f [] []) (ha:c.args.toList.map (fM e)=args) (hok:args.all AV.ld=true) (hs:fa.gx.elem f=false)
  (w:∀ h:ah,∃ v,fj C F Pr false f args h v h∧R v) (next:∀ v,R v→iu C F Pr fa all rest q (gk e o v) h):iu C F Pr fa all (o::rest) q e h:=by
 obtain ⟨v,hc,hR⟩:=w { h with aq:=[] }
 refine vm hw ?_ (next v hR)
 rw [ho]
 exact Ag hf hg ha hok hs hc
end
theorem fS {C:gP} {F:jf} {Pr:iO} {fa:fA} {f:Nat} {args:List AV} {h:ah} {R:AV→Prop} (hP:Pr f=none) (hF:F f=some fa) (hi:fa.iter=false) (ha:kx h args=some args)
  (w:Wp C F Pr fa fa.body fa.j7 (Leaves C fa.res fun v0 h'=>∃ v1,freeze false h' 8 v0=some v1∧R v1) (params 0 args) ah.empty):∃ v,fj C F Pr false f args h v h∧R v:=FQ hP hF hi ha w
abbrev ns:Nat:=9223372036854775807
structure ac1 (R:List AV→Prop) (xs:List (List AV)) (c:kq):Prop where
 row:∀ r∈xs,R r
 len:xs.length≤ns
 sn:m5 c=false
end Go.Sx
namespace Go.Sx
open Go
structure Row (α:Type) where
 l:List α
 c:kq
 ok:l.length≤ns
 sn:m5 c=false
 nl:c=.nil→l=[]
def Row.av {α:Type} (enc : α→List AV) (r:Row α):AV:=.sl (r.l.map enc) r.c
structure kO where
 l:List UInt8
 ok:l.length≤ns
def fu (n:Int):List AV:=[.int .i64 n]
def j5 (s:kO):List AV:=[.str s.l]
def mw (b:Bool):List AV:=[.bool b]
structure bY where
 elem:Int
 en:Int
 deriving DecidableEq
def bY.cells (x:bY):List AV:=[.int .i64 x.elem,.int .i64 x.en]
structure gf where
 name:kO
 kind:Int
 len:Int
def gf.cells (x:gf):List AV:=[.str x.name.l,.int .i64 x.kind,.int .i64 x.len]
structure gj where
 a:bY
 b:bY
def gj.cells (x:gj):List AV:=[.int .i64 x.a.elem,.int .i64 x.a.en,.int .i64 x.b.elem,.int .i64 x.b.en]
structure gg where
 name:kO
 at_:bY
 auto:Bool
def gg.cells (x:gg):List AV:=[.str x.name.l,.int .i64 x.at_.elem,.int .i64 x.at_.en,.bool x.auto]
structure fY where
 name:kO
 elems:Row Int
def fY.cells (x:fY):List AV:=[.str x.name.l,x.elems.av fu]
structure fh where
 elems:Row gf
 fQ:Row gj
 signals:Row gg
 lines:Row fY
 top:Int
 gE:Int
 gv:Int
 gz:Int
 gO:Bool
def fh.cells (p:fh):List AV:=[p.elems.av gf.cells,p.fQ.av gj.cells,p.signals.av gg.cells,p.lines.av fY.cells,.int .i64 p.top,.int .i64 p.gE,.int .i64 p.gv,.int .i64 p.gz,.bool p.gO]
structure fK where
 name:kO
 len:Int
 top:Int
 acc:Int
 gE:Int
def fK.cells (x:fK):List AV:=[.str x.name.l,.int .i64 x.len,.int .i64 x.top,.int .i64 x.acc,.int .i64 x.gE]
structure iZ where
 xW:Bool
 at_:Int
 end_:Int
 to:Int
def iZ.cells (x:iZ):List AV:=[.bool x.xW,.int .i64 x.at_,.int .i64 x.end_,.int .i64 x.to]
structure gK where
 name:kO
 fV:Int
 from_:Int
 left:Int
 gW:Row iZ
def gK.cells (x:gK):List AV:=[.str x.name.l,.int .i64 x.fV,.int .i64 x.from_,.int .i64 x.left,x.gW.av iZ.cells]
structure gp where
 um:Int
 fV:Row fK
 runs:Row gK
def gp.cells (x:gp):List AV:=[.int .i64 x.um,x.fV.av fK.cells,x.runs.av gK.cells]
structure fJ where
 mode:Int
 gT:Row bY
 left:Int
 rT:Int
 v:Int
def fJ.cells (x:fJ):List AV:=[.int .i64 x.mode,x.gT.av bY.cells,.int .i64 x.left,.int .i64 x.rT,.int .i64 x.v]
structure fX where
 name:kO
 fV:Int
 at_:bY
 left:Int
def fX.cells (x:fX):List AV:=[.str x.name.l,.int .i64 x.fV,.int .i64 x.at_.elem,.int .i64 x.at_.en,.int .i64 x.left]
structure gM where
 out:Int
 pos:Int
def gM.cells (x:gM):List AV:=[.int .i64 x.out,.int .i64 x.pos]
structure fy where
 elem:Int
 jQ:Int
 out:Int
def fy.cells (x:fy):List AV:=[.int .i64 x.elem,.int .i64 x.jQ,.int .i64 x.out]
structure gi where
 elem:Int
 pos:Int
def gi.cells (x:gi):List AV:=[.int .i64 x.elem,.int .i64 x.pos]
structure fP where
 from_:Int
 to:Int
 end_:Int
 steps:Row fy
 jJ:Row gi
 guards:Row gi
 nT:Row Int
 holds:Row Int
 bare:Bool
def fP.cells (x:fP):List AV:=[.int .i64 x.from_,.int .i64 x.to,.int .i64 x.end_,x.steps.av fy.cells,x.jJ.av gi.cells,x.guards.av gi.cells,x.nT.av fu,x.holds.av fu,.bool x.bare]
section
variable {C:gP} {F:jf} {Pr:iO} {fa:fA} {e:Env} {h:ah} {all rest:List Oper} {o:Oper} {q:Env→ah→Prop} {Q:Ex→Env→ah→Prop}
variable {α:Type} {enc : α→List AV}
theorem gm {c:Code} {an:jr} {e':Env} {h':ah} (he:e=e') (hh:h=h') (w:Wp C F Pr fa c an Q e' h'):Wp C F Pr fa c an Q e h:=by grind
theorem ik {b:Bool} (hw:gq all e o=some true) (hop:∀ call,gD o.op ⟨C,fa,call⟩ e h o.dst=some (.bool b,h))
  (w1:b=true→iu C F Pr fa all rest q (gk e o (.bool true)) h) (w2:b=false→iu C F Pr fa all rest q (gk e o (.bool false)) h):iu C F Pr fa all (o::rest) q e h:=by
 cases b<;>grind [fq]
theorem mN {i:Nat} {sch:List (Nat×List Nat)} {p:Prop} [Decidable p] (ho:all[i]?=some o) (hw:gq all e o=some true) (hop:∀ call,gD o.op ⟨C,fa,call⟩ e h o.dst=some (.bool (decide p),h))
  (w1:p→iC C F Pr fa all sch q (gk e o (.bool true)) h) (w2:¬ p→iC C F Pr fa all sch q (gk e o (.bool false)) h):iC C F Pr fa all ((i,[])::sch) q e h:=by
 by_cases hp:p<;>grind [ga]
theorem Hl {i:Nat} {sch:List (Nat×List Nat)} {b:Bool} (ho:all[i]?=some o) (hw:gq all e o=some true) (hop:∀ call,gD o.op ⟨C,fa,call⟩ e h o.dst=some (.bool b,h))
  (w1:b=true→iC C F Pr fa all sch q (gk e o (.bool true)) h) (w2:b=false→iC C F Pr fa all sch q (gk e o (.bool false)) h):iC C F Pr fa all ((i,[])::sch) q e h:=by
 cases b<;>grind [ga]
theorem HH {i:Nat} {sch:List (Nat×List Nat)} {f:Nat} {g:Operand} {c:Call} {args:List AV} {R:AV→Prop} (hi:all[i]?=some o) (hw:gq all e o=some true) (ho:o.op=.call c) (hf:c.callee=.value g) (hg:fM e g=.gL f [] []) (ha:c.args.toList.map (fM e)=args) (hok:args.all AV.ld=true) (hs:fa.gx.elem f=false)
  (w:∀ h:ah,∃ v,fj C F Pr false f args h v h∧R v) (next:∀ v,R v→iC C F Pr fa all sch q (gk e o v) h):iC C F Pr fa all ((i,[])::sch) q e h:=by
 obtain ⟨v,hc,hR⟩:=w { h with aq:=[] }
 refine xP hi hw ?_ (next v hR)
 rw [ho]
 exact Ag hf hg ha hok hs hc
theorem B3 {X:Ctx} {d:Option Nat} {t el:Nat} {x:Operand} {cl:Call} {ti:TI} {r:Row α} (hc:cl.callee=.builtin .len) (ha:cl.args.toList=[x]) (hts:cl.argTypes.toList=[t]) (hT:X.C.T t=some ti) (hk:ti.kind=.slice el) (hx:fM e x=r.av enc) :
  gD (.call cl) X e h d=some (.int .i64 r.l.length,h):=by
 simp_all [gD,mS,lZ,j9,sN,qN,rX,Row.av,rb,mI]
theorem ss {X:Ctx} {d:Option Nat} {t el:Nat} {x y:Operand} {ti te:TI} {r:Row α} {k:IntKind} {n:Nat} (hT:X.C.T t=some ti) (hk:ti.kind=.slice el) (hE:X.C.T el=some te) (hx:fM e x=r.av enc) (hi:fM e y=.int k (n:Int))
  (hn:n<r.l.length) (hl:(enc r.l[n]).length=te.size):gD (.indexAddr t x y) X e h d=some (.ip (enc r.l[n]) 0 false,h):=by
 rw [← r.sn]
 exact Lm hT hk hE hx hi (by omega) (r:=enc r.l[n]) (by simp [hn]) hl
theorem gN {X:Ctx} {d:Option Nat} {t el:Nat} {x y:Operand} {ti te:TI} {r:Row α} {k:IntKind} {n:Int} (hT:X.C.T t=some ti) (hk:ti.kind=.slice el) (hE:X.C.T el=some te) (hx:fM e x=r.av enc) (hi:fM e y=.int k n) (h0:0≤n)
  (hn:n.toNat<r.l.length) (hl:(enc r.l[n.toNat]).length=te.size):gD (.indexAddr t x y) X e h d=some (.ip (enc r.l[n.toNat]) 0 false,h):=by
 grind [ss]
theorem Fs (a b c d:Int):jx [.int .i64 a,.int .i64 b] [.int .i64 c,.int .i64 d]=some (decide (a=c∧b=d)):=by
 simp only [jx,jO,ra,AV.int?,ma,m3]
 have e1:(a==c)=decide (a=c):=rfl
 have e2:(b==d)=decide (b=d):=rfl
 rw [e1,e2]
 by_cases h1:a=c<;>by_cases h2:b=d<;>simp [h1,h2]
theorem sx {X:Ctx} {dd:Option Nat} {t u:Nat} {x y:Operand} {ti:TI} {a b c d:Int} (hx:fM e x=.agg [.int .i64 a,.int .i64 b]) (hy:fM e y=.agg [.int .i64 c,.int .i64 d])
  (hT:X.C.T t=some ti) (hf:∀ a b:Int,rj ti (.agg [.int .i64 a,.int .i64 b]) (.agg [.int .i64 c,.int .i64 d])=jx [.int .i64 a,.int .i64 b] [.int .i64 c,.int .i64 d]) :
  gD (.binOp .eql t x y u) X e h dd=some (.bool (decide (a=c∧b=d)),h):=by
 simp_all [gD,uQ,binOp,AV.int?,AV.str?,uT,Fs,iw]
theorem ju {sn:Bool} {hp:ah} {n:Nat} (r:Row α):freeze sn hp (n+1) (Row.av enc r)=some (Row.av enc r):=by
 have:=r.sn
 grind [Row.av,freeze,m5]
theorem jK {sn:Bool} {hp:ah} {n:Nat} (k:IntKind) (a:Int):freeze sn hp (n+1) (.int k a)=some (.int k a):=rfl
theorem jH {sn:Bool} {hp:ah} {n:Nat} (a:Bool):freeze sn hp (n+1) (.bool a)=some (.bool a):=rfl
theorem j1 {sn:Bool} {hp:ah} {n:Nat} (a:List UInt8):freeze sn hp (n+1) (.str a)=some (.str a):=rfl
theorem M9 {sn:Bool} {hp:ah} {n:Nat} (l:List AV):freeze sn hp (n+1) (.agg l)=(match gr (freeze sn hp n) l with
   | some l=>some (.agg l)
   | none=>none):=rfl
theorem uD {X:Ctx} {d:Option Nat} {t:Nat} {x y:Operand} {ti:TI} {s:List UInt8} {k:IntKind} {n:Nat} (hT:X.C.T t=some ti) (hk:ti.kind=.str) (hx:fM e x=.str s) (hi:fM e y=.int k (n:Int)) (hn:n<s.length):gD (.index t x y) X e h d=some (.int .u8 s[n].toNat,h):=by
 have hai:mC (.int k (n:Int))=some n:=rfl
 simp_all [gD,xC,uR,AV.str?]
def Row.isNil (r:Row α):Bool:=match r.c with
 | .nil=>true
 | _=>false
theorem Row.of_nil {r:Row α} (h:r.isNil=true):r.l=[]:=by
 apply r.nl
 grind [Row.isNil]
end
end Go.Sx
namespace Go.Sx
open Go
def iW:AV→Option Nat
 | .hs b _ _ _=>some b
 | .hm b=>some b
 | .ptr b _ _ _=>some b
 | _=>none
def vQ {α:Type} (H:ah) (n:Nat) (enc : α→List AV) (v:AV) (l:List α):Prop :=
 (l=[]∧v=.sl [] .nil)∨(v=.sl (l.map enc) (.exact l.length))∨∃ b g,b<H.size∧v=.hs b g 0 l.length∧H.get b=some (.fW g n (l.map enc))
structure u6 (H H':ah) (v v':AV):Prop where
 lo:H'.lo=H.lo
 size:H.size≤H'.size
 get:∀ b,b<H.size→iW v≠some b→H'.get b=H.get b
 own:∀ b,iW v'=some b→iW v=some b∨H.size≤b
theorem ah.iY (H:ah) (ls:iT) (b:Nat):({ H with aq:=ls }:ah).get b=H.get b:=rfl
theorem ah.oc (H:ah) (ls:iT) (o:jd):({ H with aq:=ls }:ah).push o = { H.push o with aq:=ls }:=by simp [ah.sd]
theorem ah.m6 (H:ah) (ls:iT) (b:Nat) (o:jd):({ H with aq:=ls }:ah).set b o = { H.set b o with aq:=ls }:=by simp [ah.ug]
theorem u6.refl (H:ah) (v:AV):u6 H H v v:=⟨rfl,Nat.le_refl _,fun _ _ _=>rfl,fun _ h=>.inl h⟩
theorem vQ.fi {α:Type} {H H':ah} {n:Nat} {enc : α→List AV} {v v' w:AV} {l:List α} (h:vQ H n enc w l) (k:u6 H H' v v') (hd:∀ b,iW w=some b→iW v≠some b):vQ H' n enc w l:=by
 rcases h with h | h | ⟨b,g,hb,rfl,hg⟩
 ·exact .inl h
 ·exact .inr (.inl h)
 ·exact .inr (.inr ⟨b,g,Nat.lt_of_lt_of_le hb k.size,rfl,by rw [k.get b hb (hd b rfl)]; exact hg⟩)
theorem vQ.lt {α:Type} {H:ah} {n:Nat} {enc : α→List AV} {w:AV} {l:List α} (h:vQ H n enc w l):∀ b,iW w=some b→b<H.size:=by
 rcases h with ⟨_,rfl⟩ | rfl | ⟨b,g,hb,rfl,hg⟩<;>grind [iW]
theorem u6.apart {H H':ah} {v v' w:AV} (k:u6 H H' v v') (hd:∀ b,iW w=some b→iW v≠some b) (hl:∀ b,iW w=some b→b<H.size):∀ b,iW w=some b→iW v'≠some b:=by
 intro b hw hv
 rcases k.own b hv with h | h<;>grind
def sg (v w:AV):Prop:=∀ b,iW v=some b→iW w≠some b
theorem sg.symm {v w:AV} (h:sg v w):sg w v:=fun b hw hv=>h b hv hw
theorem sg.nil {w:AV} {xs:List (List AV)} {c:kq}:sg (.sl xs c) w:=fun b h=>by simp [iW] at h
theorem sg.fi {α:Type} {H H':ah} {n:Nat} {enc : α→List AV} {v v' w:AV} {l:List α} (hd:sg v w) (k:u6 H H' v v') (h:vQ H n enc w l):sg v' w:=sg.symm (k.apart hd.symm h.lt)
theorem vQ.fT {α:Type} {H:ah} {n:Nat} {enc : α→List AV} {v:AV} {l:List α} (h:vQ H n enc v l) (t:Nat):Go.Sx.fi t v=v:=by
 rcases h with ⟨_,rfl⟩ | rfl | ⟨_,_,_,rfl,_⟩<;>rfl
section
variable {C:gP} {F:jf} {Pr:iO} {fa:fA} {e:Env} {all rest:List Oper} {o:Oper} {q:Env→ah→Prop}
variable {α:Type} {enc : α→List AV}
theorem vQ.ld {H:ah} {n:Nat} {v:AV} {l:List α} (hb:vQ H n enc v l):AV.ld v=true:=by
 rcases hb with ⟨rfl,rfl⟩ | rfl | ⟨b,g,hlt,rfl,hg⟩<;>rfl
theorem iB {C:gP} {res:List ResultVar} {e:Env} {h:ah} {vs:List AV} (h1:xY C e h res=some vs) (h2:vs.all AV.ld=true):leave.leave1 C res e h=some (result vs,h):=by
 grind [leave.leave1]
def Row.take (r:Row α) (k:Nat):Row α:=⟨r.l.take k,r.c,by have:=r.ok; grind,r.sn,fun h=>by rw [r.nl h]; simp⟩
theorem Aw {X:Ctx} {d:Option Nat} {t el n k:Nat} {x y:Operand} {ti te:TI} {h:ah} {r:Row α} {kd:IntKind} (hT:X.C.T t=some ti) (hk:ti.kind=.slice el) (hE:X.C.T el=some te) (hx:fM e x=r.av enc) (hy:fM e y=.int kd (k:Int)) (hn:te.size=n) (hkl:k≤r.l.length) (henc:∀ x,(enc x).length=n) :
  gD (.slice t x none (some y) none) X e h d=some ((r.take k).av enc,h):=by
 have hai:mC (.int kd (k:Int))=some k:=rfl
 have h0:Nat.ble 0 k=true:=Nat.ble_eq.mpr (Nat.zero_le _)
 have h1:Nat.ble k (r.l.map enc).length=true:=Nat.ble_eq.mpr (by grind)
 have h2:kP n (r.l.map enc)=true:=by
  cases r.l with
  | nil=>rfl
  | cons a l=>simp_all [kP]
 have h3:mi 0 r.c=r.c:=by cases r.c<;>rfl
 simp only [gD,mE,ml,hT,hk,hE,hx,hy,Row.av,slice,p9,kJ,bound,hai,mR,hn,h1,h2,h0,Bool.true_and,Bool.and_true,List.drop_zero,Nat.sub_zero,mb,h3,iw,Row.take,List.map_take]
end
end Go.Sx
namespace Go.Sx
open Go
def look {κ β:Type} [DecidableEq κ] (k : κ):List (κ×β)→Option β
 | []=>none
 | x::l=>if k=x.1 then some x.2 else look k l
def gn {κ β:Type} (ek : κ→AV) (ev : β→AV) (l:List (κ×β)):List (AV×AV):=l.map fun x=>(ek x.1,ev x.2)
def pK (p:bY):AV:=.agg p.cells
def iK (n:Int):AV:=.int .i64 n
def pG (p:Int×Int):AV:=.agg [.int .i64 p.1,.int .i64 p.2]
structure fk where
 p:fh
 next:List (bY×bY)
 reads:List (bY×Int)
 line:List (Int×Int×Int)
 lead:List (Int×Int)
def fk.cells (n:fk):List AV:=[n.p.elems.av gf.cells,n.p.fQ.av gj.cells,n.p.signals.av gg.cells,n.p.lines.av fY.cells,.int .i64 n.p.top,.int .i64 n.p.gE,.int .i64 n.p.gv,.int .i64 n.p.gz,.bool n.p.gO,
 .fm (gn pK pK n.next) false,.fm (gn pK iK n.reads) false,.fm (gn iK pG n.line) false,.fm (gn iK iK n.lead) false]
theorem ja (a b:bY):jl (pK a) (pK b)=some (decide (a=b)):=by
 have h:(a=b)↔(a.elem=b.elem∧a.en=b.en):=by cases a; cases b; simp
 grind [jl,pK,bY.cells,AV.agg?,wJ,Fs]
theorem lq (a b:Int):jl (iK a) (iK b)=some (decide (a=b)):=by
 simp only [jl,iK,AV.agg?,jO,ra,AV.int?,ma,m3]
 rfl
theorem zH {κ β:Type} [DecidableEq κ] {ek : κ→AV} {ev : β→AV} (hk:∀ a b,jl (ek a) (ek b)=some (decide (a=b))) (k : κ) (l:List (κ×β)):nV (ek k) (gn ek ev l)=some ((look k l).map ev):=by
 induction l<;>grind [gn,nV,look]
section
variable {C:gP} {F:jf} {Pr:iO} {fa:fA} {e:Env} {h:ah} {all rest:List Oper} {o:Oper} {q:Env→ah→Prop}
variable {κ β:Type} [DecidableEq κ] {ek : κ→AV} {ev : β→AV}
theorem vw {X:Ctx} {d:Option Nat} {t kt el:Nat} {m k:Operand} {tm te:TI} {key : κ} {l:List (κ×β)} {z:AV} {s:Bool} (hT:X.C.T t=some tm) (hk:tm.kind=.map kt el) (hE:X.C.T el=some te) (hm:fM e m=.fm (gn ek ev l) s) (hkk:fM e k=ek key) (hK:nN X.C kt (ek key)=true) (hz:asAgg te te.zero=some z) (hke:∀ a b,jl (ek a) (ek b)=some (decide (a=b))) :
  gD (.lookup t m k true) X e h d=some (match look key l with
   | some v=>.fz [ev v,.bool true]
   | none=>.fz [z,.bool false],h):=by
 simp only [gD,qp,n8,hT,hk,hE,hkk,hK,hm,nI,zH hke]
 grind [look,vd,iw]
theorem tD {t kt el:Nat} {m k:Operand} {tm te:TI} {key : κ} {l:List (κ×β)} {z:AV} {s:Bool} (hw:gq all e o=some true) (ho:o.op=.lookup t m k true) (hT:C.T t=some tm) (hk:tm.kind=.map kt el) (hE:C.T el=some te) (hm:fM e m=.fm (gn ek ev l) s) (hkk:fM e k=ek key) (hK:nN C kt (ek key)=true) (hz:asAgg te te.zero=some z) (hke:∀ a b,jl (ek a) (ek b)=some (decide (a=b)))
  (w1:∀ v,look key l=some v→iu C F Pr fa all rest q (gk e o (.fz [ev v,.bool true])) h) (w2:look key l=none→iu C F Pr fa all rest q (gk e o (.fz [z,.bool false])) h):iu C F Pr fa all (o::rest) q e h:=by
 cases hl:look key l with
 | none=>exact fq hw (fun call=>by rw [ho,vw hT hk hE hm hkk hK hz hke,hl]) (w2 hl)
 | some v=>exact fq hw (fun call=>by rw [ho,vw hT hk hE hm hkk hK hz hke,hl]) (w1 v hl)
theorem zl {i:Nat} {sch:List (Nat×List Nat)} {t kt el:Nat} {m k:Operand} {tm te:TI} {key : κ} {l:List (κ×β)} {z:AV} {s:Bool} (hi:all[i]?=some o) (hw:gq all e o=some true) (ho:o.op=.lookup t m k true) (hT:C.T t=some tm) (hk:tm.kind=.map kt el) (hE:C.T el=some te) (hm:fM e m=.fm (gn ek ev l) s) (hkk:fM e k=ek key) (hK:nN C kt (ek key)=true) (hz:asAgg te te.zero=some z) (hke:∀ a b,jl (ek a) (ek b)=some (decide (a=b)))
  (w1:∀ v,look key l=some v→iC C F Pr fa all sch q (gk e o (.fz [ev v,.bool true])) h) (w2:look key l=none→iC C F Pr fa all sch q (gk e o (.fz [z,.bool false])) h):iC C F Pr fa all ((i,[])::sch) q e h:=by
 cases hl:look key l with
 | none=>exact ga hi hw (fun call=>by rw [ho,vw hT hk hE hm hkk hK hz hke,hl]) (w2 hl)
 | some v=>exact ga hi hw (fun call=>by rw [ho,vw hT hk hE hm hkk hK hz hke,hl]) (w1 v hl)
end
end Go.Sx
namespace Go.Sx
open Go
inductive gH where
 | sl (w t:Bool) (v:AV) (n:Nat) (xs:List (List AV))
 | map (v:AV) (es:List (AV×AV))
 | obj (v:AV) (cs:List AV)
def gH.v:gH→AV
 | .sl _ _ v _ _=>v
 | .map v _=>v
 | .obj v _=>v
def lG (es:List (AV×AV×Nat)):List (AV×AV):=es.map fun x=>(x.1,x.2.1)
def vG (es:List (AV×AV×Nat)) (c:Nat):Prop:=(∀ x∈es,x.2.2<c)∧es.Pairwise fun a b=>a.2.2≠b.2.2
theorem vG.snoc {es:List (AV×AV×Nat)} {c:Nat} (h:vG es c) (k v:AV):vG (es++[(k,v,c)]) (c+1):=by
 refine ⟨fun x hx=>?_,List.pairwise_append.mpr ⟨h.2,by simp,fun a ha b hb=>?_⟩⟩
 ·rcases List.mem_append.mp hx with hx | hx
  ·have:=h.1 x hx; omega
  grind
 ·simp at hb; subst hb; have:=h.1 a ha; grind
theorem vG.modify {es:List (AV×AV×Nat)} {c:Nat} (h:vG es c) (i:Nat) (f:AV×AV×Nat→AV×AV×Nat) (hf:∀ e,(f e).2.2=e.2.2):vG (es.modify i f) c:=by
 have hm:(es.modify i f).map (fun x=>x.2.2)=es.map (fun x=>x.2.2):=by
  apply List.ext_getElem (by simp)
  grind
 have h1:∀ x∈(es.modify i f).map (fun x=>x.2.2),x<c:=by
  rw [hm]; intro x hx; obtain ⟨y,hy,rfl⟩:=List.mem_map.mp hx; exact h.1 y hy
 refine ⟨fun x hx=>h1 _ (List.mem_map_of_mem hx),?_⟩
 have h2:((es.modify i f).map (fun x=>x.2.2)).Pairwise (·≠·):=by
  rw [hm,List.pairwise_map]; exact h.2
 grind
def gH.ok (H:ah):gH→Prop
 | .sl w t v n xs=>(∀ x∈xs,x.length=n)∧((xs=[]∧v=.sl [] .nil)∨((w=false∨xs=[])∧v=.sl xs (.exact xs.length))∨∃ b g j,b<H.size∧v=.hs b g 0 xs.length∧H.get b=some (.fW g n (xs++j))∧(t=true→j=[]))
 | .map v es=>∃ b es' c,b<H.size∧v=.hm b∧H.get b=some (.map es' c)∧lG es'=es∧vG es' c
 | .obj v cs=>∃ b z,b<H.size∧v=.ptr b 0 0 0∧H.get b=some (.fW 0 z [cs])
structure Sep (H:ah) (L:List gH):Prop where
 lo:H.lo≤H.size
 ok:∀ r∈L,r.ok H
 uA:L.Pairwise fun a b=>sg a.v b.v
theorem gI:Sep ah.empty []:=⟨Nat.le_refl _,by simp,.nil⟩
theorem gH.ok.fi {H H':ah} {r:gH} (h:r.ok H) (hs:H.size≤H'.size) (hg:∀ b,b<H.size→iW r.v=some b→H'.get b=H.get b):r.ok H':=by
 cases r with
 | sl w t v n xs =>
   obtain ⟨hl,h | h | ⟨b,g,j,hb,rfl,hq,ht⟩⟩:=h
   ·exact ⟨hl,.inl h⟩
   ·exact ⟨hl,.inr (.inl h)⟩
   ·exact ⟨hl,.inr (.inr ⟨b,g,j,by omega,rfl,by rw [hg b hb rfl]; exact hq,ht⟩)⟩
 | map v es =>
   obtain ⟨b,es',c,hb,rfl,hq,he,hst⟩:=h
   exact ⟨b,es',c,by omega,rfl,by rw [hg b hb rfl]; exact hq,he,hst⟩
 | obj v cs =>
   obtain ⟨b,z,hb,rfl,hq⟩:=h
   exact ⟨b,z,by omega,rfl,by rw [hg b hb rfl]; exact hq⟩
theorem gH.ok.lt {H:ah} {r:gH} (h:r.ok H):∀ b,iW r.v=some b→b<H.size:=by
 intro b0 hb0
 cases r with
 | sl w t v n xs =>
   obtain ⟨hl,⟨_,rfl⟩ | ⟨_,rfl⟩ | ⟨b,g,j,hb,rfl,hq,ht⟩⟩:=h<;>simp [iW,gH.v] at hb0
   omega
 | map v es =>
   obtain ⟨b,es',c,hb,rfl,hq,he,hst⟩:=h
   grind [iW,gH.v]
 | obj v cs =>
   obtain ⟨b,z,hb,rfl,hq⟩:=h
   grind [iW,gH.v]
theorem gH.ok.AW {H:ah} {r:gH} (h:r.ok H):AV.hZ r.v=true∧(∀ t,Go.Sx.fi t r.v=r.v)∧AV.ld r.v=true:=by
 cases r with
 | sl w t v n xs =>
   obtain ⟨hl,⟨_,rfl⟩ | ⟨_,rfl⟩ | ⟨b,g,j,hb,rfl,hq,ht⟩⟩:=h<;>exact ⟨rfl,fun _=>rfl,rfl⟩
 | map v es=>obtain ⟨b,es',c,hb,rfl,hq,he,hst⟩:=h; exact ⟨rfl,fun _=>rfl,rfl⟩
 | obj v cs=>obtain ⟨b,z,hb,rfl,hq⟩:=h; exact ⟨rfl,fun _=>rfl,rfl⟩
theorem Sep.at {H:ah} {L:List gH} (h:Sep H L) {i:Nat} {r:gH} (hi:L[i]?=some r):r.ok H:=h.ok r (List.mem_of_getElem? hi)
theorem Sep.fT {H:ah} {L:List gH} (h:Sep H L) {i:Nat} {r:gH} (hi:L[i]?=some r) (t:Nat):Go.Sx.fi t r.v=r.v:=(h.at hi).AW.2.1 t
theorem Sep.cell {H:ah} {L:List gH} (h:Sep H L) {i:Nat} {r:gH} (hi:L[i]?=some r):AV.hZ r.v=true:=(h.at hi).AW.1
theorem Sep.arg {H:ah} {L:List gH} (h:Sep H L) {i:Nat} {r:gH} (hi:L[i]?=some r):AV.ld r.v=true:=(h.at hi).AW.2.2
theorem Sep.lh {H H':ah} {L:List gH} (h:Sep H L) {i:Nat} {r r':gH} (hi:L[i]?=some r) (hlo:H'.lo≤H'.size) (hs:H.size≤H'.size) (hr:r'.ok H') (hg:∀ b,b<H.size→iW r.v≠some b→H'.get b=H.get b) (ho:∀ b,iW r'.v=some b→iW r.v=some b∨H.size≤b):Sep H' (L.set i r'):=by
 have hil:i<L.length:=(List.getElem?_eq_some_iff.mp hi).1
 have hri:L[i]=r:=(List.getElem?_eq_some_iff.mp hi).2
 have hp:=List.pairwise_iff_getElem.mp h.uA
 have uA:∀ j (hj:j<L.length),j≠i→sg r.v L[j].v:=by
  intro j hj hne
  rcases Nat.lt_or_gt_of_ne hne with hlt | hlt
  ·have:=hp j i hj hil hlt; rw [hri] at this; exact this.symm
  grind
 have apt':∀ j (hj:j<L.length),j≠i→sg r'.v L[j].v:=by
  intro j hj hne b hb hb'
  rcases ho b hb with hx | hx
  ·exact uA j hj hne b hx hb'
  ·exact absurd ((h.ok _ (List.getElem_mem hj)).lt b hb') (by omega)
 refine ⟨hlo,?_,?_⟩
 ·intro x hx
  obtain ⟨j,hj,rfl⟩:=List.mem_iff_getElem.mp hx
  rw [List.length_set] at hj
  rw [List.getElem_set]
  split
  ·exact hr
  ·rename_i hne
   refine (h.ok _ (List.getElem_mem hj)).fi hs ?_
   intro b hb hbl
   exact hg b hb fun hq=>uA j hj (Ne.symm hne) b hq hbl
 ·rw [List.pairwise_iff_getElem]
  intro j k hj hk hjk
  rw [List.length_set] at hj hk
  simp only [List.getElem_set]
  split
  ·grind
  ·split
   ·rename_i h1 h2; exact (apt' j hj (Ne.symm h1)).symm
   grind
theorem Sep.new {H H':ah} {L:List gH} (h:Sep H L) {r':gH} (hlo:H'.lo≤H'.size) (hs:H.size≤H'.size) (hr:r'.ok H') (hg:∀ b,b<H.size→H'.get b=H.get b) (ho:∀ b,iW r'.v=some b→H.size≤b):Sep H' (r'::L):=by
 refine ⟨hlo,?_,.cons ?_ h.uA⟩
 ·intro x hx
  rcases List.mem_cons.mp hx with rfl | hx
  ·exact hr
  ·exact (h.ok x hx).fi hs fun b hb _=>hg b hb
 ·intro x hx b hb hb'
  exact absurd ((h.ok x hx).lt b hb') (by grind)
theorem Sep.iF {H:ah} {L:List gH} (h:Sep H L) (n:Nat):Sep H (.sl true true (.sl [] .nil) n []::L):=h.new h.lo (Nat.le_refl _) ⟨by simp,.inl ⟨rfl,rfl⟩⟩ (fun _ _=>rfl) (fun b hb=>by simp [iW,gH.v] at hb)
theorem Sep.Kg {H:ah} {L:List gH} (h:Sep H L) (n:Nat) (xs:List (List AV)) (hn:∀ x∈xs,x.length=n) {k:Nat} (hk:k=xs.length):Sep H (.sl false true (.sl xs (.exact k)) n xs::L):=by
 subst hk
 exact h.new h.lo (Nat.le_refl _) ⟨hn,.inr (.inl ⟨.inl rfl,rfl⟩)⟩ (fun _ _=>rfl) (fun b hb=>by simp [iW,gH.v] at hb)
theorem Sep.mF {H:ah} {L:List gH} (h:Sep H L) (n:Nat):Sep H (.sl true true (.sl [] (.exact 0)) n []::L):=h.new h.lo (Nat.le_refl _) ⟨by simp,.inr (.inl ⟨.inr rfl,rfl⟩)⟩ (fun _ _=>rfl) (fun b hb=>by simp [iW,gH.v] at hb)
theorem MM {α:Type} {R : α→α→Prop} (hs:∀ a b,R a b→R b a) {L:List α} (h:L.Pairwise R) {i j:Nat} (hi:i<L.length) (hj:j<L.length) (hne:i≠j):R L[i] L[j]:=by
 have hp:=List.pairwise_iff_getElem.mp h
 grind
def Ts (is:List Nat) (n:Nat) (L:List gH):List gH:=is.filterMap (L[·]?)++L.drop n
theorem Sep.pick {H:ah} {L:List gH} (h:Sep H L) (is:List Nat) (n:Nat) (hn:is.Nodup) (hlt:∀ i∈is,i<n):Sep H (Ts is n L):=by
 have hp:=List.pairwise_iff_getElem.mp h.uA
 refine ⟨h.lo,?_,List.pairwise_append.mpr ⟨?_,h.uA.sublist (List.drop_sublist _ _),?_⟩⟩
 ·intro x hx
  rcases List.mem_append.mp hx with hx | hx
  ·obtain ⟨i,_,hi⟩:=List.mem_filterMap.mp hx
   exact h.ok x (List.mem_of_getElem? hi)
  ·exact h.ok x (List.mem_of_mem_drop hx)
 ·rw [List.pairwise_filterMap]
  refine hn.imp ?_
  intro i j hne x hx y hy
  obtain ⟨hi,rfl⟩:=List.getElem?_eq_some_iff.mp hx
  obtain ⟨hj,rfl⟩:=List.getElem?_eq_some_iff.mp hy
  exact MM (fun a b hab=>hab.symm) h.uA hi hj hne
 ·intro x hx y hy
  obtain ⟨i,hmem,hi⟩:=List.mem_filterMap.mp hx
  obtain ⟨hil,rfl⟩:=List.getElem?_eq_some_iff.mp hi
  obtain ⟨j,hj,rfl⟩:=List.mem_iff_getElem.mp hy
  grind
theorem Sep.aq {H:ah} {L:List gH} (h:Sep H L) (ls:iT):Sep { H with aq:=ls } L:=by
 refine ⟨h.lo,fun r hr=>(h.ok r hr).fi (Nat.le_refl _) fun _ _ _=>rfl,h.uA⟩
section
variable {κ β:Type} [DecidableEq κ] {ek : κ→AV} {ev : β→AV}
def put (k : κ) (x : β):List (κ×β)→List (κ×β)
 | []=>[(k,x)]
 | p::l=>if k=p.1 then (k,x)::l else p::put k x l
theorem o3 (k k' : κ) (x : β) (l:List (κ×β)):look k (put k' x l)=if k=k' then some x else look k l:=by
 induction l<;>grind [put,look]
theorem rQ (hk:∀ a b,jl (ek a) (ek b)=some (decide (a=b))) (k : κ) (l:List (κ×β)) (es:List (AV×AV×Nat)) (he:lG es=gn ek ev l) (i:Nat) :
  (look k l=none→findKey (ek k) es i=some none)∧(∀ x,look k l=some x→∃ j,findKey (ek k) es i=some (some (i+j,ev x))∧j<es.length∧∀ y (f:AV×AV×Nat→AV×AV×Nat),(∀ e,(f e).1=ek k∧(f e).2.1=ev y)→lG (es.modify j f)=gn ek ev (put k y l))∧(look k l=none→∀ y c,lG (es++[(ek k,ev y,c)])=gn ek ev (put k y l)):=by
 induction l generalizing es i with
 | nil =>
   cases es with
   | nil=>exact ⟨fun _=>rfl,fun _ h=>by simp [look] at h,fun _ _ _=>rfl⟩
   | cons e es=>simp [lG,gn] at he
 | cons p l ih =>
   cases es with
   | nil=>simp [lG,gn] at he
   | cons e es =>
     obtain ⟨a,b,c⟩:=e
     simp only [lG,gn,List.map_cons,List.cons.injEq,Prod.mk.injEq] at he
     obtain ⟨⟨rfl,rfl⟩,he⟩:=he
     obtain ⟨i1,i2,i3⟩:=ih es he (i+1)
     by_cases h:k=p.1
     ·simp_all [look,findKey,f1,lG,put,gn]
     ·refine ⟨fun hn=>?_,fun x hx=>?_,fun hn y c'=>?_⟩
      ·grind [look,findKey]
      ·simp only [look,h,if_false] at hx
       obtain ⟨j,hj,hl,hm⟩:=i2 x hx
       refine ⟨j+1,?_,by simpa using hl,fun y f hf=>?_⟩<;>grind [findKey,lG,put,gn]
      grind [look,lG,put,gn]
end
section
variable {C:gP} {F:jf} {Pr:iO} {fa:fA} {e:Env} {all rest:List Oper} {o:Oper} {q:Env→ah→Prop}
variable {H:ah} {ls:iT} {L:List gH} {i:Nat}
theorem gd {P:AV→ah→Prop} (hw:gq all e o=some true) (hop:∃ v H',(∀ call,gD o.op ⟨C,fa,call⟩ e { H with aq:=ls } o.dst=some (v,{ H' with aq:=ls }))∧P v H') (next:∀ v H',P v H'→iu C F Pr fa all rest q (gk e o v) { H' with aq:=ls }):iu C F Pr fa all (o::rest) q e { H with aq:=ls }:=by
 grind [fq]
theorem gS {j:Nat} {sch:List (Nat×List Nat)} {P:AV→ah→Prop} (hj:all[j]?=some o) (hw:gq all e o=some true) (hop:∃ v H',(∀ call,gD o.op ⟨C,fa,call⟩ e { H with aq:=ls } o.dst=some (v,{ H' with aq:=ls }))∧P v H') (next:∀ v H',P v H'→iC C F Pr fa all sch q (gk e o v) { H' with aq:=ls }):iC C F Pr fa all ((j,[])::sch) q e { H with aq:=ls }:=by
 grind [ga]
theorem iH {t:Nat} {d:Option Nat} (hS:Sep H L):∃ v H',(∀ call,gD (.makeMap t none) ⟨C,fa,call⟩ e { H with aq:=ls } d=some (v,{ H' with aq:=ls }))∧∃ b,v=.hm b∧Sep H' (.map (.hm b) []::L):=by
 have hlo:=hS.lo
 refine ⟨.hm H.size,H.push (.map [] 0),fun call=>?_,H.size,rfl,?_⟩
 ·simp only [gD,zM,ah.oc]
 ·refine hS.new (by simp; omega) (by simp) ⟨H.size,[],0,by simp,rfl,?_,rfl,by simp,by simp⟩ ?_ ?_<;>grind [ah.ky,iW,gH.v]
variable {κ β:Type} [DecidableEq κ] {ek : κ→AV} {ev : β→AV}
theorem jS {t:Nat} {m k x:Operand} {d:Option Nat} {v:AV} {l:List (κ×β)} (key : κ) (y : β) (hS:Sep H L) (hi:L[i]?=some (.map v (gn ek ev l))) (hm:fM e m=v) (hk:fM e k=ek key) (hx:fM e x=ev y) (hK:mapKey C t (ek key)=true) (hV:AV.vA (ev y)=true) (hke:∀ a b,jl (ek a) (ek b)=some (decide (a=b))) :
  ∃ w H',(∀ call,gD (.mapUpdate t m k x) ⟨C,fa,call⟩ e { H with aq:=ls } d=some (w,{ H' with aq:=ls }))∧w=.undef∧Sep H' (L.set i (.map v (gn ek ev (put key y l)))):=by
 obtain ⟨b,es,c,hb,rfl,hg,he,hst⟩:=hS.at hi
 have hlob:H.lo≤b:=ah.lM hg
 obtain ⟨f1,f2,f3⟩:=rQ (ek:=ek) (ev:=ev) hke key l es he 0
 have fin:∀ es' c',uF (ek key) (ev y) es c=some (es',c')→lG es'=gn ek ev (put key y l)→vG es' c'→∃ w H',(∀ call,gD (.mapUpdate t m k x) ⟨C,fa,call⟩ e { H with aq:=ls } d=some (w,{ H' with aq:=ls }))∧w=.undef∧Sep H' (L.set i (.map (.hm b) (gn ek ev (put key y l)))):=by
  intro es' c' hu hun hst'
  refine ⟨.undef,H.set b (.map es' c'),fun call=>?_,rfl,?_⟩
  ·simp_all [gD,pZ,pV,ah.iY,ah.m6]
  ·refine hS.lh hi (by simpa using hS.lo) (by simp) ⟨b,es',c',by simp_all,rfl,?_,hun,hst'⟩ ?_ ?_
   ·grind [ah.jV]
   ·intro b' hb' hne
    rw [ah.jV,if_neg (by rintro ⟨rfl,_⟩; exact hne rfl)]
   ·intro b' hb'; exact .inl hb'
 cases hl:look key l with
 | none=>exact fin (es++[(ek key,ev y,c)]) (c+1) (by grind [uF,f1]) (f3 hl y c) (hst.snoc _ _)
 | some x0 =>
   obtain ⟨j,hj,hjl,hjm⟩:=f2 x0 hl
   exact fin _ c (by grind [uF]) (hjm y (fun e=>(ek key,ev y,e.2.2)) fun _=>⟨rfl,rfl⟩) (hst.modify _ _ fun _=>rfl)
theorem sS {t kt el:Nat} {m k:Operand} {tm te:TI} {d:Option Nat} {v z:AV} {l:List (κ×β)} {ok:Bool} (key : κ) (hS:Sep H L) (hi:L[i]?=some (.map v (gn ek ev l))) (hT:C.T t=some tm) (hkd:tm.kind=.map kt el) (hE:C.T el=some te) (hm:fM e m=v) (hk:fM e k=ek key) (hK:nN C kt (ek key)=true) (hz:asAgg te te.zero=some z) (hke:∀ a b,jl (ek a) (ek b)=some (decide (a=b))) (call:nP) :
  gD (.lookup t m k ok) ⟨C,fa,call⟩ e { H with aq:=ls } d=match vd ok (look key l).isSome (match look key l with
   | some x=>ev x
   | none=>z) with
   | some r=>some (r,{ H with aq:=ls })
   | none=>none:=by
 obtain ⟨b,es,c,hb,rfl,hg,he,hst⟩:=hS.at hi
 obtain ⟨f1,f2,f3⟩:=rQ (ek:=ek) (ev:=ev) hke key l es he 0
 cases hl:look key l with
 | none=>simp only [gD,qp,n8,hT,hkd,hE,hk,hK,hm,nI,ah.iY,hg,f1 hl,hz,Option.isSome_none]; rfl
 | some x0 =>
   obtain ⟨j,hj,_⟩:=f2 x0 hl
   simp only [gD,qp,n8,hT,hkd,hE,hk,hK,hm,nI,ah.iY,hg,hj,Option.isSome_some]
   rfl
end
section
variable {C:gP} {F:jf} {Pr:iO} {fa:fA} {e:Env} {all rest:List Oper} {o:Oper} {q:Env→ah→Prop}
variable {H:ah} {ls:iT} {L:List gH} {i:Nat}
variable {κ β:Type} [DecidableEq κ] {ek : κ→AV} {ev : β→AV}
def KD (ok b:Bool) (v:AV):AV:=match ok with
 | true=>.fz [v,.bool b]
 | false=>v
theorem jG {t kt el:Nat} {m k:Operand} {tm te:TI} {v z:AV} {l:List (κ×β)} {ok:Bool} (key : κ) (hw:gq all e o=some true) (ho:o.op=.lookup t m k ok) (hS:Sep H L) (hi:L[i]?=some (.map v (gn ek ev l))) (hT:C.T t=some tm) (hkd:tm.kind=.map kt el) (hE:C.T el=some te) (hm:fM e m=v) (hk:fM e k=ek key) (hK:nN C kt (ek key)=true) (hz:asAgg te te.zero=some z) (hke:∀ a b,jl (ek a) (ek b)=some (decide (a=b)))
  (w1:∀ x,look key l=some x→iu C F Pr fa all rest q (gk e o (KD ok true (ev x))) { H with aq:=ls }) (w2:look key l=none→iu C F Pr fa all rest q (gk e o (KD ok false z)) { H with aq:=ls }):iu C F Pr fa all (o::rest) q e { H with aq:=ls }:=by
 cases hl:look key l with
 | none=>exact fq hw (fun call=>by rw [ho,sS key hS hi hT hkd hE hm hk hK hz hke call,hl]; cases ok<;>rfl) (w2 hl)
 | some x=>exact fq hw (fun call=>by rw [ho,sS key hS hi hT hkd hE hm hk hK hz hke call,hl]; cases ok<;>rfl) (w1 x hl)
theorem EL {j:Nat} {sch:List (Nat×List Nat)} {t kt el:Nat} {m k:Operand} {tm te:TI} {v z:AV} {l:List (κ×β)} {ok:Bool} (key : κ) (hj:all[j]?=some o) (hw:gq all e o=some true) (ho:o.op=.lookup t m k ok) (hS:Sep H L) (hi:L[i]?=some (.map v (gn ek ev l))) (hT:C.T t=some tm) (hkd:tm.kind=.map kt el) (hE:C.T el=some te) (hm:fM e m=v) (hk:fM e k=ek key) (hK:nN C kt (ek key)=true) (hz:asAgg te te.zero=some z) (hke:∀ a b,jl (ek a) (ek b)=some (decide (a=b)))
  (w1:∀ x,look key l=some x→iC C F Pr fa all sch q (gk e o (KD ok true (ev x))) { H with aq:=ls }) (w2:look key l=none→iC C F Pr fa all sch q (gk e o (KD ok false z)) { H with aq:=ls }):iC C F Pr fa all ((j,[])::sch) q e { H with aq:=ls }:=by
 cases hl:look key l with
 | none=>exact ga hj hw (fun call=>by rw [ho,sS key hS hi hT hkd hE hm hk hK hz hke call,hl]; cases ok<;>rfl) (w2 hl)
 | some x=>exact ga hj hw (fun call=>by rw [ho,sS key hS hi hT hkd hE hm hk hK hz hke call,hl]; cases ok<;>rfl) (w1 x hl)
theorem tX {es:List (AV×AV×Nat)} (hp:es.Pairwise fun a b=>a.2.2≠b.2.2) {j:Nat} (hj:j<es.length) (v:AV):m0 (es[j].2.2:Int) v es=some (es.modify j fun e=>(e.1,v,e.2.2)):=by
 induction es generalizing j with
 | nil=>simp at hj
 | cons e es ih =>
   obtain ⟨a,b,c⟩:=e
   cases j with
   | zero=>simp [m0]
   | succ j =>
     have hj':j<es.length:=by grind
     have hne:c≠es[j].2.2:=(List.pairwise_cons.mp hp).1 _ (List.getElem_mem hj')
     grind [m0]
theorem oe {t kt el:Nat} {m k:Operand} {tm te:TI} {d:Option Nat} {v z:AV} {l:List (κ×β)} (key : κ) (y : β) (hS:Sep H L) (hi:L[i]?=some (.map v (gn ek ev l))) (hT:C.T t=some tm) (hkd:tm.kind=.map kt el) (hE:C.T el=some te) (hm:fM e m=v) (hk:fM e k=ek key) (hK:nN C kt (ek key)=true) (hz:asAgg te te.zero=some z) (hV:AV.vA (ev y)=true) (hke:∀ a b,jl (ek a) (ek b)=some (decide (a=b))) :
  ∃ (u:AV) (H1:ah),(∀ call,gD (.mapEntry t m k) ⟨C,fa,call⟩ e { H with aq:=ls } d=some (u,{ H1 with aq:=ls }))∧∃ (w:AV) (st:Int) (H2:ah),u=.fz [w,.int .i64 st] ∧
    (∀ (e2:Env) (ls2:iT) (t2:Nat) (m2 s2 x2:Operand) (X:Ctx) (d2:Option Nat),fM e2 m2=v→fM e2 s2=.int .i64 st→fM e2 x2=ev y→gD (.entryStore t2 m2 s2 x2) X e2 { H1 with aq:=ls2 } d2=some (.undef,{ H2 with aq:=ls2 }))∧Sep H2 (L.set i (.map v (gn ek ev (put key y l)))):=by
 obtain ⟨b,es,c,hb,rfl,hg,he,hst⟩:=hS.at hi
 have hlob:H.lo≤b:=ah.lM hg
 obtain ⟨f1,f2,f3⟩:=rQ (ek:=ek) (ev:=ev) hke key l es he 0
 have fin:∀ es1 c1 es2 (st:Int) w,(∀ call,gD (.mapEntry t m k) ⟨C,fa,call⟩ e { H with aq:=ls } d=some (.fz [w,.int .i64 st],{ H.set b (.map es1 c1) with aq:=ls }))→m0 st (ev y) es1=some es2→lG es2=gn ek ev (put key y l)→vG es2 c1 →
   ∃ (u:AV) (H1:ah),(∀ call,gD (.mapEntry t m k) ⟨C,fa,call⟩ e { H with aq:=ls } d=some (u,{ H1 with aq:=ls }))∧∃ (w:AV) (st:Int) (H2:ah),u=.fz [w,.int .i64 st] ∧
   (∀ (e2:Env) (ls2:iT) (t2:Nat) (m2 s2 x2:Operand) (X:Ctx) (d2:Option Nat),fM e2 m2=.hm b→fM e2 s2=.int .i64 st→fM e2 x2=ev y→gD (.entryStore t2 m2 s2 x2) X e2 { H1 with aq:=ls2 } d2=some (.undef,{ H2 with aq:=ls2 }))∧Sep H2 (L.set i (.map (.hm b) (gn ek ev (put key y l)))):=by
  intro es1 c1 es2 st w h1 h2 h3 h4
  have hg1:(H.set b (.map es1 c1)).get b=some (.map es1 c1):=by grind [ah.jV]
  refine ⟨_,H.set b (.map es1 c1),h1,w,st,(H.set b (.map es1 c1)).set b (.map es2 c1),rfl,?_,?_⟩
  ·intro e2 ls2 t2 m2 s2 x2 X d2 hm2 hs2 hx2
   simp only [gD,sb,pe,hm2,hs2,hx2,AV.int?,ah.iY,hg1,hV,h2,ah.m6]
  ·refine hS.lh hi (by simpa using hS.lo) (by simp) ⟨b,es2,c1,by simp_all,rfl,?_,h3,h4⟩ ?_ ?_
   ·simp_all [ah.jV]
   ·intro b' hb' hne
    rw [ah.jV,if_neg (by rintro ⟨rfl,_⟩; exact hne rfl),ah.jV,if_neg (by rintro ⟨rfl,_⟩; exact hne rfl)]
   ·intro b' hb'; exact .inl hb'
 cases hl:look key l with
 | none =>
   refine fin (es++[(ek key,z,c)]) (c+1) (es++[(ek key,ev y,c)]) c z ?_ ?_ (f3 hl y c) (hst.snoc _ _)
   ·intro call
    simp only [gD,rL,pB,hT,hkd,hm,hE,ah.iY,hg,hk,hK,f1 hl,hz,ah.m6]
   ·have h0:=tX (hst.snoc (ek key) z).2 (j:=es.length) (by simp) (ev y)
    simp only [List.getElem_concat_length] at h0
    rw [h0]
    congr 1
    apply List.ext_getElem (by simp)
    grind
 | some x0 =>
   obtain ⟨j,hj,hjl,hjm⟩:=f2 x0 hl
   rw [Nat.zero_add] at hj
   have hst1:vG (es.modify j fun x=>(ek key,x.2)) c:=hst.modify _ _ fun _=>rfl
   refine fin (es.modify j fun x=>(ek key,x.2)) c ((es.modify j fun x=>(ek key,x.2)).modify j fun e=>(e.1,ev y,e.2.2)) (es[j].2.2:Nat) (ev x0) ?_ ?_ ?_ (hst1.modify _ _ fun _=>rfl)
   ·intro call
    have hso:sL es j=es[j].2.2:=by simp [sL,hjl]
    simp only [gD,rL,pB,hT,hkd,hm,hE,ah.iY,hg,hk,hK,hj,hso,ah.m6]
   ·have h0:=tX hst1.2 (j:=j) (by grind) (ev y)
    grind
   grind
end
section
variable {C:gP} {F:jf} {Pr:iO} {fa:fA} {e:Env} {all rest:List Oper} {o:Oper} {q:Env→ah→Prop}
variable {H:ah} {ls:iT} {L:List gH} {i:Nat}
variable {α:Type} {enc : α→List AV} {w tt:Bool} {v:AV} {n:Nat} {l:List α}
theorem BS {n:Nat} {xs:List (List AV)} (h:∀ x∈xs,x.length=n):ly n xs=true:=by
 simp_all [ly]
theorem Af {xs ys:List (List AV)} (hS:Sep H L) (hi:L[i]?=some (.sl w tt v n xs)) (hys:∀ x∈ys,x.length=n) (ht:tt=true∨ys.length=1) (hm:xs.length+ys.length≤nv) :
  ∃ v' H',append n { H with aq:=ls } v ys=some (v',{ H' with aq:=ls })∧Sep H' (L.set i (.sl w tt v' n (xs++ys))):=by
 have hlo:=hS.lo
 obtain ⟨hxl,hc⟩:=hS.at hi
 have hal:ly n ys=true:=BS hys
 have hxal:ly n xs=true:=BS hxl
 have hxy:∀ x∈xs++ys,x.length=n:=by
  grind
 have hset:∀ v',v'=v→Sep H (L.set i (.sl w tt v' n xs)):=by
  rintro v' rfl
  exact hS.lh hi hlo (Nat.le_refl _) ⟨hxl,hc⟩ (fun _ _ _=>rfl) (fun b hb=>.inl hb)
 cases ys with
 | nil =>
   rw [List.append_nil]
   refine ⟨v,H,?_,hset v rfl⟩
   rcases hc with ⟨rfl,rfl⟩ | ⟨_,rfl⟩ | ⟨b,g,j,hb,rfl,hg,htj⟩<;>rfl
 | cons y ys =>
   have new:∀ (hle:Nat.ble (xs.length+(ys.length+1)) nv=true),append n { H with aq:=ls } v (y::ys)=oF n { H with aq:=ls } xs (y::ys)→∃ v' H',append n { H with aq:=ls } v (y::ys)=some (v',{ H' with aq:=ls })∧Sep H' (L.set i (.sl w tt v' n (xs++(y::ys)))):=by
    intro hle hap
    refine ⟨.hs H.size 0 0 (xs.length+(ys.length+1)),H.push (.fW 0 n (xs++(y::ys))),?_,?_⟩
    ·rw [hap]
     simp [oF,hxal,hle,ah.oc]
    ·refine hS.lh hi (by simp; omega) (by simp) ⟨hxy,.inr (.inr ⟨H.size,0,[],by simp,by simp,?_,fun _=>rfl⟩)⟩ ?_ ?_<;>grind [ah.ky,iW,gH.v]
   have hle:Nat.ble (xs.length+(ys.length+1)) nv=true:=Nat.ble_eq.mpr (by omega)
   rcases hc with ⟨rfl,rfl⟩ | ⟨_,rfl⟩ | ⟨b,g,j,hb,rfl,hg,htj⟩
   ·grind [append]
   ·have hbt:Nat.blt xs.length (xs.length+(ys.length+1))=true:=by simp
    grind [append]
   ·have hlob:H.lo≤b:=ah.lM hg
    have grow:j=[]→∃ v' H',append n { H with aq:=ls } (.hs b g 0 xs.length) (y::ys)=some (v',{ H' with aq:=ls })∧Sep H' (L.set i (.sl w tt v' n (xs++(y::ys)))):=by
     rintro rfl
     rw [List.append_nil] at hg
     refine ⟨.hs b (g+1) 0 (xs.length+(y::ys).length),H.set b (.fW (g+1) n (xs++(y::ys))),?_,?_⟩
     ·have h2:Nat.ble (xs.length+(ys.length+1)) xs.length=false:=by
       cases hq:Nat.ble (xs.length+(ys.length+1)) xs.length with
       | false=>rfl
       | true=>exact absurd (Nat.ble_eq.mp hq) (by omega)
      simp [append,hal,xJ,ah.iY,hg,hle,h2,ah.m6]
     ·refine hS.lh hi (by simp_all) (by simp) ⟨hxy,.inr (.inr ⟨b,g+1,[],by simp_all,by simp,?_,fun _=>rfl⟩)⟩ ?_ ?_
      ·grind [ah.jV]
      ·intro b' hb' hne; rw [ah.jV,if_neg (by rintro ⟨rfl,_⟩; exact hne rfl)]
      ·intro b' hb'; exact .inl hb'
    cases j with
    | nil=>grind
    | cons j0 j =>
      have htt:tt=false:=by grind
      have hy:ys=[]:=by
       grind
      subst hy
      refine ⟨.hs b g 0 (xs.length+1),H.set b (.fW g n (xs++y::j)),?_,?_⟩
      ·have h1:Nat.ble (xs.length+1) (xs++j0::j).length=true:=Nat.ble_eq.mpr (by simp)
       have h3:Nat.ble (xs.length+1) nv=true:=hle
       have h2:overwrite (xs++j0::j) xs.length [y]=xs++y::j:=by
        simp_all [overwrite]
       simp only [append,hal,xJ,ah.iY,hg,Nat.zero_add,List.length_singleton,h1,h2,h3,Nat.beq_refl,Bool.and_self,kN,ah.m6,Bool.and_true]
      ·refine hS.lh hi (by simp_all) (by simp) ⟨hxy,.inr (.inr ⟨b,g,j,by simp_all,by simp,?_,fun h=>absurd h (by simp [htt])⟩)⟩ ?_ ?_
       ·grind [ah.jV]
       ·intro b' hb' hne; rw [ah.jV,if_neg (by rintro ⟨rfl,_⟩; exact hne rfl)]
       ·intro b' hb'; exact .inl hb'
theorem ib {cl:Call} {s x:Operand} {t u:Nat} {ti:TI} {d:Option Nat} (ys:List α) (hS:Sep H L) (hi:L[i]?=some (.sl w tt v n (l.map enc))) (hc:cl.callee=.builtin .append) (ha:cl.args.toList=[s,x]) (hts:cl.argTypes.toList=[t,u]) (hT:nQ C [t,u]=some ti) (hSr:xU C [t,u]=true) (hn:ti.size=n)
  (hs:fM e s=v) (hx:lx { H with aq:=ls } (fM e x)=some (ys.map enc)) (hok:∀ y,(enc y).all AV.hZ=true) (ht:tt=true∨ys.length=1) (hm:l.length+ys.length≤nv) (henc:∀ x,(enc x).length=n) :
  ∃ v' H',(∀ call,gD (.call cl) ⟨C,fa,call⟩ e { H with aq:=ls } d=some (v',{ H' with aq:=ls }))∧Sep H' (L.set i (.sl w tt v' n ((l++ys).map enc))):=by
 obtain ⟨v',H',h1,h2⟩:=Af (ls:=ls) (ys:=ys.map enc) hS hi (by grind) (by grind) (by grind)
 refine ⟨v',H',fun call=>?_,by grind⟩
 have hall:u2 (ys.map enc)=true:=by
  grind [u2]
 simp only [gD,mS,lZ,hc,ha,hts,j9,vZ,oU,List.map_cons,List.map_nil,hT,hSr,hn,hs,hx,hall,h1]
theorem jT {X:Ctx} {d:Option Nat} {cl:Call} {t el:Nat} {x:Operand} {ti:TI} {h:ah} (hS:Sep H L) (hi:L[i]?=some (.sl w tt v n (l.map enc))) (hc:cl.callee=.builtin .len) (ha:cl.args.toList=[x]) (hts:cl.argTypes.toList=[t]) (hT:X.C.T t=some ti) (hk:ti.kind=.slice el) (hx:fM e x=v) :
  gD (.call cl) X e h d=some (.int .i64 l.length,h):=by
 obtain ⟨hxl,⟨h0,rfl⟩ | ⟨_,rfl⟩ | ⟨b,g,j,hb,rfl,hg,htj⟩⟩:=hS.at hi
 ·simp_all [gD,mS,lZ,j9,sN,qN,rX,rb,mI]
 ·simp_all [gD,mS,lZ,j9,sN,qN,rX,rb,mI]
 simp_all [gD,mS,lZ,j9,sN,qN,rX,rb,mI]
def EA (v:AV) (m:Nat) (a:AV) (cs:List AV):Prop:=(∃ xs k,v=.sl xs (.exact k)∧a=.ip cs 0 false)∨∃ b g len,v=.hs b g 0 len∧a=.ptr b g m 0
def kA (a:AV) (o:Nat):AV:=match a with
 | .ip cs _ s=>.ip cs o s
 | .ptr b g i _=>.ptr b g i o
 | v=>v
theorem iq {m:Nat} {x : α} (h:m<l.length) (hx:l[m]=x):(l.map enc)[m]?=some (enc x):=by grind
theorem kz {P:AV→Prop} {h:ah} (hw:gq all e o=some true) (hop:∃ v,(∀ call,gD o.op ⟨C,fa,call⟩ e h o.dst=some (v,h))∧P v) (next:∀ v,P v→iu C F Pr fa all rest q (gk e o v) h):iu C F Pr fa all (o::rest) q e h:=by
 grind [fq]
theorem me {j:Nat} {sch:List (Nat×List Nat)} {P:AV→Prop} {h:ah} (hj:all[j]?=some o) (hw:gq all e o=some true) (hop:∃ v,(∀ call,gD o.op ⟨C,fa,call⟩ e h o.dst=some (v,h))∧P v) (next:∀ v,P v→iC C F Pr fa all sch q (gk e o v) h):iC C F Pr fa all ((j,[])::sch) q e h:=by
 grind [ga]
theorem ji {t el:Nat} {x y:Operand} {ti te:TI} {k:IntKind} {m:Nat} {d:Option Nat} {cs:List AV} {xs:List (List AV)} (hS:Sep H L) (hi:L[i]?=some (.sl w tt v n xs)) (hT:C.T t=some ti) (hk:ti.kind=.slice el) (hE:C.T el=some te) (hn:te.size=n) (hx:fM e x=v) (hy:fM e y=.int k (m:Int)) (hm:xs[m]?=some cs) :
  ∃ a,(∀ call,gD (.indexAddr t x y) ⟨C,fa,call⟩ e { H with aq:=ls } d=some (a,{ H with aq:=ls }))∧a=kA a 0∧EA v m a cs:=by
 have hml:m<xs.length:=(List.getElem?_eq_some_iff.mp hm).1
 have hai:mC (.int k (m:Int))=some m:=rfl
 obtain ⟨hxl,⟨h0,rfl⟩ | ⟨_,rfl⟩ | ⟨b,g,j,hb,rfl,hg,htj⟩⟩:=hS.at hi
 ·grind
 ·refine ⟨.ip cs 0 false,fun call=>?_,rfl,.inl ⟨xs,_,rfl,rfl⟩⟩
  have hl:Nat.beq cs.length te.size=true:=by
   rw [hn,hxl _ (List.mem_of_getElem? hm)]; simp
  simp_all [gD,mD,lN,nC,m5]
 ·refine ⟨.ptr b g m 0,fun call=>?_,rfl,.inr ⟨b,g,_,rfl,rfl⟩⟩
  have h1:Nat.blt m xs.length=true:=by simp_all
  simp only [gD,mD,lN,hT,hy,hai,hk,hE,hx,nC,ah.iY,hg,h1,hn,Nat.beq_refl,Bool.and_self,kN,Nat.zero_add]
theorem EA.w4 {m o off ft f t:Nat} {a:AV} {cs:List AV} {x:Operand} {X:Ctx} {d:Option Nat} {ti:TI} {fs:List (Nat×Nat)} {h:ah} (hE:EA v m a cs) (hT:X.C.T t=some ti) (hk:ti.kind=.struct fs) (hf:fs[f]?=some (off,ft)) (hx:fM e x=kA a o):gD (.fieldAddr t x f) X e h d=some (kA a (o+off),h):=by
 rcases hE with ⟨xs,k,rfl,rfl⟩ | ⟨b,g,len,rfl,rfl⟩<;>simp only [gD,oB,nq,hT,hk,hf,hx,kA,wg,IT,xH,kN,iw]
theorem ko {m o t:Nat} {a r:AV} {cs:List AV} {x:Operand} {X:Ctx} {d:Option Nat} {ti:TI} {xs:List (List AV)} (hS:Sep H L) (hi:L[i]?=some (.sl w tt v n xs)) (hm:xs[m]?=some cs) (hE:EA v m a cs) (hT:X.C.T t=some ti) (hp:part ti cs o=some r) (hx:fM e x=kA a o):gD (.load t x) X e { H with aq:=ls } d=some (r,{ H with aq:=ls }):=by
 have hml:m<xs.length:=(List.getElem?_eq_some_iff.mp hm).1
 obtain ⟨hxl,hc⟩:=hS.at hi
 rcases hE with ⟨xs',k,rfl,rfl⟩ | ⟨b,g,len,rfl,rfl⟩
 ·simp_all [gD,vk,tC,kA,pc,Rh,iw]
 ·rcases hc with ⟨h0,hv⟩ | ⟨_,hv⟩ | ⟨b',g',j,hb,hv,hg,htj⟩
  ·cases hv
  ·cases hv
  ·cases hv
   have hmj:(xs++j)[m]?=some cs:=by grind
   simp_all [gD,vk,tC,kA,pc,w6,ah.iY,iw]
theorem CX {cs new cs':List AV} {o:Nat} (h:kp cs o new=some cs'):cs'.length=cs.length:=by
 unfold kp at h
 split at h
 ·rename_i hle
  have hle:=Nat.ble_eq.mp hle
  grind [mb]
 ·cases h
theorem Rt {m o t:Nat} {a r:AV} {cs new cs':List AV} {x y:Operand} {d:Option Nat} {ti:TI} {xs:List (List AV)} (hS:Sep H L) (hi:L[i]?=some (.sl true tt v n xs)) (hm:xs[m]?=some cs) (hE:EA v m a cs) (hT:C.T t=some ti) (hx:fM e x=kA a o) (hy:fM e y=r) (hnew:cellsOf ti r=some new) (hok:new.all AV.hZ=true) (hsp:kp cs o new=some cs') :
  ∃ u H',(∀ call,gD (.store t x y) ⟨C,fa,call⟩ e { H with aq:=ls } d=some (u,{ H' with aq:=ls }))∧u=.undef∧Sep H' (L.set i (.sl true tt v n (xs.set m cs'))):=by
 have hml:m<xs.length:=(List.getElem?_eq_some_iff.mp hm).1
 obtain ⟨hxl,hc⟩:=hS.at hi
 rcases hc with ⟨h0,rfl⟩ | ⟨h0 | h0,_⟩ | ⟨b,g,j,hb,rfl,hg,htj⟩
 ·grind
 ·cases h0
 ·grind
 ·rcases hE with ⟨xs',k,h0,_⟩ | ⟨b',g',len,hv,rfl⟩
  ·cases h0
  ·cases hv
   have hlob:H.lo≤b:=ah.lM hg
   have hmj:(xs++j)[m]?=some cs:=by grind
   refine ⟨.undef,H.set b (.fW g n ((xs.set m cs')++j)),fun call=>?_,rfl,?_⟩
   ·have hse:(xs++j).set m cs'=xs.set m cs'++j:=by grind
    simp only [gD,ui,sv,hT,hx,hy,sm,hnew,hok,kA,uf,yX,ah.iY,hg,Nat.beq_refl,hmj,hsp,ah.m6,hse]
   ·refine hS.lh hi (by simpa using hS.lo) (by simp) ⟨?_,.inr (.inr ⟨b,g,j,by simp_all,by simp,?_,htj⟩)⟩ ?_ ?_
    ·intro z hz
     rcases List.mem_or_eq_of_mem_set hz with hz | rfl
     ·grind
     ·rw [CX hsp]; grind
    ·grind [ah.jV]
    ·intro b' hb' hne; rw [ah.jV,if_neg (by rintro ⟨rfl,_⟩; exact hne rfl)]
    ·intro b' hb'; exact .inl hb'
theorem od {m o t:Nat} {a r:AV} {new:List AV} {x y:Operand} {d:Option Nat} {ti:TI} (z z' : α) (hS:Sep H L) (hi:L[i]?=some (.sl true tt v n (l.map enc))) (hml:m<l.length) (hz:l[m]=z) (hE:EA v m a (enc z)) (hT:C.T t=some ti) (hx:fM e x=kA a o) (hy:fM e y=r) (hnew:cellsOf ti r=some new) (hok:new.all AV.hZ=true) (hsp:kp (enc z) o new=some (enc z')) :
  ∃ u H',(∀ call,gD (.store t x y) ⟨C,fa,call⟩ e { H with aq:=ls } d=some (u,{ H' with aq:=ls }))∧u=.undef∧Sep H' (L.set i (.sl true tt v n ((l.set m z').map enc))):=by
 rw [List.map_set]
 exact Rt hS hi (iq hml hz) hE hT hx hy hnew hok hsp
def QO (v:AV) (k:Nat) (v':AV):Prop:=(v=.sl [] .nil∧v'=.sl [] .nil∧k=0)∨(v=.sl [] (.exact 0)∧v'=.sl [] (.exact 0)∧k=0)∨∃ b g len,v=.hs b g 0 len∧v'=.hs b g 0 k
theorem MJ {t el k:Nat} {x y:Operand} {ti te:TI} {kd:IntKind} {d:Option Nat} {xs:List (List AV)} (hS:Sep H L) (hi:L[i]?=some (.sl true tt v n xs)) (hT:C.T t=some ti) (hk:ti.kind=.slice el) (hE:C.T el=some te) (hn:te.size=n) (hx:fM e x=v) (hy:fM e y=.int kd (k:Int)) (hkl:k≤xs.length) :
  ∃ v' H',(∀ call,gD (.slice t x none (some y) none) ⟨C,fa,call⟩ e { H with aq:=ls } d=some (v',{ H' with aq:=ls }))∧QO v k v'∧Sep H' (L.set i (.sl true false v' n (xs.take k))):=by
 obtain ⟨hxl,hc⟩:=hS.at hi
 have hai:mC (.int kd (k:Int))=some k:=rfl
 rcases hc with ⟨h0,rfl⟩ | ⟨h0 | h0,rfl⟩ | ⟨b,g,j,hb,rfl,hg,htj⟩
 ·subst h0
  have hk0:k=0:=by grind
  subst hk0
  refine ⟨.sl [] .nil,H,fun call=>?_,.inl ⟨rfl,rfl,rfl⟩,?_⟩
  ·simp only [gD,mE,ml,hT,hk,hE,hx,hy,slice,p9,kJ,bound,hai,mR,kP,mi]
   rfl
  ·exact hS.lh hi hS.lo (Nat.le_refl _) ⟨by simp,.inl ⟨by simp,rfl⟩⟩ (fun _ _ _=>rfl) (fun b hb=>by simp [iW,gH.v] at hb)
 ·cases h0
 ·subst h0
  have hk0:k=0:=by grind
  subst hk0
  refine ⟨.sl [] (.exact 0),H,fun call=>?_,.inr (.inl ⟨rfl,rfl,rfl⟩),?_⟩
  ·simp only [gD,mE,ml,hT,hk,hE,hx,hy,slice,p9,kJ,bound,hai,mR,kP,mi]
   rfl
  ·exact hS.lh hi hS.lo (Nat.le_refl _) ⟨by simp,.inr (.inl ⟨.inr (by simp),rfl⟩)⟩ (fun _ _ _=>rfl) (fun b hb=>by simp [iW,gH.v] at hb)
 ·have h0:Nat.ble 0 k=true:=Nat.ble_eq.mpr (Nat.zero_le _)
  have h1:Nat.ble k (xs++j).length=true:=Nat.ble_eq.mpr (by grind)
  have h2:Nat.ble 0 (xs++j).length=true:=Nat.ble_eq.mpr (Nat.zero_le _)
  refine ⟨.hs b g 0 k,H,fun call=>?_,.inr (.inr ⟨b,g,_,rfl,rfl⟩),?_⟩
  ·simp only [gD,mE,ml,hT,hk,hE,hx,hy,slice,AP,ah.iY,hg,hn,Nat.beq_refl,Bool.and_self,kJ,bound,hai,mR,Option.getD_none,Nat.zero_add,h0,h1,h2,Bool.and_true,Bool.true_and,za,kN,Nat.sub_zero,iw]
  ·refine hS.lh hi hS.lo (Nat.le_refl _) ⟨fun z hz=>hxl z (List.mem_of_mem_take hz),.inr (.inr ⟨b,g,xs.drop k++j,hb,?_,?_,fun h=>by cases h⟩)⟩ (fun _ _ _=>rfl) (fun b' hb'=>.inl hb')
   ·grind
   ·rw [hg,← List.append_assoc,List.take_append_drop]
theorem th {t el k:Nat} {x y:Operand} {ti te:TI} {kd:IntKind} {d:Option Nat} (hS:Sep H L) (hi:L[i]?=some (.sl true tt v n (l.map enc))) (hT:C.T t=some ti) (hk:ti.kind=.slice el) (hE:C.T el=some te) (hn:te.size=n) (hx:fM e x=v) (hy:fM e y=.int kd (k:Int)) (hkl:k≤l.length) :
  ∃ v' H',(∀ call,gD (.slice t x none (some y) none) ⟨C,fa,call⟩ e { H with aq:=ls } d=some (v',{ H' with aq:=ls }))∧QO v k v'∧Sep H' (L.set i (.sl true false v' n ((l.take k).map enc))):=by
 rw [List.map_take]
 exact MJ hS hi hT hk hE hn hx hy (by grind)
theorem pF {t el k:Nat} {x y:Operand} {ti te:TI} {kd:IntKind} {d:Option Nat} {v':AV} {ys:List (List AV)} {X:Ctx} (hS:Sep H L) (hi:L[i]?=some (.sl true tt v' n ys)) (hc:QO v k v') (hT:X.C.T t=some ti) (hk:ti.kind=.slice el) (hE:X.C.T el=some te) (hn:te.size=n) (hx:fM e x=v) (hy:fM e y=.int kd (k:Int)) :
  gD (.slice t x none (some y) none) X e { H with aq:=ls } d=some (v',{ H with aq:=ls }):=by
 have hai:mC (.int kd (k:Int))=some k:=rfl
 obtain ⟨hxl,hq⟩:=hS.at hi
 rcases hc with ⟨rfl,rfl,rfl⟩ | ⟨rfl,rfl,rfl⟩ | ⟨b,g,len,rfl,rfl⟩
 ·simp only [gD,mE,ml,hT,hk,hE,hx,hy,slice,p9,kJ,bound,hai,mR,kP,mi]
  rfl
 ·simp only [gD,mE,ml,hT,hk,hE,hx,hy,slice,p9,kJ,bound,hai,mR,kP,mi]
  rfl
 ·rcases hq with ⟨_,hv⟩ | ⟨_,hv⟩ | ⟨b',g',j,hb,hv,hg,htj⟩
  ·cases hv
  ·cases hv
  ·cases hv
   have h0:Nat.ble 0 ys.length=true:=Nat.ble_eq.mpr (Nat.zero_le _)
   have h1:Nat.ble ys.length (ys++j).length=true:=Nat.ble_eq.mpr (by simp)
   have h2:Nat.ble 0 (ys++j).length=true:=Nat.ble_eq.mpr (Nat.zero_le _)
   simp only [gD,mE,ml,hT,hk,hE,hx,hy,slice,AP,ah.iY,hg,hn,Nat.beq_refl,Bool.and_self,kJ,bound,hai,mR,Option.getD_none,Nat.zero_add,h0,h1,h2,Bool.and_true,Bool.true_and,za,kN,Nat.sub_zero,iw]
theorem tn {t m:Nat} {x y:Operand} {te:TI} {k k':IntKind} {d:Option Nat} (hS:Sep H L) (hT:nH C t=some te) (hx:fM e x=.int k (m:Int)) (hy:fM e y=.int k' (m:Int)) (hn:te.size=n) (hz:te.zero.length=n) (hm:m≤1048576) (hb:te.bytes≤1024) :
  ∃ v H',(∀ call,gD (.makeSlice t x y) ⟨C,fa,call⟩ e { H with aq:=ls } d=some (v,{ H' with aq:=ls }))∧Sep H' (.sl true true v n (List.replicate m te.zero)::L):=by
 have hlo:=hS.lo
 refine ⟨.hs H.size 0 0 m,H.push (.fW 0 n (List.replicate m te.zero)),fun call=>?_,?_⟩
 ·have h1:tH 0 (m:Int)=true:=by rfl
  have h2:tH (m:Int) (m:Int)=true:=by rw [pE]; simp
  have h3:tH (m:Int) 4294967295=true:=by grind [pE]
  have h4:Nat.ble ((m:Int).toNat*te.bytes) 140737488355328=true:=by
   apply Nat.ble_eq.mpr
   calc (m:Int).toNat*te.bytes≤1048576*1024:=Nat.mul_le_mul (by omega) hb
    _≤_:=by decide
  simp only [gD,tq,qa,hT,hx,hy,AV.int?,h1,h2,h3,h4,Bool.and_self,hn,ah.oc]
  rfl
 ·refine hS.new (by simp; omega) (by simp) ⟨?_,.inr (.inr ⟨H.size,0,[],by simp,by simp,?_,fun _=>rfl⟩)⟩ ?_ ?_<;>grind [ah.ky,iW,gH.v]
end
section
variable {C:gP} {F:jf} {Pr:iO} {fa:fA} {e:Env} {all rest:List Oper} {o:Oper} {q:Env→ah→Prop}
variable {H:ah} {ls:iT} {L:List gH} {i:Nat} {v:AV} {cs:List AV}
theorem wI {d:Nat} (hS:Sep H L) (hd:fa.aq.elem d=false):∃ v H',newVar fa d { H with aq:=ls } cs=some (v,{ H' with aq:=ls })∧∃ b,v=.ptr b 0 0 0∧Sep H' (.obj (.ptr b 0 0 0) cs::L):=by
 have hlo:=hS.lo
 refine ⟨.ptr H.size 0 0 0,H.push (.fW 0 cs.length [cs]),?_,H.size,rfl,?_⟩
 ·grind [newVar,ah.oc]
 ·refine hS.new (by simp; omega) (by simp) ⟨H.size,cs.length,by simp,rfl,?_⟩ ?_ ?_<;>grind [ah.ky,iW,gH.v]
theorem uM {t d:Nat} {ti:TI} (hS:Sep H L) (hd:fa.aq.elem d=false) (hT:C.T t=some ti):∃ v H',(∀ call,gD (.alloc t) ⟨C,fa,call⟩ e { H with aq:=ls } (some d)=some (v,{ H' with aq:=ls }))∧∃ b,v=.ptr b 0 0 0∧Sep H' (.obj (.ptr b 0 0 0) ti.zero::L):=by
 obtain ⟨v,H',h1,h2⟩:=wI (ls:=ls) (cs:=ti.zero) hS hd
 refine ⟨v,H',fun call=>?_,h2⟩
 simp_all [gD,E2,wP]
theorem iz {t d:Nat} {ti:TI} {x:Operand} {r:AV} (hS:Sep H L) (hd:fa.aq.elem d=false) (hT:C.T t=some ti) (hx:fM e x=r) (hc:cellsOf ti r=some cs) (hok:cs.all AV.hZ=true):∃ v H',(∀ call,gD (.box t x) ⟨C,fa,call⟩ e { H with aq:=ls } (some d)=some (v,{ H' with aq:=ls }))∧∃ b,v=.ptr b 0 0 0∧Sep H' (.obj (.ptr b 0 0 0) cs::L):=by
 obtain ⟨v,H',h1,h2⟩:=wI (ls:=ls) (cs:=cs) hS hd
 refine ⟨v,H',fun call=>?_,h2⟩
 simp only [gD,G3,DO,hT,hx,hc,hok,h1]
theorem Sep.p0 (hS:Sep H L) (hi:L[i]?=some (.obj v cs)):v=kA v 0:=by
 obtain ⟨b,z,hb,rfl,hg⟩:=hS.at hi; rfl
theorem jz {o off ft f t:Nat} {x:Operand} {X:Ctx} {d:Option Nat} {ti:TI} {fs:List (Nat×Nat)} {h:ah} (hS:Sep H L) (hi:L[i]?=some (.obj v cs)) (hT:X.C.T t=some ti) (hk:ti.kind=.struct fs) (hf:fs[f]?=some (off,ft)) (hx:fM e x=kA v o):gD (.fieldAddr t x f) X e h d=some (kA v (o+off),h):=by
 obtain ⟨b,z,hb,rfl,hg⟩:=hS.at hi
 simp_all [gD,oB,nq,kA,wg,xH,kN,iw]
theorem j3 {x:Operand} {X:Ctx} {d:Option Nat} {h:ah} {o:Nat} (hS:Sep H L) (hi:L[i]?=some (.obj v cs)) (hx:fM e x=kA v o):gD (.nilCheck x) X e h d=some (kA v o,h):=by
 obtain ⟨b,z,hb,rfl,hg⟩:=hS.at hi
 simp only [gD,rv,hx,kA,wU,iw]
theorem jU {o t:Nat} {r:AV} {x:Operand} {X:Ctx} {d:Option Nat} {ti:TI} (hS:Sep H L) (hi:L[i]?=some (.obj v cs)) (hT:X.C.T t=some ti) (hp:part ti cs o=some r) (hx:fM e x=kA v o):gD (.load t x) X e { H with aq:=ls } d=some (r,{ H with aq:=ls }):=by
 obtain ⟨b,z,hb,rfl,hg⟩:=hS.at hi
 simp_all [gD,vk,tC,kA,pc,w6,ah.iY,iw]
theorem iG {o t:Nat} {r:AV} {new cs':List AV} {x y:Operand} {d:Option Nat} {ti:TI} (hS:Sep H L) (hi:L[i]?=some (.obj v cs)) (hT:C.T t=some ti) (hx:fM e x=kA v o) (hy:fM e y=r) (hnew:cellsOf ti r=some new) (hok:new.all AV.hZ=true) (hsp:kp cs o new=some cs') :
  ∃ u H',(∀ call,gD (.store t x y) ⟨C,fa,call⟩ e { H with aq:=ls } d=some (u,{ H' with aq:=ls }))∧u=.undef∧Sep H' (L.set i (.obj v cs')):=by
 obtain ⟨b,z,hb,rfl,hg⟩:=hS.at hi
 have hlob:H.lo≤b:=ah.lM hg
 refine ⟨.undef,H.set b (.fW 0 z [cs']),fun call=>?_,rfl,?_⟩
 ·simp only [gD,ui,sv,hT,hx,hy,sm,hnew,hok,kA,uf,yX,ah.iY,hg,Nat.beq_refl,List.getElem?_cons_zero,hsp,ah.m6,List.set_cons_zero]
 ·refine hS.lh hi (by simpa using hS.lo) (by simp) ⟨b,z,by simp_all,rfl,?_⟩ ?_ ?_
  ·grind [ah.jV]
  ·intro b' hb' hne; rw [ah.jV,if_neg (by rintro ⟨rfl,_⟩; exact hne rfl)]
  ·intro b' hb'; exact .inl hb'
end
theorem ye {H:ah} {L:List gH} {i:Nat} {n:Nat} {tt:Bool} {v:AV} {m:Nat} {xs:List (List AV)} (hS:Sep H L) (hi:L[i]?=some (.sl true tt v m xs)):mc (n+1) v v=true:=by
 obtain ⟨hxl,⟨h0,rfl⟩ | ⟨h0 | h0,rfl⟩ | ⟨b,g,j,hb,rfl,hg,htj⟩⟩:=hS.at hi
 ·rfl
 ·cases h0
 ·subst h0; rfl
 ·simp [mc]
theorem kS {X:Ctx} {all:List Oper} {e:Env} {h h':ah} {i d:Nat} {o:Oper} {v:AV} (ho:all[i]?=some o) (hw:gq all e o=some true) (hd:o.dst=some d) (hop:gD o.op X e h (some d)=some (v,h')) (hv:jo e d=v) (hq:mc 8 v v=true):again X all e h i=true:=by
 grind [again,zC]
section
variable {C:gP} {F:jf} {Pr:iO} {fa:fA} {e:Env} {h:ah} {all rest:List Oper} {o:Oper} {q:Env→ah→Prop} {H:ah} {ls:iT}
theorem ze {i:Nat} {chk:List Nat} {sch:List (Nat×List Nat)} {v:AV} {h1:ah} (ho:all[i]?=some o) (hw:gq all e o=some true) (hop:∃ m,∀ k,m≤k→gD o.op (XN C F Pr fa k) e h o.dst=some (v,h1))
  (hc:∀ call,∀ j∈chk,again ⟨C,fa,call⟩ all (gk e o v) h1 j=true) (w:iC C F Pr fa all sch q (gk e o v) h1):iC C F Pr fa all ((i,chk)::sch) q e h:=by
 obtain ⟨m,hm⟩:=hop
 obtain ⟨e2,h2,⟨m2,hm2⟩,q2⟩:=w
 refine ⟨e2,h2,⟨max m m2,fun k hk=>?_⟩,q2⟩
 grind [again,gk,pJ,m8,uY]
theorem qv {j:Nat} {chk:List Nat} {sch:List (Nat×List Nat)} {P:AV→ah→Prop} (hj:all[j]?=some o) (hw:gq all e o=some true) (hop:∃ v H',(∀ call,gD o.op ⟨C,fa,call⟩ e { H with aq:=ls } o.dst=some (v,{ H' with aq:=ls }))∧P v H')
  (next:∀ v H',P v H'→(∀ call,∀ j∈chk,again ⟨C,fa,call⟩ all (gk e o v) { H' with aq:=ls } j=true)∧iC C F Pr fa all sch q (gk e o v) { H' with aq:=ls }):iC C F Pr fa all ((j,chk)::sch) q e { H with aq:=ls }:=by
 obtain ⟨v,H',h1,h2⟩:=hop
 obtain ⟨n1,n2⟩:=next v H' h2
 exact ze hj hw ⟨0,fun k _=>h1 _⟩ n1 n2
end
theorem we {p:Nat→Prop} {a:Nat} (h:p a):∀ j∈[a],p j:=by grind
theorem zo {p:Nat→Prop} {a:Nat} {l:List Nat} (h:p a) (hl:∀ j∈l,p j):∀ j∈a::l,p j:=by
 grind
structure fE (α:Type) where
 l:List α
 c:kq
 ok:l.length≤ns
 nl:c=.nil→l=[]
def fE.av {α:Type} (enc : α→List AV) (r:fE α):AV:=.sl (r.l.map enc) r.c
def Row.j6 {α:Type} (r:Row α):fE α:=⟨r.l,r.c,r.ok,r.nl⟩
section
variable {H:ah} {L:List gH} {i:Nat} {v:AV} {cs:List AV} {w tt:Bool} {n:Nat}
variable {α:Type} {enc : α→List AV} {l:List α}
theorem B1 {xs:List (List AV)} {sn:Bool} (hS:Sep H L) (hi:L[i]?=some (.sl w tt v n xs)):∃ c,(m5 c=true→sn=true)∧(c=.nil→xs=[])∧∀ ls m,(∀ x∈xs,gr (freeze sn { H with aq:=ls } m) x=some x)→freeze sn { H with aq:=ls } (m+1) v=some (.sl xs c):=by
 obtain ⟨hxl,⟨h0,rfl⟩ | ⟨_,rfl⟩ | ⟨b,g,j,hb,rfl,hg,htj⟩⟩:=hS.at hi
 ·subst h0; exact ⟨.nil,fun h=>(by cases h),fun _=>rfl,fun _ _ _=>rfl⟩
 ·exact ⟨.exact xs.length,fun h=>(by cases h),fun h=>(by cases h),fun _ _ _=>rfl⟩
 ·refine ⟨xx sn,?_,?_,fun ls m hm=>?_⟩
  ·cases sn
   ·intro h; cases h
   simp
  ·cases sn<;>exact fun h=>by cases h
  ·have h2:Nat.ble (0+xs.length) (xs++j).length=true:=Nat.ble_eq.mpr (by simp)
   have h3:((xs++j).drop 0).take xs.length=xs:=by simp
   have h5:∀ ys:List (List AV),(∀ x∈ys,gr (freeze sn { H with aq:=ls } m) x=some x)→jZ (freeze sn { H with aq:=ls } m) ys=some ys:=by
    intro ys
    induction ys<;>grind [jZ]
   simp only [freeze,ah.iY,hg,Nat.beq_refl,h2,Bool.and_self,h3,h5 xs hm]
theorem gZ (hS:Sep H L) (hi:L[i]?=some (.sl w tt v n (l.map enc))) (hl:l.length≤ns):∃ r:Row α,r.l=l∧∀ ls m,(∀ x,gr (freeze false { H with aq:=ls } m) (enc x)=some (enc x))→freeze false { H with aq:=ls } (m+1) v=some (r.av enc):=by
 obtain ⟨c,h1,h2,h3⟩:=B1 (sn:=false) hS hi
 refine ⟨⟨l,c,hl,?_,fun h=>List.map_eq_nil_iff.mp (h2 h)⟩,rfl,fun ls m hm=>h3 ls m ?_⟩<;>grind
theorem jv (hS:Sep H L) (hi:L[i]?=some (.sl w tt v n (l.map enc))) (hl:l.length≤ns):∃ r:fE α,r.l=l∧∀ ls m,(∀ x,gr (freeze true { H with aq:=ls } m) (enc x)=some (enc x))→freeze true { H with aq:=ls } (m+1) v=some (r.av enc):=by
 obtain ⟨c,h1,h2,h3⟩:=B1 (sn:=true) hS hi
 refine ⟨⟨l,c,hl,fun h=>List.map_eq_nil_iff.mp (h2 h)⟩,rfl,fun ls m hm=>h3 ls m ?_⟩
 grind
theorem B0 {f:AV→Option AV}:∀ {es:List (AV×AV×Nat)},(∀ x∈lG es,f x.2=some x.2)→mg f es=some (lG es)
 | [],_=>rfl
 | (k,v,c)::es,h=>by
   have h1:f v=some v:=h (k,v) (by simp [lG])
   have h2:mg f es=some (lG es):=B0 fun x hx=>h x (by simp only [lG,List.map_cons,List.mem_cons]; exact .inr hx)
   simp only [mg,h1,h2,lG,List.map_cons]
theorem lS {sn:Bool} {es:List (AV×AV)} (hS:Sep H L) (hi:L[i]?=some (.map v es)) (ls:iT) (m:Nat) (hm:∀ x∈es,freeze sn { H with aq:=ls } m x.2=some x.2):freeze sn { H with aq:=ls } (m+1) v=some (.fm es sn):=by
 obtain ⟨b,es',c,hb,rfl,hg,rfl,hst⟩:=hS.at hi
 grind [freeze,ah.iY,B0]
theorem iS {sn:Bool} {cs':List AV} (hS:Sep H L) (hi:L[i]?=some (.obj v cs)) (ls:iT) (m:Nat) (hm:gr (freeze sn { H with aq:=ls } m) cs=some cs'):freeze sn { H with aq:=ls } (m+1) v=some (.ip cs' 0 sn):=by
 obtain ⟨b,z,hb,rfl,hg⟩:=hS.at hi
 grind [freeze,ah.iY]
end
def AV.pL:AV→Bool
 | .agg l=>l.all AV.hZ
 | .fz _=>false
 | _=>true
theorem FB {sn:Bool} {h:ah} {n:Nat} {v w:AV} (hp:v.js=true) (hf:freeze sn h n v=some w):w=v:=by
 cases n with
 | zero=>simp [freeze] at hf
 | succ n =>
   cases v<;>simp only [AV.js,Bool.false_eq_true] at hp<;>simp only [freeze,Option.some.injEq] at hf<;>try exact hf.symm
   ·grind
   ·grind
   grind
theorem rH {f:AV→Option AV}:∀ {l l':List AV},(∀ x∈l,∀ y,f x=some y→y=x)→gr f l=some l'→l'=l
 | [],_,_,h=>by grind [gr]
 | a::l,l',hx,h=>by
   simp only [gr] at h
   split at h
   ·cases h
   ·rename_i w hw
    split at h
    ·cases h
    ·rename_i r hr
     simp only [Option.some.injEq] at h
     subst h
     rw [hx a (by simp) w hw,rH (fun x hm=>hx x (by simp [hm])) hr]
theorem BZ {hp:ah} {n:Nat} (c:List AV) (o:Nat) (s:Bool):freeze true hp (n+1) (.ip c o s)=some (.ip c o s):=by simp [freeze]
theorem B8 {hp:ah} {n:Nat} (c:List (AV×AV)) (s:Bool):freeze true hp (n+1) (.fm c s)=some (.fm c s):=by simp [freeze]
theorem zU {h:ah} {n:Nat} {v w:AV} (hr:v.nw=false) (hc:v.hZ=true) (hf:freeze true h n v=some w):w=v:=by
 cases n with
 | zero=>simp [freeze] at hf
 | succ n =>
   cases v with
   | undef=>cases hc
   | la _ _=>cases hc
   | agg _=>cases hc
   | fz _=>cases hc
   | ptr _ _ _ _=>cases hr
   | hs _ _ _ _=>cases hr
   | hm _=>cases hr
   | sl xs c=>cases c<;>exact (Option.some.inj hf).symm
   | ip c o s=>grind [BZ]
   | fm c s=>grind [B8]
   | gL f a c =>
     simp only [AV.nw,Bool.not_eq_false',Bool.and_eq_true,List.all_eq_true] at hr
     grind [freeze,rH,FB]
   | _=>exact (Option.some.inj hf).symm
theorem FA {l:List AV} (hr:(AV.agg l).nw=false) {x:AV} (hx:x∈l) (hc:x.hZ=true):x.nw=false:=by
 simp only [AV.nw,List.any_eq_false] at hr
 have h1:=hr x hx
 cases x with
 | ptr _ _ _ _=>simp at h1
 | hs _ _ _ _=>simp at h1
 | hm _=>simp at h1
 | gL f a c=>grind [AV.nw]
 | agg _=>cases hc
 | _=>rfl
theorem ID {h:ah} {n:Nat} {v w:AV} (hr:v.nw=false) (hfi:v.pL=true) (hf:freeze true h n v=some w):w=v:=by
 cases n with
 | zero=>simp [freeze] at hf
 | succ n =>
   cases v with
   | agg l =>
     rw [M9] at hf
     split at hf
     ·rename_i l' hl
      simp only [Option.some.injEq] at hf
      subst hf
      simp only [AV.pL,List.all_eq_true] at hfi
      rw [rH (fun x hx y hy=>zU (FA hr hx (hfi x hx)) (hfi x hx) hy) hl]
     grind
   | fz l=>cases hfi
   | undef=>cases hf
   | la _ _=>cases hf
   | _=>exact zU hr rfl hf
theorem iR {h:ah} {args args':List AV} (hf:gr (freeze true h 8) args=some args') (hfi:args.all AV.pL=true):kx h args=some args':=by
 grind [kx,AV.nw,rH,ID]
theorem Sep.pL {H:ah} {L:List gH} (h:Sep H L) {i:Nat} {r:gH} (hi:L[i]?=some r):AV.pL r.v=true:=by
 cases r with
 | sl w t v n xs=>obtain ⟨hl,⟨_,rfl⟩ | ⟨_,rfl⟩ | ⟨b,g,j,hb,rfl,hq,ht⟩⟩:=h.at hi<;>rfl
 | map v es=>obtain ⟨b,es',c,hb,rfl,hq,he,hst⟩:=h.at hi; rfl
 | obj v cs=>obtain ⟨b,z,hb,rfl,hq⟩:=h.at hi; rfl
theorem zI {α:Type} {enc : α→List AV} {hp:ah} {n:Nat} (r:fE α):freeze true hp (n+1) (fE.av enc r)=some (fE.av enc r):=by
 grind [fE.av,freeze]
theorem jC {α:Type} {enc : α→List AV} {hp:ah} {n:Nat} (r:Row α):freeze true hp (n+1) (Row.av enc r)=some (Row.av enc r):=zI r.j6
theorem Mf {sn:Bool} {hp:ah} {n:Nat} (c:List AV) (o:Nat):freeze sn hp (n+1) (.ip c o false)=some (.ip c o false):=by rfl
theorem LG {sn:Bool} {hp:ah} {n:Nat} (c:List (AV×AV)):freeze sn hp (n+1) (.fm c false)=some (.fm c false):=by rfl
theorem pf {C:gP} {fa:fA} {e:Env} {h:ah} {call:nP} {f:Nat} {a c:Array Operand} {as cs:List AV} {d:Option Nat} (ha:a.toList.map (fM e)=as) (hc:c.toList.map (fM e)=cs) (hok:(as.all AV.hZ&&cs.all AV.hZ)=true):gD (.makeFunc (.func f) a c) ⟨C,fa,call⟩ e h d=some (.gL f as cs,h):=by
 simp only [gD,ry,pt,ha,hc,hok]
section
variable {C:gP} {fa:fA} {e:Env} {h:ah} {α:Type} {enc : α→List AV}
theorem jn {X:Ctx} {d:Option Nat} {t el:Nat} {x:Operand} {cl:Call} {ti:TI} {r:fE α} (hc:cl.callee=.builtin .len) (ha:cl.args.toList=[x]) (hts:cl.argTypes.toList=[t]) (hT:X.C.T t=some ti) (hk:ti.kind=.slice el) (hx:fM e x=r.av enc) :
  gD (.call cl) X e h d=some (.int .i64 r.l.length,h):=by
 simp_all [gD,mS,lZ,j9,sN,qN,rX,fE.av,rb,mI]
theorem jM {X:Ctx} {d:Option Nat} {t el:Nat} {x y:Operand} {ti te:TI} {r:fE α} {k:IntKind} {n:Nat} (hT:X.C.T t=some ti) (hk:ti.kind=.slice el) (hE:X.C.T el=some te) (hx:fM e x=r.av enc) (hi:fM e y=.int k (n:Int))
  (hn:n<r.l.length) (hl:(enc r.l[n]).length=te.size):gD (.indexAddr t x y) X e h d=some (.ip (enc r.l[n]) 0 (m5 r.c),h) :=
 Lm hT hk hE hx hi (by omega) (r:=enc r.l[n]) (by simp [hn]) hl
def Row.drop (r:Row α) (k:Nat):Row α:=⟨r.l.drop k,mi k r.c,by have:=r.ok; grind,by have:=r.sn; cases hc:r.c<;>rw [hc] at this<;>first | rfl | exact this,fun h=>by
 cases hc:r.c<;>rw [hc] at h<;>first | (rw [r.nl hc]; simp) | cases h⟩
theorem Ia {X:Ctx} {d:Option Nat} {t el n k:Nat} {x y:Operand} {ti te:TI} {r:Row α} {kd:IntKind} (hT:X.C.T t=some ti) (hk:ti.kind=.slice el) (hE:X.C.T el=some te) (hx:fM e x=r.av enc) (hy:fM e y=.int kd (k:Int)) (hn:te.size=n) (hkl:k≤r.l.length) (henc:∀ x,(enc x).length=n) :
  gD (.slice t x (some y) none none) X e h d=some ((r.drop k).av enc,h):=by
 have hai:mC (.int kd (k:Int))=some k:=rfl
 have h0:Nat.ble k (r.l.map enc).length=true:=Nat.ble_eq.mpr (by grind)
 have h1:Nat.ble (r.l.map enc).length (r.l.map enc).length=true:=Nat.ble_eq.mpr (Nat.le_refl _)
 have h2:kP n (r.l.map enc)=true:=by
  cases r.l with
  | nil=>rfl
  | cons a l=>simp_all [kP]
 have h3:((r.l.map enc).drop k).take ((r.l.map enc).length - k)=(r.l.drop k).map enc:=by
  rw [List.take_of_length_le (by simp),List.map_drop]
 simp only [gD,mE,ml,hT,hk,hE,hx,hy,Row.av,slice,p9,kJ,bound,hai,mR,hn,h1,h2,h0,Bool.and_true,h3,mb,iw,Row.drop]
end
section
variable {C:gP} {F:jf} {Pr:iO} {fa:fA} {e:Env} {h:ah} {all rest:List Oper} {o:Oper} {q:Env→ah→Prop}
theorem Mq {f:Nat} {args args':List AV} {v:AV} {h h':ah} (hP:Pr f=none) (h1:kx h args=some args') (h2:kx h' args'=some args') (w:fj C F Pr false f args' h' v h'):fj C F Pr false f args h v h:=by
 obtain ⟨m,hm⟩:=w
 refine ⟨m+1,fun k hk=>?_⟩
 obtain ⟨k,rfl⟩:∃ k',k=k'+1:=⟨k - 1,by omega⟩
 have:=hm (k+1) (by omega)
 simp only [jt,hP] at this ⊢
 cases hF:F f with
 | none=>grind
 | some fb =>
   simp only [hF,pj,h1,h2] at this ⊢
   cases hb:pT C fb (jt C F Pr k) k args' ah.empty<;>grind [pT,jt,ah.empty,frozen,freeze]
theorem Fc {f:Nat} {g:Operand} {c:Call} {args p r:List AV} {v:AV} {d:Option Nat} (hf:c.callee=.value g) (hg:fM e g=.gL f p r) (ha:c.args.toList.map (fM e)=args) (hok:(p++args++r).all AV.ld=true) (hs:fa.gx.elem f=false)
  (w:fj C F Pr false f (p++args++r) { h with aq:=[] } v { h with aq:=[] }):∃ m,∀ k,m≤k→gD (.call c) (XN C F Pr fa k) e h d=some (v,h):=by
 obtain ⟨m,hm⟩:=w
 refine ⟨m,fun k hk=>?_⟩
 simp only [gD,mS,lZ,hf,hg,ha,qG,xq,hok,hs,hm k hk,sE]
theorem kE {f:Nat} {g:Operand} {c:Call} {args p r args':List AV} {R:AV→Prop} (ho:o.op=.call c) (hw:gq all e o=some true) (hf:c.callee=.value g) (hg:fM e g=.gL f p r) (ha:c.args.toList.map (fM e)=args) (hok:(p++args++r).all AV.ld=true) (hs:fa.gx.elem f=false)
  (hP:Pr f=none) (h1:kx { h with aq:=[] } (p++args++r)=some args') (h2:kx ah.empty args'=some args')
  (w:∀ h:ah,∃ v,fj C F Pr false f args' h v h∧R v) (next:∀ v,R v→iu C F Pr fa all rest q (gk e o v) h):iu C F Pr fa all (o::rest) q e h:=by
 obtain ⟨v,hc,hR⟩:=w ah.empty
 refine vm hw ?_ (next v hR)
 rw [ho]
 exact Fc hf hg ha hok hs (Mq hP h1 h2 hc)
variable {H:ah} {ls:iT}
theorem gC {f:Nat} {g:Operand} {c:Call} {args p r:List AV} {R:AV→ah→Prop} (ho:o.op=.call c) (hw:gq all e o=some true) (hf:c.callee=.value g) (hg:fM e g=.gL f p r) (ha:c.args.toList.map (fM e)=args) (hok:(p++args++r).all AV.ld=true) (hs:fa.gx.elem f=true)
  (w:∃ v H',fj C F Pr true f (p++args++r) { H with aq:=[] } v H'∧R v H') (next:∀ v H',R v H'→iu C F Pr fa all rest q (gk e o v) { H' with aq:=ls }):iu C F Pr fa all (o::rest) q e { H with aq:=ls }:=by
 obtain ⟨v,H',hc,hR⟩:=w
 refine vm hw ?_ (next v H' hR)
 rw [ho]
 exact Aj hf hg ha hok hs hc
theorem MP {j:Nat} {sch:List (Nat×List Nat)} {f:Nat} {g:Operand} {c:Call} {args p r:List AV} {R:AV→ah→Prop} (hj:all[j]?=some o) (ho:o.op=.call c) (hw:gq all e o=some true) (hf:c.callee=.value g) (hg:fM e g=.gL f p r) (ha:c.args.toList.map (fM e)=args) (hok:(p++args++r).all AV.ld=true) (hs:fa.gx.elem f=true)
  (w:∃ v H',fj C F Pr true f (p++args++r) { H with aq:=[] } v H'∧R v H') (next:∀ v H',R v H'→iC C F Pr fa all sch q (gk e o v) { H' with aq:=ls }):iC C F Pr fa all ((j,[])::sch) q e { H with aq:=ls }:=by
 obtain ⟨v,H',hc,hR⟩:=w
 refine xP hj hw ?_ (next v H' hR)
 rw [ho]
 exact Aj hf hg ha hok hs hc
end
def g6 {α:Type} (enc : α→List AV) (r:Row α):List AV:=[r.av enc]
structure lF where
 pY:Int
 steps:fE fy
 pos:fE Int
 left:fE (Row gM)
def lF.cells (x:lF):List AV:=[.int .i64 x.pY,x.steps.av fy.cells,x.pos.av fu,x.left.av (g6 gM.cells)]
structure pv where
 from_:Int
 to:Int
 end_:Int
 steps:fE fy
 jJ:fE gi
 guards:fE gi
 nT:fE Int
 holds:fE Int
 bare:Bool
def pv.cells (x:pv):List AV:=[.int .i64 x.from_,.int .i64 x.to,.int .i64 x.end_,x.steps.av fy.cells,x.jJ.av gi.cells,x.guards.av gi.cells,x.nT.av fu,x.holds.av fu,.bool x.bare]
structure gb where
 fo:fh
 roads:Row fP
def gb.cells (x:gb):List AV:=x.fo.cells++[x.roads.av fP.cells]
def sK (s:List UInt8):AV:=.str s
def bK (b:Bool):AV:=.bool b
theorem nd (a b:List UInt8):jl (sK a) (sK b)=some (decide (a=b)):=by
 simp only [jl,sK,AV.agg?,jO,ve,AV.str?]
 grind
theorem Sep.ni {H:ah} {L:List gH} {i:Nat} {w t:Bool} {v:AV} {n:Nat} {xs:List (List AV)} (h:Sep H L) (hi:L[i]?=some (.sl w t v n xs)):Sep H (L.set i (.sl w false v n xs)):=by
 obtain ⟨hxl,hc⟩:=h.at hi
 refine h.lh hi h.lo (Nat.le_refl _) ⟨hxl,?_⟩ (fun _ _ _=>rfl) (fun b hb=>.inl hb)
 grind
theorem jq {ti:TI} {v:AV} (ha:ti.agg=false) (hs:ti.size=1) (hc:v.hZ=true):cellsOf ti v=some [v]:=by
 simp_all [cellsOf]
theorem gJ {p:AV→Bool}:([]:List AV).all p=true:=rfl
theorem fD {p:AV→Bool} {a:AV} {l:List AV} (h:p a=true) (hl:l.all p=true):(a::l).all p=true:=by grind
theorem ph {a b:Bool} (h:a=true) (hl:b=true):(a&&b)=true:=by grind
theorem X8 {l:List AV} (h:l.all AV.hZ=true):AV.pL (.agg l)=true:=h
theorem sA {κ β:Type} {ek : κ→AV} {ev : β→AV} {p:AV×AV→Prop} {l:List (κ×β)} (h:∀ x : κ×β,p (ek x.1,ev x.2)):∀ x∈gn ek ev l,p x:=by
 intro x hx; obtain ⟨y,_,rfl⟩:=List.mem_map.mp hx; exact h y
theorem jw {α:Type} {enc : α→List AV} (r:Row α):AV.u1 (r.av enc)=true:=by
 have h:=r.sn
 unfold Row.av
 cases hc:r.c<;>rw [hc] at h<;>first | rfl | cases h
theorem vx {X:Ctx} {e:Env} {h:ah} {t n d:Nat} {ps:Array (Nat×Operand)} {ti:TI} {xs:List (List AV)} (hT:nH X.C t=some ti) (hle:Nat.ble (n*ti.size) 16777216=true) (hf:ng ti (kQ e ps) (List.replicate n ti.zero)=some xs) (hd:X.fa.EV.elem d=false) (hp:np xs=true):gD (.buildSlice t n ps) X e h (some d)=some (.sl xs (.exact xs.length),h):=by
 simp only [gD,mJ,lU,hT,hle,hf,o0,hd,hp,Bool.not_true,Bool.or_self]
def fE.isNil {α:Type} (r:fE α):Bool:=match r.c with
 | .nil=>true
 | _=>false
theorem fE.of_nil {α:Type} {r:fE α} (h:r.isNil=true):r.l=[]:=by
 apply r.nl
 grind [fE.isNil]
theorem kT {α:Type} {enc : α→List AV} {e:Env} {h:ah} {X:Ctx} {d:Option Nat} {t u el:Nat} {x y:Operand} {ti:TI} {r:fE α} (hT:X.C.T t=some ti) (hk:ti.kind=.slice el) (hx:fM e x=r.av enc) (hy:fM e y=.sl [] .nil):gD (.binOp .eql t x y u) X e h d=some (.bool r.isNil,h):=by
 simp only [gD,uQ,binOp,hx,hy,fE.av,AV.int?,AV.str?,uT,hT,rj,hk,pW,fE.isNil]
 cases r.c<;>rfl
theorem Sep.vD {H:ah} {L:List gH} {i:Nat} {t:Bool} {v:AV} {n:Nat} {xs:List (List AV)} (h:Sep H L) (hi:L[i]?=some (.sl true t v n xs)):(v=.sl [] .nil∧xs=[])∨(v=.sl [] (.exact 0)∧xs=[])∨∃ b g,v=.hs b g 0 xs.length:=by
 obtain ⟨hxl,h1 | ⟨h1 | h1,h2⟩ | ⟨b,g,j,h1,h2,h3,h4⟩⟩:=h.at hi<;>grind
end Go.Sx
