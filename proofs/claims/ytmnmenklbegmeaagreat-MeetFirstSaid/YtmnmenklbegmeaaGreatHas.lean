/- Proves rules for the walks and their soundness. -/
import Derived.Test.YtmnmenklbegmeaaGreatChecked
import Derived.Shelf.Spec.SlicesGrow
import Derived.WalkKit
import Derived.Shelf.Slices.CompactI
import Derived.Test.YtmnmenklbegmeaaGreatHal
import Derived.Test.YtmnmenklbegmeaaGreatHar
set_option linter.all false
set_option maxRecDepth 100000
namespace Go.Sx
open Go.Proofs.Tryz
open Go Go.Proofs Go.RowKit Go.Sort Go.Shelf
def srtN_ren:Go.Shelf.Ren:=⟨λ|6=>22|15=>58|14=>57|28=>127|29=>128|20=>119|21=>120|22=>121|23=>122|24=>123|25=>124|26=>125|27=>126|46=>232|47=>233|48=>234|49=>235|50=>236|57=>299|n=>n,λ|22=>39|24=>46|25=>82|3=>3|39=>156|0=>0|53=>247|55=>249|4=>4|46=>241|45=>240|50=>190|5=>5|9=>9|66=>341|70=>345|76=>400|77=>163|n=>n,λ|n=>n⟩
def srtN:SlLaysF0.n6 prog srtN_ren where
 mixed:=by kernel_rfl
 f6 := ⟨"slices.SortFunc[[]semaphore/api.Need,semaphore/api.Need]", by decide, func22.trans (congrArg some (by kernel_rfl))⟩
 f14 := ⟨"slices.pdqsortCmpFunc[semaphore/api.Need]", by decide, func57.trans (congrArg some (by kernel_rfl))⟩
 f20 := ⟨"slices.insertionSortCmpFunc[semaphore/api.Need]", by decide, func119.trans (congrArg some (by kernel_rfl))⟩
 f21 := ⟨"slices.heapSortCmpFunc[semaphore/api.Need]", by decide, func120.trans (congrArg some (by kernel_rfl))⟩
 f22 := ⟨"slices.breakPatternsCmpFunc[semaphore/api.Need]", by decide, func121.trans (congrArg some (by kernel_rfl))⟩
 f23 := ⟨"slices.choosePivotCmpFunc[semaphore/api.Need]", by decide, func122.trans (congrArg some (by kernel_rfl))⟩
 f24 := ⟨"slices.reverseRangeCmpFunc[semaphore/api.Need]", by decide, func123.trans (congrArg some (by kernel_rfl))⟩
 f25 := ⟨"slices.partialInsertionSortCmpFunc[semaphore/api.Need]", by decide, func124.trans (congrArg some (by kernel_rfl))⟩
 f26 := ⟨"slices.partitionEqualCmpFunc[semaphore/api.Need]", by decide, func125.trans (congrArg some (by kernel_rfl))⟩
 f27 := ⟨"slices.partitionCmpFunc[semaphore/api.Need]", by decide, func126.trans (congrArg some (by kernel_rfl))⟩
 f46 := ⟨"slices.siftDownCmpFunc[semaphore/api.Need]", by decide, func232.trans (congrArg some (by kernel_rfl))⟩
 f49 := ⟨"slices.medianAdjacentCmpFunc[semaphore/api.Need]", by decide, func235.trans (congrArg some (by kernel_rfl))⟩
 f50 := ⟨"slices.medianCmpFunc[semaphore/api.Need]", by decide, func236.trans (congrArg some (by kernel_rfl))⟩
 f57 := ⟨"slices.order2CmpFunc[semaphore/api.Need]", by decide, func299.trans (congrArg some (by kernel_rfl))⟩
 f15:=func58.trans (congrArg some (by kernel_rfl))
 f28:=func127.trans (congrArg some (by kernel_rfl))
 f29:=func128.trans (congrArg some (by kernel_rfl))
 f47:=func233.trans (congrArg some (by kernel_rfl))
 f48:=func234.trans (congrArg some (by kernel_rfl))
 t0:=underlying0
 a0:=isAgg0
 z0:=sizeOf0
 v0:=zeroValue0
 t3:=underlying3
 a3:=isAgg3
 z3:=sizeOf3
 v3:=zeroValue3
 t4:=underlying4
 a4:=isAgg4
 z4:=sizeOf4
 v4:=zeroValue4
 t5:=underlying5
 a5:=isAgg5
 z5:=sizeOf5
 v5:=zeroValue5
 t9:=underlying9
 a9:=isAgg9
 z9:=sizeOf9
 v9:=zeroValue9
 t22:=underlying39
 a22:=isAgg39
 z22:=sizeOf39
 v22:=zeroValue39
 t25:=underlying82
 a25:=isAgg82
 z25:=sizeOf82
 v25:=zeroValue82
 t39:=underlying156
 a39:=isAgg156
 z39:=sizeOf156
 v39:=zeroValue156
 t45:=underlying240
 a45:=isAgg240
 z45:=sizeOf240
 v45:=zeroValue240
 t46:=underlying241
 a46:=isAgg241
 z46:=sizeOf241
 v46:=zeroValue241
 t50:=underlying190
 a50:=isAgg190
 z50:=sizeOf190
 v50:=zeroValue190
 t53:=underlying247
 a53:=isAgg247
 z53:=sizeOf247
 v53:=zeroValue247
 t55:=underlying249
 a55:=isAgg249
 z55:=sizeOf249
 v55:=zeroValue249
 t66:=underlying341
 a66:=isAgg341
 z66:=sizeOf341
 v66:=zeroValue341
 t70:=underlying345
 a70:=isAgg345
 z70:=sizeOf345
 v70:=zeroValue345
 t76:=underlying400
 a76:=isAgg400
 z76:=sizeOf400
 v76:=zeroValue400
 t77:=underlying163
 a77:=isAgg163
 z77:=sizeOf163
 v77:=zeroValue163
def srtT_ren:Go.Shelf.Ren:=⟨λ|6=>29|15=>58|14=>70|28=>127|29=>128|20=>137|21=>138|22=>139|23=>140|24=>141|25=>142|26=>143|27=>144|46=>239|47=>233|48=>234|49=>240|50=>241|57=>300|n=>n,λ|22=>42|24=>48|25=>87|3=>3|39=>156|0=>0|53=>247|55=>249|4=>4|46=>241|45=>240|50=>190|5=>5|9=>9|66=>341|70=>345|76=>400|77=>163|n=>n,λ|n=>n⟩
def srtT:SlLaysF0.n6 prog srtT_ren where
 mixed:=by kernel_rfl
 f6 := ⟨"slices.SortFunc[[]semaphore/token.Turn,semaphore/token.Turn]", by decide, func29.trans (congrArg some (by kernel_rfl))⟩
 f14 := ⟨"slices.pdqsortCmpFunc[semaphore/token.Turn]", by decide, func70.trans (congrArg some (by kernel_rfl))⟩
 f20 := ⟨"slices.insertionSortCmpFunc[semaphore/token.Turn]", by decide, func137.trans (congrArg some (by kernel_rfl))⟩
 f21 := ⟨"slices.heapSortCmpFunc[semaphore/token.Turn]", by decide, func138.trans (congrArg some (by kernel_rfl))⟩
 f22 := ⟨"slices.breakPatternsCmpFunc[semaphore/token.Turn]", by decide, func139.trans (congrArg some (by kernel_rfl))⟩
 f23 := ⟨"slices.choosePivotCmpFunc[semaphore/token.Turn]", by decide, func140.trans (congrArg some (by kernel_rfl))⟩
 f24 := ⟨"slices.reverseRangeCmpFunc[semaphore/token.Turn]", by decide, func141.trans (congrArg some (by kernel_rfl))⟩
 f25 := ⟨"slices.partialInsertionSortCmpFunc[semaphore/token.Turn]", by decide, func142.trans (congrArg some (by kernel_rfl))⟩
 f26 := ⟨"slices.partitionEqualCmpFunc[semaphore/token.Turn]", by decide, func143.trans (congrArg some (by kernel_rfl))⟩
 f27 := ⟨"slices.partitionCmpFunc[semaphore/token.Turn]", by decide, func144.trans (congrArg some (by kernel_rfl))⟩
 f46 := ⟨"slices.siftDownCmpFunc[semaphore/token.Turn]", by decide, func239.trans (congrArg some (by kernel_rfl))⟩
 f49 := ⟨"slices.medianAdjacentCmpFunc[semaphore/token.Turn]", by decide, func240.trans (congrArg some (by kernel_rfl))⟩
 f50 := ⟨"slices.medianCmpFunc[semaphore/token.Turn]", by decide, func241.trans (congrArg some (by kernel_rfl))⟩
 f57 := ⟨"slices.order2CmpFunc[semaphore/token.Turn]", by decide, func300.trans (congrArg some (by kernel_rfl))⟩
 f15:=func58.trans (congrArg some (by kernel_rfl))
 f28:=func127.trans (congrArg some (by kernel_rfl))
 f29:=func128.trans (congrArg some (by kernel_rfl))
 f47:=func233.trans (congrArg some (by kernel_rfl))
 f48:=func234.trans (congrArg some (by kernel_rfl))
 t0:=underlying0
 a0:=isAgg0
 z0:=sizeOf0
 v0:=zeroValue0
 t3:=underlying3
 a3:=isAgg3
 z3:=sizeOf3
 v3:=zeroValue3
 t4:=underlying4
 a4:=isAgg4
 z4:=sizeOf4
 v4:=zeroValue4
 t5:=underlying5
 a5:=isAgg5
 z5:=sizeOf5
 v5:=zeroValue5
 t9:=underlying9
 a9:=isAgg9
 z9:=sizeOf9
 v9:=zeroValue9
 t22:=underlying42
 a22:=isAgg42
 z22:=sizeOf42
 v22:=zeroValue42
 t25:=underlying87
 a25:=isAgg87
 z25:=sizeOf87
 v25:=zeroValue87
 t39:=underlying156
 a39:=isAgg156
 z39:=sizeOf156
 v39:=zeroValue156
 t45:=underlying240
 a45:=isAgg240
 z45:=sizeOf240
 v45:=zeroValue240
 t46:=underlying241
 a46:=isAgg241
 z46:=sizeOf241
 v46:=zeroValue241
 t50:=underlying190
 a50:=isAgg190
 z50:=sizeOf190
 v50:=zeroValue190
 t53:=underlying247
 a53:=isAgg247
 z53:=sizeOf247
 v53:=zeroValue247
 t55:=underlying249
 a55:=isAgg249
 z55:=sizeOf249
 v55:=zeroValue249
 t66:=underlying341
 a66:=isAgg341
 z66:=sizeOf341
 v66:=zeroValue341
 t70:=underlying345
 a70:=isAgg345
 z70:=sizeOf345
 v70:=zeroValue345
 t76:=underlying400
 a76:=isAgg400
 z76:=sizeOf400
 v76:=zeroValue400
 t77:=underlying163
 a77:=isAgg163
 z77:=sizeOf163
 v77:=zeroValue163
def tabsN : @vC ⟨True⟩ prog cfg FT (λ_=>none):=@vC.mk ⟨True⟩ prog cfg FT (λ_=>none) vb yu Sq (λ_ _ h=>nomatch h)
def ndP(p:Int×Int):bY:=⟨p.1,p.2⟩
def difP(p q:Int×Int):Int:=IntKind.i64.wrap (p.1 - q.1)
def dif_wrap(a b:KJ):difP (zM a) (zM b)=zp a b:=by have c:=a.2;have d:=b.2;show IntKind.i64.wrap (a.1.1 - b.1.1)=a.1.1 - b.1.1;exact wU _ (by omega) (by omega)
def enc1(p:Int×Int):∀v∈p6 p,v.oneCell'=true:=by intro v a;simp[p6]at a;rcases a with rfl|rfl<;>rfl
def cmpN(p q:Int×Int):∃v,lZ cfg FT (λ_=>none) false 23 [.agg (pI p),.agg (pI q)] aT.empty v aT.empty/\v=.int .i64 (s6 p q):=by obtain⟨v,a,r,b,rfl⟩:=alK (ndP p) (ndP q) aT.empty;exact⟨_,a,by rw[b];rfl⟩
def cmpT(p q:Int×Int):∃v,lZ cfg FT (λ_=>none) false 30 [.agg (pI p),.agg (pI q)] aT.empty v aT.empty/\v=.int .i64 (s6 p q):=by obtain⟨v,a,r,b,rfl⟩:=amm (ndP p) (ndP q) aT.empty;exact⟨_,a,by rw[b];rfl⟩
def cmpD(p q:Int×Int):∃v,lZ cfg FT (λ_=>none) false 69 [.agg (pI p),.agg (pI q)] aT.empty v aT.empty/\v=.int .i64 (difP p q):=by obtain⟨v,a,r,b,rfl⟩:=alD (ndP p) (ndP q) aT.empty;exact⟨_,a,by rw[b];rfl⟩
def lays_of{α:Type}[Inhabited α]{g:Nat}{cp:Int×Int->Int×Int->Int}{tp : α->Int×Int}{cf : α->α->Int}(he:∀a b,cp (tp a) (tp b)=cf a b)
  (hc:∀x y:Int×Int,∃v,lZ cfg FT (λ_=>none) false g [.agg (pI x),.agg (pI y)] aT.empty v aT.empty/\v=.int .i64 (cp x y)) (lU off size:Nat) (w:World):CmpLays prog g #[] (λa=>p6 (tp a)) 2 cf lU off size w:=by
 intro m c d _ x y;have h:=afC tabsN hc (tp x) (tp y) (sortWorldK (λa=>p6 (tp a)) 2 w lU off m d c);rw[he]at h;exact h
def sortNOk:qD prog 22 (pG id some 23 s6) :=
 Bo (λ_ _ h=>Option.some.inj h.symm▸rfl) CY ⟨f22,func22,by kernel_rfl,by kernel_rfl⟩
  (λe c b d w f g i=>AnyQ.slices_SortFunc_eq srtN 2 isAgg46 sizeOf46 (λa=>p6 (id a)) (λ_=>rfl) (λx=>enc1 x) s6 CY 23 #[] e c b d w (enters_of func23 (by kernel_rfl) rfl) (lays_of (λ_ _=>rfl) cmpN e c d.size w) f g i)
  (λp b w=>AnyF.slices_SortFunc_none srtN p b _ w)
def sortTOk:qD prog 29 (wK 30 (pG id some 30 s6) (pG zM GZ 69 zp)) :=
 Oz (Bo (λ_ _ h=>Option.some.inj h.symm▸rfl) CY ⟨f29,func29,by kernel_rfl,by kernel_rfl⟩
  (λe c b d w f g i=>AnyQ.slices_SortFunc_eq srtT 2 isAgg48 sizeOf48 (λa=>p6 (id a)) (λ_=>rfl) (λx=>enc1 x) s6 CY 30 #[] e c b d w (enters_of func30 (by kernel_rfl) rfl) (lays_of (λ_ _=>rfl) cmpT e c d.size w) f g i)
  (λp b w=>AnyF.slices_SortFunc_none srtT p b _ w))
  (Bo WS J2 ⟨f29,func29,by kernel_rfl,by kernel_rfl⟩
   (λe c b d w f g i=>AnyQ.slices_SortFunc_eq srtT 2 isAgg48 sizeOf48 (λa=>p6 (zM a)) (λ_=>rfl) (λx=>enc1 (zM x)) zp J2 69 #[] e c b d w (enters_of func69 (by kernel_rfl) rfl) (lays_of dif_wrap cmpD e c d.size w) f g i)
   (λp b w=>AnyF.slices_SortFunc_none srtT p b _ w))
def grow_ren:Go.Shelf.Ren:=⟨λ|4=>310|n=>n,λ|22=>42|25=>48|3=>3|4=>4|9=>9|20=>20|0=>0|n=>n,λ|n=>n⟩
def growL:Lays8.n4 prog grow_ren where
 mixed:=by kernel_rfl
 f4 := ⟨"slices.Grow[[]semaphore/token.Turn,semaphore/token.Turn]", by decide, func310.trans (congrArg some (by kernel_rfl))⟩
 t0:=underlying0
 a0:=isAgg0
 z0:=sizeOf0
 v0:=zeroValue0
 t3:=underlying3
 a3:=isAgg3
 z3:=sizeOf3
 v3:=zeroValue3
 t4:=underlying4
 a4:=isAgg4
 z4:=sizeOf4
 v4:=zeroValue4
 t9:=underlying9
 a9:=isAgg9
 z9:=sizeOf9
 v9:=zeroValue9
 t20:=underlying20
 a20:=isAgg20
 z20:=sizeOf20
 v20:=zeroValue20
 t22:=underlying42
 a22:=isAgg42
 z22:=sizeOf42
 v22:=zeroValue42
def okI(i:Option TypeInfo):Bool:=match i with
 |some i=>match i.zero with
  |some z=>Nat.beq i.size 2&&(Nat.ble i.bytes 64&&Nat.beq z.cells.size 2)
  |none=>false
 |none=>false
def okI_some{i:Option TypeInfo}(h:okI i=true):∃i0 z,i=some i0/\i0.zero=some z/\i0.size=2/\i0.bytes<=64/\z.cells.size=2:=by
 unfold okI at h;split at h
 ·rename_i i0;split at h;·rename_i z a;simp only[Bool.and_eq_true,Nat.ble_eq,Nat.beq_eq]at h;exact⟨i0,z,rfl,a,h.1,h.2.1,h.2.2⟩
  ·cases h
 ·cases h
def infoT:okI (prog.info? 48)=true:=by kernel_rfl
def growOk:qD prog 310 yA :=
 OQ ⟨f310,func310,by kernel_rfl,by kernel_rfl⟩ (λp n w h i=>by
  obtain⟨c,z,d,f,j,g,b⟩:=okI_some infoT;have a:(0+n)*c.bytes<=140737488355328:=by have:=Nat.mul_le_mul (show 0+n<=1000000 by omega) g;omega
  refine(Any8.slices_Grow_grow growL c z d f (by omega) p 0 0 n [] w (by omega) (by omega) a (by omega) (by simp) (λ_=>rfl) (by simp)).mono ?_;rintro e w' ⟨rfl,rfl⟩;refine⟨_,_,_,?_,rfl,rfl⟩;have k:=grownCap_ge w (0+n) 0 48;simp only[Array.size_append,size_zeroCells,b,List.size_toArray,List.length_nil];show 0+(0+n - 0)*2+(grownCap w (0+n) 0 48 - (0+n))*2=grownCap w (0+n) 0 48*2
  omega) (λp w=>Any8.slices_Grow_room growL p 0 0 0 w (by omega) (by omega) (by omega) (by omega))
end Go.Sx
namespace Go.Sx
open Go.Proofs.Tryz
open Go Go.Proofs Go.RowKit
section
variable {P:Program}(w:World)
def run_eql_map_nilx(t k e:TypeId)(p:Option Nat)(h:P.underlying t=some (.map k e)) :
  (Go.binOp .eql t (.map p) (.map none)).run P w=.ok (.bool p.isNone) w:=by
 simp only[Go.binOp];have:∀d,(Op.equalIn (d+1) t (.map p) (.map none)).run P w=.ok p.isNone w:=by intro d;cases p<;>simp[Op.equalIn,run_underlying h]
 simp[show Op.equal t (.map p) (.map none)=Op.equalIn (9999+1) t (.map p) (.map none)from rfl,this 9999]
theorem run_typeAssert_mapx(t xT k e:TypeId)(v:Value)(h:P.underlying t=some (.map k e)):(Instr.typeAssert (.iface t v) xT t false).run P w=.ok v w:=by simp[Instr.typeAssert,run_underlying h,go_sem,Result.andThen]
theorem run_maps_clonex{r:Nat}{es:Array MapEntry}{clock:Nat}(t:TypeId)(hb:w.heap[r]?=some (.map es clock)) :
  (Extern.MapsClone.clone #[.iface t (.map (some r))]).run P w=.ok (.iface t (.map (some w.heap.size))) (w.alloc (.map es clock)):=by
 have e:Extern.MapsClone.clone #[.iface t (.map (some r))]=(getObj r >>= λo=>match o with
   |.map entries clock=>(newObj (.map entries clock) >>= λn=>pure (.iface t (.map (some n))))
   | _ => stuck "maps.clone: a map expected") := rfl
 rw[e];simp[MapKept.run_getObj_map hb,Result.andThen,go_sem]
end
set_option maxRecDepth 100000 in
set_option maxHeartbeats 4000000 in
def clone_a(b:Nat)(es:Array MapEntry)(clock:Nat)(w:World)(hb:w.heap[b]?=some (.map es clock)) :
  Calls prog 317 #[.map (some b)] w λe w'=>e=.returned (.map (some w.heap.size))/\w'=w.alloc (.map es clock):=by
 have a:=λw=>run_eql_map_nilx (P:=prog) w 384 _ _ (some b) underlying384
 go_enter func317,ntmps317
 go_wp2
 rw[run_callFunc_extern func362 (by kernel_rfl) (by kernel_rfl) (by kernel_rfl) (e:=Extern.MapsClone.clone) (by kernel_rfl),run_maps_clonex w 384 hb];simp only[Result.andThen];rw[Oper.upon_value]
 go_wp2
 rw[run_typeAssert_mapx _ 384 20 _ _ _ underlying384];simp only[Result.andThen];rw[Oper.upon_value]
 go_wp2
 go_ret
 exact⟨rfl,rfl⟩
set_option maxRecDepth 100000 in
set_option maxHeartbeats 4000000 in
def clone_a0(w:World):Calls prog 317 #[.map none] w λe w'=>e=.returned (.map none)/\w'=w:=by
 have a:=λw=>run_eql_map_nilx (P:=prog) w 384 _ _ none underlying384
 go_enter func317,ntmps317
 go_wp2
 go_ret
 exact⟨rfl,rfl⟩
set_option maxRecDepth 100000 in
set_option maxHeartbeats 4000000 in
def clone_b(b:Nat)(es:Array MapEntry)(clock:Nat)(w:World)(hb:w.heap[b]?=some (.map es clock)) :
  Calls prog 318 #[.map (some b)] w λe w'=>e=.returned (.map (some w.heap.size))/\w'=w.alloc (.map es clock):=by
 have a:=λw=>run_eql_map_nilx (P:=prog) w 385 _ _ (some b) underlying385
 go_enter func318,ntmps318
 go_wp2
 rw[run_callFunc_extern func362 (by kernel_rfl) (by kernel_rfl) (by kernel_rfl) (e:=Extern.MapsClone.clone) (by kernel_rfl),run_maps_clonex w 385 hb];simp only[Result.andThen];rw[Oper.upon_value]
 go_wp2
 rw[run_typeAssert_mapx _ 385 20 _ _ _ underlying385];simp only[Result.andThen];rw[Oper.upon_value]
 go_wp2
 go_ret
 exact⟨rfl,rfl⟩
set_option maxRecDepth 100000 in
set_option maxHeartbeats 4000000 in
def clone_b0(w:World):Calls prog 318 #[.map none] w λe w'=>e=.returned (.map none)/\w'=w:=by
 have a:=λw=>run_eql_map_nilx (P:=prog) w 385 _ _ none underlying385
 go_enter func318,ntmps318
 go_wp2
 go_ret
 exact⟨rfl,rfl⟩
end Go.Sx
namespace Go.Sx
open Go.Proofs.Tryz
open Go Go.Proofs Go.RowKit Go.Maps Go.Sort Go.Shelf
def keysA_ren:Go.Shelf.Ren:=⟨λ|7=>353|10=>380|n=>n,λ|23=>273|26=>3|3=>4|28=>452|0=>0|27=>451|33=>157|4=>4|n=>n,λ|n=>n⟩
def keysA:SlLaysZI.n7 prog keysA_ren where
 mixed:=by kernel_rfl
 f7 := ⟨"maps.Keys[map[int]bool,int,bool]", by decide, func353.trans (congrArg some (by kernel_rfl))⟩
 f10 := ⟨"maps.Keys[map[int]bool,int,bool]$1", by decide, func380.trans (congrArg some (by kernel_rfl))⟩
 t0:=underlying0
 a0:=isAgg0
 z0:=sizeOf0
 v0:=zeroValue0
 t4:=underlying4
 a4:=isAgg4
 z4:=sizeOf4
 v4:=zeroValue4
 t23:=underlying273
 a23:=isAgg273
 z23:=sizeOf273
 v23:=zeroValue273
 t26:=underlying3
 a26:=isAgg3
 z26:=sizeOf3
 v26:=zeroValue3
 t27:=underlying451
 a27:=isAgg451
 z27:=sizeOf451
 v27:=zeroValue451
 t28:=underlying452
 a28:=isAgg452
 z28:=sizeOf452
 v28:=zeroValue452
 t33:=underlying157
 a33:=isAgg157
 z33:=sizeOf157
 v33:=zeroValue157
def sortedA_ren:Go.Shelf.Ren:=⟨λ|6=>352|8=>379|9=>212|11=>387|13=>58|12=>286|23=>127|24=>128|14=>319|15=>320|16=>321|17=>322|18=>323|19=>324|20=>325|21=>326|22=>327|25=>363|26=>233|27=>234|28=>364|29=>365|30=>59|31=>381|n=>n,λ|26=>3|28=>452|24=>70|0=>0|3=>3|37=>156|48=>247|50=>249|4=>4|40=>241|39=>240|45=>190|5=>5|9=>9|51=>341|55=>345|57=>400|58=>163|33=>157|n=>n,λ|n=>n⟩
def sortedA:SlLaysZI.n6 prog sortedA_ren where
 mixed:=by kernel_rfl
 f6 := ⟨"slices.Sorted[int]", by decide, func352.trans (congrArg some (by kernel_rfl))⟩
 f8 := ⟨"slices.Collect[int]", by decide, func379.trans (congrArg some (by kernel_rfl))⟩
 f11 := ⟨"slices.AppendSeq[[]int,int]", by decide, func387.trans (congrArg some (by kernel_rfl))⟩
 t0:=underlying0
 a0:=isAgg0
 z0:=sizeOf0
 v0:=zeroValue0
 t24:=underlying70
 a24:=isAgg70
 z24:=sizeOf70
 v24:=zeroValue70
 t26:=underlying3
 a26:=isAgg3
 z26:=sizeOf3
 v26:=zeroValue3
 t28:=underlying452
 a28:=isAgg452
 z28:=sizeOf452
 v28:=zeroValue452
 i26:=by kernel_rfl
def sortA_ren:Go.Shelf.Ren:=⟨λ|5=>212|8=>58|7=>286|19=>127|20=>128|10=>319|11=>320|12=>321|13=>322|14=>323|15=>324|16=>325|17=>326|18=>327|30=>363|31=>233|32=>234|33=>364|34=>365|35=>59|40=>381|n=>n,λ|23=>70|25=>3|3=>3|32=>156|22=>70|0=>0|44=>247|46=>249|4=>4|36=>241|35=>240|41=>190|5=>5|9=>9|53=>341|57=>345|63=>400|64=>163|n=>n,λ|n=>n⟩
def sortA:SlLaysM.n5 prog sortA_ren where
 mixed:=by kernel_rfl
 f5 := ⟨"slices.Sort[[]int,int]", by decide, func212.trans (congrArg some (by kernel_rfl))⟩
 f7 := ⟨"slices.pdqsortOrdered[int]", by decide, func286.trans (congrArg some (by kernel_rfl))⟩
 f8:=func58.trans (congrArg some (by kernel_rfl))
 f10 := ⟨"slices.insertionSortOrdered[int]", by decide, func319.trans (congrArg some (by kernel_rfl))⟩
 f11 := ⟨"slices.heapSortOrdered[int]", by decide, func320.trans (congrArg some (by kernel_rfl))⟩
 f12 := ⟨"slices.breakPatternsOrdered[int]", by decide, func321.trans (congrArg some (by kernel_rfl))⟩
 f13 := ⟨"slices.choosePivotOrdered[int]", by decide, func322.trans (congrArg some (by kernel_rfl))⟩
 f14 := ⟨"slices.reverseRangeOrdered[int]", by decide, func323.trans (congrArg some (by kernel_rfl))⟩
 f15 := ⟨"slices.partialInsertionSortOrdered[int]", by decide, func324.trans (congrArg some (by kernel_rfl))⟩
 f16 := ⟨"cmp.Less[int]", by decide, func325.trans (congrArg some (by kernel_rfl))⟩
 f17 := ⟨"slices.partitionEqualOrdered[int]", by decide, func326.trans (congrArg some (by kernel_rfl))⟩
 f18 := ⟨"slices.partitionOrdered[int]", by decide, func327.trans (congrArg some (by kernel_rfl))⟩
 f19:=func127.trans (congrArg some (by kernel_rfl))
 f20:=func128.trans (congrArg some (by kernel_rfl))
 f30 := ⟨"slices.siftDownOrdered[int]", by decide, func363.trans (congrArg some (by kernel_rfl))⟩
 f31:=func233.trans (congrArg some (by kernel_rfl))
 f32:=func234.trans (congrArg some (by kernel_rfl))
 f33 := ⟨"slices.medianAdjacentOrdered[int]", by decide, func364.trans (congrArg some (by kernel_rfl))⟩
 f34 := ⟨"slices.medianOrdered[int]", by decide, func365.trans (congrArg some (by kernel_rfl))⟩
 f35 := ⟨"cmp.isNaN[int]", by decide, func59.trans (congrArg some (by kernel_rfl))⟩
 f40 := ⟨"slices.order2Ordered[int]", by decide, func381.trans (congrArg some (by kernel_rfl))⟩
 t0:=underlying0
 a0:=isAgg0
 z0:=sizeOf0
 v0:=zeroValue0
 t3:=underlying3
 a3:=isAgg3
 z3:=sizeOf3
 v3:=zeroValue3
 t4:=underlying4
 a4:=isAgg4
 z4:=sizeOf4
 v4:=zeroValue4
 t5:=underlying5
 a5:=isAgg5
 z5:=sizeOf5
 v5:=zeroValue5
 t9:=underlying9
 a9:=isAgg9
 z9:=sizeOf9
 v9:=zeroValue9
 t22:=underlying70
 a22:=isAgg70
 z22:=sizeOf70
 v22:=zeroValue70
 t23:=underlying70
 a23:=isAgg70
 z23:=sizeOf70
 v23:=zeroValue70
 t25:=underlying3
 a25:=isAgg3
 z25:=sizeOf3
 v25:=zeroValue3
 t32:=underlying156
 a32:=isAgg156
 z32:=sizeOf156
 v32:=zeroValue156
 t35:=underlying240
 a35:=isAgg240
 z35:=sizeOf240
 v35:=zeroValue240
 t36:=underlying241
 a36:=isAgg241
 z36:=sizeOf241
 v36:=zeroValue241
 t41:=underlying190
 a41:=isAgg190
 z41:=sizeOf190
 v41:=zeroValue190
 t44:=underlying247
 a44:=isAgg247
 z44:=sizeOf247
 v44:=zeroValue247
 t46:=underlying249
 a46:=isAgg249
 z46:=sizeOf249
 v46:=zeroValue249
 t53:=underlying341
 a53:=isAgg341
 z53:=sizeOf341
 v53:=zeroValue341
 t57:=underlying345
 a57:=isAgg345
 z57:=sizeOf345
 v57:=zeroValue345
 t63:=underlying400
 a63:=isAgg400
 z63:=sizeOf400
 v63:=zeroValue400
 t64:=underlying163
 a64:=isAgg163
 z64:=sizeOf163
 v64:=zeroValue163
def sortsA(m:Nat):AnyZI.SortsIn prog sortedA_ren Fence.wide m :=
 ⟨λe c a f W g b d=>callsIn_wide.2 (AnyM.slices_Sort_int sortA e c a f W g b d),
  λp a W=>callsIn_wide.2 (AnyM.slices_Sort_int_none sortA p a W)⟩
def keysC(mb:Option Nat)(W:World):CallsIn Fence.wide 5 prog 353 #[.map mb] W λe w'=>e=.returned (.func (.func 380) #[] #[.pointer (some ⟨W.heap.size,0,none⟩)])/\w'=W.alloc (.cells #[.map mb] 273):=AnyZI.keys_in keysA Fence.wide 5 trivial rfl mb W
def sortedC(S:List Int->Prop)(N:Nat)(hmax:N<=maxLen)(hbytes:N*8<=140737488355328)(w:World)(p:Value)(hseq:SeqGives Fence.wide 2 prog 380 #[p] encZ S N w) :
  CallsIn Fence.wide 5 prog 352 #[.func (.func 380) #[] #[p]] w λe w'=>∃(v:Value) (ss:List Int),e=.returned v/\S ss /\
   w'.ownsRow w.heap.size 3 1 v ss.length ((ss.mergeSort leI).map encZ)/\(v=.slice none 0 0↔ss=[])/\Below w.heap.size w w' :=
 AnyZI.sorted_in sortedA Fence.wide 5 trivial trivial trivial trivial rfl (by omega) (sortsA _) (enters_of func212 (by kernel_rfl) rfl) 380 #[p] trivial (enters_of func380 (by kernel_rfl) rfl) S N hmax hbytes w hseq
set_option maxHeartbeats 1000000 in
def rising_a(b nn:Nat)(D0:DataW Unit)(w:World)(hown:w.ownsMap prog 3 (λ_=>some (.nil,[])) b nn D0)(hmax:Maps.size D0<=maxLen)(hbytes:Maps.size D0*8<=140737488355328) :
  Calls prog 309 #[.map (some b)] w λe w'=>∃(v:Value) (ss:List Int),e=.returned v/\ss.Perm (intKeys D0) /\
   w'.ownsRow w.heap.size 3 1 v ss.length ((ss.mergeSort leI).map encZ)/\(v=.slice none 0 0↔ss=[])/\Below w.heap.size w w':=by
 refine(callsIn_wide (n:=6)).1 ?_;have g:=hown.lt
 have c:SeqGives Fence.wide 2 prog 380 #[.pointer (some ⟨w.heap.size,0,none⟩)] encZ (λss=>ss.Perm (intKeys D0)) (Maps.size D0) (w.alloc (.cells #[.map (some b)] 273)) :=
  AnyZI.keys_gives (ρ:=keysA_ren) { keysA with } Fence.wide _ trivial rfl (by omega) w.heap.size b nn D0 _ (by simp) (by simp) (by
   obtain⟨i,a,h,Ft,j,k⟩:=hown
   exact⟨i,a,(Below.heap_alloc _ _ b g).trans h,Ft,j,k⟩)
 have l:=keysC;have m:=sortedC _ _ hmax hbytes _ _ c;have o:Fence.wide.fn 353:=trivial;have p:Fence.wide.fn 352:=trivial;refine callsIn_of_wp func309 rfl trivial ?_ rfl;simp only[ntmps309,List.size_toArray,List.length_cons,List.length_nil,Nat.reduceAdd,Nat.reduceSub,Array.replicate_succ,Array.replicate_zero,List.push_toArray,List.append_toArray,List.nil_append,List.cons_append]
 gi_wp2_with (first
  |(gi_at_call 353;refine(l _ _).mono ?_;rintro e w' ⟨rfl,rfl⟩)
  |(gi_at_call 352;refine m.mono ?_;rintro e w' ⟨v,ss,rfl,q,d,f,h⟩))
 go_ret
 exact⟨v,ss,rfl,q,ownsRow_base_a d (by simp),f,((Below.refl _ w).alloc (abs _) _).trans (h.mono (by simp))⟩
set_option maxHeartbeats 1000000 in
def rising_0(w:World):Calls prog 309 #[.map none] w λe w'=>e=.returned (.slice none 0 0)/\Below w.heap.size w w':=by
 refine(callsIn_wide (n:=6)).1 ?_
 have a:SeqGives Fence.wide 2 prog 380 #[.pointer (some ⟨w.heap.size,0,none⟩)] encZ (λc:List Int=>c=[]) 0 (w.alloc (.cells #[.map none] 273)) :=
  AnyZI.keys_gives_nil (ρ:=keysA_ren) { keysA with } Fence.wide _ trivial rfl w.heap.size _ (by simp) (by simp)
 have f:=keysC;have g:=sortedC _ 0 (ang _) (by omega) _ _ a;have h:Fence.wide.fn 353:=trivial;have i:Fence.wide.fn 352:=trivial;refine callsIn_of_wp func309 rfl trivial ?_ rfl;simp only[ntmps309,List.size_toArray,List.length_cons,List.length_nil,Nat.reduceAdd,Nat.reduceSub,Array.replicate_succ,Array.replicate_zero,List.push_toArray,List.append_toArray,List.nil_append,List.cons_append]
 gi_wp2_with (first
  |(gi_at_call 353;refine(f _ _).mono ?_;rintro e w' ⟨rfl,rfl⟩)
  |(gi_at_call 352;refine g.mono ?_;rintro e w' ⟨v,c,rfl,rfl,d,b,j⟩;obtain rfl:v=.slice none 0 0:=b.2 rfl))
 go_ret
 exact⟨rfl,((Below.refl _ w).alloc (abs _) _).trans (j.mono (by simp))⟩
def risingOk:qD prog 309 qO :=
 Lh (kt:=3) ⟨f309,func309,by kernel_rfl,by kernel_rfl⟩ underlying3 rising_a rising_0
def sortOk:qD prog 212 vW :=
 Pa ⟨f212,func212,by kernel_rfl,by kernel_rfl⟩ (λc b a d w e f g=>AnyM.slices_Sort_int sortA c b a d w e f g) (λp a w=>AnyM.slices_Sort_int_none sortA p a w)
def compA_ren:Go.Shelf.Ren:=⟨λ|20=>213|n=>n,λ|0=>0|3=>3|4=>4|22=>70|n=>n,λ|n=>n⟩
def compA:Lays2.n20 prog compA_ren where
 mixed:=by kernel_rfl
 f20:=func213.trans (congrArg some (by kernel_rfl))
 t0:=underlying0
 a0:=isAgg0
 z0:=sizeOf0
 v0:=zeroValue0
 t3:=underlying3
 a3:=isAgg3
 z3:=sizeOf3
 v3:=zeroValue3
 t4:=underlying4
 a4:=isAgg4
 z4:=sizeOf4
 v4:=zeroValue4
 t22:=underlying70
 a22:=isAgg70
 z22:=sizeOf70
 v22:=zeroValue70
 i3:=by kernel_rfl
def compOk:qD prog 213 vN :=
 OW ⟨f213,func213,by kernel_rfl,by kernel_rfl⟩ (λc b a d w e f g=>Any.slices_Compact_int compA c b a d w e f g) (λp a w=>Any.slices_Compact_int_empty compA p a w)
end Go.Sx
