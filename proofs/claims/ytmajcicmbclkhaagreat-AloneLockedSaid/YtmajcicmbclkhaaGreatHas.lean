/- Proves rules for the walks and their soundness. -/
import Derived.Test.YtmajcicmbclkhaaGreatChecked
import Derived.WalkKit
import Derived.Shelf.Slices.CompactI
import Derived.Test.YtmajcicmbclkhaaGreatHal
import Derived.Test.YtmajcicmbclkhaaGreatHar
set_option linter.all false
set_option maxRecDepth 100000
namespace Go.Sx
open Go.Proofs.Tryz
open Go Go.Proofs Go.RowKit Go.Sort Go.Shelf
def srtT_ren:Go.Shelf.Ren:=⟨λ| 6=>145 | 15=>78 | 14=>216 | 28=>156 | 29=>157 | 20=>258 | 21=>259 | 22=>260 | 23=>261 | 24=>262 | 25=>263 | 26=>264 | 27=>265 | 46=>285 | 47=>218 | 48=>219 | 49=>286 | 50=>287 | 57=>293 | n=>n,λ| 22=>186 | 24=>189 | 25=>265 | 3=>3 | 39=>195 | 0=>0 | 53=>274 | 55=>276 | 4=>4 | 46=>268 | 45=>267 | 50=>237 | 5=>5 | 9=>9 | 66=>337 | 70=>341 | 76=>378 | 77=>110 | n=>n,λ| n=>n⟩
def srtT:SlLaysF0.n6 prog srtT_ren where
 mixed:=by kernel_rfl
 f6 := ⟨"slices.SortFunc[[]semaphore/token.Turn,semaphore/token.Turn]", by decide, func145.trans (congrArg some (by kernel_rfl))⟩
 f14 := ⟨"slices.pdqsortCmpFunc[semaphore/token.Turn]", by decide, func216.trans (congrArg some (by kernel_rfl))⟩
 f20 := ⟨"slices.insertionSortCmpFunc[semaphore/token.Turn]", by decide, func258.trans (congrArg some (by kernel_rfl))⟩
 f21 := ⟨"slices.heapSortCmpFunc[semaphore/token.Turn]", by decide, func259.trans (congrArg some (by kernel_rfl))⟩
 f22 := ⟨"slices.breakPatternsCmpFunc[semaphore/token.Turn]", by decide, func260.trans (congrArg some (by kernel_rfl))⟩
 f23 := ⟨"slices.choosePivotCmpFunc[semaphore/token.Turn]", by decide, func261.trans (congrArg some (by kernel_rfl))⟩
 f24 := ⟨"slices.reverseRangeCmpFunc[semaphore/token.Turn]", by decide, func262.trans (congrArg some (by kernel_rfl))⟩
 f25 := ⟨"slices.partialInsertionSortCmpFunc[semaphore/token.Turn]", by decide, func263.trans (congrArg some (by kernel_rfl))⟩
 f26 := ⟨"slices.partitionEqualCmpFunc[semaphore/token.Turn]", by decide, func264.trans (congrArg some (by kernel_rfl))⟩
 f27 := ⟨"slices.partitionCmpFunc[semaphore/token.Turn]", by decide, func265.trans (congrArg some (by kernel_rfl))⟩
 f46 := ⟨"slices.siftDownCmpFunc[semaphore/token.Turn]", by decide, func285.trans (congrArg some (by kernel_rfl))⟩
 f49 := ⟨"slices.medianAdjacentCmpFunc[semaphore/token.Turn]", by decide, func286.trans (congrArg some (by kernel_rfl))⟩
 f50 := ⟨"slices.medianCmpFunc[semaphore/token.Turn]", by decide, func287.trans (congrArg some (by kernel_rfl))⟩
 f57 := ⟨"slices.order2CmpFunc[semaphore/token.Turn]", by decide, func293.trans (congrArg some (by kernel_rfl))⟩
 f15:=func78.trans (congrArg some (by kernel_rfl))
 f28:=func156.trans (congrArg some (by kernel_rfl))
 f29:=func157.trans (congrArg some (by kernel_rfl))
 f47:=func218.trans (congrArg some (by kernel_rfl))
 f48:=func219.trans (congrArg some (by kernel_rfl))
 t0:=underlying0
 a0:=isAgg0
 z0:=sizeOf0
 v0:=zeroValue0
 t3:=underlying3
 a3:=isAgg3
 z3:=sizeOf3
 v3:=zeroValue3
 t4:=underlying4
 a4:=isAgg4
 z4:=sizeOf4
 v4:=zeroValue4
 t5:=underlying5
 a5:=isAgg5
 z5:=sizeOf5
 v5:=zeroValue5
 t9:=underlying9
 a9:=isAgg9
 z9:=sizeOf9
 v9:=zeroValue9
 t22:=underlying186
 a22:=isAgg186
 z22:=sizeOf186
 v22:=zeroValue186
 t25:=underlying265
 a25:=isAgg265
 z25:=sizeOf265
 v25:=zeroValue265
 t39:=underlying195
 a39:=isAgg195
 z39:=sizeOf195
 v39:=zeroValue195
 t45:=underlying267
 a45:=isAgg267
 z45:=sizeOf267
 v45:=zeroValue267
 t46:=underlying268
 a46:=isAgg268
 z46:=sizeOf268
 v46:=zeroValue268
 t50:=underlying237
 a50:=isAgg237
 z50:=sizeOf237
 v50:=zeroValue237
 t53:=underlying274
 a53:=isAgg274
 z53:=sizeOf274
 v53:=zeroValue274
 t55:=underlying276
 a55:=isAgg276
 z55:=sizeOf276
 v55:=zeroValue276
 t66:=underlying337
 a66:=isAgg337
 z66:=sizeOf337
 v66:=zeroValue337
 t70:=underlying341
 a70:=isAgg341
 z70:=sizeOf341
 v70:=zeroValue341
 t76:=underlying378
 a76:=isAgg378
 z76:=sizeOf378
 v76:=zeroValue378
 t77:=underlying110
 a77:=isAgg110
 z77:=sizeOf110
 v77:=zeroValue110
def tabsN : @nF ⟨True⟩ prog cfg FT (λ_=>none):=@nF.mk ⟨True⟩ prog cfg FT (λ_=>none) oI sy EO (λ_ _ h=>nomatch h)
def ndP (p:Int×Int):bm:=⟨p.1,p.2⟩
def difP (p q:Int×Int):Int:=IntKind.i64.wrap (p.1 - q.1)
def dif_wrap (a b:Em):difP (tD a) (tD b)=tl a b:=by
 have h1:=a.2
 have h2:=b.2
 show IntKind.i64.wrap (a.1.1 - b.1.1)=a.1.1 - b.1.1
 exact uj _ (by omega) (by omega)
def enc1 (p:Int×Int):∀ v∈kr p,v.oneCell'=true:=by
 intro v hv
 simp [kr] at hv
 rcases hv with rfl | rfl<;>rfl
def cmpD (p q:Int×Int):∃ v,fh cfg FT (λ_=>none) false 146 [.agg (ko p),.agg (ko q)] au.empty v au.empty/\v=.int .i64 (difP p q):=by
 obtain ⟨v,hc,r,hr,rfl⟩:=Wq (ndP p) (ndP q) au.empty
 exact ⟨_,hc,by rw [hr]; rfl⟩
def lays_of {α:Type} [Inhabited α] {g:Nat} {cp:Int×Int->Int×Int->Int} {tp : α->Int×Int} {cf : α->α->Int} (he:∀ a b,cp (tp a) (tp b)=cf a b)
  (hc:∀ x y:Int×Int,∃ v,fh cfg FT (λ_=>none) false g [.agg (ko x),.agg (ko y)] au.empty v au.empty/\v=.int .i64 (cp x y)) (fc off size:Nat) (w:World):CmpLays prog g #[] (λa=>kr (tp a)) 2 cf fc off size w:=by
 intro m os dk _ x y
 have h:=R9 tabsN hc (tp x) (tp y) (sortWorldK (λa=>kr (tp a)) 2 w fc off m dk os)
 rw [he] at h
 exact h
def sortTOk:lg prog 145 (mg tD Cp 146 tl) :=
 G4 Mm Dx ⟨f145,func145,by kernel_rfl,by kernel_rfl⟩
  (λfc off cap d w hH hb hs=>AnyQ.slices_SortFunc_eq srtT 2 isAgg189 sizeOf189 (λa=>kr (tD a)) (λ_=>rfl) (λx=>enc1 (tD x)) tl Dx 146 #[] fc off cap d w (enters_of func146 (by kernel_rfl) rfl) (lays_of dif_wrap cmpD fc off d.size w) hH hb hs)
  (λp cap w=>AnyF.slices_SortFunc_none srtT p cap _ w)
end Go.Sx
namespace Go.Sx
open Go.Proofs.Tryz
open Go Go.Proofs Go.RowKit
section
variable {P:Program} (w:World)
def run_eql_map_nilx (t k e:TypeId) (p:Option Nat) (h:P.underlying t=some (.map k e)) :
  (Go.binOp .eql t (.map p) (.map none)).run P w=.ok (.bool p.isNone) w:=by
 simp only [Go.binOp]
 have:∀ d,(Op.equalIn (d+1) t (.map p) (.map none)).run P w=.ok p.isNone w:=by
  intro d
  cases p<;>simp [Op.equalIn,run_underlying h]
 simp [show Op.equal t (.map p) (.map none)=Op.equalIn (9999+1) t (.map p) (.map none) from rfl,this 9999]
theorem run_typeAssert_mapx (t xT k e:TypeId) (v:Value) (h:P.underlying t=some (.map k e)):(Instr.typeAssert (.iface t v) xT t false).run P w=.ok v w:=by
 simp [Instr.typeAssert,run_underlying h,go_sem,Result.andThen]
theorem run_maps_clonex {r:Nat} {es:Array MapEntry} {clock:Nat} (t:TypeId) (hb:w.heap[r]?=some (.map es clock)) :
  (Extern.MapsClone.clone #[.iface t (.map (some r))]).run P w=.ok (.iface t (.map (some w.heap.size))) (w.alloc (.map es clock)):=by
 have e:Extern.MapsClone.clone #[.iface t (.map (some r))]=(getObj r >>= λo=>match o with
   | .map entries clock=>(newObj (.map entries clock) >>= λn=>pure (.iface t (.map (some n))))
   | _ => stuck "maps.clone: a map expected") := rfl
 rw [e]
 simp [MapKept.run_getObj_map hb,Result.andThen,go_sem]
end
set_option maxRecDepth 100000 in
set_option maxHeartbeats 4000000 in
def clone_a (b:Nat) (es:Array MapEntry) (clock:Nat) (w:World) (hb:w.heap[b]?=some (.map es clock)) :
  Calls prog 79 #[.map (some b)] w λe w'=>e=.returned (.map (some w.heap.size))/\w'=w.alloc (.map es clock):=by
 have hq:=λw=>run_eql_map_nilx (P:=prog) w 118 _ _ (some b) underlying118
 go_enter func79,ntmps79
 go_wp2
 rw [run_callFunc_extern func158 (by kernel_rfl) (by kernel_rfl) (by kernel_rfl) (e:=Extern.MapsClone.clone) (by kernel_rfl),run_maps_clonex w 118 hb]
 simp only [Result.andThen]
 rw [Oper.upon_value]
 go_wp2
 rw [run_typeAssert_mapx _ 118 20 _ _ _ underlying118]
 simp only [Result.andThen]
 rw [Oper.upon_value]
 go_wp2
 go_ret
 exact ⟨rfl,rfl⟩
set_option maxRecDepth 100000 in
set_option maxHeartbeats 4000000 in
def clone_a0 (w:World):Calls prog 79 #[.map none] w λe w'=>e=.returned (.map none)/\w'=w:=by
 have hq:=λw=>run_eql_map_nilx (P:=prog) w 118 _ _ none underlying118
 go_enter func79,ntmps79
 go_wp2
 go_ret
 exact ⟨rfl,rfl⟩
set_option maxRecDepth 100000 in
set_option maxHeartbeats 4000000 in
def clone_b (b:Nat) (es:Array MapEntry) (clock:Nat) (w:World) (hb:w.heap[b]?=some (.map es clock)) :
  Calls prog 80 #[.map (some b)] w λe w'=>e=.returned (.map (some w.heap.size))/\w'=w.alloc (.map es clock):=by
 have hq:=λw=>run_eql_map_nilx (P:=prog) w 119 _ _ (some b) underlying119
 go_enter func80,ntmps80
 go_wp2
 rw [run_callFunc_extern func158 (by kernel_rfl) (by kernel_rfl) (by kernel_rfl) (e:=Extern.MapsClone.clone) (by kernel_rfl),run_maps_clonex w 119 hb]
 simp only [Result.andThen]
 rw [Oper.upon_value]
 go_wp2
 rw [run_typeAssert_mapx _ 119 20 _ _ _ underlying119]
 simp only [Result.andThen]
 rw [Oper.upon_value]
 go_wp2
 go_ret
 exact ⟨rfl,rfl⟩
set_option maxRecDepth 100000 in
set_option maxHeartbeats 4000000 in
def clone_b0 (w:World):Calls prog 80 #[.map none] w λe w'=>e=.returned (.map none)/\w'=w:=by
 have hq:=λw=>run_eql_map_nilx (P:=prog) w 119 _ _ none underlying119
 go_enter func80,ntmps80
 go_wp2
 go_ret
 exact ⟨rfl,rfl⟩
end Go.Sx
namespace Go.Sx
open Go.Proofs.Tryz
open Go Go.Proofs Go.RowKit Go.Maps Go.Sort Go.Shelf
def sortA_ren:Go.Shelf.Ren:=⟨λ| 5=>39 | 8=>78 | 7=>77 | 19=>156 | 20=>157 | 10=>147 | 11=>148 | 12=>149 | 13=>150 | 14=>151 | 15=>152 | 16=>153 | 17=>154 | 18=>155 | 30=>217 | 31=>218 | 32=>219 | 33=>220 | 34=>221 | 35=>222 | 40=>266 | n=>n,λ| 23=>28 | 25=>3 | 3=>3 | 32=>195 | 22=>28 | 0=>0 | 44=>274 | 46=>276 | 4=>4 | 36=>268 | 35=>267 | 41=>237 | 5=>5 | 9=>9 | 53=>337 | 57=>341 | 63=>378 | 64=>110 | n=>n,λ| n=>n⟩
def sortA:SlLaysM.n5 prog sortA_ren where
 mixed:=by kernel_rfl
 f5 := ⟨"slices.Sort[[]int,int]", by decide, func39.trans (congrArg some (by kernel_rfl))⟩
 f7 := ⟨"slices.pdqsortOrdered[int]", by decide, func77.trans (congrArg some (by kernel_rfl))⟩
 f8:=func78.trans (congrArg some (by kernel_rfl))
 f10 := ⟨"slices.insertionSortOrdered[int]", by decide, func147.trans (congrArg some (by kernel_rfl))⟩
 f11 := ⟨"slices.heapSortOrdered[int]", by decide, func148.trans (congrArg some (by kernel_rfl))⟩
 f12 := ⟨"slices.breakPatternsOrdered[int]", by decide, func149.trans (congrArg some (by kernel_rfl))⟩
 f13 := ⟨"slices.choosePivotOrdered[int]", by decide, func150.trans (congrArg some (by kernel_rfl))⟩
 f14 := ⟨"slices.reverseRangeOrdered[int]", by decide, func151.trans (congrArg some (by kernel_rfl))⟩
 f15 := ⟨"slices.partialInsertionSortOrdered[int]", by decide, func152.trans (congrArg some (by kernel_rfl))⟩
 f16 := ⟨"cmp.Less[int]", by decide, func153.trans (congrArg some (by kernel_rfl))⟩
 f17 := ⟨"slices.partitionEqualOrdered[int]", by decide, func154.trans (congrArg some (by kernel_rfl))⟩
 f18 := ⟨"slices.partitionOrdered[int]", by decide, func155.trans (congrArg some (by kernel_rfl))⟩
 f19:=func156.trans (congrArg some (by kernel_rfl))
 f20:=func157.trans (congrArg some (by kernel_rfl))
 f30 := ⟨"slices.siftDownOrdered[int]", by decide, func217.trans (congrArg some (by kernel_rfl))⟩
 f31:=func218.trans (congrArg some (by kernel_rfl))
 f32:=func219.trans (congrArg some (by kernel_rfl))
 f33 := ⟨"slices.medianAdjacentOrdered[int]", by decide, func220.trans (congrArg some (by kernel_rfl))⟩
 f34 := ⟨"slices.medianOrdered[int]", by decide, func221.trans (congrArg some (by kernel_rfl))⟩
 f35 := ⟨"cmp.isNaN[int]", by decide, func222.trans (congrArg some (by kernel_rfl))⟩
 f40 := ⟨"slices.order2Ordered[int]", by decide, func266.trans (congrArg some (by kernel_rfl))⟩
 t0:=underlying0
 a0:=isAgg0
 z0:=sizeOf0
 v0:=zeroValue0
 t3:=underlying3
 a3:=isAgg3
 z3:=sizeOf3
 v3:=zeroValue3
 t4:=underlying4
 a4:=isAgg4
 z4:=sizeOf4
 v4:=zeroValue4
 t5:=underlying5
 a5:=isAgg5
 z5:=sizeOf5
 v5:=zeroValue5
 t9:=underlying9
 a9:=isAgg9
 z9:=sizeOf9
 v9:=zeroValue9
 t22:=underlying28
 a22:=isAgg28
 z22:=sizeOf28
 v22:=zeroValue28
 t23:=underlying28
 a23:=isAgg28
 z23:=sizeOf28
 v23:=zeroValue28
 t25:=underlying3
 a25:=isAgg3
 z25:=sizeOf3
 v25:=zeroValue3
 t32:=underlying195
 a32:=isAgg195
 z32:=sizeOf195
 v32:=zeroValue195
 t35:=underlying267
 a35:=isAgg267
 z35:=sizeOf267
 v35:=zeroValue267
 t36:=underlying268
 a36:=isAgg268
 z36:=sizeOf268
 v36:=zeroValue268
 t41:=underlying237
 a41:=isAgg237
 z41:=sizeOf237
 v41:=zeroValue237
 t44:=underlying274
 a44:=isAgg274
 z44:=sizeOf274
 v44:=zeroValue274
 t46:=underlying276
 a46:=isAgg276
 z46:=sizeOf276
 v46:=zeroValue276
 t53:=underlying337
 a53:=isAgg337
 z53:=sizeOf337
 v53:=zeroValue337
 t57:=underlying341
 a57:=isAgg341
 z57:=sizeOf341
 v57:=zeroValue341
 t63:=underlying378
 a63:=isAgg378
 z63:=sizeOf378
 v63:=zeroValue378
 t64:=underlying110
 a64:=isAgg110
 z64:=sizeOf110
 v64:=zeroValue110
def sortOk:lg prog 39 nZ :=
 HD ⟨f39,func39,by kernel_rfl,by kernel_rfl⟩ (λfc off cap zs w hH hb hs=>AnyM.slices_Sort_int sortA fc off cap zs w hH hb hs) (λp cap w=>AnyM.slices_Sort_int_none sortA p cap w)
def compA_ren:Go.Shelf.Ren:=⟨λ| 20=>40 | n=>n,λ| 0=>0 | 3=>3 | 4=>4 | 22=>28 | n=>n,λ| n=>n⟩
def compA:Lays2.n20 prog compA_ren where
 mixed:=by kernel_rfl
 f20:=func40.trans (congrArg some (by kernel_rfl))
 t0:=underlying0
 a0:=isAgg0
 z0:=sizeOf0
 v0:=zeroValue0
 t3:=underlying3
 a3:=isAgg3
 z3:=sizeOf3
 v3:=zeroValue3
 t4:=underlying4
 a4:=isAgg4
 z4:=sizeOf4
 v4:=zeroValue4
 t22:=underlying28
 a22:=isAgg28
 z22:=sizeOf28
 v22:=zeroValue28
 i3:=by kernel_rfl
def compOk:lg prog 40 pg :=
 Ho ⟨f40,func40,by kernel_rfl,by kernel_rfl⟩ (λfc off cap zs w hH hb hs=>Any.slices_Compact_int compA fc off cap zs w hH hb hs) (λp cap w=>Any.slices_Compact_int_empty compA p cap w)
end Go.Sx
