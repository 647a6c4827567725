/- Proves rules for the walks and their soundness. -/
import Derived.Test.YtihofefpkjfmnaaGreatChecked
import Derived.KernelRfl
import Derived.WalkKit
import Derived.Test.YtihofefpkjfmnaaGreatNaf
set_option linter.all false
namespace Go.Sx
open Go.Proofs.Tryz
open Go Go.Proofs Go.RowKit
section
variable {P:Program} (w:World)
def run_eql_map_nilx (t k e:TypeId) (p:Option Nat) (h:P.underlying t=some (.map k e)) :
  (Go.binOp .eql t (.map p) (.map none)).run P w=.ok (.bool p.isNone) w:=by
 simp only [Go.binOp]
 have:∀ d,(Op.equalIn (d+1) t (.map p) (.map none)).run P w=.ok p.isNone w:=by
  intro d
  cases p<;>simp [Op.equalIn,run_underlying h]
 simp [show Op.equal t (.map p) (.map none)=Op.equalIn (9999+1) t (.map p) (.map none) from rfl,this 9999]
theorem run_typeAssert_mapx (t xT k e:TypeId) (v:Value) (h:P.underlying t=some (.map k e)):(Instr.typeAssert (.iface t v) xT t false).run P w=.ok v w:=by
 simp [Instr.typeAssert,run_underlying h,go_sem,Result.andThen]
theorem run_maps_clonex {r:Nat} {es:Array MapEntry} {clock:Nat} (t:TypeId) (hb:w.heap[r]?=some (.map es clock)) :
  (Extern.MapsClone.clone #[.iface t (.map (some r))]).run P w=.ok (.iface t (.map (some w.heap.size))) (w.alloc (.map es clock)):=by
 have e:Extern.MapsClone.clone #[.iface t (.map (some r))]=(getObj r >>= λo=>match o with
   | .map entries clock=>(newObj (.map entries clock) >>= λn=>pure (.iface t (.map (some n))))
   | _ => stuck "maps.clone: a map expected") := rfl
 rw [e]
 simp [MapKept.run_getObj_map hb,Result.andThen,go_sem]
end
set_option maxRecDepth 100000 in
set_option maxHeartbeats 4000000 in
def clone_a (b:Nat) (es:Array MapEntry) (clock:Nat) (w:World) (hb:w.heap[b]?=some (.map es clock)) :
  Calls prog 246 #[.map (some b)] w λe w'=>e=.returned (.map (some w.heap.size))/\w'=w.alloc (.map es clock):=by
 have hq:=λw=>run_eql_map_nilx (P:=prog) w 292 _ _ (some b) underlying292
 go_enter func246,ntmps246
 go_wp2
 rw [run_callFunc_extern func263 (by kernel_rfl) (by kernel_rfl) (by kernel_rfl) (e:=Extern.MapsClone.clone) (by kernel_rfl),run_maps_clonex w 292 hb]
 simp only [Result.andThen]
 rw [Oper.upon_value]
 go_wp2
 rw [run_typeAssert_mapx _ 292 20 _ _ _ underlying292]
 simp only [Result.andThen]
 rw [Oper.upon_value]
 go_wp2
 go_ret
 exact ⟨rfl,rfl⟩
set_option maxRecDepth 100000 in
set_option maxHeartbeats 4000000 in
def clone_a0 (w:World):Calls prog 246 #[.map none] w λe w'=>e=.returned (.map none)/\w'=w:=by
 have hq:=λw=>run_eql_map_nilx (P:=prog) w 292 _ _ none underlying292
 go_enter func246,ntmps246
 go_wp2
 go_ret
 exact ⟨rfl,rfl⟩
set_option maxRecDepth 100000 in
set_option maxHeartbeats 4000000 in
def clone_b (b:Nat) (es:Array MapEntry) (clock:Nat) (w:World) (hb:w.heap[b]?=some (.map es clock)) :
  Calls prog 247 #[.map (some b)] w λe w'=>e=.returned (.map (some w.heap.size))/\w'=w.alloc (.map es clock):=by
 have hq:=λw=>run_eql_map_nilx (P:=prog) w 293 _ _ (some b) underlying293
 go_enter func247,ntmps247
 go_wp2
 rw [run_callFunc_extern func263 (by kernel_rfl) (by kernel_rfl) (by kernel_rfl) (e:=Extern.MapsClone.clone) (by kernel_rfl),run_maps_clonex w 293 hb]
 simp only [Result.andThen]
 rw [Oper.upon_value]
 go_wp2
 rw [run_typeAssert_mapx _ 293 20 _ _ _ underlying293]
 simp only [Result.andThen]
 rw [Oper.upon_value]
 go_wp2
 go_ret
 exact ⟨rfl,rfl⟩
set_option maxRecDepth 100000 in
set_option maxHeartbeats 4000000 in
def clone_b0 (w:World):Calls prog 247 #[.map none] w λe w'=>e=.returned (.map none)/\w'=w:=by
 have hq:=λw=>run_eql_map_nilx (P:=prog) w 293 _ _ none underlying293
 go_enter func247,ntmps247
 go_wp2
 go_ret
 exact ⟨rfl,rfl⟩
end Go.Sx
namespace Go.Sx
open Go.Proofs.Tryz
open Go Go.Proofs Go.RowKit Go.Maps Go.Sort Go.Shelf
def keysA_ren:Go.Shelf.Ren:=⟨λ| 7=>220 | 10=>245 | n=>n,λ| 23=>242 | 26=>3 | 3=>4 | 28=>318 | 0=>0 | 27=>317 | 33=>269 | 4=>4 | n=>n,λ| n=>n⟩
def keysA:SlLaysZI.n7 prog keysA_ren where
 mixed:=by kernel_rfl
 f7 := ⟨"maps.Keys[map[int]bool,int,bool]", by decide, func220.trans (congrArg some (by kernel_rfl))⟩
 f10 := ⟨"maps.Keys[map[int]bool,int,bool]$1", by decide, func245.trans (congrArg some (by kernel_rfl))⟩
 t0:=underlying0
 a0:=isAgg0
 z0:=sizeOf0
 v0:=zeroValue0
 t4:=underlying4
 a4:=isAgg4
 z4:=sizeOf4
 v4:=zeroValue4
 t23:=underlying242
 a23:=isAgg242
 z23:=sizeOf242
 v23:=zeroValue242
 t26:=underlying3
 a26:=isAgg3
 z26:=sizeOf3
 v26:=zeroValue3
 t27:=underlying317
 a27:=isAgg317
 z27:=sizeOf317
 v27:=zeroValue317
 t28:=underlying318
 a28:=isAgg318
 z28:=sizeOf318
 v28:=zeroValue318
 t33:=underlying269
 a33:=isAgg269
 z33:=sizeOf269
 v33:=zeroValue269
def sortedA_ren:Go.Shelf.Ren:=⟨λ| 6=>219 | 8=>244 | 9=>202 | 11=>262 | 13=>241 | 12=>240 | 23=>260 | 24=>261 | 14=>251 | 15=>252 | 16=>253 | 17=>254 | 18=>255 | 19=>256 | 20=>257 | 21=>258 | 22=>259 | 25=>264 | 26=>265 | 27=>266 | 28=>267 | 29=>268 | 30=>269 | 31=>270 | n=>n,λ| 26=>3 | 28=>318 | 24=>44 | 0=>0 | 3=>3 | 37=>179 | 48=>252 | 50=>255 | 4=>4 | 40=>349 | 39=>348 | 45=>205 | 5=>5 | 9=>9 | 51=>360 | 55=>364 | 57=>366 | 58=>264 | 33=>269 | n=>n,λ| n=>n⟩
def sortedA:SlLaysZI.n6 prog sortedA_ren where
 mixed:=by kernel_rfl
 f6 := ⟨"slices.Sorted[int]", by decide, func219.trans (congrArg some (by kernel_rfl))⟩
 f8 := ⟨"slices.Collect[int]", by decide, func244.trans (congrArg some (by kernel_rfl))⟩
 f11 := ⟨"slices.AppendSeq[[]int,int]", by decide, func262.trans (congrArg some (by kernel_rfl))⟩
 t0:=underlying0
 a0:=isAgg0
 z0:=sizeOf0
 v0:=zeroValue0
 t24:=underlying44
 a24:=isAgg44
 z24:=sizeOf44
 v24:=zeroValue44
 t26:=underlying3
 a26:=isAgg3
 z26:=sizeOf3
 v26:=zeroValue3
 t28:=underlying318
 a28:=isAgg318
 z28:=sizeOf318
 v28:=zeroValue318
 i26:=by kernel_rfl
def sortA_ren:Go.Shelf.Ren:=⟨λ| 5=>202 | 8=>241 | 7=>240 | 19=>260 | 20=>261 | 10=>251 | 11=>252 | 12=>253 | 13=>254 | 14=>255 | 15=>256 | 16=>257 | 17=>258 | 18=>259 | 30=>264 | 31=>265 | 32=>266 | 33=>267 | 34=>268 | 35=>269 | 40=>270 | n=>n,λ| 23=>44 | 25=>3 | 3=>3 | 32=>179 | 22=>44 | 0=>0 | 44=>252 | 46=>255 | 4=>4 | 36=>349 | 35=>348 | 41=>205 | 5=>5 | 9=>9 | 53=>360 | 57=>364 | 63=>366 | 64=>264 | n=>n,λ| n=>n⟩
def sortA:SlLaysM.n5 prog sortA_ren where
 mixed:=by kernel_rfl
 f5 := ⟨"slices.Sort[[]int,int]", by decide, func202.trans (congrArg some (by kernel_rfl))⟩
 f7 := ⟨"slices.pdqsortOrdered[int]", by decide, func240.trans (congrArg some (by kernel_rfl))⟩
 f8:=func241.trans (congrArg some (by kernel_rfl))
 f10 := ⟨"slices.insertionSortOrdered[int]", by decide, func251.trans (congrArg some (by kernel_rfl))⟩
 f11 := ⟨"slices.heapSortOrdered[int]", by decide, func252.trans (congrArg some (by kernel_rfl))⟩
 f12 := ⟨"slices.breakPatternsOrdered[int]", by decide, func253.trans (congrArg some (by kernel_rfl))⟩
 f13 := ⟨"slices.choosePivotOrdered[int]", by decide, func254.trans (congrArg some (by kernel_rfl))⟩
 f14 := ⟨"slices.reverseRangeOrdered[int]", by decide, func255.trans (congrArg some (by kernel_rfl))⟩
 f15 := ⟨"slices.partialInsertionSortOrdered[int]", by decide, func256.trans (congrArg some (by kernel_rfl))⟩
 f16 := ⟨"cmp.Less[int]", by decide, func257.trans (congrArg some (by kernel_rfl))⟩
 f17 := ⟨"slices.partitionEqualOrdered[int]", by decide, func258.trans (congrArg some (by kernel_rfl))⟩
 f18 := ⟨"slices.partitionOrdered[int]", by decide, func259.trans (congrArg some (by kernel_rfl))⟩
 f19:=func260.trans (congrArg some (by kernel_rfl))
 f20:=func261.trans (congrArg some (by kernel_rfl))
 f30 := ⟨"slices.siftDownOrdered[int]", by decide, func264.trans (congrArg some (by kernel_rfl))⟩
 f31:=func265.trans (congrArg some (by kernel_rfl))
 f32:=func266.trans (congrArg some (by kernel_rfl))
 f33 := ⟨"slices.medianAdjacentOrdered[int]", by decide, func267.trans (congrArg some (by kernel_rfl))⟩
 f34 := ⟨"slices.medianOrdered[int]", by decide, func268.trans (congrArg some (by kernel_rfl))⟩
 f35 := ⟨"cmp.isNaN[int]", by decide, func269.trans (congrArg some (by kernel_rfl))⟩
 f40 := ⟨"slices.order2Ordered[int]", by decide, func270.trans (congrArg some (by kernel_rfl))⟩
 t0:=underlying0
 a0:=isAgg0
 z0:=sizeOf0
 v0:=zeroValue0
 t3:=underlying3
 a3:=isAgg3
 z3:=sizeOf3
 v3:=zeroValue3
 t4:=underlying4
 a4:=isAgg4
 z4:=sizeOf4
 v4:=zeroValue4
 t5:=underlying5
 a5:=isAgg5
 z5:=sizeOf5
 v5:=zeroValue5
 t9:=underlying9
 a9:=isAgg9
 z9:=sizeOf9
 v9:=zeroValue9
 t22:=underlying44
 a22:=isAgg44
 z22:=sizeOf44
 v22:=zeroValue44
 t23:=underlying44
 a23:=isAgg44
 z23:=sizeOf44
 v23:=zeroValue44
 t25:=underlying3
 a25:=isAgg3
 z25:=sizeOf3
 v25:=zeroValue3
 t32:=underlying179
 a32:=isAgg179
 z32:=sizeOf179
 v32:=zeroValue179
 t35:=underlying348
 a35:=isAgg348
 z35:=sizeOf348
 v35:=zeroValue348
 t36:=underlying349
 a36:=isAgg349
 z36:=sizeOf349
 v36:=zeroValue349
 t41:=underlying205
 a41:=isAgg205
 z41:=sizeOf205
 v41:=zeroValue205
 t44:=underlying252
 a44:=isAgg252
 z44:=sizeOf252
 v44:=zeroValue252
 t46:=underlying255
 a46:=isAgg255
 z46:=sizeOf255
 v46:=zeroValue255
 t53:=underlying360
 a53:=isAgg360
 z53:=sizeOf360
 v53:=zeroValue360
 t57:=underlying364
 a57:=isAgg364
 z57:=sizeOf364
 v57:=zeroValue364
 t63:=underlying366
 a63:=isAgg366
 z63:=sizeOf366
 v63:=zeroValue366
 t64:=underlying264
 a64:=isAgg264
 z64:=sizeOf264
 v64:=zeroValue264
def sortsA (m:Nat):AnyZI.SortsIn prog sortedA_ren Fence.wide m :=
 ⟨λlM off cap ss W hH hblk hsz=>callsIn_wide.2 (AnyM.slices_Sort_int sortA lM off cap ss W hH hblk hsz),
  λp cap W=>callsIn_wide.2 (AnyM.slices_Sort_int_none sortA p cap W)⟩
def keysC (mb:Option Nat) (W:World):CallsIn Fence.wide 5 prog 220 #[.map mb] W λe w'=>e=.returned (.func (.func 245) #[] #[.pointer (some ⟨W.heap.size,0,none⟩)])/\w'=W.alloc (.cells #[.map mb] 242):=AnyZI.keys_in keysA Fence.wide 5 trivial rfl mb W
def sortedC (S:List Int->Prop) (N:Nat) (hmax:N<=maxLen) (hbytes:N*8<=140737488355328) (w:World) (p:Value) (hseq:SeqGives Fence.wide 2 prog 245 #[p] encZ S N w) :
  CallsIn Fence.wide 5 prog 219 #[.func (.func 245) #[] #[p]] w λe w'=>∃ (v:Value) (ss:List Int),e=.returned v/\S ss /\
   w'.ownsRow w.heap.size 3 1 v ss.length ((ss.mergeSort leI).map encZ)/\(v=.slice none 0 0↔ss=[])/\Below w.heap.size w w' :=
 AnyZI.sorted_in sortedA Fence.wide 5 trivial trivial trivial trivial rfl (by omega) (sortsA _) (enters_of func202 (by kernel_rfl) rfl) 245 #[p] trivial (enters_of func245 (by kernel_rfl) rfl) S N hmax hbytes w hseq
set_option maxHeartbeats 1000000 in
def rising_a (b nn:Nat) (D0:DataW Unit) (w:World) (hown:w.ownsMap prog 3 (λ_=>some (.nil,[])) b nn D0) (hmax:Maps.size D0<=maxLen) (hbytes:Maps.size D0*8<=140737488355328) :
  Calls prog 172 #[.map (some b)] w λe w'=>∃ (v:Value) (ss:List Int),e=.returned v/\ss.Perm (intKeys D0) /\
   w'.ownsRow w.heap.size 3 1 v ss.length ((ss.mergeSort leI).map encZ)/\(v=.slice none 0 0↔ss=[])/\Below w.heap.size w w':=by
 refine (callsIn_wide (n:=6)).1 ?_
 have hbl:=hown.lt
 have hseq:SeqGives Fence.wide 2 prog 245 #[.pointer (some ⟨w.heap.size,0,none⟩)] encZ (λss=>ss.Perm (intKeys D0)) (Maps.size D0) (w.alloc (.cells #[.map (some b)] 242)) :=
  AnyZI.keys_gives (ρ:=keysA_ren) { keysA with } Fence.wide _ trivial rfl (by omega) w.heap.size b nn D0 _ (by simp) (by simp) (by
   obtain ⟨es,clock,hb,Ft,hs,hD⟩:=hown
   exact ⟨es,clock,(Below.heap_alloc _ _ b hbl).trans hb,Ft,hs,hD⟩)
 have cK:=keysC
 have cS:=sortedC _ _ hmax hbytes _ _ hseq
 have hfK:Fence.wide.fn 220:=trivial
 have hfS:Fence.wide.fn 219:=trivial
 refine callsIn_of_wp func172 rfl trivial ?_ rfl
 simp only [ntmps172,List.size_toArray,List.length_cons,List.length_nil,Nat.reduceAdd,Nat.reduceSub,Array.replicate_succ,Array.replicate_zero,List.push_toArray,List.append_toArray,List.nil_append,List.cons_append]
 gi_wp2_with (first
  | (gi_at_call 220; refine (cK _ _).mono ?_; rintro e w' ⟨rfl,rfl⟩)
  | (gi_at_call 219; refine cS.mono ?_; rintro e w' ⟨v,ss,rfl,hS,hrow,hnil,hb⟩))
 go_ret
 exact ⟨v,ss,rfl,hS,ownsRow_base_a hrow (by simp),hnil,((Below.refl _ w).alloc (Nat.le_refl _) _).trans (hb.mono (by simp))⟩
set_option maxHeartbeats 1000000 in
def rising_0 (w:World):Calls prog 172 #[.map none] w λe w'=>e=.returned (.slice none 0 0)/\Below w.heap.size w w':=by
 refine (callsIn_wide (n:=6)).1 ?_
 have hseq:SeqGives Fence.wide 2 prog 245 #[.pointer (some ⟨w.heap.size,0,none⟩)] encZ (λss:List Int=>ss=[]) 0 (w.alloc (.cells #[.map none] 242)) :=
  AnyZI.keys_gives_nil (ρ:=keysA_ren) { keysA with } Fence.wide _ trivial rfl w.heap.size _ (by simp) (by simp)
 have cK:=keysC
 have cS:=sortedC _ 0 (Nat.zero_le _) (by omega) _ _ hseq
 have hfK:Fence.wide.fn 220:=trivial
 have hfS:Fence.wide.fn 219:=trivial
 refine callsIn_of_wp func172 rfl trivial ?_ rfl
 simp only [ntmps172,List.size_toArray,List.length_cons,List.length_nil,Nat.reduceAdd,Nat.reduceSub,Array.replicate_succ,Array.replicate_zero,List.push_toArray,List.append_toArray,List.nil_append,List.cons_append]
 gi_wp2_with (first
  | (gi_at_call 220; refine (cK _ _).mono ?_; rintro e w' ⟨rfl,rfl⟩)
  | (gi_at_call 219; refine cS.mono ?_; rintro e w' ⟨v,ss,rfl,rfl,hrow,hnil,hb⟩; obtain rfl:v=.slice none 0 0:=hnil.2 rfl))
 go_ret
 exact ⟨rfl,((Below.refl _ w).alloc (Nat.le_refl _) _).trans (hb.mono (by simp))⟩
def risingOk:tD prog 172 px :=
 DI (kt:=3) ⟨f172,func172,by kernel_rfl,by kernel_rfl⟩ underlying3 rising_a rising_0
end Go.Sx
