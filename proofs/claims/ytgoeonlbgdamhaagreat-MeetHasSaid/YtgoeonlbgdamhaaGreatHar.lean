/- Proves rules for the walks and their soundness. -/
import Derived.Test.YtgoeonlbgdamhaaGreatChecked
import Derived.KernelRfl
import Derived.WalkKit
import Derived.Shelf.Slices.CompactI
import Derived.Test.YtgoeonlbgdamhaaGreatHag
set_option linter.all false
namespace Go.Sx
open Go.Proofs.Tryz
open Go Go.Proofs Go.RowKit
section
variable {P:Program} (w:World)
def run_eql_map_nilx (t k e:TypeId) (p:Option Nat) (h:P.underlying t=some (.map k e)) :
  (Go.binOp .eql t (.map p) (.map none)).run P w=.ok (.bool p.isNone) w:=by
 simp only [Go.binOp]
 have:∀ d,(Op.equalIn (d+1) t (.map p) (.map none)).run P w=.ok p.isNone w:=by
  intro d
  cases p<;>simp [Op.equalIn,run_underlying h]
 simp [show Op.equal t (.map p) (.map none)=Op.equalIn (9999+1) t (.map p) (.map none) from rfl,this 9999]
theorem run_typeAssert_mapx (t xT k e:TypeId) (v:Value) (h:P.underlying t=some (.map k e)):(Instr.typeAssert (.iface t v) xT t false).run P w=.ok v w:=by
 simp [Instr.typeAssert,run_underlying h,go_sem,Result.andThen]
theorem run_maps_clonex {r:Nat} {es:Array MapEntry} {clock:Nat} (t:TypeId) (hb:w.heap[r]?=some (.map es clock)) :
  (Extern.MapsClone.clone #[.iface t (.map (some r))]).run P w=.ok (.iface t (.map (some w.heap.size))) (w.alloc (.map es clock)):=by
 have e:Extern.MapsClone.clone #[.iface t (.map (some r))]=(getObj r >>= λo=>match o with
   | .map entries clock=>(newObj (.map entries clock) >>= λn=>pure (.iface t (.map (some n))))
   | _ => stuck "maps.clone: a map expected") := rfl
 rw [e]
 simp [MapKept.run_getObj_map hb,Result.andThen,go_sem]
end
set_option maxRecDepth 100000 in
set_option maxHeartbeats 4000000 in
def clone_a (b:Nat) (es:Array MapEntry) (clock:Nat) (w:World) (hb:w.heap[b]?=some (.map es clock)) :
  Calls prog 336 #[.map (some b)] w λe w'=>e=.returned (.map (some w.heap.size))/\w'=w.alloc (.map es clock):=by
 have hq:=λw=>run_eql_map_nilx (P:=prog) w 390 _ _ (some b) underlying390
 go_enter func336,ntmps336
 go_wp2
 rw [run_callFunc_extern func373 (by kernel_rfl) (by kernel_rfl) (by kernel_rfl) (e:=Extern.MapsClone.clone) (by kernel_rfl),run_maps_clonex w 390 hb]
 simp only [Result.andThen]
 rw [Oper.upon_value]
 go_wp2
 rw [run_typeAssert_mapx _ 390 20 _ _ _ underlying390]
 simp only [Result.andThen]
 rw [Oper.upon_value]
 go_wp2
 go_ret
 exact ⟨rfl,rfl⟩
set_option maxRecDepth 100000 in
set_option maxHeartbeats 4000000 in
def clone_a0 (w:World):Calls prog 336 #[.map none] w λe w'=>e=.returned (.map none)/\w'=w:=by
 have hq:=λw=>run_eql_map_nilx (P:=prog) w 390 _ _ none underlying390
 go_enter func336,ntmps336
 go_wp2
 go_ret
 exact ⟨rfl,rfl⟩
set_option maxRecDepth 100000 in
set_option maxHeartbeats 4000000 in
def clone_b (b:Nat) (es:Array MapEntry) (clock:Nat) (w:World) (hb:w.heap[b]?=some (.map es clock)) :
  Calls prog 337 #[.map (some b)] w λe w'=>e=.returned (.map (some w.heap.size))/\w'=w.alloc (.map es clock):=by
 have hq:=λw=>run_eql_map_nilx (P:=prog) w 391 _ _ (some b) underlying391
 go_enter func337,ntmps337
 go_wp2
 rw [run_callFunc_extern func373 (by kernel_rfl) (by kernel_rfl) (by kernel_rfl) (e:=Extern.MapsClone.clone) (by kernel_rfl),run_maps_clonex w 391 hb]
 simp only [Result.andThen]
 rw [Oper.upon_value]
 go_wp2
 rw [run_typeAssert_mapx _ 391 20 _ _ _ underlying391]
 simp only [Result.andThen]
 rw [Oper.upon_value]
 go_wp2
 go_ret
 exact ⟨rfl,rfl⟩
set_option maxRecDepth 100000 in
set_option maxHeartbeats 4000000 in
def clone_b0 (w:World):Calls prog 337 #[.map none] w λe w'=>e=.returned (.map none)/\w'=w:=by
 have hq:=λw=>run_eql_map_nilx (P:=prog) w 391 _ _ none underlying391
 go_enter func337,ntmps337
 go_wp2
 go_ret
 exact ⟨rfl,rfl⟩
end Go.Sx
set_option maxRecDepth 100000
namespace Go.Sx
open Go.Proofs.Tryz
open Go Go.Proofs Go.RowKit Go.Maps Go.Sort Go.Shelf
def keysA_ren:Go.Shelf.Ren:=⟨λ| 7=>89 | 10=>163 | n=>n,λ| 23=>107 | 26=>3 | 3=>4 | 28=>190 | 0=>0 | 27=>189 | 33=>172 | 4=>4 | n=>n,λ| n=>n⟩
def keysA:SlLaysZI.n7 prog keysA_ren where
 mixed:=by kernel_rfl
 f7 := ⟨"maps.Keys[map[int]bool,int,bool]", by decide, func89.trans (congrArg some (by kernel_rfl))⟩
 f10 := ⟨"maps.Keys[map[int]bool,int,bool]$1", by decide, func163.trans (congrArg some (by kernel_rfl))⟩
 t0:=underlying0
 a0:=isAgg0
 z0:=sizeOf0
 v0:=zeroValue0
 t4:=underlying4
 a4:=isAgg4
 z4:=sizeOf4
 v4:=zeroValue4
 t23:=underlying107
 a23:=isAgg107
 z23:=sizeOf107
 v23:=zeroValue107
 t26:=underlying3
 a26:=isAgg3
 z26:=sizeOf3
 v26:=zeroValue3
 t27:=underlying189
 a27:=isAgg189
 z27:=sizeOf189
 v27:=zeroValue189
 t28:=underlying190
 a28:=isAgg190
 z28:=sizeOf190
 v28:=zeroValue190
 t33:=underlying172
 a33:=isAgg172
 z33:=sizeOf172
 v33:=zeroValue172
def sortedA_ren:Go.Shelf.Ren:=⟨λ| 6=>88 | 8=>162 | 9=>86 | 11=>264 | 13=>69 | 12=>161 | 23=>142 | 24=>143 | 14=>255 | 15=>256 | 16=>257 | 17=>258 | 18=>259 | 19=>260 | 20=>261 | 21=>262 | 22=>263 | 25=>320 | 26=>246 | 27=>247 | 28=>321 | 29=>322 | 30=>70 | 31=>362 | n=>n,λ| 26=>3 | 28=>190 | 24=>54 | 0=>0 | 3=>3 | 37=>171 | 48=>265 | 50=>267 | 4=>4 | 40=>259 | 39=>258 | 45=>213 | 5=>5 | 9=>9 | 51=>353 | 55=>357 | 57=>414 | 58=>178 | 33=>172 | n=>n,λ| n=>n⟩
def sortedA:SlLaysZI.n6 prog sortedA_ren where
 mixed:=by kernel_rfl
 f6 := ⟨"slices.Sorted[int]", by decide, func88.trans (congrArg some (by kernel_rfl))⟩
 f8 := ⟨"slices.Collect[int]", by decide, func162.trans (congrArg some (by kernel_rfl))⟩
 f11 := ⟨"slices.AppendSeq[[]int,int]", by decide, func264.trans (congrArg some (by kernel_rfl))⟩
 t0:=underlying0
 a0:=isAgg0
 z0:=sizeOf0
 v0:=zeroValue0
 t24:=underlying54
 a24:=isAgg54
 z24:=sizeOf54
 v24:=zeroValue54
 t26:=underlying3
 a26:=isAgg3
 z26:=sizeOf3
 v26:=zeroValue3
 t28:=underlying190
 a28:=isAgg190
 z28:=sizeOf190
 v28:=zeroValue190
 i26:=by kernel_rfl
def sortA_ren:Go.Shelf.Ren:=⟨λ| 5=>86 | 8=>69 | 7=>161 | 19=>142 | 20=>143 | 10=>255 | 11=>256 | 12=>257 | 13=>258 | 14=>259 | 15=>260 | 16=>261 | 17=>262 | 18=>263 | 30=>320 | 31=>246 | 32=>247 | 33=>321 | 34=>322 | 35=>70 | 40=>362 | n=>n,λ| 23=>54 | 25=>3 | 3=>3 | 32=>171 | 22=>54 | 0=>0 | 44=>265 | 46=>267 | 4=>4 | 36=>259 | 35=>258 | 41=>213 | 5=>5 | 9=>9 | 53=>353 | 57=>357 | 63=>414 | 64=>178 | n=>n,λ| n=>n⟩
def sortA:SlLaysM.n5 prog sortA_ren where
 mixed:=by kernel_rfl
 f5 := ⟨"slices.Sort[[]int,int]", by decide, func86.trans (congrArg some (by kernel_rfl))⟩
 f7 := ⟨"slices.pdqsortOrdered[int]", by decide, func161.trans (congrArg some (by kernel_rfl))⟩
 f8:=func69.trans (congrArg some (by kernel_rfl))
 f10 := ⟨"slices.insertionSortOrdered[int]", by decide, func255.trans (congrArg some (by kernel_rfl))⟩
 f11 := ⟨"slices.heapSortOrdered[int]", by decide, func256.trans (congrArg some (by kernel_rfl))⟩
 f12 := ⟨"slices.breakPatternsOrdered[int]", by decide, func257.trans (congrArg some (by kernel_rfl))⟩
 f13 := ⟨"slices.choosePivotOrdered[int]", by decide, func258.trans (congrArg some (by kernel_rfl))⟩
 f14 := ⟨"slices.reverseRangeOrdered[int]", by decide, func259.trans (congrArg some (by kernel_rfl))⟩
 f15 := ⟨"slices.partialInsertionSortOrdered[int]", by decide, func260.trans (congrArg some (by kernel_rfl))⟩
 f16 := ⟨"cmp.Less[int]", by decide, func261.trans (congrArg some (by kernel_rfl))⟩
 f17 := ⟨"slices.partitionEqualOrdered[int]", by decide, func262.trans (congrArg some (by kernel_rfl))⟩
 f18 := ⟨"slices.partitionOrdered[int]", by decide, func263.trans (congrArg some (by kernel_rfl))⟩
 f19:=func142.trans (congrArg some (by kernel_rfl))
 f20:=func143.trans (congrArg some (by kernel_rfl))
 f30 := ⟨"slices.siftDownOrdered[int]", by decide, func320.trans (congrArg some (by kernel_rfl))⟩
 f31:=func246.trans (congrArg some (by kernel_rfl))
 f32:=func247.trans (congrArg some (by kernel_rfl))
 f33 := ⟨"slices.medianAdjacentOrdered[int]", by decide, func321.trans (congrArg some (by kernel_rfl))⟩
 f34 := ⟨"slices.medianOrdered[int]", by decide, func322.trans (congrArg some (by kernel_rfl))⟩
 f35 := ⟨"cmp.isNaN[int]", by decide, func70.trans (congrArg some (by kernel_rfl))⟩
 f40 := ⟨"slices.order2Ordered[int]", by decide, func362.trans (congrArg some (by kernel_rfl))⟩
 t0:=underlying0
 a0:=isAgg0
 z0:=sizeOf0
 v0:=zeroValue0
 t3:=underlying3
 a3:=isAgg3
 z3:=sizeOf3
 v3:=zeroValue3
 t4:=underlying4
 a4:=isAgg4
 z4:=sizeOf4
 v4:=zeroValue4
 t5:=underlying5
 a5:=isAgg5
 z5:=sizeOf5
 v5:=zeroValue5
 t9:=underlying9
 a9:=isAgg9
 z9:=sizeOf9
 v9:=zeroValue9
 t22:=underlying54
 a22:=isAgg54
 z22:=sizeOf54
 v22:=zeroValue54
 t23:=underlying54
 a23:=isAgg54
 z23:=sizeOf54
 v23:=zeroValue54
 t25:=underlying3
 a25:=isAgg3
 z25:=sizeOf3
 v25:=zeroValue3
 t32:=underlying171
 a32:=isAgg171
 z32:=sizeOf171
 v32:=zeroValue171
 t35:=underlying258
 a35:=isAgg258
 z35:=sizeOf258
 v35:=zeroValue258
 t36:=underlying259
 a36:=isAgg259
 z36:=sizeOf259
 v36:=zeroValue259
 t41:=underlying213
 a41:=isAgg213
 z41:=sizeOf213
 v41:=zeroValue213
 t44:=underlying265
 a44:=isAgg265
 z44:=sizeOf265
 v44:=zeroValue265
 t46:=underlying267
 a46:=isAgg267
 z46:=sizeOf267
 v46:=zeroValue267
 t53:=underlying353
 a53:=isAgg353
 z53:=sizeOf353
 v53:=zeroValue353
 t57:=underlying357
 a57:=isAgg357
 z57:=sizeOf357
 v57:=zeroValue357
 t63:=underlying414
 a63:=isAgg414
 z63:=sizeOf414
 v63:=zeroValue414
 t64:=underlying178
 a64:=isAgg178
 z64:=sizeOf178
 v64:=zeroValue178
def sortsA (m:Nat):AnyZI.SortsIn prog sortedA_ren Fence.wide m :=
 ⟨λiG off cap ss W hH hblk hsz=>callsIn_wide.2 (AnyM.slices_Sort_int sortA iG off cap ss W hH hblk hsz),
  λp cap W=>callsIn_wide.2 (AnyM.slices_Sort_int_none sortA p cap W)⟩
def keysC (mb:Option Nat) (W:World):CallsIn Fence.wide 5 prog 89 #[.map mb] W λe w'=>e=.returned (.func (.func 163) #[] #[.pointer (some ⟨W.heap.size,0,none⟩)])/\w'=W.alloc (.cells #[.map mb] 107):=AnyZI.keys_in keysA Fence.wide 5 trivial rfl mb W
def sortedC (S:List Int->Prop) (N:Nat) (hmax:N<=maxLen) (hbytes:N*8<=140737488355328) (w:World) (p:Value) (hseq:SeqGives Fence.wide 2 prog 163 #[p] encZ S N w) :
  CallsIn Fence.wide 5 prog 88 #[.func (.func 163) #[] #[p]] w λe w'=>∃ (v:Value) (ss:List Int),e=.returned v/\S ss /\
   w'.ownsRow w.heap.size 3 1 v ss.length ((ss.mergeSort leI).map encZ)/\(v=.slice none 0 0↔ss=[])/\Below w.heap.size w w' :=
 AnyZI.sorted_in sortedA Fence.wide 5 trivial trivial trivial trivial rfl (by omega) (sortsA _) (enters_of func86 (by kernel_rfl) rfl) 163 #[p] trivial (enters_of func163 (by kernel_rfl) rfl) S N hmax hbytes w hseq
set_option maxHeartbeats 1000000 in
def rising_a (b nn:Nat) (D0:DataW Unit) (w:World) (hown:w.ownsMap prog 3 (λ_=>some (.nil,[])) b nn D0) (hmax:Maps.size D0<=maxLen) (hbytes:Maps.size D0*8<=140737488355328) :
  Calls prog 43 #[.map (some b)] w λe w'=>∃ (v:Value) (ss:List Int),e=.returned v/\ss.Perm (intKeys D0) /\
   w'.ownsRow w.heap.size 3 1 v ss.length ((ss.mergeSort leI).map encZ)/\(v=.slice none 0 0↔ss=[])/\Below w.heap.size w w':=by
 refine (callsIn_wide (n:=6)).1 ?_
 have hbl:=hown.lt
 have hseq:SeqGives Fence.wide 2 prog 163 #[.pointer (some ⟨w.heap.size,0,none⟩)] encZ (λss=>ss.Perm (intKeys D0)) (Maps.size D0) (w.alloc (.cells #[.map (some b)] 107)) :=
  AnyZI.keys_gives (ρ:=keysA_ren) { keysA with } Fence.wide _ trivial rfl (by omega) w.heap.size b nn D0 _ (by simp) (by simp) (by
   obtain ⟨es,clock,hb,Ft,hs,hD⟩:=hown
   exact ⟨es,clock,(Below.heap_alloc _ _ b hbl).trans hb,Ft,hs,hD⟩)
 have cK:=keysC
 have cS:=sortedC _ _ hmax hbytes _ _ hseq
 have hfK:Fence.wide.fn 89:=trivial
 have hfS:Fence.wide.fn 88:=trivial
 refine callsIn_of_wp func43 rfl trivial ?_ rfl
 simp only [ntmps43,List.size_toArray,List.length_cons,List.length_nil,Nat.reduceAdd,Nat.reduceSub,Array.replicate_succ,Array.replicate_zero,List.push_toArray,List.append_toArray,List.nil_append,List.cons_append]
 gi_wp2_with (first
  | (gi_at_call 89; refine (cK _ _).mono ?_; rintro e w' ⟨rfl,rfl⟩)
  | (gi_at_call 88; refine cS.mono ?_; rintro e w' ⟨v,ss,rfl,hS,hrow,hnil,hb⟩))
 go_ret
 exact ⟨v,ss,rfl,hS,ownsRow_base_a hrow (by simp),hnil,((Below.refl _ w).alloc (Nat.le_refl _) _).trans (hb.mono (by simp))⟩
set_option maxHeartbeats 1000000 in
def rising_0 (w:World):Calls prog 43 #[.map none] w λe w'=>e=.returned (.slice none 0 0)/\Below w.heap.size w w':=by
 refine (callsIn_wide (n:=6)).1 ?_
 have hseq:SeqGives Fence.wide 2 prog 163 #[.pointer (some ⟨w.heap.size,0,none⟩)] encZ (λss:List Int=>ss=[]) 0 (w.alloc (.cells #[.map none] 107)) :=
  AnyZI.keys_gives_nil (ρ:=keysA_ren) { keysA with } Fence.wide _ trivial rfl w.heap.size _ (by simp) (by simp)
 have cK:=keysC
 have cS:=sortedC _ 0 (Nat.zero_le _) (by omega) _ _ hseq
 have hfK:Fence.wide.fn 89:=trivial
 have hfS:Fence.wide.fn 88:=trivial
 refine callsIn_of_wp func43 rfl trivial ?_ rfl
 simp only [ntmps43,List.size_toArray,List.length_cons,List.length_nil,Nat.reduceAdd,Nat.reduceSub,Array.replicate_succ,Array.replicate_zero,List.push_toArray,List.append_toArray,List.nil_append,List.cons_append]
 gi_wp2_with (first
  | (gi_at_call 89; refine (cK _ _).mono ?_; rintro e w' ⟨rfl,rfl⟩)
  | (gi_at_call 88; refine cS.mono ?_; rintro e w' ⟨v,ss,rfl,rfl,hrow,hnil,hb⟩; obtain rfl:v=.slice none 0 0:=hnil.2 rfl))
 go_ret
 exact ⟨rfl,((Below.refl _ w).alloc (Nat.le_refl _) _).trans (hb.mono (by simp))⟩
def risingOk:nF prog 43 lY :=
 CJ (kt:=3) ⟨f43,func43,by kernel_rfl,by kernel_rfl⟩ underlying3 rising_a rising_0
def sortOk:nF prog 86 pj :=
 Fx ⟨f86,func86,by kernel_rfl,by kernel_rfl⟩ (λiG off cap zs w hH hb hs=>AnyM.slices_Sort_int sortA iG off cap zs w hH hb hs) (λp cap w=>AnyM.slices_Sort_int_none sortA p cap w)
def compA_ren:Go.Shelf.Ren:=⟨λ| 20=>87 | n=>n,λ| 0=>0 | 3=>3 | 4=>4 | 22=>54 | n=>n,λ| n=>n⟩
def compA:Lays2.n20 prog compA_ren where
 mixed:=by kernel_rfl
 f20:=func87.trans (congrArg some (by kernel_rfl))
 t0:=underlying0
 a0:=isAgg0
 z0:=sizeOf0
 v0:=zeroValue0
 t3:=underlying3
 a3:=isAgg3
 z3:=sizeOf3
 v3:=zeroValue3
 t4:=underlying4
 a4:=isAgg4
 z4:=sizeOf4
 v4:=zeroValue4
 t22:=underlying54
 a22:=isAgg54
 z22:=sizeOf54
 v22:=zeroValue54
 i3:=by kernel_rfl
def compOk:nF prog 87 pB :=
 FC ⟨f87,func87,by kernel_rfl,by kernel_rfl⟩ (λiG off cap zs w hH hb hs=>Any.slices_Compact_int compA iG off cap zs w hH hb hs) (λp cap w=>Any.slices_Compact_int_empty compA p cap w)
end Go.Sx
