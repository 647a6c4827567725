/- Proves rules for the walks and their soundness. -/
import Derived.Test.YtpelnddplemngaaGreatChecked
import Derived.KernelRfl
import Derived.WalkKit
import Derived.Shelf.Slices.CompactI
import Derived.Test.YtpelnddplemngaaGreatHaf
set_option linter.all false
namespace Go.Sx
open Go.Proofs.Tryz
open Go Go.Proofs Go.RowKit
section
variable {P:Program} (w:World)
def run_eql_map_nilx (t k e:TypeId) (p:Option Nat) (h:P.underlying t=some (.map k e)) :
  (Go.binOp .eql t (.map p) (.map none)).run P w=.ok (.bool p.isNone) w:=by
 simp only [Go.binOp]
 have:∀ d,(Op.equalIn (d+1) t (.map p) (.map none)).run P w=.ok p.isNone w:=by
  intro d
  cases p<;>simp [Op.equalIn,run_underlying h]
 simp [show Op.equal t (.map p) (.map none)=Op.equalIn (9999+1) t (.map p) (.map none) from rfl,this 9999]
theorem run_typeAssert_mapx (t xT k e:TypeId) (v:Value) (h:P.underlying t=some (.map k e)):(Instr.typeAssert (.iface t v) xT t false).run P w=.ok v w:=by
 simp [Instr.typeAssert,run_underlying h,go_sem,Result.andThen]
theorem run_maps_clonex {r:Nat} {es:Array MapEntry} {clock:Nat} (t:TypeId) (hb:w.heap[r]?=some (.map es clock)) :
  (Extern.MapsClone.clone #[.iface t (.map (some r))]).run P w=.ok (.iface t (.map (some w.heap.size))) (w.alloc (.map es clock)):=by
 have e:Extern.MapsClone.clone #[.iface t (.map (some r))]=(getObj r >>= λo=>match o with
   | .map entries clock=>(newObj (.map entries clock) >>= λn=>pure (.iface t (.map (some n))))
   | _ => stuck "maps.clone: a map expected") := rfl
 rw [e]
 simp [MapKept.run_getObj_map hb,Result.andThen,go_sem]
end
set_option maxRecDepth 100000 in
set_option maxHeartbeats 4000000 in
def clone_a (b:Nat) (es:Array MapEntry) (clock:Nat) (w:World) (hb:w.heap[b]?=some (.map es clock)) :
  Calls prog 344 #[.map (some b)] w λe w'=>e=.returned (.map (some w.heap.size))/\w'=w.alloc (.map es clock):=by
 have hq:=λw=>run_eql_map_nilx (P:=prog) w 417 _ _ (some b) underlying417
 go_enter func344,ntmps344
 go_wp2
 rw [run_callFunc_extern func376 (by kernel_rfl) (by kernel_rfl) (by kernel_rfl) (e:=Extern.MapsClone.clone) (by kernel_rfl),run_maps_clonex w 417 hb]
 simp only [Result.andThen]
 rw [Oper.upon_value]
 go_wp2
 rw [run_typeAssert_mapx _ 417 20 _ _ _ underlying417]
 simp only [Result.andThen]
 rw [Oper.upon_value]
 go_wp2
 go_ret
 exact ⟨rfl,rfl⟩
set_option maxRecDepth 100000 in
set_option maxHeartbeats 4000000 in
def clone_a0 (w:World):Calls prog 344 #[.map none] w λe w'=>e=.returned (.map none)/\w'=w:=by
 have hq:=λw=>run_eql_map_nilx (P:=prog) w 417 _ _ none underlying417
 go_enter func344,ntmps344
 go_wp2
 go_ret
 exact ⟨rfl,rfl⟩
set_option maxRecDepth 100000 in
set_option maxHeartbeats 4000000 in
def clone_b (b:Nat) (es:Array MapEntry) (clock:Nat) (w:World) (hb:w.heap[b]?=some (.map es clock)) :
  Calls prog 345 #[.map (some b)] w λe w'=>e=.returned (.map (some w.heap.size))/\w'=w.alloc (.map es clock):=by
 have hq:=λw=>run_eql_map_nilx (P:=prog) w 418 _ _ (some b) underlying418
 go_enter func345,ntmps345
 go_wp2
 rw [run_callFunc_extern func376 (by kernel_rfl) (by kernel_rfl) (by kernel_rfl) (e:=Extern.MapsClone.clone) (by kernel_rfl),run_maps_clonex w 418 hb]
 simp only [Result.andThen]
 rw [Oper.upon_value]
 go_wp2
 rw [run_typeAssert_mapx _ 418 20 _ _ _ underlying418]
 simp only [Result.andThen]
 rw [Oper.upon_value]
 go_wp2
 go_ret
 exact ⟨rfl,rfl⟩
set_option maxRecDepth 100000 in
set_option maxHeartbeats 4000000 in
def clone_b0 (w:World):Calls prog 345 #[.map none] w λe w'=>e=.returned (.map none)/\w'=w:=by
 have hq:=λw=>run_eql_map_nilx (P:=prog) w 418 _ _ none underlying418
 go_enter func345,ntmps345
 go_wp2
 go_ret
 exact ⟨rfl,rfl⟩
end Go.Sx
set_option maxRecDepth 100000
namespace Go.Sx
open Go.Proofs.Tryz
open Go Go.Proofs Go.RowKit Go.Maps Go.Sort Go.Shelf
def keysA_ren:Go.Shelf.Ren:=⟨λ| 7=>335 | 10=>375 | n=>n,λ| 23=>230 | 26=>3 | 3=>4 | 28=>452 | 0=>0 | 27=>451 | 33=>332 | 4=>4 | n=>n,λ| n=>n⟩
def keysA:SlLaysZI.n7 prog keysA_ren where
 mixed:=by kernel_rfl
 f7 := ⟨"maps.Keys[map[int]bool,int,bool]", by decide, func335.trans (congrArg some (by kernel_rfl))⟩
 f10 := ⟨"maps.Keys[map[int]bool,int,bool]$1", by decide, func375.trans (congrArg some (by kernel_rfl))⟩
 t0:=underlying0
 a0:=isAgg0
 z0:=sizeOf0
 v0:=zeroValue0
 t4:=underlying4
 a4:=isAgg4
 z4:=sizeOf4
 v4:=zeroValue4
 t23:=underlying230
 a23:=isAgg230
 z23:=sizeOf230
 v23:=zeroValue230
 t26:=underlying3
 a26:=isAgg3
 z26:=sizeOf3
 v26:=zeroValue3
 t27:=underlying451
 a27:=isAgg451
 z27:=sizeOf451
 v27:=zeroValue451
 t28:=underlying452
 a28:=isAgg452
 z28:=sizeOf452
 v28:=zeroValue452
 t33:=underlying332
 a33:=isAgg332
 z33:=sizeOf332
 v33:=zeroValue332
def sortedA_ren:Go.Shelf.Ren:=⟨λ| 6=>334 | 8=>374 | 9=>218 | 11=>392 | 13=>289 | 12=>288 | 23=>332 | 24=>333 | 14=>323 | 15=>324 | 16=>325 | 17=>326 | 18=>327 | 19=>328 | 20=>329 | 21=>330 | 22=>331 | 25=>368 | 26=>369 | 27=>370 | 28=>371 | 29=>372 | 30=>373 | 31=>391 | n=>n,λ| 26=>3 | 28=>452 | 24=>45 | 0=>0 | 3=>3 | 37=>265 | 48=>341 | 50=>344 | 4=>4 | 40=>440 | 39=>439 | 45=>242 | 5=>5 | 9=>9 | 51=>487 | 55=>491 | 57=>506 | 58=>410 | 33=>332 | n=>n,λ| n=>n⟩
def sortedA:SlLaysZI.n6 prog sortedA_ren where
 mixed:=by kernel_rfl
 f6 := ⟨"slices.Sorted[int]", by decide, func334.trans (congrArg some (by kernel_rfl))⟩
 f8 := ⟨"slices.Collect[int]", by decide, func374.trans (congrArg some (by kernel_rfl))⟩
 f11 := ⟨"slices.AppendSeq[[]int,int]", by decide, func392.trans (congrArg some (by kernel_rfl))⟩
 t0:=underlying0
 a0:=isAgg0
 z0:=sizeOf0
 v0:=zeroValue0
 t24:=underlying45
 a24:=isAgg45
 z24:=sizeOf45
 v24:=zeroValue45
 t26:=underlying3
 a26:=isAgg3
 z26:=sizeOf3
 v26:=zeroValue3
 t28:=underlying452
 a28:=isAgg452
 z28:=sizeOf452
 v28:=zeroValue452
 i26:=by kernel_rfl
def sortA_ren:Go.Shelf.Ren:=⟨λ| 5=>218 | 8=>289 | 7=>288 | 19=>332 | 20=>333 | 10=>323 | 11=>324 | 12=>325 | 13=>326 | 14=>327 | 15=>328 | 16=>329 | 17=>330 | 18=>331 | 30=>368 | 31=>369 | 32=>370 | 33=>371 | 34=>372 | 35=>373 | 40=>391 | n=>n,λ| 23=>45 | 25=>3 | 3=>3 | 32=>265 | 22=>45 | 0=>0 | 44=>341 | 46=>344 | 4=>4 | 36=>440 | 35=>439 | 41=>242 | 5=>5 | 9=>9 | 53=>487 | 57=>491 | 63=>506 | 64=>410 | n=>n,λ| n=>n⟩
def sortA:SlLaysM.n5 prog sortA_ren where
 mixed:=by kernel_rfl
 f5 := ⟨"slices.Sort[[]int,int]", by decide, func218.trans (congrArg some (by kernel_rfl))⟩
 f7 := ⟨"slices.pdqsortOrdered[int]", by decide, func288.trans (congrArg some (by kernel_rfl))⟩
 f8:=func289.trans (congrArg some (by kernel_rfl))
 f10 := ⟨"slices.insertionSortOrdered[int]", by decide, func323.trans (congrArg some (by kernel_rfl))⟩
 f11 := ⟨"slices.heapSortOrdered[int]", by decide, func324.trans (congrArg some (by kernel_rfl))⟩
 f12 := ⟨"slices.breakPatternsOrdered[int]", by decide, func325.trans (congrArg some (by kernel_rfl))⟩
 f13 := ⟨"slices.choosePivotOrdered[int]", by decide, func326.trans (congrArg some (by kernel_rfl))⟩
 f14 := ⟨"slices.reverseRangeOrdered[int]", by decide, func327.trans (congrArg some (by kernel_rfl))⟩
 f15 := ⟨"slices.partialInsertionSortOrdered[int]", by decide, func328.trans (congrArg some (by kernel_rfl))⟩
 f16 := ⟨"cmp.Less[int]", by decide, func329.trans (congrArg some (by kernel_rfl))⟩
 f17 := ⟨"slices.partitionEqualOrdered[int]", by decide, func330.trans (congrArg some (by kernel_rfl))⟩
 f18 := ⟨"slices.partitionOrdered[int]", by decide, func331.trans (congrArg some (by kernel_rfl))⟩
 f19:=func332.trans (congrArg some (by kernel_rfl))
 f20:=func333.trans (congrArg some (by kernel_rfl))
 f30 := ⟨"slices.siftDownOrdered[int]", by decide, func368.trans (congrArg some (by kernel_rfl))⟩
 f31:=func369.trans (congrArg some (by kernel_rfl))
 f32:=func370.trans (congrArg some (by kernel_rfl))
 f33 := ⟨"slices.medianAdjacentOrdered[int]", by decide, func371.trans (congrArg some (by kernel_rfl))⟩
 f34 := ⟨"slices.medianOrdered[int]", by decide, func372.trans (congrArg some (by kernel_rfl))⟩
 f35 := ⟨"cmp.isNaN[int]", by decide, func373.trans (congrArg some (by kernel_rfl))⟩
 f40 := ⟨"slices.order2Ordered[int]", by decide, func391.trans (congrArg some (by kernel_rfl))⟩
 t0:=underlying0
 a0:=isAgg0
 z0:=sizeOf0
 v0:=zeroValue0
 t3:=underlying3
 a3:=isAgg3
 z3:=sizeOf3
 v3:=zeroValue3
 t4:=underlying4
 a4:=isAgg4
 z4:=sizeOf4
 v4:=zeroValue4
 t5:=underlying5
 a5:=isAgg5
 z5:=sizeOf5
 v5:=zeroValue5
 t9:=underlying9
 a9:=isAgg9
 z9:=sizeOf9
 v9:=zeroValue9
 t22:=underlying45
 a22:=isAgg45
 z22:=sizeOf45
 v22:=zeroValue45
 t23:=underlying45
 a23:=isAgg45
 z23:=sizeOf45
 v23:=zeroValue45
 t25:=underlying3
 a25:=isAgg3
 z25:=sizeOf3
 v25:=zeroValue3
 t32:=underlying265
 a32:=isAgg265
 z32:=sizeOf265
 v32:=zeroValue265
 t35:=underlying439
 a35:=isAgg439
 z35:=sizeOf439
 v35:=zeroValue439
 t36:=underlying440
 a36:=isAgg440
 z36:=sizeOf440
 v36:=zeroValue440
 t41:=underlying242
 a41:=isAgg242
 z41:=sizeOf242
 v41:=zeroValue242
 t44:=underlying341
 a44:=isAgg341
 z44:=sizeOf341
 v44:=zeroValue341
 t46:=underlying344
 a46:=isAgg344
 z46:=sizeOf344
 v46:=zeroValue344
 t53:=underlying487
 a53:=isAgg487
 z53:=sizeOf487
 v53:=zeroValue487
 t57:=underlying491
 a57:=isAgg491
 z57:=sizeOf491
 v57:=zeroValue491
 t63:=underlying506
 a63:=isAgg506
 z63:=sizeOf506
 v63:=zeroValue506
 t64:=underlying410
 a64:=isAgg410
 z64:=sizeOf410
 v64:=zeroValue410
def sortsA (m:Nat):AnyZI.SortsIn prog sortedA_ren Fence.wide m :=
 ⟨λiQ off cap ss W hH hblk hsz=>callsIn_wide.2 (AnyM.slices_Sort_int sortA iQ off cap ss W hH hblk hsz),
  λp cap W=>callsIn_wide.2 (AnyM.slices_Sort_int_none sortA p cap W)⟩
def keysC (mb:Option Nat) (W:World):CallsIn Fence.wide 5 prog 335 #[.map mb] W λe w'=>e=.returned (.func (.func 375) #[] #[.pointer (some ⟨W.heap.size,0,none⟩)])/\w'=W.alloc (.cells #[.map mb] 230):=AnyZI.keys_in keysA Fence.wide 5 trivial rfl mb W
def sortedC (S:List Int->Prop) (N:Nat) (hmax:N<=maxLen) (hbytes:N*8<=140737488355328) (w:World) (p:Value) (hseq:SeqGives Fence.wide 2 prog 375 #[p] encZ S N w) :
  CallsIn Fence.wide 5 prog 334 #[.func (.func 375) #[] #[p]] w λe w'=>∃ (v:Value) (ss:List Int),e=.returned v/\S ss /\
   w'.ownsRow w.heap.size 3 1 v ss.length ((ss.mergeSort leI).map encZ)/\(v=.slice none 0 0↔ss=[])/\Below w.heap.size w w' :=
 AnyZI.sorted_in sortedA Fence.wide 5 trivial trivial trivial trivial rfl (by omega) (sortsA _) (enters_of func218 (by kernel_rfl) rfl) 375 #[p] trivial (enters_of func375 (by kernel_rfl) rfl) S N hmax hbytes w hseq
set_option maxHeartbeats 1000000 in
def rising_a (b nn:Nat) (D0:DataW Unit) (w:World) (hown:w.ownsMap prog 3 (λ_=>some (.nil,[])) b nn D0) (hmax:Maps.size D0<=maxLen) (hbytes:Maps.size D0*8<=140737488355328) :
  Calls prog 296 #[.map (some b)] w λe w'=>∃ (v:Value) (ss:List Int),e=.returned v/\ss.Perm (intKeys D0) /\
   w'.ownsRow w.heap.size 3 1 v ss.length ((ss.mergeSort leI).map encZ)/\(v=.slice none 0 0↔ss=[])/\Below w.heap.size w w':=by
 refine (callsIn_wide (n:=6)).1 ?_
 have hbl:=hown.lt
 have hseq:SeqGives Fence.wide 2 prog 375 #[.pointer (some ⟨w.heap.size,0,none⟩)] encZ (λss=>ss.Perm (intKeys D0)) (Maps.size D0) (w.alloc (.cells #[.map (some b)] 230)) :=
  AnyZI.keys_gives (ρ:=keysA_ren) { keysA with } Fence.wide _ trivial rfl (by omega) w.heap.size b nn D0 _ (by simp) (by simp) (by
   obtain ⟨es,clock,hb,Ft,hs,hD⟩:=hown
   exact ⟨es,clock,(Below.heap_alloc _ _ b hbl).trans hb,Ft,hs,hD⟩)
 have cK:=keysC
 have cS:=sortedC _ _ hmax hbytes _ _ hseq
 have hfK:Fence.wide.fn 335:=trivial
 have hfS:Fence.wide.fn 334:=trivial
 refine callsIn_of_wp func296 rfl trivial ?_ rfl
 simp only [ntmps296,List.size_toArray,List.length_cons,List.length_nil,Nat.reduceAdd,Nat.reduceSub,Array.replicate_succ,Array.replicate_zero,List.push_toArray,List.append_toArray,List.nil_append,List.cons_append]
 gi_wp2_with (first
  | (gi_at_call 335; refine (cK _ _).mono ?_; rintro e w' ⟨rfl,rfl⟩)
  | (gi_at_call 334; refine cS.mono ?_; rintro e w' ⟨v,ss,rfl,hS,hrow,hnil,hb⟩))
 go_ret
 exact ⟨v,ss,rfl,hS,ownsRow_base_a hrow (by simp),hnil,((Below.refl _ w).alloc (Nat.le_refl _) _).trans (hb.mono (by simp))⟩
set_option maxHeartbeats 1000000 in
def rising_0 (w:World):Calls prog 296 #[.map none] w λe w'=>e=.returned (.slice none 0 0)/\Below w.heap.size w w':=by
 refine (callsIn_wide (n:=6)).1 ?_
 have hseq:SeqGives Fence.wide 2 prog 375 #[.pointer (some ⟨w.heap.size,0,none⟩)] encZ (λss:List Int=>ss=[]) 0 (w.alloc (.cells #[.map none] 230)) :=
  AnyZI.keys_gives_nil (ρ:=keysA_ren) { keysA with } Fence.wide _ trivial rfl w.heap.size _ (by simp) (by simp)
 have cK:=keysC
 have cS:=sortedC _ 0 (Nat.zero_le _) (by omega) _ _ hseq
 have hfK:Fence.wide.fn 335:=trivial
 have hfS:Fence.wide.fn 334:=trivial
 refine callsIn_of_wp func296 rfl trivial ?_ rfl
 simp only [ntmps296,List.size_toArray,List.length_cons,List.length_nil,Nat.reduceAdd,Nat.reduceSub,Array.replicate_succ,Array.replicate_zero,List.push_toArray,List.append_toArray,List.nil_append,List.cons_append]
 gi_wp2_with (first
  | (gi_at_call 335; refine (cK _ _).mono ?_; rintro e w' ⟨rfl,rfl⟩)
  | (gi_at_call 334; refine cS.mono ?_; rintro e w' ⟨v,ss,rfl,rfl,hrow,hnil,hb⟩; obtain rfl:v=.slice none 0 0:=hnil.2 rfl))
 go_ret
 exact ⟨rfl,((Below.refl _ w).alloc (Nat.le_refl _) _).trans (hb.mono (by simp))⟩
def risingOk:nT prog 296 qi :=
 Df (kt:=3) ⟨f296,func296,by kernel_rfl,by kernel_rfl⟩ underlying3 rising_a rising_0
def sortOk:nT prog 218 w5 :=
 F5 ⟨f218,func218,by kernel_rfl,by kernel_rfl⟩ (λiQ off cap zs w hH hb hs=>AnyM.slices_Sort_int sortA iQ off cap zs w hH hb hs) (λp cap w=>AnyM.slices_Sort_int_none sortA p cap w)
def compA_ren:Go.Shelf.Ren:=⟨λ| 20=>219 | n=>n,λ| 0=>0 | 3=>3 | 4=>4 | 22=>45 | n=>n,λ| n=>n⟩
def compA:Lays2.n20 prog compA_ren where
 mixed:=by kernel_rfl
 f20:=func219.trans (congrArg some (by kernel_rfl))
 t0:=underlying0
 a0:=isAgg0
 z0:=sizeOf0
 v0:=zeroValue0
 t3:=underlying3
 a3:=isAgg3
 z3:=sizeOf3
 v3:=zeroValue3
 t4:=underlying4
 a4:=isAgg4
 z4:=sizeOf4
 v4:=zeroValue4
 t22:=underlying45
 a22:=isAgg45
 z22:=sizeOf45
 v22:=zeroValue45
 i3:=by kernel_rfl
def compOk:nT prog 219 xC :=
 F2 ⟨f219,func219,by kernel_rfl,by kernel_rfl⟩ (λiQ off cap zs w hH hb hs=>Any.slices_Compact_int compA iQ off cap zs w hH hb hs) (λp cap w=>Any.slices_Compact_int_empty compA p cap w)
end Go.Sx
