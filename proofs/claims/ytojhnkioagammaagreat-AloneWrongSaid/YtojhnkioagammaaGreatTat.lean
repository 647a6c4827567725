/- Proves rules for the walks and their soundness. -/
import Derived.Test.YtojhnkioagammaaGreatChecked
import Derived.KernelRfl
import Derived.WalkKit
set_option linter.all false
namespace Go.Sx
open Go Go.Proofs Go.RowKit
section
variable {P:Program} (w:World)
theorem run_eql_map_nilx (t k e:TypeId) (p:Option Nat) (h:P.underlying t=some (.map k e)) :
  (Go.binOp .eql t (.map p) (.map none)).run P w=.ok (.bool p.isNone) w:=by
 simp only [Go.binOp]
 have:∀ d,(Op.equalIn (d+1) t (.map p) (.map none)).run P w=.ok p.isNone w:=by
  intro d
  cases p<;>simp [Op.equalIn,run_underlying h]
 simp [show Op.equal t (.map p) (.map none)=Op.equalIn (9999+1) t (.map p) (.map none) from rfl,this 9999]
theorem run_typeAssert_mapx (t xT k e:TypeId) (v:Value) (h:P.underlying t=some (.map k e)):(Instr.typeAssert (.iface t v) xT t false).run P w=.ok v w:=by
 simp [Instr.typeAssert,run_underlying h,go_sem,Result.andThen]
theorem run_maps_clonex {r:Nat} {es:Array MapEntry} {clock:Nat} (t:TypeId) (hb:w.heap[r]?=some (.map es clock)) :
  (Extern.MapsClone.clone #[.iface t (.map (some r))]).run P w=.ok (.iface t (.map (some w.heap.size))) (w.alloc (.map es clock)):=by
 have e:Extern.MapsClone.clone #[.iface t (.map (some r))]=(getObj r >>= fun o=>match o with
   | .map entries clock=>(newObj (.map entries clock) >>= fun n=>pure (.iface t (.map (some n))))
   | _ => stuck "maps.clone: a map expected") := rfl
 rw [e]
 simp [MapKept.run_getObj_map hb,Result.andThen,go_sem]
end
set_option maxRecDepth 100000 in
set_option maxHeartbeats 4000000 in
theorem clone_a (b:Nat) (es:Array MapEntry) (clock:Nat) (w:World) (hb:w.heap[b]?=some (.map es clock)) :
  Calls Tryz.prog 200 #[.map (some b)] w fun e w'=>e=.returned (.map (some w.heap.size))∧w'=w.alloc (.map es clock):=by
 have hq:=fun w=>run_eql_map_nilx (P:=Tryz.prog) w 281 _ _ (some b) Tryz.underlying281
 go_enter Tryz.func200,Tryz.ntmps200
 go_wp2
 rw [run_callFunc_extern Tryz.func244 (by kernel_rfl) (by kernel_rfl) (by kernel_rfl) (e:=Extern.MapsClone.clone) (by kernel_rfl),run_maps_clonex w 281 hb]
 simp only [Result.andThen]
 rw [Oper.upon_value]
 go_wp2
 rw [run_typeAssert_mapx _ 281 20 _ _ _ Tryz.underlying281]
 simp only [Result.andThen]
 rw [Oper.upon_value]
 go_wp2
 go_ret
 exact ⟨rfl,rfl⟩
set_option maxRecDepth 100000 in
set_option maxHeartbeats 4000000 in
theorem clone_a0 (w:World):Calls Tryz.prog 200 #[.map none] w fun e w'=>e=.returned (.map none)∧w'=w:=by
 have hq:=fun w=>run_eql_map_nilx (P:=Tryz.prog) w 281 _ _ none Tryz.underlying281
 go_enter Tryz.func200,Tryz.ntmps200
 go_wp2
 go_ret
 exact ⟨rfl,rfl⟩
set_option maxRecDepth 100000 in
set_option maxHeartbeats 4000000 in
theorem clone_b (b:Nat) (es:Array MapEntry) (clock:Nat) (w:World) (hb:w.heap[b]?=some (.map es clock)) :
  Calls Tryz.prog 201 #[.map (some b)] w fun e w'=>e=.returned (.map (some w.heap.size))∧w'=w.alloc (.map es clock):=by
 have hq:=fun w=>run_eql_map_nilx (P:=Tryz.prog) w 282 _ _ (some b) Tryz.underlying282
 go_enter Tryz.func201,Tryz.ntmps201
 go_wp2
 rw [run_callFunc_extern Tryz.func244 (by kernel_rfl) (by kernel_rfl) (by kernel_rfl) (e:=Extern.MapsClone.clone) (by kernel_rfl),run_maps_clonex w 282 hb]
 simp only [Result.andThen]
 rw [Oper.upon_value]
 go_wp2
 rw [run_typeAssert_mapx _ 282 20 _ _ _ Tryz.underlying282]
 simp only [Result.andThen]
 rw [Oper.upon_value]
 go_wp2
 go_ret
 exact ⟨rfl,rfl⟩
set_option maxRecDepth 100000 in
set_option maxHeartbeats 4000000 in
theorem clone_b0 (w:World):Calls Tryz.prog 201 #[.map none] w fun e w'=>e=.returned (.map none)∧w'=w:=by
 have hq:=fun w=>run_eql_map_nilx (P:=Tryz.prog) w 282 _ _ none Tryz.underlying282
 go_enter Tryz.func201,Tryz.ntmps201
 go_wp2
 go_ret
 exact ⟨rfl,rfl⟩
end Go.Sx
