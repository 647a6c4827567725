/- Proves what some functions of the program answer, by walking through them. -/
import Derived.Test.YtlhainfgnlmhfaaGreatTaj
import Derived.Test.YtlhainfgnlmhfaaGreatTak
import Derived.Test.YtlhainfgnlmhfaaGreatTal
import Derived.Test.YtlhainfgnlmhfaaGreatTam
import Derived.Test.YtlhainfgnlmhfaaGreatTao
set_option linter.all false
set_option maxRecDepth 100000
set_option maxHeartbeats 0
namespace Go.Sx
open Go Go.Proofs
theorem Lh:eG.get 139=some zY:=by kernel_rfl
theorem HL:ei 139=none:=by kernel_rfl
def SA (_a0:Row fM) (v:AV):Prop:=∃ r0:Int,(True)∧v=iv r0
theorem t139 (a0:Row fM)  (h:bY):∃ v,eH cfg eG.get ei false 139 [Row.av fM.cells a0] h v h∧SA a0 v:=by
 refine eW HL Lh rfl rfl ?_
 refine aO ?_
 have hL1:=a0.lk
 refine fA a0 ?_
 refine fW ((a0.l.length:Int)) (4) (fun h2=>?_) (fun h2=>?_)
 refine be ?_
 exact xA (iv 3) ⟨(3),trivial,rfl⟩
 refine az ?_
 refine w0 [(0,Row.av fM.cells a0)] [] ?_
 refine ak ?_
 have hL3:=a0.lk
 refine fA a0 ?_
 refine aP ?_
 have hNk4:=a0.lk
 refine eN (a0.l.length) (fun k4 e h=>proj [0,10,11,12] e=[(0,Row.av fM.cells a0),(10,Row.av fM.cells a0),(11,iv (a0.l.length:Int)),(12,iv (k4:Int))]∧{ h with dO:=eV [0,10,11,12] h.dO } = { bY.empty with dO:=[] }) ?_ (k0:=0) cB ⟨rfl,rfl⟩
 rintro k4 e h hkk4 ⟨he,hh⟩
 refine ff he hh ?_
 clear he hh
 refine aa ?_
 refine fg ((k4:Int)) ((a0.l.length:Int)) (fun h5=>?_) (fun h5=>?_)
 refine ao ?_
 refine w0 [(0,Row.av fM.cells a0),(10,Row.av fM.cells a0),(11,iv (a0.l.length:Int)),(12,iv (k4:Int))] [] ?_
 refine bg ?_
 have hx6:k4<a0.l.length:=by omega
 refine gL k4 a0 hx6 ?_
 generalize hqx7:a0.l[k4]=x7
 refine aW ?_
 refine aj ?_
 refine oC (t202 x7) ?_
 rintro _ ⟨r9,hc8,rfl⟩
 cases r9
 refine ai ?_
 exact xA (iv 1) ⟨(1),trivial,rfl⟩
 refine aw ?_
 refine w0 [(0,Row.av fM.cells a0),(10,Row.av fM.cells a0),(11,iv (a0.l.length:Int)),(12,iv (k4:Int))] [] ?_
 refine qg ?_
 refine fu ((k4:Int)) (1) ?_
 refine ab ?_
 exact ⟨by omega,rfl,rfl⟩
 refine am ?_
 refine w0 [(0,Row.av fM.cells a0)] [] ?_
 refine ak ?_
 have hL10:=a0.lk
 refine fA a0 ?_
 refine aP ?_
 have hNk11:=a0.lk
 refine eN (a0.l.length) (fun k11 e h=>proj [0,20,21,22] e=[(0,Row.av fM.cells a0),(20,Row.av fM.cells a0),(21,iv (a0.l.length:Int)),(22,iv (k11:Int))]∧{ h with dO:=eV [0,20,21,22] h.dO } = { bY.empty with dO:=[] }) ?_ (k0:=0) cB ⟨rfl,rfl⟩
 rintro k11 e h hkk11 ⟨he,hh⟩
 refine ff he hh ?_
 clear he hh
 refine aa ?_
 refine fg ((k11:Int)) ((a0.l.length:Int)) (fun h12=>?_) (fun h12=>?_)
 refine ao ?_
 refine w0 [(0,Row.av fM.cells a0),(20,Row.av fM.cells a0),(21,iv (a0.l.length:Int)),(22,iv (k11:Int))] [] ?_
 refine bE ?_
 have hx13:k11<a0.l.length:=by omega
 refine gL k11 a0 hx13 ?_
 generalize hqx14:a0.l[k11]=x14
 refine bF ?_
 refine aF ?_
 refine oC (t203 a0 x14.name) ?_
 rintro _ ⟨r16,hc15,rfl⟩
 refine oV ?_
 refine gK (r16) ((k11:Int)) (fun h17=>?_) (fun h17=>?_)
 refine be ?_
 exact xA (iv 4) ⟨(4),trivial,rfl⟩
 refine az ?_
 refine w0 [(0,Row.av fM.cells a0),(20,Row.av fM.cells a0),(21,iv (a0.l.length:Int)),(22,iv (k11:Int))] [] ?_
 refine qg ?_
 refine fu ((k11:Int)) (1) ?_
 refine ab ?_
 exact ⟨by omega,rfl,rfl⟩
 refine am ?_
 refine w0 [] [] ?_
 refine a6 ?_
 exact xA (iv 0) ⟨(0),trivial,rfl⟩
theorem MV:eG.get 72=some Dk:=by kernel_rfl
theorem Km:ei 72=none:=by kernel_rfl
def WK (_a0:eb) (_a1:Row fM) (v:AV):Prop:=∃ r0:Int,(True)∧v=iv r0
theorem t72 (a0:eb) (a1:Row fM)  (h:bY):∃ v,eH cfg eG.get ei false 72 [.agg (eb.cells a0),Row.av fM.cells a1] h v h∧WK a0 a1 v:=by
 refine eW Km MV rfl rfl ?_
 refine aU ?_
 refine ak ?_
 refine oC (t139 a1) ?_
 rintro _ ⟨r2,hc1,rfl⟩
 refine ce ?_
 refine gK (r2) (0) (fun h3=>?_) (fun h3=>?_)
 refine bW ?_
 exact xA (iv r2) ⟨(r2),trivial,rfl⟩
 refine az ?_
 refine w0 [(1,Row.av fM.cells a1),(2,.la 2 0)] [(2,(eb.cells a0))] ?_
 refine ak ?_
 have hL4:=a1.lk
 refine fA a1 ?_
 refine aP ?_
 have hNk5:=a1.lk
 refine eN (a1.l.length) (fun k5 e h=>proj [2,13,14,15] e=[(2,.la 2 0),(13,Row.av fM.cells a1),(14,iv (a1.l.length:Int)),(15,iv (k5:Int))]∧{ h with dO:=eV [2,13,14,15] h.dO } = { bY.empty with dO:=[(2,(eb.cells a0))] }) ?_ (k0:=0) cB ⟨rfl,rfl⟩
 rintro k5 e h hkk5 ⟨he,hh⟩
 refine ff he hh ?_
 clear he hh
 refine aa ?_
 refine fg ((k5:Int)) ((a1.l.length:Int)) (fun h6=>?_) (fun h6=>?_)
 refine ao ?_
 refine w0 [(2,.la 2 0),(13,Row.av fM.cells a1),(14,iv (a1.l.length:Int)),(15,iv (k5:Int))] [(2,(eb.cells a0))] ?_
 refine bg ?_
 have hx7:k5<a1.l.length:=by omega
 refine gL k5 a1 hx7 ?_
 generalize hqx8:a1.l[k5]=x8
 refine aW ?_
 refine aG ?_
 refine fW (x8.top) (a0.top) (fun h9=>?_) (fun h9=>?_)
 refine bf ?_
 refine ai ?_
 exact xA (iv 9) ⟨(9),trivial,rfl⟩
 iterate 5 refine oV ?_
 refine fg (x8.gd) (a0.gd) (fun h10=>?_) (fun h10=>?_)
 refine ai ?_
 exact xA (iv 9) ⟨(9),trivial,rfl⟩
 refine aw ?_
 refine w0 [(2,.la 2 0),(13,Row.av fM.cells a1),(14,iv (a1.l.length:Int)),(15,iv (k5:Int))] [(2,(eb.cells a0))] ?_
 refine qg ?_
 refine fu ((k5:Int)) (1) ?_
 refine ab ?_
 exact ⟨by omega,rfl,rfl⟩
 refine am ?_
 refine w0 [] [] ?_
 refine a6 ?_
 exact xA (iv 0) ⟨(0),trivial,rfl⟩
theorem OI:eG.get 73=some CA:=by kernel_rfl
theorem LG:ei 73=none:=by kernel_rfl
def Xg (_a0:Int) (_a1:Int) (_a2:Int) (v:AV):Prop:=∃ r0:Bool,((r0=true→_a1≤_a0∧_a0≤_a2))∧v=.bool r0
theorem t73 (a0:Int) (a1:Int) (a2:Int)  (h:bY):∃ v,eH cfg eG.get ei false 73 [iv a0,iv a1,iv a2] h v h∧Xg a0 a1 a2 v:=by
 refine eW LG OI rfl rfl ?_
 refine aQ ?_
 refine ae ?_
 refine gV (a0) (a1) (fun h1=>?_) (fun h1=>?_)
 iterate 3 refine oV ?_
 refine o3 (a0) (a2) (fun h2=>?_) (fun h2=>?_)
 refine aV ?_
 exact xA (.bool true) ⟨true,cQ,rfl⟩
 refine aV ?_
 exact xA (.bool false) ⟨false,cQ,rfl⟩
 refine bB ?_
 refine aV ?_
 exact xA (.bool false) ⟨false,cQ,rfl⟩
theorem Mi:eG.get 15=some Da:=by kernel_rfl
theorem IX:ei 15=none:=by kernel_rfl
def WG (_a0:eb) (_a1:Int) (v:AV):Prop:=∃ r0:Int,(r0=jG _a0 _a1)∧v=iv r0
theorem t15 (a0:eb) (a1:Int)  (h:bY):∃ v,eH cfg eG.get ei false 15 [.agg (eb.cells a0),iv a1] h v h∧WG a0 a1 v:=by
 refine eW IX Mi rfl rfl ?_
 refine aU ?_
 refine ae ?_
 refine oC (t41 a0 (a1)) ?_
 rintro _ ⟨r2,hc1,rfl⟩
 refine ag ?_
 exact xA (iv r2) ⟨(r2),cC,rfl⟩
theorem Qu:eG.get 75=some Ci:=by kernel_rfl
theorem J9:ei 75=none:=by kernel_rfl
def V4 (_a0:eb) (_a1:Row fY) (v:AV):Prop:=∃ r0:Bool,(True)∧v=.bool r0
theorem t75 (a0:eb) (a1:Row fY)  (h:bY):∃ v,eH cfg eG.get ei false 75 [.agg (eb.cells a0),Row.av fY.cells a1] h v h∧V4 a0 a1 v:=by
 refine eW J9 Qu rfl rfl ?_
 refine aU ?_
 refine aO ?_
 have hL1:=a1.lk
 refine fA a1 ?_
 refine aP ?_
 have hNk2:=a1.lk
 refine eN (a1.l.length) (fun k2 e h=>∃ n3:Int,proj [2,5,8,9,10] e=[(2,.la 2 0),(5,iv n3),(8,Row.av fY.cells a1),(9,iv (a1.l.length:Int)),(10,iv (k2:Int))]∧{ h with dO:=eV [2,5,8,9,10] h.dO } = { bY.empty with dO:=[(2,(eb.cells a0))] }) ?_ (k0:=0) cB ⟨(0),rfl,rfl⟩
 rintro k2 e h hkk2 ⟨n3,he,hh⟩
 refine ff he hh ?_
 clear he hh
 refine aa ?_
 refine fg ((k2:Int)) ((a1.l.length:Int)) (fun h4=>?_) (fun h4=>?_)
 refine ao ?_
 refine w0 [(2,.la 2 0),(5,iv n3),(8,Row.av fY.cells a1),(9,iv (a1.l.length:Int)),(10,iv (k2:Int))] [(2,(eb.cells a0))] ?_
 refine bg ?_
 have hx5:k2<a1.l.length:=by omega
 refine gL k2 a1 hx5 ?_
 generalize hqx6:a1.l[k2]=x6
 refine aW ?_
 refine aB ?_
 refine oC (t73 (x6.at_) (n3) (2000)) ?_
 rintro _ ⟨r8,hc7,rfl⟩
 cases r8
 clear hc7
 refine ai ?_
 exact xA (.bool false) ⟨false,trivial,rfl⟩
 have hc7t:=hc7 rfl
 refine aw ?_
 refine w0 [(2,.la 2 0),(7,.la 7 0),(8,Row.av fY.cells a1),(9,iv (a1.l.length:Int)),(10,iv (k2:Int))] [(2,(eb.cells a0)),(7,(fY.cells x6))] ?_
 refine aa ?_
 refine cg ?_
 refine bP ?_
 refine fj (x6.end_) (1) (fun h9=>?_) (fun h9=>?_)
 refine aC ?_
 refine aG ?_
 have hL10:=a0.signals.lk
 refine fA a0.signals ?_
 have hL11:=a0.signals.lk
 refine g7 ((a0.signals.l.length:Int)) (1) ?_
 refine oC (t73 (x6.to) (0) ((a0.signals.l.length:Int) - 1)) ?_
 rintro _ ⟨r13,hc12,rfl⟩
 cases r13
 clear hc12
 refine ai ?_
 exact xA (.bool false) ⟨false,trivial,rfl⟩
 have hc12t:=hc12 rfl
 refine aw ?_
 refine w0 [(2,.la 2 0),(5,iv x6.at_),(8,Row.av fY.cells a1),(9,iv (a1.l.length:Int)),(10,iv (k2:Int))] [(2,(eb.cells a0))] ?_
 refine qg ?_
 refine fu ((k2:Int)) (1) ?_
 refine ab ?_
 exact ⟨by omega,(x6.at_),rfl,rfl⟩
 refine aS ?_
 refine fj (x6.end_) (2) (fun h14=>?_) (fun h14=>?_)
 refine aC ?_
 refine aF ?_
 refine oC (t15 a0 (x6.to)) ?_
 rintro _ ⟨r16,hc15,rfl⟩
 have hK:=hc15
 refine gK (r16) (4) (fun h17=>?_) (fun h17=>?_)
 refine be ?_
 exact xA (.bool false) ⟨false,trivial,rfl⟩
 refine az ?_
 refine w0 [(2,.la 2 0),(5,iv x6.at_),(8,Row.av fY.cells a1),(9,iv (a1.l.length:Int)),(10,iv (k2:Int))] [(2,(eb.cells a0))] ?_
 refine qg ?_
 refine fu ((k2:Int)) (1) ?_
 refine ab ?_
 exact ⟨by omega,(x6.at_),rfl,rfl⟩
 refine aS ?_
 refine fj (x6.end_) (3) (fun h18=>?_) (fun h18=>?_)
 refine aC ?_
 refine aF ?_
 refine oC (t15 a0 (x6.to)) ?_
 rintro _ ⟨r20,hc19,rfl⟩
 have hK:=hc19
 refine gK (r20) (1) (fun h21=>?_) (fun h21=>?_)
 refine be ?_
 exact xA (.bool false) ⟨false,trivial,rfl⟩
 refine az ?_
 refine w0 [(2,.la 2 0),(5,iv x6.at_),(8,Row.av fY.cells a1),(9,iv (a1.l.length:Int)),(10,iv (k2:Int))] [(2,(eb.cells a0))] ?_
 refine qg ?_
 refine fu ((k2:Int)) (1) ?_
 refine ab ?_
 exact ⟨by omega,(x6.at_),rfl,rfl⟩
 refine aS ?_
 refine ag ?_
 exact xA (.bool false) ⟨false,trivial,rfl⟩
 refine am ?_
 refine w0 [] [] ?_
 refine a6 ?_
 exact xA (.bool true) ⟨true,trivial,rfl⟩
theorem Nt:eG.get 35=some C0:=by kernel_rfl
theorem LH:ei 35=none:=by kernel_rfl
def V0 (_a0:eb) (_a1:eS) (v:AV):Prop:=∃ r0:Int,((r0=0→ot _a1))∧v=iv r0
theorem t35 (a0:eb) (a1:eS)  (h:bY):∃ v,eH cfg eG.get ei false 35 [.agg (eb.cells a0),.agg (eS.cells a1)] h v h∧V0 a0 a1 v:=by
 refine eW LH Nt rfl rfl ?_
 have hqb:=a1.fy.ok
 simp only [lO] at hqb
 refine ae ?_
 refine bX ?_
 have hL1:=a1.runs.lk
 refine fA a1.runs ?_
 refine fW ((a1.runs.l.length:Int)) (8) (fun h2=>?_) (fun h2=>?_)
 refine be ?_
 exact xA (iv 3) ⟨(3),cW,rfl⟩
 refine az ?_
 refine w0 [(2,.la 2 0),(3,.la 3 0)] [(2,(eb.cells a0)),(3,(eS.cells a1))] ?_
 refine aI ?_
 have hL3:=a1.runs.lk
 refine fA a1.runs ?_
 refine aP ?_
 have hNk4:=a1.runs.lk
 refine eN (a1.runs.l.length) (fun k4 e h=>(∀ (i:Nat) (h:i<a1.runs.l.length),i<k4→(a1.runs.l[i]).fK.l.length≤12)∧proj [2,3,19,20,21] e=[(2,.la 2 0),(3,.la 3 0),(19,Row.av gj.cells a1.runs),(20,iv (a1.runs.l.length:Int)),(21,iv (k4:Int))]∧{ h with dO:=eV [2,3,19,20,21] h.dO } = { bY.empty with dO:=[(2,(eb.cells a0)),(3,(eS.cells a1))] }) ?_ (k0:=0) cB ⟨dM,rfl,rfl⟩
 rintro k4 e h hkk4 ⟨hA,he,hh⟩
 refine ff he hh ?_
 clear he hh
 refine aa ?_
 refine fg ((k4:Int)) ((a1.runs.l.length:Int)) (fun h5=>?_) (fun h5=>?_)
 refine ao ?_
 refine w0 [(2,.la 2 0),(3,.la 3 0),(19,Row.av gj.cells a1.runs),(20,iv (a1.runs.l.length:Int)),(21,iv (k4:Int))] [(2,(eb.cells a0)),(3,(eS.cells a1))] ?_
 refine bg ?_
 have hx6:k4<a1.runs.l.length:=by omega
 refine gL k4 a1.runs hx6 ?_
 generalize hqx7:a1.runs.l[k4]=x7
 refine cg ?_
 have hL8:=x7.fK.lk
 refine fA x7.fK ?_
 refine fW ((x7.fK.l.length:Int)) (12) (fun h9=>?_) (fun h9=>?_)
 refine be ?_
 exact xA (iv 3) ⟨(3),cW,rfl⟩
 refine az ?_
 refine w0 [(2,.la 2 0),(3,.la 3 0),(19,Row.av gj.cells a1.runs),(20,iv (a1.runs.l.length:Int)),(21,iv (k4:Int))] [(2,(eb.cells a0)),(3,(eS.cells a1))] ?_
 refine qg ?_
 refine fu ((k4:Int)) (1) ?_
 refine ab ?_
 exact ⟨by omega,(by exact uP (P:=fun r:gj=>r.fK.l.length≤12) cC hA cB),rfl,rfl⟩
 refine am ?_
 refine w0 [(2,.la 2 0),(3,.la 3 0)] [(2,(eb.cells a0)),(3,(eS.cells a1))] ?_
 refine aB ?_
 refine oC (t72 a0 a1.fy) ?_
 rintro _ ⟨r11,hc10,rfl⟩
 refine ce ?_
 refine gK (r11) (0) (fun h12=>?_) (fun h12=>?_)
 refine bW ?_
 exact xA (iv r11) ⟨(r11),cW,rfl⟩
 refine az ?_
 refine w0 [(2,.la 2 0),(3,.la 3 0)] [(2,(eb.cells a0)),(3,(eS.cells a1))] ?_
 refine aI ?_
 refine oC (t73 (a1.xa) (0) (86399)) ?_
 rintro _ ⟨r14,hc13,rfl⟩
 cases r14
 clear hc13
 refine ai ?_
 exact xA (iv 1) ⟨(1),cW,rfl⟩
 have hc13t:=hc13 rfl
 refine aw ?_
 refine w0 [(2,.la 2 0),(3,.la 3 0)] [(2,(eb.cells a0)),(3,(eS.cells a1))] ?_
 refine aI ?_
 have hL15:=a1.runs.lk
 refine fA a1.runs ?_
 refine aP ?_
 have hNk16:=a1.runs.lk
 refine eN (a1.runs.l.length) (fun k16 e h=>(∀ (i:Nat) (h:i<a1.runs.l.length),i<k16→0≤(a1.runs.l[i]).fy∧(a1.runs.l[i]).fy<(a1.fy.l.length:Int))∧proj [2,3,42,43,44] e=[(2,.la 2 0),(3,.la 3 0),(42,Row.av gj.cells a1.runs),(43,iv (a1.runs.l.length:Int)),(44,iv (k16:Int))]∧{ h with dO:=eV [2,3,42,43,44] h.dO } = { bY.empty with dO:=[(2,(eb.cells a0)),(3,(eS.cells a1))] }) ?_ (k0:=0) cB ⟨dM,rfl,rfl⟩
 rintro k16 e h hkk16 ⟨hB,he,hh⟩
 refine ff he hh ?_
 clear he hh
 refine aa ?_
 refine fg ((k16:Int)) ((a1.runs.l.length:Int)) (fun h17=>?_) (fun h17=>?_)
 refine ao ?_
 refine w0 [(2,.la 2 0),(3,.la 3 0),(42,Row.av gj.cells a1.runs),(43,iv (a1.runs.l.length:Int)),(44,iv (k16:Int))] [(2,(eb.cells a0)),(3,(eS.cells a1))] ?_
 refine bg ?_
 have hx18:k16<a1.runs.l.length:=by omega
 refine gL k16 a1.runs hx18 ?_
 generalize hqx19:a1.runs.l[k16]=x19
 refine cg ?_
 refine oC (t74 x19.name) ?_
 rintro _ ⟨r21,hc20,rfl⟩
 cases r21
 refine bU ?_
 refine bU ?_
 refine aJ ?_
 refine b5 ?_
 exact xA (iv 1) ⟨(1),cW,rfl⟩
 iterate 6 refine oV ?_
 have hL22:=a1.fy.lk
 refine fA a1.fy ?_
 have hL23:=a1.fy.lk
 refine g7 ((a1.fy.l.length:Int)) (1) ?_
 refine oC (t73 (x19.fy) (0) ((a1.fy.l.length:Int) - 1)) ?_
 rintro _ ⟨r25,hc24,rfl⟩
 cases r25
 clear hc24
 refine oV ?_
 refine bU ?_
 refine aJ ?_
 refine b5 ?_
 exact xA (iv 1) ⟨(1),cW,rfl⟩
 have hc24t:=hc24 rfl
 iterate 7 refine oV ?_
 have hL26:=a0.signals.lk
 refine fA a0.signals ?_
 have hL27:=a0.signals.lk
 refine g7 ((a0.signals.l.length:Int)) (1) ?_
 refine oC (t73 (x19.from_) (0) ((a0.signals.l.length:Int) - 1)) ?_
 rintro _ ⟨r29,hc28,rfl⟩
 cases r29
 clear hc28
 refine oV ?_
 refine aJ ?_
 refine b5 ?_
 exact xA (iv 1) ⟨(1),cW,rfl⟩
 have hc28t:=hc28 rfl
 iterate 5 refine oV ?_
 refine oC (t73 (x19.left) (0) (4000)) ?_
 rintro _ ⟨r31,hc30,rfl⟩
 cases r31
 clear hc30
 refine oV ?_
 refine b5 ?_
 exact xA (iv 1) ⟨(1),cW,rfl⟩
 have hc30t:=hc30 rfl
 iterate 6 refine oV ?_
 refine oC (t75 a0 x19.fK) ?_
 rintro _ ⟨r33,hc32,rfl⟩
 cases r33
 refine a8 ?_
 exact xA (iv 1) ⟨(1),cW,rfl⟩
 refine bv ?_
 refine w0 [(2,.la 2 0),(3,.la 3 0),(42,Row.av gj.cells a1.runs),(43,iv (a1.runs.l.length:Int)),(44,iv (k16:Int))] [(2,(eb.cells a0)),(3,(eS.cells a1))] ?_
 refine qg ?_
 refine fu ((k16:Int)) (1) ?_
 refine ab ?_
 exact ⟨by omega,(by exact uP (P:=fun r:gj=>0≤r.fy∧r.fy<(a1.fy.l.length:Int)) cC hB cB),rfl,rfl⟩
 refine am ?_
 refine w0 [(3,.la 3 0)] [(3,(eS.cells a1))] ?_
 refine aI ?_
 have hL34:=a1.runs.lk
 refine fA a1.runs ?_
 refine aP ?_
 have hNk35:=a1.runs.lk
 refine eN (a1.runs.l.length) (fun k35 e h=>proj [3,87,88,89] e=[(3,.la 3 0),(87,Row.av gj.cells a1.runs),(88,iv (a1.runs.l.length:Int)),(89,iv (k35:Int))]∧{ h with dO:=eV [3,87,88,89] h.dO } = { bY.empty with dO:=[(3,(eS.cells a1))] }) ?_ (k0:=0) cB ⟨rfl,rfl⟩
 rintro k35 e h hkk35 ⟨he,hh⟩
 refine ff he hh ?_
 clear he hh
 refine aa ?_
 refine fg ((k35:Int)) ((a1.runs.l.length:Int)) (fun h36=>?_) (fun h36=>?_)
 refine ao ?_
 refine w0 [(3,.la 3 0),(87,Row.av gj.cells a1.runs),(88,iv (a1.runs.l.length:Int)),(89,iv (k35:Int))] [(3,(eS.cells a1))] ?_
 refine bE ?_
 have hx37:k35<a1.runs.l.length:=by omega
 refine gL k35 a1.runs hx37 ?_
 generalize hqx38:a1.runs.l[k35]=x38
 refine bF ?_
 refine aF ?_
 have hx39:k35≤a1.runs.l.length:=by omega
 refine eg rfl (fun _=>CT (k:=k35) (r:=a1.runs) (enc:=gj.cells) (n:=5) rfl rfl rfl rfl rfl rfl hx39 (fun _=>rfl)) ?_
 have hL40:=(Row.take a1.runs k35).lk
 refine fA ((Row.take a1.runs k35)) ?_
 refine aP ?_
 have hNk41:=(Row.take a1.runs k35).lk
 refine eN ((Row.take a1.runs k35).l.length) (fun k41 e h=>proj [3,11,87,88,89,97,98,99] e=[(3,.la 3 0),(11,.la 11 0),(87,Row.av gj.cells a1.runs),(88,iv (a1.runs.l.length:Int)),(89,iv (k35:Int)),(97,Row.av gj.cells (Row.take a1.runs k35)),(98,iv ((Row.take a1.runs k35).l.length:Int)),(99,iv (k41:Int))]∧{ h with dO:=eV [3,11,87,88,89,97,98,99] h.dO } = { bY.empty with dO:=[(3,(eS.cells a1)),(11,(gj.cells x38))] }) ?_ (k0:=0) cB ⟨rfl,rfl⟩
 rintro k41 e h hkk41 ⟨he,hh⟩
 refine ff he hh ?_
 clear he hh
 refine aa ?_
 refine fg ((k41:Int)) (((Row.take a1.runs k35).l.length:Int)) (fun h42=>?_) (fun h42=>?_)
 refine ao ?_
 refine w0 [(3,.la 3 0),(11,.la 11 0),(87,Row.av gj.cells a1.runs),(88,iv (a1.runs.l.length:Int)),(89,iv (k35:Int)),(97,Row.av gj.cells (Row.take a1.runs k35)),(98,iv ((Row.take a1.runs k35).l.length:Int)),(99,iv (k41:Int))] [(3,(eS.cells a1)),(11,(gj.cells x38))] ?_
 refine bg ?_
 have hx43:k41<(Row.take a1.runs k35).l.length:=by omega
 refine gL k41 ((Row.take a1.runs k35)) hx43 ?_
 generalize hqx44:(Row.take a1.runs k35).l[k41]=x44
 refine aW ?_
 refine aG ?_
 refine jA rfl (fun _=>rI rfl rfl) (fun h45=>?_) (fun h45=>?_)
 refine be ?_
 exact xA (iv 4) ⟨(4),cW,rfl⟩
 refine az ?_
 refine w0 [(3,.la 3 0),(11,.la 11 0),(87,Row.av gj.cells a1.runs),(88,iv (a1.runs.l.length:Int)),(89,iv (k35:Int)),(97,Row.av gj.cells (Row.take a1.runs k35)),(98,iv ((Row.take a1.runs k35).l.length:Int)),(99,iv (k41:Int))] [(3,(eS.cells a1)),(11,(gj.cells x38))] ?_
 refine qg ?_
 refine fu ((k41:Int)) (1) ?_
 refine ab ?_
 exact ⟨by omega,rfl,rfl⟩
 refine am ?_
 refine w0 [(3,.la 3 0),(87,Row.av gj.cells a1.runs),(88,iv (a1.runs.l.length:Int)),(89,iv (k35:Int))] [(3,(eS.cells a1))] ?_
 refine qg ?_
 refine fu ((k35:Int)) (1) ?_
 refine ab ?_
 exact ⟨by omega,rfl,rfl⟩
 refine am ?_
 refine w0 [] [] ?_
 refine a6 ?_
 exact xA (iv 0) ⟨(0),cW,rfl⟩
theorem Nq:eG.get 36=some DA:=by kernel_rfl
theorem Kh:ei 36=none:=by kernel_rfl
def Wy (_a0:eb) (v:AV):Prop:=(∃ r0:eE,(rF r0 _a0∧iY _a0)∧v=.ip (eE.cells r0) 0 false)∨((True)∧v=.fS)
theorem t36 (a0:eb)  (h:bY):∃ v,eH cfg eG.get ei false 36 [.agg (eb.cells a0)] h v h∧Wy a0 v:=by
 refine eW Kh Nq rfl rfl ?_
 refine aU ?_
 refine ak ?_
 refine oC (t24 a0) ?_
 rintro _ ⟨r2,hc1,rfl⟩
 cases r2
 clear hc1
 refine ai ?_
 refine xA (.fS) (.inr (⟨trivial,rfl⟩))
 have hc1t:=hc1 rfl
 refine aw ?_
 refine w0 [(1,.la 1 0)] [(1,(eb.cells a0))] ?_
 refine aj ?_
 refine oC (t51 a0 cq) ?_
 rintro _ (⟨r4,hc3,rfl⟩ | ⟨r5,hc3,rfl⟩)
 have hFw:=hc3.EE; have hFs:=hc3.EE.signals; have hFl:=hc3.len
 refine bl ?_
 refine bL ?_
 refine bv ?_
 refine w0 [(3,.ip (eE.cells r4) 0 false)] [] ?_
 refine a9 ?_
 refine xF (.ip (eE.cells r4) 0 false) (.inl ⟨r4,(by first | assumption | exact ⟨by assumption,by assumption⟩),rfl⟩)
 refine bl ?_
 refine ak ?_
 refine gK (r5) (0) (fun h6=>?_) (fun h6=>?_)
 refine be ?_
 refine xA (.fS) (.inr (⟨trivial,rfl⟩))
 refine az ?_
 refine w0 [(3,.fS)] [] ?_
 refine a9 ?_
 refine xA (.fS) (.inr (⟨trivial,rfl⟩))
theorem PI:eG.get 13=some DI:=by kernel_rfl
theorem Kv:ei 13=none:=by kernel_rfl
def Wz (_a0:eb) (_a1:eS) (v:AV):Prop:=(∃ r0:gp,∃ r1:eE,(rF r1 _a0∧iY _a0∧ot _a1∧(∀ r∈(r0.roads.l:List eF),0<r.steps.l.length∧r.steps.l.length≤12∧r.gU.l.length≤12)∧r0.roads.l.length≤64)∧v=.eP [.agg (gp.cells r0),.ip (eE.cells r1) 0 false,.bool true])∨(∃ r0:gp,∃ r1:AV,(True)∧v=.eP [.agg (gp.cells r0),r1,.bool false])
theorem t13 (a0:eb) (a1:eS)  (h:bY):∃ v,eH cfg eG.get ei false 13 [.agg (eb.cells a0),.agg (eS.cells a1)] h v h∧Wz a0 a1 v:=by
 refine eW Kv PI rfl rfl ?_
 refine aa ?_
 refine bl ?_
 refine ak ?_
 refine oC (t34 a1) ?_
 rintro _ ⟨r2,hc1,rfl⟩
 cases r2
 refine bI ?_
 refine aJ ?_
 refine aC ?_
 refine bM ?_
 refine xF (.eP [.agg [.sl [] .nil,.sl [] .nil,.sl [] .nil,.sl [] .nil,iv 0,iv 0,iv 0,iv 0,.bool false,.sl [] .nil],.fS,.bool false]) (.inr (⟨((⟨(⟨(⟨[],.nil,Nat.zero_le _,rfl,fun _=>rfl⟩:Row e8),(⟨[],.nil,Nat.zero_le _,rfl,fun _=>rfl⟩:Row fo),(⟨[],.nil,Nat.zero_le _,rfl,fun _=>rfl⟩:Row fe),(⟨[],.nil,Nat.zero_le _,rfl,fun _=>rfl⟩:Row eZ),(0),(0),(0),(0),false⟩:eb),(⟨[],.nil,Nat.zero_le _,rfl,fun _=>rfl⟩:Row eF)⟩:gp)),.fS,trivial,rfl⟩))
 iterate 3 refine oV ?_
 refine oC (t24 a0) ?_
 rintro _ ⟨r4,hc3,rfl⟩
 cases r4
 clear hc3
 refine oV ?_
 refine aJ ?_
 refine aC ?_
 refine bM ?_
 refine xF (.eP [.agg [.sl [] .nil,.sl [] .nil,.sl [] .nil,.sl [] .nil,iv 0,iv 0,iv 0,iv 0,.bool false,.sl [] .nil],.fS,.bool false]) (.inr (⟨((⟨(⟨(⟨[],.nil,Nat.zero_le _,rfl,fun _=>rfl⟩:Row e8),(⟨[],.nil,Nat.zero_le _,rfl,fun _=>rfl⟩:Row fo),(⟨[],.nil,Nat.zero_le _,rfl,fun _=>rfl⟩:Row fe),(⟨[],.nil,Nat.zero_le _,rfl,fun _=>rfl⟩:Row eZ),(0),(0),(0),(0),false⟩:eb),(⟨[],.nil,Nat.zero_le _,rfl,fun _=>rfl⟩:Row eF)⟩:gp)),.fS,trivial,rfl⟩))
 have hc3t:=hc3 rfl
 iterate 5 refine oV ?_
 refine oC (t35 a0 a1) ?_
 rintro _ ⟨r6,hc5,rfl⟩
 have hC35:=hc5; have hPre:=fun (hz : _=(0:Int))=>ot.Sv (hc5 hz)
 refine gK (r6) (0) (fun h7=>?_) (fun h7=>?_)
 refine aC ?_
 refine bM ?_
 refine xF (.eP [.agg [.sl [] .nil,.sl [] .nil,.sl [] .nil,.sl [] .nil,iv 0,iv 0,iv 0,iv 0,.bool false,.sl [] .nil],.fS,.bool false]) (.inr (⟨((⟨(⟨(⟨[],.nil,Nat.zero_le _,rfl,fun _=>rfl⟩:Row e8),(⟨[],.nil,Nat.zero_le _,rfl,fun _=>rfl⟩:Row fo),(⟨[],.nil,Nat.zero_le _,rfl,fun _=>rfl⟩:Row fe),(⟨[],.nil,Nat.zero_le _,rfl,fun _=>rfl⟩:Row eZ),(0),(0),(0),(0),false⟩:eb),(⟨[],.nil,Nat.zero_le _,rfl,fun _=>rfl⟩:Row eF)⟩:gp)),.fS,trivial,rfl⟩))
 refine aw ?_
 refine w0 [(2,.la 2 0),(4,.la 4 0),(4,.la 4 0)] [(2,(eb.cells a0)),(4,[.sl [] .nil,.sl [] .nil,.sl [] .nil,.sl [] .nil,iv 0,iv 0,iv 0,iv 0,.bool false,.sl [] .nil]),(4,[.sl [] .nil,.sl [] .nil,.sl [] .nil,.sl [] .nil,iv 0,iv 0,iv 0,iv 0,.bool false,.sl [] .nil])] ?_
 refine aj ?_
 refine oC (t9 a0) ?_
 rintro _ ⟨r9,r10,hc8,rfl⟩
 cases r10
 clear hc8
 refine ca ?_
 refine oC (t36 a0) ?_
 rintro _ (⟨r12,hc11,rfl⟩ | ⟨hc11,rfl⟩)
 refine ab ?_
 refine ae ?_
 refine aL ?_
 refine bb ?_
 refine xF (.eP [.agg (gp.cells r9),.ip (eE.cells r12) 0 false,.bool false]) (.inr (⟨r9,(.ip (eE.cells r12) 0 false),trivial,rfl⟩))
 refine ab ?_
 refine ae ?_
 refine aL ?_
 refine bb ?_
 refine xF (.eP [.agg (gp.cells r9),.fS,.bool false]) (.inr (⟨r9,.fS,trivial,rfl⟩))
 have hc8t:=hc8 rfl
 refine ca ?_
 refine oC (t36 a0) ?_
 rintro _ (⟨r14,hc13,rfl⟩ | ⟨hc13,rfl⟩)
 have hN:=hc13.1; have hP:=hc13.2
 refine ce ?_
 iterate 5 refine oV ?_
 refine bb ?_
 refine xF (.eP [.agg (gp.cells r9),.ip (eE.cells r14) 0 false,.bool true]) (.inl ⟨r9,r14,dN,rfl⟩)
 refine ce ?_
 iterate 5 refine oV ?_
 refine bb ?_
 refine xF (.eP [.agg (gp.cells r9),.fS,.bool false]) (.inr (⟨r9,.fS,trivial,rfl⟩))
theorem OV:eG.get 76=some B6:=by kernel_rfl
theorem IK:ei 76=none:=by kernel_rfl
def Xo (_a0:eb) (_a1:Int) (v:AV):Prop:=∃ r0:ed,∃ r1:Bool,(((r1=true→iD _a0.signals.l _a1=some r0)∧(r1=false→iD _a0.signals.l _a1=none)))∧v=.eP [.agg (ed.cells r0),.bool r1]
theorem t76 (a0:eb) (a1:Int)  (h:bY):∃ v,eH cfg eG.get ei false 76 [.agg (eb.cells a0),iv a1] h v h∧Xo a0 a1 v:=by
 refine eW IK OV rfl rfl ?_
 refine bm ?_
 refine ak ?_
 refine fg (a1) (0) (fun h1=>?_) (fun h1=>?_)
 refine bf ?_
 refine bR ?_
 exact xF (.eP [.agg [iv 0,iv 0],.bool false]) ⟨(⟨(0),(0)⟩:ed),false,c7,rfl⟩
 iterate 4 refine oV ?_
 have hL2:=a0.signals.lk
 refine fA a0.signals ?_
 refine gV (a1) ((a0.signals.l.length:Int)) (fun h3=>?_) (fun h3=>?_)
 refine bR ?_
 exact xF (.eP [.agg [iv 0,iv 0],.bool false]) ⟨(⟨(0),(0)⟩:ed),false,c7,rfl⟩
 refine aw ?_
 refine w0 [(1,iv a1),(2,.la 2 0),(4,.la 4 0),(4,.la 4 0)] [(2,(eb.cells a0)),(4,[iv 0,iv 0]),(4,[iv 0,iv 0])] ?_
 refine aF ?_
 have hx4:(a1).toNat<a0.signals.l.length:=by omega
 refine eg rfl (fun _=>fE (n:=a1) (r:=a0.signals) (enc:=fe.cells) rfl rfl rfl rfl rfl cB hx4 rfl) ?_
 generalize hqx5:a0.signals.l[(a1).toNat]=x5
 refine bb ?_
 exact xF (.eP [.agg (ed.cells x5.at_),.bool true]) ⟨x5.at_,true,c7,rfl⟩
theorem OE:eG.get 37=some Ck:=by kernel_rfl
theorem KU:ei 37=none:=by kernel_rfl
def Wj (_a0:eb) (_a1:eS) (_a2:Int) (v:AV):Prop:=∃ r0:gP,∃ r1:Bool,(True)∧v=.eP [.agg (gP.cells r0),.bool r1]
theorem t37 (a0:eb) (a1:eS) (a2:Int)  (h:bY):∃ v,eH cfg eG.get ei false 37 [.agg (eb.cells a0),.agg (eS.cells a1),iv a2] h v h∧Wj a0 a1 a2 v:=by
 refine eW KU OE rfl rfl ?_
 refine aa ?_
 refine bF ?_
 refine ak ?_
 refine fg (a2) (0) (fun h1=>?_) (fun h1=>?_)
 refine bf ?_
 refine bR ?_
 exact xF (.eP [.agg [.str ([]),iv 0,iv 0,iv 0,iv 0],.bool false]) ⟨(⟨(⟨[],by decide⟩:jd),(0),(⟨(0),(0)⟩:ed),(0)⟩:gP),false,trivial,rfl⟩
 iterate 4 refine oV ?_
 have hL2:=a1.runs.lk
 refine fA a1.runs ?_
 refine gV (a2) ((a1.runs.l.length:Int)) (fun h3=>?_) (fun h3=>?_)
 refine bR ?_
 exact xF (.eP [.agg [.str ([]),iv 0,iv 0,iv 0,iv 0],.bool false]) ⟨(⟨(⟨[],by decide⟩:jd),(0),(⟨(0),(0)⟩:ed),(0)⟩:gP),false,trivial,rfl⟩
 refine aw ?_
 refine w0 [(2,iv a2),(3,.la 3 0),(4,.la 4 0),(6,.la 6 0),(6,.la 6 0)] [(3,(eb.cells a0)),(4,(eS.cells a1)),(6,[.str ([]),iv 0,iv 0,iv 0,iv 0]),(6,[.str ([]),iv 0,iv 0,iv 0,iv 0])] ?_
 refine aF ?_
 have hx4:(a2).toNat<a1.runs.l.length:=by omega
 refine eg rfl (fun _=>fE (n:=a2) (r:=a1.runs) (enc:=gj.cells) rfl rfl rfl rfl rfl cB hx4 rfl) ?_
 generalize hqx5:a1.runs.l[(a2).toNat]=x5
 refine aW ?_
 refine aF ?_
 refine oC (t76 a0 (x5.from_)) ?_
 rintro _ ⟨r7,r8,hc6,rfl⟩
 have hA:=hc6
 cases r8
 refine au ?_
 refine aG ?_
 refine au ?_
 refine aB ?_
 refine oC (t15 a0 (r7.elem)) ?_
 rintro _ ⟨r10,hc9,rfl⟩
 have hK:=hc9
 refine fj (r10) (4) (fun h11=>?_) (fun h11=>?_)
 refine ay ?_
 refine qg ?_
 refine ah ?_
 refine w0 [(6,.la 6 0),(6,.la 6 0),(11,.la 11 0)] [(6,[.str ([]),iv 0,iv 0,iv 0,iv 0]),(6,[.str ([]),iv 0,iv 0,iv 0,iv 0]),(11,[.str (x5.name.l),iv x5.fy,iv r7.elem,iv r7.en,iv 0])] ?_
 refine a7 ?_
 exact xF (.eP [.agg [.str (x5.name.l),iv x5.fy,iv r7.elem,iv r7.en,iv 0],.bool true]) ⟨(⟨x5.name,(x5.fy),r7,(0)⟩:gP),true,trivial,rfl⟩
 refine az ?_
 refine w0 [(6,.la 6 0),(6,.la 6 0),(11,.la 11 0)] [(6,[.str ([]),iv 0,iv 0,iv 0,iv 0]),(6,[.str ([]),iv 0,iv 0,iv 0,iv 0]),(11,[.str (x5.name.l),iv x5.fy,iv r7.elem,iv r7.en,iv x5.left])] ?_
 refine a7 ?_
 exact xF (.eP [.agg [.str (x5.name.l),iv x5.fy,iv r7.elem,iv r7.en,iv x5.left],.bool true]) ⟨(⟨x5.name,(x5.fy),r7,(x5.left)⟩:gP),true,trivial,rfl⟩
 refine au ?_
 refine aG ?_
 refine au ?_
 refine aB ?_
 refine oC (t15 a0 (r7.elem)) ?_
 rintro _ ⟨r13,hc12,rfl⟩
 have hK:=hc12
 refine fj (r13) (4) (fun h14=>?_) (fun h14=>?_)
 refine ay ?_
 refine qg ?_
 refine ah ?_
 refine w0 [(6,.la 6 0),(6,.la 6 0),(11,.la 11 0)] [(6,[.str ([]),iv 0,iv 0,iv 0,iv 0]),(6,[.str ([]),iv 0,iv 0,iv 0,iv 0]),(11,[.str (x5.name.l),iv x5.fy,iv r7.elem,iv r7.en,iv 0])] ?_
 refine a7 ?_
 exact xF (.eP [.agg [.str (x5.name.l),iv x5.fy,iv r7.elem,iv r7.en,iv 0],.bool true]) ⟨(⟨x5.name,(x5.fy),r7,(0)⟩:gP),true,trivial,rfl⟩
 refine az ?_
 refine w0 [(6,.la 6 0),(6,.la 6 0),(11,.la 11 0)] [(6,[.str ([]),iv 0,iv 0,iv 0,iv 0]),(6,[.str ([]),iv 0,iv 0,iv 0,iv 0]),(11,[.str (x5.name.l),iv x5.fy,iv r7.elem,iv r7.en,iv x5.left])] ?_
 refine a7 ?_
 exact xF (.eP [.agg [.str (x5.name.l),iv x5.fy,iv r7.elem,iv r7.en,iv x5.left],.bool true]) ⟨(⟨x5.name,(x5.fy),r7,(x5.left)⟩:gP),true,trivial,rfl⟩
theorem Mn:eG.get 38=some Dd:=by kernel_rfl
theorem K9:ei 38=none:=by kernel_rfl
def Xi (_a0:eb) (_a1:Int) (_a2:gP) (v:AV):Prop:=∃ r0:fi,∃ r1:Int,(True)∧v=.eP [.agg (fi.cells r0),iv r1]
theorem t38 (a0:eb) (a1:Int) (a2:gP)  (h:bY):∃ v,eH cfg eG.get ei false 38 [.agg (eb.cells a0),iv a1,.agg (gP.cells a2)] h v h∧Xi a0 a1 a2 v:=by
 refine eW K9 Mn rfl rfl ?_
 refine aa ?_
 refine bF ?_
 refine aG ?_
 refine oC (t15 a0 (a2.at_.elem)) ?_
 rintro _ ⟨r2,hc1,rfl⟩
 have hK:=hc1
 refine ab ?_
 refine qs ?_
 refine aN ?_
 refine rV ?_
 refine j8 (a1) (1) (fun h3=>?_) (fun h3=>?_)
 refine rV ?_
 iterate 2 refine rS ?_
 refine bp ?_
 iterate 2 refine rV ?_
 iterate 4 refine rS ?_
 refine bp ?_
 refine bG ?_
 refine a7 ?_
 exact xF (.eP [.agg [iv 0,.sl [] .nil,iv 0,iv 0,iv 0],iv 1]) ⟨(⟨(0),(⟨[],.nil,Nat.zero_le _,rfl,fun _=>rfl⟩:Row ed),(0),(0),(0)⟩:fi),(1),trivial,rfl⟩
 iterate 2 refine rV ?_
 refine zj (a1) (4000) (fun h4=>?_) (fun h4=>?_)
 refine bp ?_
 iterate 2 refine rV ?_
 iterate 4 refine rS ?_
 refine bp ?_
 refine bG ?_
 refine a7 ?_
 exact xF (.eP [.agg [iv 0,.sl [] .nil,iv 0,iv 0,iv 0],iv 1]) ⟨(⟨(0),(⟨[],.nil,Nat.zero_le _,rfl,fun _=>rfl⟩:Row ed),(0),(0),(0)⟩:fi),(1),trivial,rfl⟩
 iterate 3 refine rV ?_
 refine sO (r2) (4) (fun h5=>?_) (fun h5=>?_)
 iterate 2 refine rV ?_
 refine sO (r2) (1) (fun h6=>?_) (fun h6=>?_)
 iterate 3 refine rV ?_
 iterate 4 refine rS ?_
 refine bp ?_
 refine bG ?_
 refine a7 ?_
 exact xF (.eP [.agg [iv 0,.sl [] .nil,iv 0,iv 0,iv 0],iv 1]) ⟨(⟨(0),(⟨[],.nil,Nat.zero_le _,rfl,fun _=>rfl⟩:Row ed),(0),(0),(0)⟩:fi),(1),trivial,rfl⟩
 iterate 6 refine rV ?_
 refine j8 (a2.at_.en) (0) (fun h7=>?_) (fun h7=>?_)
 refine bp ?_
 refine bG ?_
 refine a7 ?_
 exact xF (.eP [.agg [iv 0,.sl [] .nil,iv 0,iv 0,iv 0],iv 1]) ⟨(⟨(0),(⟨[],.nil,Nat.zero_le _,rfl,fun _=>rfl⟩:Row ed),(0),(0),(0)⟩:fi),(1),trivial,rfl⟩
 iterate 6 refine rV ?_
 refine rC (t42 (r2)) ?_
 rintro _ ⟨r9,hc8,rfl⟩
 refine jR (a2.at_.en) (r9) (fun h10=>?_) (fun h10=>?_)
 refine bG ?_
 refine a7 ?_
 exact xF (.eP [.agg [iv 0,.sl [] .nil,iv 0,iv 0,iv 0],iv 1]) ⟨(⟨(0),(⟨[],.nil,Nat.zero_le _,rfl,fun _=>rfl⟩:Row ed),(0),(0),(0)⟩:fi),(1),trivial,rfl⟩
 refine bu ?_
 refine w0 [(1,iv a1),(3,.la 3 0),(5,.la 5 0),(6,.la 6 0),(6,.la 6 0),(8,iv r2)] [(3,(eb.cells a0)),(5,(gP.cells a2)),(6,[iv 0,.sl [] .nil,iv 0,iv 0,iv 0]),(6,[iv 0,.sl [] .nil,iv 0,iv 0,iv 0])] ?_
 refine aB ?_
 refine oC (t23 a0 a2.at_) ?_
 rintro _ ⟨r12,hc11,rfl⟩
 have hR:=hc11
 refine fg (r12) (0) (fun h13=>?_) (fun h13=>?_)
 refine ay ?_
 refine a7 ?_
 exact xF (.eP [.agg [iv 0,.sl [] .nil,iv 0,iv 0,iv 0],iv 7]) ⟨(⟨(0),(⟨[],.nil,Nat.zero_le _,rfl,fun _=>rfl⟩:Row ed),(0),(0),(0)⟩:fi),(7),trivial,rfl⟩
 refine az ?_
 refine w0 [(1,iv a1),(3,.la 3 0),(5,.la 5 0),(6,.la 6 0),(6,.la 6 0),(8,iv r2)] [(3,(eb.cells a0)),(5,(gP.cells a2)),(6,[iv 0,.sl [] .nil,iv 0,iv 0,iv 0]),(6,[iv 0,.sl [] .nil,iv 0,iv 0,iv 0])] ?_
 refine aG ?_
 refine oC (t17 a0 (a2.at_.elem)) ?_
 rintro _ ⟨r15,hc14,rfl⟩
 refine bX ?_
 refine fg (a2.left) (0) (fun h16=>?_) (fun h16=>?_)
 refine bk ?_
 refine bR ?_
 exact xF (.eP [.agg [iv 0,.sl [] .nil,iv 0,iv 0,iv 0],iv 1]) ⟨(⟨(0),(⟨[],.nil,Nat.zero_le _,rfl,fun _=>rfl⟩:Row ed),(0),(0),(0)⟩:fi),(1),trivial,rfl⟩
 iterate 4 refine oV ?_
 refine fW (a2.left) (r15) (fun h17=>?_) (fun h17=>?_)
 refine bR ?_
 exact xF (.eP [.agg [iv 0,.sl [] .nil,iv 0,iv 0,iv 0],iv 1]) ⟨(⟨(0),(⟨[],.nil,Nat.zero_le _,rfl,fun _=>rfl⟩:Row ed),(0),(0),(0)⟩:fi),(1),trivial,rfl⟩
 refine aw ?_
 refine w0 [(1,iv a1),(5,.la 5 0),(6,.la 6 0),(6,.la 6 0),(8,iv r2),(9,iv r15)] [(5,(gP.cells a2)),(6,[iv 0,.sl [] .nil,iv 0,iv 0,iv 0]),(6,[iv 0,.sl [] .nil,iv 0,iv 0,iv 0])] ?_
 refine ak ?_
 refine fj (r2) (4) (fun h18=>?_) (fun h18=>?_)
 refine ay ?_
 refine ae ?_
 refine bb ?_
 exact xF (.eP [.agg [iv 1,.sl [(ed.cells a2.at_)] (.exact 1),iv 0,iv 0,iv 0],iv 0]) ⟨(⟨(1),(⟨[a2.at_],.exact 1,Nat.le_of_ble_eq_true rfl,rfl,capXn⟩:Row ed),(0),(0),(0)⟩:fi),(0),trivial,rfl⟩
 refine az ?_
 refine w0 [(1,iv a1),(5,.la 5 0),(6,.la 6 0),(6,.la 6 0),(9,iv r15)] [(5,(gP.cells a2)),(6,[iv 0,.sl [] .nil,iv 0,iv 0,iv 0]),(6,[iv 0,.sl [] .nil,iv 0,iv 0,iv 0])] ?_
 refine aB ?_
 refine eg rfl (fun _=>fD rfl rfl rfl (mZ .i64 (a2.left) (a1))) ?_
 refine oV ?_
 refine fW (IntKind.i64.wrap (a2.left+(a1))) (r15) (fun h19=>?_) (fun h19=>?_)
 refine ay ?_
 refine a7 ?_
 exact xF (.eP [.agg [iv 0,.sl [] .nil,iv 0,iv 0,iv 0],iv 9]) ⟨(⟨(0),(⟨[],.nil,Nat.zero_le _,rfl,fun _=>rfl⟩:Row ed),(0),(0),(0)⟩:fi),(9),trivial,rfl⟩
 refine az ?_
 refine w0 [(5,.la 5 0),(6,.la 6 0),(6,.la 6 0)] [(5,(gP.cells a2)),(6,[iv 0,.sl [] .nil,iv 0,iv 0,iv 0]),(6,[iv 0,.sl [] .nil,iv 0,iv 0,iv 0])] ?_
 refine aG ?_
 refine bb ?_
 exact xF (.eP [.agg [iv 2,.sl [(ed.cells a2.at_)] (.exact 1),iv a2.left,iv 0,iv 0],iv 0]) ⟨(⟨(2),(⟨[a2.at_],.exact 1,Nat.le_of_ble_eq_true rfl,rfl,capXn⟩:Row ed),(a2.left),(0),(0)⟩:fi),(0),trivial,rfl⟩
 refine rV ?_
 iterate 2 refine rS ?_
 iterate 6 refine rV ?_
 refine j8 (a2.at_.en) (0) (fun h20=>?_) (fun h20=>?_)
 refine bp ?_
 refine bG ?_
 refine a7 ?_
 exact xF (.eP [.agg [iv 0,.sl [] .nil,iv 0,iv 0,iv 0],iv 1]) ⟨(⟨(0),(⟨[],.nil,Nat.zero_le _,rfl,fun _=>rfl⟩:Row ed),(0),(0),(0)⟩:fi),(1),trivial,rfl⟩
 iterate 6 refine rV ?_
 refine rC (t42 (r2)) ?_
 rintro _ ⟨r22,hc21,rfl⟩
 refine jR (a2.at_.en) (r22) (fun h23=>?_) (fun h23=>?_)
 refine bG ?_
 refine a7 ?_
 exact xF (.eP [.agg [iv 0,.sl [] .nil,iv 0,iv 0,iv 0],iv 1]) ⟨(⟨(0),(⟨[],.nil,Nat.zero_le _,rfl,fun _=>rfl⟩:Row ed),(0),(0),(0)⟩:fi),(1),trivial,rfl⟩
 refine bu ?_
 refine w0 [(1,iv a1),(3,.la 3 0),(5,.la 5 0),(6,.la 6 0),(6,.la 6 0),(8,iv r2)] [(3,(eb.cells a0)),(5,(gP.cells a2)),(6,[iv 0,.sl [] .nil,iv 0,iv 0,iv 0]),(6,[iv 0,.sl [] .nil,iv 0,iv 0,iv 0])] ?_
 refine aB ?_
 refine oC (t23 a0 a2.at_) ?_
 rintro _ ⟨r25,hc24,rfl⟩
 have hR:=hc24
 refine fg (r25) (0) (fun h26=>?_) (fun h26=>?_)
 refine ay ?_
 refine a7 ?_
 exact xF (.eP [.agg [iv 0,.sl [] .nil,iv 0,iv 0,iv 0],iv 7]) ⟨(⟨(0),(⟨[],.nil,Nat.zero_le _,rfl,fun _=>rfl⟩:Row ed),(0),(0),(0)⟩:fi),(7),trivial,rfl⟩
 refine az ?_
 refine w0 [(1,iv a1),(3,.la 3 0),(5,.la 5 0),(6,.la 6 0),(6,.la 6 0),(8,iv r2)] [(3,(eb.cells a0)),(5,(gP.cells a2)),(6,[iv 0,.sl [] .nil,iv 0,iv 0,iv 0]),(6,[iv 0,.sl [] .nil,iv 0,iv 0,iv 0])] ?_
 refine aG ?_
 refine oC (t17 a0 (a2.at_.elem)) ?_
 rintro _ ⟨r28,hc27,rfl⟩
 refine bX ?_
 refine fg (a2.left) (0) (fun h29=>?_) (fun h29=>?_)
 refine bk ?_
 refine bR ?_
 exact xF (.eP [.agg [iv 0,.sl [] .nil,iv 0,iv 0,iv 0],iv 1]) ⟨(⟨(0),(⟨[],.nil,Nat.zero_le _,rfl,fun _=>rfl⟩:Row ed),(0),(0),(0)⟩:fi),(1),trivial,rfl⟩
 iterate 4 refine oV ?_
 refine fW (a2.left) (r28) (fun h30=>?_) (fun h30=>?_)
 refine bR ?_
 exact xF (.eP [.agg [iv 0,.sl [] .nil,iv 0,iv 0,iv 0],iv 1]) ⟨(⟨(0),(⟨[],.nil,Nat.zero_le _,rfl,fun _=>rfl⟩:Row ed),(0),(0),(0)⟩:fi),(1),trivial,rfl⟩
 refine aw ?_
 refine w0 [(1,iv a1),(5,.la 5 0),(6,.la 6 0),(6,.la 6 0),(8,iv r2),(9,iv r28)] [(5,(gP.cells a2)),(6,[iv 0,.sl [] .nil,iv 0,iv 0,iv 0]),(6,[iv 0,.sl [] .nil,iv 0,iv 0,iv 0])] ?_
 refine ak ?_
 refine fj (r2) (4) (fun h31=>?_) (fun h31=>?_)
 refine ay ?_
 refine ae ?_
 refine bb ?_
 exact xF (.eP [.agg [iv 1,.sl [(ed.cells a2.at_)] (.exact 1),iv 0,iv 0,iv 0],iv 0]) ⟨(⟨(1),(⟨[a2.at_],.exact 1,Nat.le_of_ble_eq_true rfl,rfl,capXn⟩:Row ed),(0),(0),(0)⟩:fi),(0),trivial,rfl⟩
 refine az ?_
 refine w0 [(1,iv a1),(5,.la 5 0),(6,.la 6 0),(6,.la 6 0),(9,iv r28)] [(5,(gP.cells a2)),(6,[iv 0,.sl [] .nil,iv 0,iv 0,iv 0]),(6,[iv 0,.sl [] .nil,iv 0,iv 0,iv 0])] ?_
 refine aB ?_
 refine eg rfl (fun _=>fD rfl rfl rfl (mZ .i64 (a2.left) (a1))) ?_
 refine oV ?_
 refine fW (IntKind.i64.wrap (a2.left+(a1))) (r28) (fun h32=>?_) (fun h32=>?_)
 refine ay ?_
 refine a7 ?_
 exact xF (.eP [.agg [iv 0,.sl [] .nil,iv 0,iv 0,iv 0],iv 9]) ⟨(⟨(0),(⟨[],.nil,Nat.zero_le _,rfl,fun _=>rfl⟩:Row ed),(0),(0),(0)⟩:fi),(9),trivial,rfl⟩
 refine az ?_
 refine w0 [(5,.la 5 0),(6,.la 6 0),(6,.la 6 0)] [(5,(gP.cells a2)),(6,[iv 0,.sl [] .nil,iv 0,iv 0,iv 0]),(6,[iv 0,.sl [] .nil,iv 0,iv 0,iv 0])] ?_
 refine aG ?_
 refine bb ?_
 exact xF (.eP [.agg [iv 2,.sl [(ed.cells a2.at_)] (.exact 1),iv a2.left,iv 0,iv 0],iv 0]) ⟨(⟨(2),(⟨[a2.at_],.exact 1,Nat.le_of_ble_eq_true rfl,rfl,capXn⟩:Row ed),(a2.left),(0),(0)⟩:fi),(0),trivial,rfl⟩
theorem M8:eG.get 48=some CC:=by kernel_rfl
theorem KJ:ei 48=none:=by kernel_rfl
def V6 (_a0:eb) (_a1:eS) (_a2:Int) (_a3:Int) (v:AV):Prop:=∃ r0:ed,∃ r1:Bool,(((r1=true→0≤_a2∧_a2<(_a1.runs.l.length:Int)∧0≤_a3)∧(r1=true→gX true (iD _a0.signals.l) (gJ _a0.eT.l) _a1 _a2 _a3=some r0)∧(r1=false→gX true (iD _a0.signals.l) (gJ _a0.eT.l) _a1 _a2 _a3=none)))∧v=.eP [.agg (ed.cells r0),.bool r1]
theorem t48 (a0:eb) (a1:eS) (a2:Int) (a3:Int)  (h:bY):∃ v,eH cfg eG.get ei false 48 [.agg (eb.cells a0),.agg (eS.cells a1),iv a2,iv a3] h v h∧V6 a0 a1 a2 a3 v:=by
 refine eW KJ M8 rfl rfl ?_
 refine aa ?_
 refine bF ?_
 refine ak ?_
 refine fg (a2) (0) (fun h1=>?_) (fun h1=>?_)
 refine bf ?_
 refine aL ?_
 refine bC ?_
 refine bR ?_
 exact xF (.eP [.agg [iv 0,iv 0],.bool false]) ⟨(⟨(0),(0)⟩:ed),false,cr,rfl⟩
 iterate 4 refine oV ?_
 have hL2:=a1.runs.lk
 refine fA a1.runs ?_
 refine gV (a2) ((a1.runs.l.length:Int)) (fun h3=>?_) (fun h3=>?_)
 refine aL ?_
 refine bC ?_
 refine bR ?_
 exact xF (.eP [.agg [iv 0,iv 0],.bool false]) ⟨(⟨(0),(0)⟩:ed),false,cr,rfl⟩
 iterate 3 refine oV ?_
 refine fg (a3) (0) (fun h4=>?_) (fun h4=>?_)
 refine bC ?_
 refine bR ?_
 exact xF (.eP [.agg [iv 0,iv 0],.bool false]) ⟨(⟨(0),(0)⟩:ed),false,cr,rfl⟩
 iterate 6 refine oV ?_
 have hx5:(a2).toNat<a1.runs.l.length:=by omega
 refine eg rfl (fun _=>fE (n:=a2) (r:=a1.runs) (enc:=gj.cells) rfl rfl rfl rfl rfl cB hx5 rfl) ?_
 generalize hqx6:a1.runs.l[(a2).toNat]=x6
 iterate 2 refine oV ?_
 have hL7:=x6.fK.lk
 refine fA x6.fK ?_
 refine fW (a3) ((x6.fK.l.length:Int)) (fun h8=>?_) (fun h8=>?_)
 refine bR ?_
 exact xF (.eP [.agg [iv 0,iv 0],.bool false]) ⟨(⟨(0),(0)⟩:ed),false,cr,rfl⟩
 refine aw ?_
 refine w0 [(2,iv a2),(3,iv a3),(4,.la 4 0),(5,.la 5 0),(8,.la 8 0),(8,.la 8 0)] [(4,(eb.cells a0)),(5,(eS.cells a1)),(8,[iv 0,iv 0]),(8,[iv 0,iv 0])] ?_
 refine aF ?_
 have hx9:(a2).toNat<a1.runs.l.length:=by omega
 refine eg rfl (fun _=>fE (n:=a2) (r:=a1.runs) (enc:=gj.cells) rfl rfl rfl rfl rfl cB hx9 rfl) ?_
 rw [hqx6]
 refine aW ?_
 refine ak ?_
 refine fj (a3) (0) (fun h11=>?_) (fun h11=>?_)
 refine ay ?_
 refine aF ?_
 refine oC (t76 a0 (x6.from_)) ?_
 rintro _ ⟨r13,r14,hc12,rfl⟩
 have hA:=hc12
 cases r14
 refine bb ?_
 exact xF (.eP [.agg (ed.cells r13),.bool false]) ⟨r13,false,cr,rfl⟩
 refine bb ?_
 exact xF (.eP [.agg (ed.cells r13),.bool true]) ⟨r13,true,cr,rfl⟩
 refine az ?_
 refine w0 [(3,iv a3),(4,.la 4 0),(8,.la 8 0),(8,.la 8 0),(10,.la 10 0)] [(4,(eb.cells a0)),(8,[iv 0,iv 0]),(8,[iv 0,iv 0]),(10,(gj.cells x6))] ?_
 refine aF ?_
 refine g7 (a3) (1) ?_
 have hx15:(a3 - 1).toNat<x6.fK.l.length:=by omega
 refine eg rfl (fun _=>fE (n:=a3 - 1) (r:=x6.fK) (enc:=fY.cells) rfl rfl rfl rfl rfl cB hx15 rfl) ?_
 generalize hqx16:x6.fK.l[(a3 - 1).toNat]=x16
 refine aW ?_
 refine aI ?_
 refine bP ?_
 refine fj (x16.end_) (1) (fun h17=>?_) (fun h17=>?_)
 refine aC ?_
 refine aF ?_
 refine oC (t76 a0 (x16.to)) ?_
 rintro _ ⟨r19,r20,hc18,rfl⟩
 have hA:=hc18
 cases r20
 refine bb ?_
 exact xF (.eP [.agg (ed.cells r19),.bool false]) ⟨r19,false,cr,rfl⟩
 refine bb ?_
 exact xF (.eP [.agg (ed.cells r19),.bool true]) ⟨r19,true,cr,rfl⟩
 refine aS ?_
 refine fj (x16.end_) (3) (fun h21=>?_) (fun h21=>?_)
 refine aC ?_
 refine aG ?_
 refine oC (t18 a0 (⟨(x16.to),(0)⟩:ed)) ?_
 rintro _ ⟨r23,r24,hc22,rfl⟩
 have hN:=hc22
 cases r24
 refine au ?_
 refine aG ?_
 refine oC (t18 a0 (⟨(x16.to),(1)⟩:ed)) ?_
 rintro _ ⟨r26,r27,hc25,rfl⟩
 have hN:=hc25
 cases r27
 refine bD ?_
 refine ba ?_
 refine aw ?_
 refine w0 [(8,.la 8 0),(8,.la 8 0),(11,.la 11 0),(13,.bool false),(15,.bool false)] [(8,[iv 0,iv 0]),(8,[iv 0,iv 0]),(11,(fY.cells x16))] ?_
 refine bL ?_
 refine aL ?_
 refine aw ?_
 refine w0 [(8,.la 8 0),(8,.la 8 0),(11,.la 11 0)] [(8,[iv 0,iv 0]),(8,[iv 0,iv 0]),(11,(fY.cells x16))] ?_
 refine aj ?_
 refine bb ?_
 exact xF (.eP [.agg [iv x16.to,iv (-1)],.bool true]) ⟨(⟨(x16.to),(-1)⟩:ed),true,cr,rfl⟩
 refine bD ?_
 refine ba ?_
 refine aw ?_
 refine w0 [(8,.la 8 0),(8,.la 8 0),(11,.la 11 0),(13,.bool false),(15,.bool true)] [(8,[iv 0,iv 0]),(8,[iv 0,iv 0]),(11,(fY.cells x16))] ?_
 refine qs ?_
 refine aG ?_
 refine aC ?_
 refine aj ?_
 refine bb ?_
 exact xF (.eP [.agg [iv x16.to,iv 0],.bool true]) ⟨(⟨(x16.to),(0)⟩:ed),true,cr,rfl⟩
 refine au ?_
 refine aG ?_
 refine oC (t18 a0 (⟨(x16.to),(1)⟩:ed)) ?_
 rintro _ ⟨r29,r30,hc28,rfl⟩
 have hN:=hc28
 cases r30
 refine bD ?_
 refine bF ?_
 refine qT ?_
 refine aj ?_
 refine bb ?_
 exact xF (.eP [.agg [iv x16.to,iv 1],.bool true]) ⟨(⟨(x16.to),(1)⟩:ed),true,cr,rfl⟩
 refine au ?_
 refine aB ?_
 refine bv ?_
 refine w0 [(8,.la 8 0),(8,.la 8 0),(11,.la 11 0),(13,.bool true),(15,.bool true)] [(8,[iv 0,iv 0]),(8,[iv 0,iv 0]),(11,(fY.cells x16))] ?_
 refine aB ?_
 refine bv ?_
 refine w0 [(8,.la 8 0),(8,.la 8 0),(11,.la 11 0)] [(8,[iv 0,iv 0]),(8,[iv 0,iv 0]),(11,(fY.cells x16))] ?_
 refine aj ?_
 refine bb ?_
 exact xF (.eP [.agg [iv x16.to,iv (-1)],.bool true]) ⟨(⟨(x16.to),(-1)⟩:ed),true,cr,rfl⟩
 refine aw ?_
 refine w0 [(8,.la 8 0),(8,.la 8 0)] [(8,[iv 0,iv 0]),(8,[iv 0,iv 0])] ?_
 refine a7 ?_
 exact xF (.eP [.agg [iv 0,iv 0],.bool false]) ⟨(⟨(0),(0)⟩:ed),false,cr,rfl⟩
theorem M1:eG.get 22=some Dx:=by kernel_rfl
theorem Jn:ei 22=none:=by kernel_rfl
def Wn (_a0:eb) (_a1:eS) (_a2:Int) (_a3:Int) (v:AV):Prop:=∃ r0:Int,(((0≤r0→0≤_a2∧_a2<(_a1.runs.l.length:Int)∧0≤_a3∧∀ h : _a2.toNat < _a1.runs.l.length,_a3<((_a1.runs.l[_a2.toNat]).fK.l.length:Int))∧r0=jD true (iD _a0.signals.l) (gJ _a0.eT.l) (jG _a0) (fun x=>(ig _a0.signals.l x).getD (-1)) _a1 _a2 _a3))∧v=iv r0
theorem t22 (a0:eb) (a1:eS) (a2:Int) (a3:Int)  (h:bY):∃ v,eH cfg eG.get ei false 22 [.agg (eb.cells a0),.agg (eS.cells a1),iv a2,iv a3] h v h∧Wn a0 a1 a2 a3 v:=by
 refine eW Jn M1 rfl rfl ?_
 refine bm ?_
 refine aG ?_
 refine oC (t48 a0 a1 (a2) (a3)) ?_
 rintro _ ⟨r2,r3,hc1,rfl⟩
 have hG:=hc1
 cases r3
 refine bD ?_
 refine bC ?_
 refine bI ?_
 refine ai ?_
 exact xA (iv (-1)) ⟨(-1),cM,rfl⟩
 have hG1:=hG.1 rfl
 refine bD ?_
 iterate 6 refine oV ?_
 have hx4:(a2).toNat<a1.runs.l.length:=by omega
 refine eg rfl (fun _=>fE (n:=a2) (r:=a1.runs) (enc:=gj.cells) rfl rfl rfl rfl rfl cB hx4 rfl) ?_
 generalize hqx5:a1.runs.l[(a2).toNat]=x5
 iterate 2 refine oV ?_
 have hL6:=x5.fK.lk
 refine fA x5.fK ?_
 refine gV (a3) ((x5.fK.l.length:Int)) (fun h7=>?_) (fun h7=>?_)
 refine bI ?_
 refine ai ?_
 exact xA (iv (-1)) ⟨(-1),cM,rfl⟩
 iterate 4 refine oV ?_
 refine fg (r2.en) (0) (fun h8=>?_) (fun h8=>?_)
 refine ai ?_
 exact xA (iv (-1)) ⟨(-1),cM,rfl⟩
 refine aw ?_
 refine w0 [(2,iv a2),(3,iv a3),(4,.la 4 0),(5,.la 5 0),(9,.la 9 0)] [(4,(eb.cells a0)),(5,(eS.cells a1)),(9,(ed.cells r2))] ?_
 refine aB ?_
 have hx9:(a2).toNat<a1.runs.l.length:=by omega
 refine eg rfl (fun _=>fE (n:=a2) (r:=a1.runs) (enc:=gj.cells) rfl rfl rfl rfl rfl cB hx9 rfl) ?_
 rw [hqx5]
 iterate 3 refine oV ?_
 have hx11:(a3).toNat<x5.fK.l.length:=by omega
 refine eg rfl (fun _=>fE (n:=a3) (r:=x5.fK) (enc:=fY.cells) rfl rfl rfl rfl rfl cB hx11 rfl) ?_
 generalize hqx12:x5.fK.l[(a3).toNat]=x12
 refine oV ?_
 refine gH (b:=x12.sV) rfl (fun _=>rfl) (fun h13=>?_) (fun h13=>?_)
 refine ay ?_
 refine aB ?_
 refine oC (t15 a0 (r2.elem)) ?_
 rintro _ ⟨r15,hc14,rfl⟩
 have hK:=hc14
 refine gK (r15) (1) (fun h16=>?_) (fun h16=>?_)
 refine be ?_
 exact xA (iv (-1)) ⟨(-1),cM,rfl⟩
 refine az ?_
 refine w0 [(4,.la 4 0),(9,.la 9 0)] [(4,(eb.cells a0)),(9,(ed.cells r2))] ?_
 refine br ?_
 refine eg rfl (fun _=>fD rfl rfl rfl (gD .i64 (1) (r2.en))) ?_
 refine ah ?_
 refine w0 [(4,.la 4 0),(9,.la 9 0)] [(4,(eb.cells a0)),(9,[iv r2.elem,iv (IntKind.i64.wrap (1 - (r2.en)))])] ?_
 refine ae ?_
 refine oC (t23 a0 (⟨(r2.elem),(IntKind.i64.wrap (1 - (r2.en)))⟩:ed)) ?_
 rintro _ ⟨r18,hc17,rfl⟩
 have hR:=hc17
 refine ag ?_
 exact xA (iv r18) ⟨(r18),cM,rfl⟩
 refine az ?_
 refine w0 [(4,.la 4 0),(9,.la 9 0)] [(4,(eb.cells a0)),(9,(ed.cells r2))] ?_
 refine ae ?_
 refine oC (t23 a0 r2) ?_
 rintro _ ⟨r20,hc19,rfl⟩
 have hR:=hc19
 refine ag ?_
 exact xA (iv r20) ⟨(r20),cM,rfl⟩
theorem OK:eG.get 77=some BU:=by kernel_rfl
theorem JO:ei 77=none:=by kernel_rfl
def Wb (_a0:eb) (_a1:eS) (_a2:Int) (_a3:Int) (v:AV):Prop:=∃ r0:Int,(True)∧v=iv r0
theorem t77 (a0:eb) (a1:eS) (a2:Int) (a3:Int)  (h:bY):∃ v,eH cfg eG.get ei false 77 [.agg (eb.cells a0),.agg (eS.cells a1),iv a2,iv a3] h v h∧Wb a0 a1 a2 a3 v:=by
 refine eW JO OK rfl rfl ?_
 refine bm ?_
 refine aG ?_
 refine oC (t48 a0 a1 (a2) (a3)) ?_
 rintro _ ⟨r2,r3,hc1,rfl⟩
 have hG:=hc1
 cases r3
 refine bD ?_
 refine ai ?_
 exact xA (iv (-1)) ⟨(-1),trivial,rfl⟩
 have hG1:=hG.1 rfl
 refine bD ?_
 refine aw ?_
 refine w0 [(9,.la 9 0)] [(9,(ed.cells r2))] ?_
 refine a7 ?_
 exact xA (iv r2.elem) ⟨(r2.elem),trivial,rfl⟩
theorem R4:eG.get 78=some Dp:=by kernel_rfl
theorem Js:ei 78=none:=by kernel_rfl
def Xk (_a0:eb) (_a1:fM) (_a2:Int) (v:AV):Prop:=∃ r0:Bool,(True)∧v=.bool r0
theorem t78 (a0:eb) (a1:fM) (a2:Int)  (h:bY):∃ v,eH cfg eG.get ei false 78 [.agg (eb.cells a0),.agg (fM.cells a1),iv a2] h v h∧Xk a0 a1 a2 v:=by
 refine eW Js R4 rfl rfl ?_
 refine ae ?_
 refine bX ?_
 refine oC (t15 a0 (a2)) ?_
 rintro _ ⟨r2,hc1,rfl⟩
 have hK:=hc1
 refine bP ?_
 refine fj (r2) (1) (fun h3=>?_) (fun h3=>?_)
 refine aC ?_
 refine bi ?_
 refine rC (t17 a0 (a2)) ?_
 rintro _ ⟨r5,hc4,rfl⟩
 iterate 4 refine rV ?_
 refine eI rfl rfl (fun _=>fD rfl rfl rfl (mZ .i64 (a1.len) (a0.fQ))) ?_
 refine jR (r5) (IntKind.i64.wrap (a1.len+(a0.fQ))) (fun h6=>?_) (fun h6=>?_)
 refine aR ?_
 refine qr ?_
 exact xA (.bool true) ⟨true,trivial,rfl⟩
 refine aR ?_
 refine qr ?_
 exact xA (.bool false) ⟨false,trivial,rfl⟩
 refine aS ?_
 refine fj (r2) (4) (fun h7=>?_) (fun h7=>?_)
 refine ai ?_
 exact xA (.bool true) ⟨true,trivial,rfl⟩
 refine aw ?_
 refine w0 [] [] ?_
 refine a6 ?_
 exact xA (.bool false) ⟨false,trivial,rfl⟩
theorem Ng:eG.get 40=some Cm:=by kernel_rfl
theorem IQ:ei 40=none:=by kernel_rfl
def WN (_a0:eb) (_a1:Row eF) (_a2:eS) (_a3:Int) (_a4:Int) (v:AV):Prop:=∃ r0:Row Int,(r0.l.length≤_a1.l.length)∧v=Row.av eu r0
theorem t40 (a0:eb) (a1:Row eF) (a2:eS) (a3:Int) (a4:Int) (q1:(∀ r∈a1.l,0<r.steps.l.length)) (q2:a1.l.length≤64) (q3:∀ r∈a2.runs.l,0≤r.fy∧r.fy<(a2.fy.l.length:Int)) (h:bY):∃ v,eH cfg eG.get ei false 40 [.agg (eb.cells a0),Row.av eF.cells a1,.agg (eS.cells a2),iv a3,iv a4] h v h∧WN a0 a1 a2 a3 a4 v:=by
 refine eW IQ Ng rfl rfl ?_
 refine bm ?_
 refine aG ?_
 refine oC (t22 a0 a2 (a3) (a4)) ?_
 rintro _ ⟨r2,hc1,rfl⟩
 have hC22:=hc1.1; have hF:=hc1.2
 refine ab ?_
 refine ak ?_
 refine fg (r2) (0) (fun h3=>?_) (fun h3=>?_)
 refine be ?_
 exact xF (.sl [] .nil) ⟨(⟨[],.nil,Nat.zero_le _,rfl,fun _=>rfl⟩:Row Int),d7,rfl⟩
 refine az ?_
 refine w0 [(1,Row.av eF.cells a1),(3,iv a3),(4,iv a4),(5,.la 5 0),(7,.la 7 0),(11,iv r2)] [(5,(eb.cells a0)),(7,(eS.cells a2))] ?_
 refine aF ?_
 have hx4:(a3).toNat<a2.runs.l.length:=by omega
 refine eg rfl (fun _=>fE (n:=a3) (r:=a2.runs) (enc:=gj.cells) rfl rfl rfl rfl rfl cB hx4 rfl) ?_
 generalize hqx5:a2.runs.l[(a3).toNat]=x5
 have hinx5:x5∈a2.runs.l:=by rw [← hqx5]; exact List.getElem_mem _
 have hsx5:=q3 x5 hinx5; have hlx5:=(hC22 cB).2.2.2 cC; rw [hqx5] at hlx5
 iterate 3 refine oV ?_
 have hx6:(a4).toNat<x5.fK.l.length:=by omega
 refine eg rfl (fun _=>fE (n:=a4) (r:=x5.fK) (enc:=fY.cells) rfl rfl rfl rfl rfl cB hx6 rfl) ?_
 generalize hqx7:x5.fK.l[(a4).toNat]=x7
 refine aW ?_
 refine aO ?_
 have hL8:=a1.lk
 refine fA a1 ?_
 refine aP ?_
 have hS9:=Sep.iF gg 1
 have hNk10:=a1.lk
 refine eN (a1.l.length) (fun k10 e h=>∃ v11:AV,∃ l12:List Int,∃ H13:bY,(l12.length≤0+k10)∧Sep H13 (.sl true true v11 1 (List.map eu l12)::[])∧proj [3,4,5,7,11,12,13,33,34,35] e=[(3,iv a3),(4,iv a4),(5,.la 5 0),(7,.la 7 0),(11,iv r2),(12,.la 12 0),(13,v11),(33,Row.av eF.cells a1),(34,iv (a1.l.length:Int)),(35,iv (k10:Int))]∧{ h with dO:=eV [3,4,5,7,11,12,13,33,34,35] h.dO } = { H13 with dO:=[(5,(eb.cells a0)),(7,(eS.cells a2)),(12,(fY.cells x7))] }) ?_ (k0:=0) cB ⟨((.sl [] .nil)),(([]:List Int)),bY.empty,c8,hS9,rfl,rfl⟩
 rintro k10 e h hkk10 ⟨v11,l12,H13,hl15,hS14,he,hh⟩
 refine ff he hh ?_
 clear he hh
 refine aa ?_
 refine fg ((k10:Int)) ((a1.l.length:Int)) (fun h16=>?_) (fun h16=>?_)
 refine ao ?_
 refine wa [(3,iv a3),(4,iv a4),(5,.la 5 0),(7,.la 7 0),(11,iv r2),(12,.la 12 0),(13,v11),(33,Row.av eF.cells a1),(34,iv (a1.l.length:Int)),(35,iv (k10:Int))] H13 [(5,(eb.cells a0)),(7,(eS.cells a2)),(12,(fY.cells x7))] ?_ (Eq.trans (b:=[(3,iv a3),(4,iv a4),(5,.la 5 0),(7,.la 7 0),(11,iv r2),(12,.la 12 0),(13,eB 13 v11),(33,Row.av eF.cells a1),(34,iv (a1.l.length:Int)),(35,iv (k10:Int))]) rfl cu)
 refine bE ?_
 have hx17:k10<a1.l.length:=by omega
 refine gL k10 a1 hx17 ?_
 generalize hqx18:a1.l[k10]=x18
 have hinx18:x18∈a1.l:=by rw [← hqx18]; exact List.getElem_mem _
 have hsx18:=q1 x18 hinx18
 refine bF ?_
 refine aG ?_
 have hL19:=x18.steps.lk
 refine fA x18.steps ?_
 have hL20:=x18.steps.lk
 refine g7 ((x18.steps.l.length:Int)) (1) ?_
 have hx21:((x18.steps.l.length:Int) - 1).toNat<x18.steps.l.length:=by omega
 refine eg rfl (fun _=>fE (n:=(x18.steps.l.length:Int) - 1) (r:=x18.steps) (enc:=ew.cells) rfl rfl rfl rfl rfl cB hx21 rfl) ?_
 generalize hqx22:x18.steps.l[((x18.steps.l.length:Int) - 1).toNat]=x22
 refine aW ?_
 refine kK (fun E Z=>(E=[(3,iv a3),(4,iv a4),(5,.la 5 0),(7,.la 7 0),(11,iv r2),(12,.la 12 0),(13,v11),(14,iv (k10:Int)),(15,.la 15 0),(16,iv x22.elem),(33,Row.av eF.cells a1),(34,iv (a1.l.length:Int)),(35,iv (k10:Int))]∧Z = { H13 with dO:=[(5,(eb.cells a0)),(7,(eS.cells a2)),(12,(fY.cells x7)),(15,(eF.cells x18))] })) ?_ ?_
 rintro _ _ ⟨rfl,rfl⟩
 refine bZ ?_
 refine rV ?_
 refine rC (t77 a0 a2 (a3) (a4)) ?_
 rintro _ ⟨r24,hc23,rfl⟩
 refine rC (t39 (Row.iV x18.j5) (r24)) ?_
 rintro _ ⟨r26,hc25,rfl⟩
 cases r26
 iterate 8 refine rV ?_
 have hx27:(a3).toNat<a2.runs.l.length:=by omega
 refine eI rfl rfl (fun _=>fE (n:=a3) (r:=a2.runs) (enc:=gj.cells) rfl rfl rfl rfl rfl cB hx27 rfl) ?_
 rw [hqx5]
 iterate 2 refine rV ?_
 have hx29:(x5.fy).toNat<a2.fy.l.length:=by omega
 refine eI rfl rfl (fun _=>fE (n:=x5.fy) (r:=a2.fy) (enc:=fM.cells) rfl rfl rfl rfl rfl cB hx29 rfl) ?_
 generalize hqx30:a2.fy.l[(x5.fy).toNat]=x30
 iterate 2 refine rV ?_
 refine rC (t78 a0 x30 (x22.elem)) ?_
 rintro _ ⟨r32,hc31,rfl⟩
 cases r32
 refine bu ?_
 refine wa [(3,iv a3),(4,iv a4),(5,.la 5 0),(7,.la 7 0),(11,iv r2),(12,.la 12 0),(13,v11),(33,Row.av eF.cells a1),(34,iv (a1.l.length:Int)),(35,iv (k10:Int))] H13 [(5,(eb.cells a0)),(7,(eS.cells a2)),(12,(fY.cells x7))] ?_ (Eq.trans (b:=[(3,iv a3),(4,iv a4),(5,.la 5 0),(7,.la 7 0),(11,iv r2),(12,.la 12 0),(13,eB 13 v11),(33,Row.av eF.cells a1),(34,iv (a1.l.length:Int)),(35,iv (k10:Int))]) rfl cu)
 refine qg ?_
 refine fu ((k10:Int)) (1) ?_
 refine ab ?_
 exact ⟨by omega,(v11),(l12),H13,cA,hS14,(Eq.trans (b:=[(3,iv a3),(4,iv a4),(5,.la 5 0),(7,.la 7 0),(11,iv r2),(12,.la 12 0),(13,eB 13 v11),(33,Row.av eF.cells a1),(34,iv (a1.l.length:Int)),(35,iv ((k10:Int)+1))]) rfl cu),rfl⟩
 refine bG ?_
 refine aY ?_
 refine e7 (H:=H13) rfl (fX (H:=H13) (i:=0) (l:=l12) (enc:=eu) [((k10:Int))] hS14 rfl rfl rfl rfl rfl rfl rfl rfl rfl (fun _=>rfl) (.inl rfl) cF (fun _=>rfl)) ?_
 rintro v33 H34 hS35
 refine ab ?_
 refine wa [(3,iv a3),(4,iv a4),(5,.la 5 0),(7,.la 7 0),(11,iv r2),(12,.la 12 0),(13,v33),(33,Row.av eF.cells a1),(34,iv (a1.l.length:Int)),(35,iv (k10:Int))] H34 [(5,(eb.cells a0)),(7,(eS.cells a2)),(12,(fY.cells x7))] ?_ (Eq.trans (b:=[(3,iv a3),(4,iv a4),(5,.la 5 0),(7,.la 7 0),(11,iv r2),(12,.la 12 0),(13,eB 13 v33),(33,Row.av eF.cells a1),(34,iv (a1.l.length:Int)),(35,iv (k10:Int))]) rfl dx)
 refine qg ?_
 refine fu ((k10:Int)) (1) ?_
 refine ab ?_
 exact ⟨by omega,(v33),((l12++[((k10:Int))])),H34,cA,hS35,(Eq.trans (b:=[(3,iv a3),(4,iv a4),(5,.la 5 0),(7,.la 7 0),(11,iv r2),(12,.la 12 0),(13,eB 13 v33),(33,Row.av eF.cells a1),(34,iv (a1.l.length:Int)),(35,iv ((k10:Int)+1))]) rfl dx),rfl⟩
 refine bp ?_
 iterate 7 refine rS ?_
 refine bu ?_
 refine wa [(3,iv a3),(4,iv a4),(5,.la 5 0),(7,.la 7 0),(11,iv r2),(12,.la 12 0),(13,v11),(33,Row.av eF.cells a1),(34,iv (a1.l.length:Int)),(35,iv (k10:Int))] H13 [(5,(eb.cells a0)),(7,(eS.cells a2)),(12,(fY.cells x7))] ?_ (Eq.trans (b:=[(3,iv a3),(4,iv a4),(5,.la 5 0),(7,.la 7 0),(11,iv r2),(12,.la 12 0),(13,eB 13 v11),(33,Row.av eF.cells a1),(34,iv (a1.l.length:Int)),(35,iv (k10:Int))]) rfl cu)
 refine qg ?_
 refine fu ((k10:Int)) (1) ?_
 refine ab ?_
 exact ⟨by omega,(v11),(l12),H13,cA,hS14,(Eq.trans (b:=[(3,iv a3),(4,iv a4),(5,.la 5 0),(7,.la 7 0),(11,iv r2),(12,.la 12 0),(13,eB 13 v11),(33,Row.av eF.cells a1),(34,iv (a1.l.length:Int)),(35,iv ((k10:Int)+1))]) rfl cu),rfl⟩
 refine aF ?_
 refine gK (x18.from_) (r2) (fun h36=>?_) (fun h36=>?_)
 refine bf ?_
 refine bC ?_
 refine oS ?_
 refine bC ?_
 refine aL ?_
 refine bJ ?_
 refine wa [(3,iv a3),(4,iv a4),(5,.la 5 0),(7,.la 7 0),(11,iv r2),(12,.la 12 0),(13,v11),(33,Row.av eF.cells a1),(34,iv (a1.l.length:Int)),(35,iv (k10:Int))] H13 [(5,(eb.cells a0)),(7,(eS.cells a2)),(12,(fY.cells x7))] ?_ (Eq.trans (b:=[(3,iv a3),(4,iv a4),(5,.la 5 0),(7,.la 7 0),(11,iv r2),(12,.la 12 0),(13,eB 13 v11),(33,Row.av eF.cells a1),(34,iv (a1.l.length:Int)),(35,iv (k10:Int))]) rfl cu)
 refine qg ?_
 refine fu ((k10:Int)) (1) ?_
 refine ab ?_
 exact ⟨by omega,(v11),(l12),H13,cA,hS14,(Eq.trans (b:=[(3,iv a3),(4,iv a4),(5,.la 5 0),(7,.la 7 0),(11,iv r2),(12,.la 12 0),(13,eB 13 v11),(33,Row.av eF.cells a1),(34,iv (a1.l.length:Int)),(35,iv ((k10:Int)+1))]) rfl cu),rfl⟩
 iterate 5 refine oV ?_
 refine gK (x18.end_) (x7.end_) (fun h37=>?_) (fun h37=>?_)
 refine bC ?_
 refine oS ?_
 refine bC ?_
 refine aL ?_
 refine bJ ?_
 refine wa [(3,iv a3),(4,iv a4),(5,.la 5 0),(7,.la 7 0),(11,iv r2),(12,.la 12 0),(13,v11),(33,Row.av eF.cells a1),(34,iv (a1.l.length:Int)),(35,iv (k10:Int))] H13 [(5,(eb.cells a0)),(7,(eS.cells a2)),(12,(fY.cells x7))] ?_ (Eq.trans (b:=[(3,iv a3),(4,iv a4),(5,.la 5 0),(7,.la 7 0),(11,iv r2),(12,.la 12 0),(13,eB 13 v11),(33,Row.av eF.cells a1),(34,iv (a1.l.length:Int)),(35,iv (k10:Int))]) rfl cu)
 refine qg ?_
 refine fu ((k10:Int)) (1) ?_
 refine ab ?_
 exact ⟨by omega,(v11),(l12),H13,cA,hS14,(Eq.trans (b:=[(3,iv a3),(4,iv a4),(5,.la 5 0),(7,.la 7 0),(11,iv r2),(12,.la 12 0),(13,eB 13 v11),(33,Row.av eF.cells a1),(34,iv (a1.l.length:Int)),(35,iv ((k10:Int)+1))]) rfl cu),rfl⟩
 iterate 4 refine oV ?_
 refine fj (x7.end_) (1) (fun h38=>?_) (fun h38=>?_)
 iterate 5 refine oV ?_
 refine gK (x18.to) (x7.to) (fun h39=>?_) (fun h39=>?_)
 refine oV ?_
 refine bC ?_
 refine aL ?_
 refine bJ ?_
 refine wa [(3,iv a3),(4,iv a4),(5,.la 5 0),(7,.la 7 0),(11,iv r2),(12,.la 12 0),(13,v11),(33,Row.av eF.cells a1),(34,iv (a1.l.length:Int)),(35,iv (k10:Int))] H13 [(5,(eb.cells a0)),(7,(eS.cells a2)),(12,(fY.cells x7))] ?_ (Eq.trans (b:=[(3,iv a3),(4,iv a4),(5,.la 5 0),(7,.la 7 0),(11,iv r2),(12,.la 12 0),(13,eB 13 v11),(33,Row.av eF.cells a1),(34,iv (a1.l.length:Int)),(35,iv (k10:Int))]) rfl cu)
 refine qg ?_
 refine fu ((k10:Int)) (1) ?_
 refine ab ?_
 exact ⟨by omega,(v11),(l12),H13,cA,hS14,(Eq.trans (b:=[(3,iv a3),(4,iv a4),(5,.la 5 0),(7,.la 7 0),(11,iv r2),(12,.la 12 0),(13,eB 13 v11),(33,Row.av eF.cells a1),(34,iv (a1.l.length:Int)),(35,iv ((k10:Int)+1))]) rfl cu),rfl⟩
 iterate 5 refine oV ?_
 refine gK (x7.end_) (1) (fun h40=>?_) (fun h40=>?_)
 iterate 4 refine oV ?_
 refine gK (x22.elem) (x7.to) (fun h41=>?_) (fun h41=>?_)
 refine oV ?_
 refine aL ?_
 refine bJ ?_
 refine wa [(3,iv a3),(4,iv a4),(5,.la 5 0),(7,.la 7 0),(11,iv r2),(12,.la 12 0),(13,v11),(33,Row.av eF.cells a1),(34,iv (a1.l.length:Int)),(35,iv (k10:Int))] H13 [(5,(eb.cells a0)),(7,(eS.cells a2)),(12,(fY.cells x7))] ?_ (Eq.trans (b:=[(3,iv a3),(4,iv a4),(5,.la 5 0),(7,.la 7 0),(11,iv r2),(12,.la 12 0),(13,eB 13 v11),(33,Row.av eF.cells a1),(34,iv (a1.l.length:Int)),(35,iv (k10:Int))]) rfl cu)
 refine qg ?_
 refine fu ((k10:Int)) (1) ?_
 refine ab ?_
 exact ⟨by omega,(v11),(l12),H13,cA,hS14,(Eq.trans (b:=[(3,iv a3),(4,iv a4),(5,.la 5 0),(7,.la 7 0),(11,iv r2),(12,.la 12 0),(13,eB 13 v11),(33,Row.av eF.cells a1),(34,iv (a1.l.length:Int)),(35,iv ((k10:Int)+1))]) rfl cu),rfl⟩
 iterate 4 refine oV ?_
 refine gH (b:=x18.bare) rfl (fun _=>rfl) (fun h42=>?_) (fun h42=>?_)
 refine bJ ?_
 refine wa [(3,iv a3),(4,iv a4),(5,.la 5 0),(7,.la 7 0),(11,iv r2),(12,.la 12 0),(13,v11),(33,Row.av eF.cells a1),(34,iv (a1.l.length:Int)),(35,iv (k10:Int))] H13 [(5,(eb.cells a0)),(7,(eS.cells a2)),(12,(fY.cells x7))] ?_ (Eq.trans (b:=[(3,iv a3),(4,iv a4),(5,.la 5 0),(7,.la 7 0),(11,iv r2),(12,.la 12 0),(13,eB 13 v11),(33,Row.av eF.cells a1),(34,iv (a1.l.length:Int)),(35,iv (k10:Int))]) rfl cu)
 refine qg ?_
 refine fu ((k10:Int)) (1) ?_
 refine ab ?_
 exact ⟨by omega,(v11),(l12),H13,cA,hS14,(Eq.trans (b:=[(3,iv a3),(4,iv a4),(5,.la 5 0),(7,.la 7 0),(11,iv r2),(12,.la 12 0),(13,eB 13 v11),(33,Row.av eF.cells a1),(34,iv (a1.l.length:Int)),(35,iv ((k10:Int)+1))]) rfl cu),rfl⟩
 refine aw ?_
 exact ⟨(Eq.trans (b:=[(3,iv a3),(4,iv a4),(5,.la 5 0),(7,.la 7 0),(11,iv r2),(12,.la 12 0),(13,eB 13 v11),(14,iv (k10:Int)),(15,.la 15 0),(16,iv x22.elem),(33,Row.av eF.cells a1),(34,iv (a1.l.length:Int)),(35,iv (k10:Int))]) rfl cu),rfl⟩
 refine bk ?_
 iterate 4 refine oV ?_
 refine gH (b:=x18.bare) rfl (fun _=>rfl) (fun h43=>?_) (fun h43=>?_)
 refine bJ ?_
 refine wa [(3,iv a3),(4,iv a4),(5,.la 5 0),(7,.la 7 0),(11,iv r2),(12,.la 12 0),(13,v11),(33,Row.av eF.cells a1),(34,iv (a1.l.length:Int)),(35,iv (k10:Int))] H13 [(5,(eb.cells a0)),(7,(eS.cells a2)),(12,(fY.cells x7))] ?_ (Eq.trans (b:=[(3,iv a3),(4,iv a4),(5,.la 5 0),(7,.la 7 0),(11,iv r2),(12,.la 12 0),(13,eB 13 v11),(33,Row.av eF.cells a1),(34,iv (a1.l.length:Int)),(35,iv (k10:Int))]) rfl cu)
 refine qg ?_
 refine fu ((k10:Int)) (1) ?_
 refine ab ?_
 exact ⟨by omega,(v11),(l12),H13,cA,hS14,(Eq.trans (b:=[(3,iv a3),(4,iv a4),(5,.la 5 0),(7,.la 7 0),(11,iv r2),(12,.la 12 0),(13,eB 13 v11),(33,Row.av eF.cells a1),(34,iv (a1.l.length:Int)),(35,iv ((k10:Int)+1))]) rfl cu),rfl⟩
 refine aw ?_
 exact ⟨(Eq.trans (b:=[(3,iv a3),(4,iv a4),(5,.la 5 0),(7,.la 7 0),(11,iv r2),(12,.la 12 0),(13,eB 13 v11),(14,iv (k10:Int)),(15,.la 15 0),(16,iv x22.elem),(33,Row.av eF.cells a1),(34,iv (a1.l.length:Int)),(35,iv (k10:Int))]) rfl cu),rfl⟩
 refine bf ?_
 iterate 5 refine oV ?_
 refine gK (x7.end_) (1) (fun h44=>?_) (fun h44=>?_)
 iterate 4 refine oV ?_
 refine gK (x22.elem) (x7.to) (fun h45=>?_) (fun h45=>?_)
 refine oV ?_
 refine aL ?_
 refine bJ ?_
 refine wa [(3,iv a3),(4,iv a4),(5,.la 5 0),(7,.la 7 0),(11,iv r2),(12,.la 12 0),(13,v11),(33,Row.av eF.cells a1),(34,iv (a1.l.length:Int)),(35,iv (k10:Int))] H13 [(5,(eb.cells a0)),(7,(eS.cells a2)),(12,(fY.cells x7))] ?_ (Eq.trans (b:=[(3,iv a3),(4,iv a4),(5,.la 5 0),(7,.la 7 0),(11,iv r2),(12,.la 12 0),(13,eB 13 v11),(33,Row.av eF.cells a1),(34,iv (a1.l.length:Int)),(35,iv (k10:Int))]) rfl cu)
 refine qg ?_
 refine fu ((k10:Int)) (1) ?_
 refine ab ?_
 exact ⟨by omega,(v11),(l12),H13,cA,hS14,(Eq.trans (b:=[(3,iv a3),(4,iv a4),(5,.la 5 0),(7,.la 7 0),(11,iv r2),(12,.la 12 0),(13,eB 13 v11),(33,Row.av eF.cells a1),(34,iv (a1.l.length:Int)),(35,iv ((k10:Int)+1))]) rfl cu),rfl⟩
 iterate 4 refine oV ?_
 refine gH (b:=x18.bare) rfl (fun _=>rfl) (fun h46=>?_) (fun h46=>?_)
 refine bJ ?_
 refine wa [(3,iv a3),(4,iv a4),(5,.la 5 0),(7,.la 7 0),(11,iv r2),(12,.la 12 0),(13,v11),(33,Row.av eF.cells a1),(34,iv (a1.l.length:Int)),(35,iv (k10:Int))] H13 [(5,(eb.cells a0)),(7,(eS.cells a2)),(12,(fY.cells x7))] ?_ (Eq.trans (b:=[(3,iv a3),(4,iv a4),(5,.la 5 0),(7,.la 7 0),(11,iv r2),(12,.la 12 0),(13,eB 13 v11),(33,Row.av eF.cells a1),(34,iv (a1.l.length:Int)),(35,iv (k10:Int))]) rfl cu)
 refine qg ?_
 refine fu ((k10:Int)) (1) ?_
 refine ab ?_
 exact ⟨by omega,(v11),(l12),H13,cA,hS14,(Eq.trans (b:=[(3,iv a3),(4,iv a4),(5,.la 5 0),(7,.la 7 0),(11,iv r2),(12,.la 12 0),(13,eB 13 v11),(33,Row.av eF.cells a1),(34,iv (a1.l.length:Int)),(35,iv ((k10:Int)+1))]) rfl cu),rfl⟩
 refine aw ?_
 exact ⟨(Eq.trans (b:=[(3,iv a3),(4,iv a4),(5,.la 5 0),(7,.la 7 0),(11,iv r2),(12,.la 12 0),(13,eB 13 v11),(14,iv (k10:Int)),(15,.la 15 0),(16,iv x22.elem),(33,Row.av eF.cells a1),(34,iv (a1.l.length:Int)),(35,iv (k10:Int))]) rfl cu),rfl⟩
 refine bk ?_
 iterate 4 refine oV ?_
 refine gH (b:=x18.bare) rfl (fun _=>rfl) (fun h47=>?_) (fun h47=>?_)
 refine bJ ?_
 refine wa [(3,iv a3),(4,iv a4),(5,.la 5 0),(7,.la 7 0),(11,iv r2),(12,.la 12 0),(13,v11),(33,Row.av eF.cells a1),(34,iv (a1.l.length:Int)),(35,iv (k10:Int))] H13 [(5,(eb.cells a0)),(7,(eS.cells a2)),(12,(fY.cells x7))] ?_ (Eq.trans (b:=[(3,iv a3),(4,iv a4),(5,.la 5 0),(7,.la 7 0),(11,iv r2),(12,.la 12 0),(13,eB 13 v11),(33,Row.av eF.cells a1),(34,iv (a1.l.length:Int)),(35,iv (k10:Int))]) rfl cu)
 refine qg ?_
 refine fu ((k10:Int)) (1) ?_
 refine ab ?_
 exact ⟨by omega,(v11),(l12),H13,cA,hS14,(Eq.trans (b:=[(3,iv a3),(4,iv a4),(5,.la 5 0),(7,.la 7 0),(11,iv r2),(12,.la 12 0),(13,eB 13 v11),(33,Row.av eF.cells a1),(34,iv (a1.l.length:Int)),(35,iv ((k10:Int)+1))]) rfl cu),rfl⟩
 refine aw ?_
 exact ⟨(Eq.trans (b:=[(3,iv a3),(4,iv a4),(5,.la 5 0),(7,.la 7 0),(11,iv r2),(12,.la 12 0),(13,eB 13 v11),(14,iv (k10:Int)),(15,.la 15 0),(16,iv x22.elem),(33,Row.av eF.cells a1),(34,iv (a1.l.length:Int)),(35,iv (k10:Int))]) rfl cu),rfl⟩
 refine am ?_
 refine wa [(13,v11)] H13 [] ?_ (Eq.trans (b:=[(13,eB 13 v11)]) rfl cu)
 refine a9 ?_
 obtain ⟨r48,hl49,hf50⟩:=gQ (H:=H13) (i:=0) (l:=l12) (enc:=eu) hS14 rfl cz
 have hlq:=hl49; have hln52:=congrArg List.length hl49
 have hz51:∀ m,freeze false { H13 with dO:=[] } (m+2) v11=some (Row.av eu r48):=fun m=>hf50 _ _ (fun _=>rfl)
 exact ⟨v11,(ia (vs:=[v11]) rfl (eJ (Sep.arg (i:=0) hS14 rfl) fG)),Row.av eu r48,(show freeze false { H13 with dO:=[] } 8 v11=some (Row.av eu r48) by simp only [FZ,hz51]),r48,d7,rfl⟩
theorem Nm:eG.get 14=some B3:=by kernel_rfl
theorem IE:ei 14=none:=by kernel_rfl
def WE (_a0:eb) (_a1:Row eF) (_a2:eS) (v:AV):Prop:=∃ r0:Int,(True)∧v=iv r0
theorem t14 (a0:eb) (a1:Row eF) (a2:eS) (q1:(∀ r∈a1.l,0<r.steps.l.length)) (q2:a1.l.length≤64) (h:bY):∃ v,eH cfg eG.get ei false 14 [.agg (eb.cells a0),Row.av eF.cells a1,.agg (eS.cells a2)] h v h∧WE a0 a1 a2 v:=by
 refine eW IE Nm rfl rfl ?_
 refine ae ?_
 refine bX ?_
 have hL1:=a0.signals.lk
 refine fA a0.signals ?_
 refine aP ?_
 have hNk2:=a0.signals.lk
 refine eN (a0.signals.l.length) (fun k2 e h=>proj [1,3,5,23,24,25] e=[(1,Row.av eF.cells a1),(3,.la 3 0),(5,.la 5 0),(23,Row.av fe.cells a0.signals),(24,iv (a0.signals.l.length:Int)),(25,iv (k2:Int))]∧{ h with dO:=eV [1,3,5,23,24,25] h.dO } = { bY.empty with dO:=[(3,(eb.cells a0)),(5,(eS.cells a2))] }) ?_ (k0:=0) cB ⟨rfl,rfl⟩
 rintro k2 e h hkk2 ⟨he,hh⟩
 refine ff he hh ?_
 clear he hh
 refine aa ?_
 refine fg ((k2:Int)) ((a0.signals.l.length:Int)) (fun h3=>?_) (fun h3=>?_)
 refine ao ?_
 refine w0 [(1,Row.av eF.cells a1),(3,.la 3 0),(5,.la 5 0),(23,Row.av fe.cells a0.signals),(24,iv (a0.signals.l.length:Int)),(25,iv (k2:Int))] [(3,(eb.cells a0)),(5,(eS.cells a2))] ?_
 refine bg ?_
 have hx4:k2<a0.signals.l.length:=by omega
 refine gL k2 a0.signals hx4 ?_
 generalize hqx5:a0.signals.l[k2]=x5
 refine aW ?_
 refine aj ?_
 refine gH (b:=x5.auto) rfl (fun _=>rfl) (fun h6=>?_) (fun h6=>?_)
 refine be ?_
 exact xA (iv 7) ⟨(7),trivial,rfl⟩
 refine az ?_
 refine w0 [(1,Row.av eF.cells a1),(3,.la 3 0),(5,.la 5 0),(23,Row.av fe.cells a0.signals),(24,iv (a0.signals.l.length:Int)),(25,iv (k2:Int))] [(3,(eb.cells a0)),(5,(eS.cells a2))] ?_
 refine qg ?_
 refine fu ((k2:Int)) (1) ?_
 refine ab ?_
 exact ⟨by omega,rfl,rfl⟩
 refine am ?_
 refine w0 [(1,Row.av eF.cells a1),(3,.la 3 0),(5,.la 5 0)] [(3,(eb.cells a0)),(5,(eS.cells a2))] ?_
 refine aI ?_
 refine oC (t35 a0 a2) ?_
 rintro _ ⟨r8,hc7,rfl⟩
 have hC35:=hc7; have hPre:=fun (hz : _=(0:Int))=>ot.Sv (hc7 hz)
 refine ce ?_
 refine gK (r8) (0) (fun h9=>?_) (fun h9=>?_)
 refine bW ?_
 exact xA (iv r8) ⟨(r8),trivial,rfl⟩
 refine az ?_
 refine w0 [(1,Row.av eF.cells a1),(3,.la 3 0),(5,.la 5 0)] [(3,(eb.cells a0)),(5,(eS.cells a2))] ?_
 refine aa ?_
 refine bX ?_
 have hL10:=a2.runs.lk
 refine fA a2.runs ?_
 refine aP ?_
 have hNk11:=a2.runs.lk
 refine eN (a2.runs.l.length) (fun k11 e h=>proj [1,3,5,10,40,41] e=[(1,Row.av eF.cells a1),(3,.la 3 0),(5,.la 5 0),(10,.sl [] .nil),(40,iv (a2.runs.l.length:Int)),(41,iv (k11:Int))]∧{ h with dO:=eV [1,3,5,10,40,41] h.dO } = { bY.empty with dO:=[(3,(eb.cells a0)),(5,(eS.cells a2))] }) ?_ (k0:=0) cB ⟨rfl,rfl⟩
 rintro k11 e h hkk11 ⟨he,hh⟩
 refine ff he hh ?_
 clear he hh
 refine aa ?_
 refine fg ((k11:Int)) ((a2.runs.l.length:Int)) (fun h12=>?_) (fun h12=>?_)
 refine ao ?_
 refine w0 [(1,Row.av eF.cells a1),(3,.la 3 0),(5,.la 5 0),(10,.sl [] .nil),(40,iv (a2.runs.l.length:Int)),(41,iv (k11:Int))] [(3,(eb.cells a0)),(5,(eS.cells a2))] ?_
 refine bS ?_
 refine aF ?_
 refine oC (t37 a0 a2 ((k11:Int))) ?_
 rintro _ ⟨r14,r15,hc13,rfl⟩
 cases r15
 refine au ?_
 refine bZ ?_
 refine rV ?_
 have hx16:k11<a2.runs.l.length:=by omega
 refine jE k11 a2.runs hx16 ?_
 generalize hqx17:a2.runs.l[k11]=x17
 have hinx17:x17∈a2.runs.l:=by rw [← hqx17]; exact List.getElem_mem _
 have hsx17:=(hC35 cB).2 x17 hinx17
 iterate 2 refine rV ?_
 have hx18:(x17.fy).toNat<a2.fy.l.length:=by omega
 refine eI rfl rfl (fun _=>fE (n:=x17.fy) (r:=a2.fy) (enc:=fM.cells) rfl rfl rfl rfl rfl cB hx18 rfl) ?_
 generalize hqx19:a2.fy.l[(x17.fy).toNat]=x19
 iterate 3 refine rV ?_
 refine rC (t38 a0 (x19.len) r14) ?_
 rintro _ ⟨r21,r22,hc20,rfl⟩
 refine bc ?_
 refine aj ?_
 refine gK (r22) (0) (fun h23=>?_) (fun h23=>?_)
 refine bW ?_
 exact xA (iv r22) ⟨(r22),trivial,rfl⟩
 refine az ?_
 refine w0 [(1,Row.av eF.cells a1),(3,.la 3 0),(5,.la 5 0),(10,.sl [] .nil),(40,iv (a2.runs.l.length:Int)),(41,iv (k11:Int))] [(3,(eb.cells a0)),(5,(eS.cells a2))] ?_
 refine qg ?_
 refine fu ((k11:Int)) (1) ?_
 refine ab ?_
 exact ⟨by omega,rfl,rfl⟩
 refine au ?_
 refine bZ ?_
 refine rV ?_
 have hx24:k11<a2.runs.l.length:=by omega
 refine jE k11 a2.runs hx24 ?_
 generalize hqx25:a2.runs.l[k11]=x25
 have hinx25:x25∈a2.runs.l:=by rw [← hqx25]; exact List.getElem_mem _
 have hsx25:=(hC35 cB).2 x25 hinx25
 iterate 2 refine rV ?_
 have hx26:(x25.fy).toNat<a2.fy.l.length:=by omega
 refine eI rfl rfl (fun _=>fE (n:=x25.fy) (r:=a2.fy) (enc:=fM.cells) rfl rfl rfl rfl rfl cB hx26 rfl) ?_
 generalize hqx27:a2.fy.l[(x25.fy).toNat]=x27
 iterate 3 refine rV ?_
 refine rC (t38 a0 (x27.len) r14) ?_
 rintro _ ⟨r29,r30,hc28,rfl⟩
 refine bc ?_
 refine aj ?_
 refine gK (r30) (0) (fun h31=>?_) (fun h31=>?_)
 refine bW ?_
 exact xA (iv r30) ⟨(r30),trivial,rfl⟩
 refine az ?_
 refine w0 [(1,Row.av eF.cells a1),(3,.la 3 0),(5,.la 5 0),(10,.sl [] .nil),(40,iv (a2.runs.l.length:Int)),(41,iv (k11:Int))] [(3,(eb.cells a0)),(5,(eS.cells a2))] ?_
 refine qg ?_
 refine fu ((k11:Int)) (1) ?_
 refine ab ?_
 exact ⟨by omega,rfl,rfl⟩
 refine am ?_
 refine w0 [(1,Row.av eF.cells a1),(3,.la 3 0),(5,.la 5 0),(10,.sl [] .nil)] [(3,(eb.cells a0)),(5,(eS.cells a2))] ?_
 refine aI ?_
 have hL32:=a2.runs.lk
 refine fA a2.runs ?_
 refine aP ?_
 have hS33:=Sep.iF gg 1
 have hNk34:=a2.runs.lk
 refine eN (a2.runs.l.length) (fun k34 e h=>∃ v35:AV,∃ l36:List Int,∃ H37:bY,(l36.length≤0+k34)∧Sep H37 (.sl true true v35 1 (List.map eu l36)::[])∧proj [1,3,5,10,74,75] e=[(1,Row.av eF.cells a1),(3,.la 3 0),(5,.la 5 0),(10,v35),(74,iv (a2.runs.l.length:Int)),(75,iv (k34:Int))]∧{ h with dO:=eV [1,3,5,10,74,75] h.dO } = { H37 with dO:=[(3,(eb.cells a0)),(5,(eS.cells a2))] }) ?_ (k0:=0) cB ⟨((.sl [] .nil)),(([]:List Int)),bY.empty,c8,hS33,rfl,rfl⟩
 rintro k34 e h hkk34 ⟨v35,l36,H37,hl39,hS38,he,hh⟩
 refine ff he hh ?_
 clear he hh
 have hd8:=(hC35 cB).1
 refine aa ?_
 refine fg ((k34:Int)) ((a2.runs.l.length:Int)) (fun h40=>?_) (fun h40=>?_)
 refine ao ?_
 refine wa [(1,Row.av eF.cells a1),(3,.la 3 0),(5,.la 5 0),(10,v35),(74,iv (a2.runs.l.length:Int)),(75,iv (k34:Int))] H37 [(3,(eb.cells a0)),(5,(eS.cells a2))] ?_ (Eq.trans (b:=[(1,Row.av eF.cells a1),(3,.la 3 0),(5,.la 5 0),(10,eB 10 v35),(74,iv (a2.runs.l.length:Int)),(75,iv (k34:Int))]) rfl cR)
 refine bS ?_
 refine aF ?_
 refine oC (t37 a0 a2 ((k34:Int))) ?_
 rintro _ ⟨r42,r43,hc41,rfl⟩
 cases r43
 refine au ?_
 refine aG ?_
 refine oC (t15 a0 (r42.at_.elem)) ?_
 rintro _ ⟨r45,hc44,rfl⟩
 have hK:=hc44
 refine fj (r45) (1) (fun h46=>?_) (fun h46=>?_)
 refine ay ?_
 refine qs ?_
 refine aG ?_
 refine Exists.elim (gx (H:=H37) (i:=0) (l:=l36) (enc:=eu) hS38 rfl cP) (fun r47 hh=>And.elim (fun hl48 hf49=>?_) hh)
 have hln51:=congrArg List.length hl48
 have hz50:∀ m,freeze true { H37 with dO:=[] } (m+2) v35=some (eR.av eu r47):=fun m=>hf49 [] _ (fun _=>rfl)
 refine ib (args:=[v35,iv r42.at_.elem]) (p:=[]) (r:=[]) (args':=[eR.av eu r47,iv r42.at_.elem]) (R:=EK r47 (r42.at_.elem)) rfl rfl rfl rfl rfl (eJ (Sep.arg (i:=0) hS38 rfl) (eJ rfl fG)) rfl tC (gb (by show fx (freeze true { H37 with dO:=[] } 8) [v35,iv r42.at_.elem] = _; simp only [FZ,hz50]) (eJ (Sep.lF (i:=0) hS38 rfl) (eJ rfl fG))) (gb dt (eJ rfl (eJ rfl fG))) (fun h=>t39 r47 (r42.at_.elem)  h) ?_
 rintro _ ⟨r53,hc52,rfl⟩
 cases r53
 refine az ?_
 refine wa [(1,Row.av eF.cells a1),(3,.la 3 0),(5,.la 5 0),(10,v35),(17,.la 17 0),(74,iv (a2.runs.l.length:Int)),(75,iv (k34:Int))] H37 [(3,(eb.cells a0)),(5,(eS.cells a2)),(17,(gP.cells r42))] ?_ (Eq.trans (b:=[(1,Row.av eF.cells a1),(3,.la 3 0),(5,.la 5 0),(10,eB 10 v35),(17,.la 17 0),(74,iv (a2.runs.l.length:Int)),(75,iv (k34:Int))]) rfl cR)
 refine qg ?_
 iterate 5 refine oV ?_
 refine e7 (H:=H37) rfl (fX (H:=H37) (i:=0) (l:=l36) (enc:=eu) [(r42.at_.elem)] hS38 rfl rfl rfl rfl rfl rfl rfl rfl rfl (fun _=>rfl) (.inl rfl) cF (fun _=>rfl)) ?_
 rintro v54 H55 hS56
 refine ab ?_
 refine wa [(1,Row.av eF.cells a1),(3,.la 3 0),(5,.la 5 0),(10,v54),(74,iv (a2.runs.l.length:Int)),(75,iv (k34:Int))] H55 [(3,(eb.cells a0)),(5,(eS.cells a2))] ?_ (Eq.trans (b:=[(1,Row.av eF.cells a1),(3,.la 3 0),(5,.la 5 0),(10,eB 10 v54),(74,iv (a2.runs.l.length:Int)),(75,iv (k34:Int))]) rfl dA)
 refine qg ?_
 refine fu ((k34:Int)) (1) ?_
 refine ab ?_
 exact ⟨by omega,(v54),((l36++[(r42.at_.elem)])),H55,cA,hS56,(Eq.trans (b:=[(1,Row.av eF.cells a1),(3,.la 3 0),(5,.la 5 0),(10,eB 10 v54),(74,iv (a2.runs.l.length:Int)),(75,iv ((k34:Int)+1))]) rfl dA),rfl⟩
 refine be ?_
 exact xA (iv 18) ⟨(18),trivial,rfl⟩
 refine az ?_
 refine wa [(1,Row.av eF.cells a1),(3,.la 3 0),(5,.la 5 0),(10,v35),(74,iv (a2.runs.l.length:Int)),(75,iv (k34:Int))] H37 [(3,(eb.cells a0)),(5,(eS.cells a2))] ?_ (Eq.trans (b:=[(1,Row.av eF.cells a1),(3,.la 3 0),(5,.la 5 0),(10,eB 10 v35),(74,iv (a2.runs.l.length:Int)),(75,iv (k34:Int))]) rfl cR)
 refine qg ?_
 refine fu ((k34:Int)) (1) ?_
 refine ab ?_
 exact ⟨by omega,(v35),(l36),H37,cA,hS38,(Eq.trans (b:=[(1,Row.av eF.cells a1),(3,.la 3 0),(5,.la 5 0),(10,eB 10 v35),(74,iv (a2.runs.l.length:Int)),(75,iv ((k34:Int)+1))]) rfl cR),rfl⟩
 refine au ?_
 refine aG ?_
 refine oC (t15 a0 (r42.at_.elem)) ?_
 rintro _ ⟨r58,hc57,rfl⟩
 have hK:=hc57
 refine fj (r58) (1) (fun h59=>?_) (fun h59=>?_)
 refine ay ?_
 refine qs ?_
 refine aG ?_
 refine Exists.elim (gx (H:=H37) (i:=0) (l:=l36) (enc:=eu) hS38 rfl cP) (fun r60 hh=>And.elim (fun hl61 hf62=>?_) hh)
 have hln64:=congrArg List.length hl61
 have hz63:∀ m,freeze true { H37 with dO:=[] } (m+2) v35=some (eR.av eu r60):=fun m=>hf62 [] _ (fun _=>rfl)
 refine ib (args:=[v35,iv r42.at_.elem]) (p:=[]) (r:=[]) (args':=[eR.av eu r60,iv r42.at_.elem]) (R:=EK r60 (r42.at_.elem)) rfl rfl rfl rfl rfl (eJ (Sep.arg (i:=0) hS38 rfl) (eJ rfl fG)) rfl tC (gb (by show fx (freeze true { H37 with dO:=[] } 8) [v35,iv r42.at_.elem] = _; simp only [FZ,hz63]) (eJ (Sep.lF (i:=0) hS38 rfl) (eJ rfl fG))) (gb dt (eJ rfl (eJ rfl fG))) (fun h=>t39 r60 (r42.at_.elem)  h) ?_
 rintro _ ⟨r66,hc65,rfl⟩
 cases r66
 refine az ?_
 refine wa [(1,Row.av eF.cells a1),(3,.la 3 0),(5,.la 5 0),(10,v35),(17,.la 17 0),(74,iv (a2.runs.l.length:Int)),(75,iv (k34:Int))] H37 [(3,(eb.cells a0)),(5,(eS.cells a2)),(17,(gP.cells r42))] ?_ (Eq.trans (b:=[(1,Row.av eF.cells a1),(3,.la 3 0),(5,.la 5 0),(10,eB 10 v35),(17,.la 17 0),(74,iv (a2.runs.l.length:Int)),(75,iv (k34:Int))]) rfl cR)
 refine qg ?_
 iterate 5 refine oV ?_
 refine e7 (H:=H37) rfl (fX (H:=H37) (i:=0) (l:=l36) (enc:=eu) [(r42.at_.elem)] hS38 rfl rfl rfl rfl rfl rfl rfl rfl rfl (fun _=>rfl) (.inl rfl) cF (fun _=>rfl)) ?_
 rintro v67 H68 hS69
 refine ab ?_
 refine wa [(1,Row.av eF.cells a1),(3,.la 3 0),(5,.la 5 0),(10,v67),(74,iv (a2.runs.l.length:Int)),(75,iv (k34:Int))] H68 [(3,(eb.cells a0)),(5,(eS.cells a2))] ?_ (Eq.trans (b:=[(1,Row.av eF.cells a1),(3,.la 3 0),(5,.la 5 0),(10,eB 10 v67),(74,iv (a2.runs.l.length:Int)),(75,iv (k34:Int))]) rfl dz)
 refine qg ?_
 refine fu ((k34:Int)) (1) ?_
 refine ab ?_
 exact ⟨by omega,(v67),((l36++[(r42.at_.elem)])),H68,cA,hS69,(Eq.trans (b:=[(1,Row.av eF.cells a1),(3,.la 3 0),(5,.la 5 0),(10,eB 10 v67),(74,iv (a2.runs.l.length:Int)),(75,iv ((k34:Int)+1))]) rfl dz),rfl⟩
 refine be ?_
 exact xA (iv 18) ⟨(18),trivial,rfl⟩
 refine az ?_
 refine wa [(1,Row.av eF.cells a1),(3,.la 3 0),(5,.la 5 0),(10,v35),(74,iv (a2.runs.l.length:Int)),(75,iv (k34:Int))] H37 [(3,(eb.cells a0)),(5,(eS.cells a2))] ?_ (Eq.trans (b:=[(1,Row.av eF.cells a1),(3,.la 3 0),(5,.la 5 0),(10,eB 10 v35),(74,iv (a2.runs.l.length:Int)),(75,iv (k34:Int))]) rfl cR)
 refine qg ?_
 refine fu ((k34:Int)) (1) ?_
 refine ab ?_
 exact ⟨by omega,(v35),(l36),H37,cA,hS38,(Eq.trans (b:=[(1,Row.av eF.cells a1),(3,.la 3 0),(5,.la 5 0),(10,eB 10 v35),(74,iv (a2.runs.l.length:Int)),(75,iv ((k34:Int)+1))]) rfl cR),rfl⟩
 refine am ?_
 refine wa [(1,Row.av eF.cells a1),(3,.la 3 0),(5,.la 5 0)] H37 [(3,(eb.cells a0)),(5,(eS.cells a2))] ?_
 refine aI ?_
 have hL70:=a2.runs.lk
 refine fA a2.runs ?_
 refine aP ?_
 have hNk71:=a2.runs.lk
 refine eN (a2.runs.l.length) (fun k71 e h=>proj [1,3,5,104,105,106] e=[(1,Row.av eF.cells a1),(3,.la 3 0),(5,.la 5 0),(104,Row.av gj.cells a2.runs),(105,iv (a2.runs.l.length:Int)),(106,iv (k71:Int))]∧{ h with dO:=eV [1,3,5,104,105,106] h.dO } = { H37 with dO:=[(3,(eb.cells a0)),(5,(eS.cells a2))] }) ?_ (k0:=0) cB ⟨rfl,rfl⟩
 rintro k71 e h hkk71 ⟨he,hh⟩
 refine ff he hh ?_
 clear he hh
 refine aa ?_
 refine fg ((k71:Int)) ((a2.runs.l.length:Int)) (fun h72=>?_) (fun h72=>?_)
 refine ao ?_
 refine wa [(1,Row.av eF.cells a1),(3,.la 3 0),(5,.la 5 0),(104,Row.av gj.cells a2.runs),(105,iv (a2.runs.l.length:Int)),(106,iv (k71:Int))] H37 [(3,(eb.cells a0)),(5,(eS.cells a2))] ?_
 refine bE ?_
 have hx73:k71<a2.runs.l.length:=by omega
 refine gL k71 a2.runs hx73 ?_
 generalize hqx74:a2.runs.l[k71]=x74
 have hinx74:x74∈a2.runs.l:=by rw [← hqx74]; exact List.getElem_mem _
 have hsx74:=(hC35 cB).2 x74 hinx74
 refine bF ?_
 refine aI ?_
 have hL75:=x74.fK.lk
 refine fA x74.fK ?_
 refine fj ((x74.fK.l.length:Int)) (0) (fun h76=>?_) (fun h76=>?_)
 refine ba ?_
 iterate 8 refine oS ?_
 refine ai ?_
 exact xA (iv 10) ⟨(10),trivial,rfl⟩
 iterate 5 refine oV ?_
 have hL77:=x74.fK.lk
 refine fA x74.fK ?_
 have hL78:=x74.fK.lk
 refine g7 ((x74.fK.l.length:Int)) (1) ?_
 have hx79:((x74.fK.l.length:Int) - 1).toNat<x74.fK.l.length:=by omega
 refine eg rfl (fun _=>fE (n:=(x74.fK.l.length:Int) - 1) (r:=x74.fK) (enc:=fY.cells) rfl rfl rfl rfl rfl cB hx79 rfl) ?_
 generalize hqx80:x74.fK.l[((x74.fK.l.length:Int) - 1).toNat]=x80
 iterate 2 refine oV ?_
 refine gK (x80.end_) (2) (fun h81=>?_) (fun h81=>?_)
 refine ai ?_
 exact xA (iv 10) ⟨(10),trivial,rfl⟩
 refine aw ?_
 refine wa [(1,Row.av eF.cells a1),(3,.la 3 0),(5,.la 5 0),(19,iv (k71:Int)),(20,.la 20 0),(104,Row.av gj.cells a2.runs),(105,iv (a2.runs.l.length:Int)),(106,iv (k71:Int))] H37 [(3,(eb.cells a0)),(5,(eS.cells a2)),(20,(gj.cells x74))] ?_
 refine ae ?_
 have hL82:=x74.fK.lk
 refine fA x74.fK ?_
 refine aP ?_
 have hNk83:=x74.fK.lk
 refine eN (x74.fK.l.length) (fun k83 e h=>proj [1,3,5,19,104,105,106,129,130] e=[(1,Row.av eF.cells a1),(3,.la 3 0),(5,.la 5 0),(19,iv (k71:Int)),(104,Row.av gj.cells a2.runs),(105,iv (a2.runs.l.length:Int)),(106,iv (k71:Int)),(129,iv (x74.fK.l.length:Int)),(130,iv (k83:Int))]∧{ h with dO:=eV [1,3,5,19,104,105,106,129,130] h.dO } = { H37 with dO:=[(3,(eb.cells a0)),(5,(eS.cells a2))] }) ?_ (k0:=0) cB ⟨rfl,rfl⟩
 rintro k83 e h hkk83 ⟨he,hh⟩
 refine ff he hh ?_
 clear he hh
 refine aa ?_
 refine fg ((k83:Int)) ((x74.fK.l.length:Int)) (fun h84=>?_) (fun h84=>?_)
 refine ao ?_
 refine wa [(1,Row.av eF.cells a1),(3,.la 3 0),(5,.la 5 0),(19,iv (k71:Int)),(104,Row.av gj.cells a2.runs),(105,iv (a2.runs.l.length:Int)),(106,iv (k71:Int)),(129,iv (x74.fK.l.length:Int)),(130,iv (k83:Int))] H37 [(3,(eb.cells a0)),(5,(eS.cells a2))] ?_
 refine bS ?_
 refine aG ?_
 refine oV ?_
 refine oC (t40 a0 a1 a2 ((k71:Int)) ((k83:Int)) cq cq cq) ?_
 rintro _ ⟨r86,hc85,rfl⟩
 have hL87:=r86.lk
 refine fA r86 ?_
 refine fj ((r86.l.length:Int)) (0) (fun h88=>?_) (fun h88=>?_)
 refine be ?_
 exact xA (iv 10) ⟨(10),trivial,rfl⟩
 refine az ?_
 refine wa [(1,Row.av eF.cells a1),(3,.la 3 0),(5,.la 5 0),(19,iv (k71:Int)),(104,Row.av gj.cells a2.runs),(105,iv (a2.runs.l.length:Int)),(106,iv (k71:Int)),(129,iv (x74.fK.l.length:Int)),(130,iv (k83:Int))] H37 [(3,(eb.cells a0)),(5,(eS.cells a2))] ?_
 refine qg ?_
 refine fu ((k83:Int)) (1) ?_
 refine ab ?_
 exact ⟨by omega,rfl,rfl⟩
 refine am ?_
 refine wa [(1,Row.av eF.cells a1),(3,.la 3 0),(5,.la 5 0),(104,Row.av gj.cells a2.runs),(105,iv (a2.runs.l.length:Int)),(106,iv (k71:Int))] H37 [(3,(eb.cells a0)),(5,(eS.cells a2))] ?_
 refine qg ?_
 refine fu ((k71:Int)) (1) ?_
 refine ab ?_
 exact ⟨by omega,rfl,rfl⟩
 refine am ?_
 refine wa [] H37 [] ?_
 refine a6 ?_
 exact xA (iv 0) ⟨(0),trivial,rfl⟩
theorem Up:eG.get 5=some Lf:=by kernel_rfl
theorem Pz:ei 5=none:=by kernel_rfl
def P5 (_a0:eb) (_a1:eS) (v:AV):Prop:=(∃ r0:gp,∃ r1:eE,(rF r1 _a0∧iY _a0∧ot _a1∧(∀ r∈(r0.roads.l:List eF),0<r.steps.l.length∧r.steps.l.length≤12∧r.gU.l.length≤12)∧r0.roads.l.length≤64)∧v=.eP [.agg (gp.cells r0),.ip (eE.cells r1) 0 false,.bool true])∨(∃ r0:gp,∃ r1:AV,(True)∧v=.eP [.agg (gp.cells r0),r1,.bool false])
theorem t5 (a0:eb) (a1:eS)  (h:bY):∃ v,eH cfg eG.get ei false 5 [.agg (eb.cells a0),.agg (eS.cells a1)] h v h∧P5 a0 a1 v:=by
 refine eW Pz Up rfl rfl ?_
 refine ae ?_
 refine cg ?_
 refine oC (t13 a0 a1) ?_
 rintro _ (⟨r2,r3,hc1,rfl⟩ | ⟨r4,r5,hc1,rfl⟩)
 iterate 2 refine oV ?_
 refine bD ?_
 iterate 6 refine oV ?_
 refine oC (t14 a0 r2.roads a1 cq cq) ?_
 rintro _ ⟨r7,hc6,rfl⟩
 refine gK (r7) (0) (fun h8=>?_) (fun h8=>?_)
 refine aC ?_
 refine bM ?_
 refine xF (.eP [.agg [.sl [] .nil,.sl [] .nil,.sl [] .nil,.sl [] .nil,iv 0,iv 0,iv 0,iv 0,.bool false,.sl [] .nil],.fS,.bool false]) (.inr (⟨((⟨(⟨(⟨[],.nil,Nat.zero_le _,rfl,fun _=>rfl⟩:Row e8),(⟨[],.nil,Nat.zero_le _,rfl,fun _=>rfl⟩:Row fo),(⟨[],.nil,Nat.zero_le _,rfl,fun _=>rfl⟩:Row fe),(⟨[],.nil,Nat.zero_le _,rfl,fun _=>rfl⟩:Row eZ),(0),(0),(0),(0),false⟩:eb),(⟨[],.nil,Nat.zero_le _,rfl,fun _=>rfl⟩:Row eF)⟩:gp)),.fS,trivial,rfl⟩))
 refine aw ?_
 refine w0 [(4,.la 4 0),(4,.la 4 0),(7,.la 7 0),(8,.ip (eE.cells r3) 0 false)] [(4,[.sl [] .nil,.sl [] .nil,.sl [] .nil,.sl [] .nil,iv 0,iv 0,iv 0,iv 0,.bool false,.sl [] .nil]),(4,[.sl [] .nil,.sl [] .nil,.sl [] .nil,.sl [] .nil,iv 0,iv 0,iv 0,iv 0,.bool false,.sl [] .nil]),(7,(gp.cells r2))] ?_
 refine aj ?_
 refine bb ?_
 refine xF (.eP [.agg (gp.cells r2),.ip (eE.cells r3) 0 false,.bool true]) (.inl ⟨r2,r3,dN,rfl⟩)
 iterate 2 refine oV ?_
 refine bD ?_
 refine aK ?_
 refine oS ?_
 refine aC ?_
 refine bM ?_
 refine xF (.eP [.agg [.sl [] .nil,.sl [] .nil,.sl [] .nil,.sl [] .nil,iv 0,iv 0,iv 0,iv 0,.bool false,.sl [] .nil],.fS,.bool false]) (.inr (⟨((⟨(⟨(⟨[],.nil,Nat.zero_le _,rfl,fun _=>rfl⟩:Row e8),(⟨[],.nil,Nat.zero_le _,rfl,fun _=>rfl⟩:Row fo),(⟨[],.nil,Nat.zero_le _,rfl,fun _=>rfl⟩:Row fe),(⟨[],.nil,Nat.zero_le _,rfl,fun _=>rfl⟩:Row eZ),(0),(0),(0),(0),false⟩:eb),(⟨[],.nil,Nat.zero_le _,rfl,fun _=>rfl⟩:Row eF)⟩:gp)),.fS,trivial,rfl⟩))
theorem Pv:eG.get 43=some Cu:=by kernel_rfl
theorem KD:ei 43=none:=by kernel_rfl
def Xd (_a0:eb) (_a1:Int) (_a2:Int) (v:AV):Prop:=∃ r0:Row fc,(True)∧v=Row.av fc.cells r0
theorem t43 (a0:eb) (a1:Int) (a2:Int)  (h:bY):∃ v,eH cfg eG.get ei false 43 [.agg (eb.cells a0),iv a1,iv a2] h v h∧Xd a0 a1 a2 v:=by
 refine eW KD Pv rfl rfl ?_
 refine aU ?_
 refine qs ?_
 refine aG ?_
 refine oC (t79 a0 (⟨(a1),(a2)⟩:ed)) ?_
 rintro _ ⟨r2,hc1,rfl⟩
 cases r2
 clear hc1
 refine ai ?_
 exact xF (.sl [] .nil) ⟨(⟨[],.nil,Nat.zero_le _,rfl,fun _=>rfl⟩:Row fc),trivial,rfl⟩
 have hc1t:=hc1 rfl
 refine aw ?_
 refine w0 [(1,iv a1),(2,iv a2),(3,.la 3 0)] [(3,(eb.cells a0))] ?_
 refine aI ?_
 refine oC (t41 a0 (a1)) ?_
 rintro _ ⟨r4,hc3,rfl⟩
 refine bP ?_
 refine fj (r4) (1) (fun h5=>?_) (fun h5=>?_)
 refine aC ?_
 refine aj ?_
 refine eg rfl (fun _=>fD rfl rfl rfl (gD .i64 (1) (a2))) ?_
 refine bz ?_
 exact xF (.sl [[iv (IntKind.i64.wrap (1 - (a2))),iv 0]] (.exact 1)) ⟨(⟨[(⟨(IntKind.i64.wrap (1 - (a2))),(0)⟩:fc)],.exact 1,Nat.le_of_ble_eq_true rfl,rfl,capXn⟩:Row fc),trivial,rfl⟩
 refine aS ?_
 refine fj (r4) (3) (fun h6=>?_) (fun h6=>?_)
 refine aC ?_
 refine aj ?_
 refine eg rfl (fun _=>fD rfl rfl rfl (JL _ _)) ?_
 refine bz ?_
 exact xF (.sl [[iv (IntKind.i64.wrap ((BitVec.ofInt 64 (a2) ^^^ BitVec.ofInt 64 (1)).toNat:Int)),iv 0]] (.exact 1)) ⟨(⟨[(⟨(IntKind.i64.wrap ((BitVec.ofInt 64 (a2) ^^^ BitVec.ofInt 64 (1)).toNat:Int)),(0)⟩:fc)],.exact 1,Nat.le_of_ble_eq_true rfl,rfl,capXn⟩:Row fc),trivial,rfl⟩
 refine aS ?_
 refine fj (r4) (2) (fun h7=>?_) (fun h7=>?_)
 refine aC ?_
 refine ak ?_
 refine fj (a2) (0) (fun h8=>?_) (fun h8=>?_)
 refine ay ?_
 refine bM ?_
 exact xF (.sl [[iv 1,iv 1],[iv 2,iv 2]] (.exact 2)) ⟨(⟨[(⟨(1),(1)⟩:fc),(⟨(2),(2)⟩:fc)],.exact 2,Nat.le_of_ble_eq_true rfl,rfl,capXn⟩:Row fc),trivial,rfl⟩
 refine az ?_
 refine w0 [(2,iv a2)] [] ?_
 refine bM ?_
 exact xF (.sl [[iv 0,iv a2]] (.exact 1)) ⟨(⟨[(⟨(0),(a2)⟩:fc)],.exact 1,Nat.le_of_ble_eq_true rfl,rfl,capXn⟩:Row fc),trivial,rfl⟩
 refine aw ?_
 refine w0 [] [] ?_
 refine a6 ?_
 exact xF (.sl [] .nil) ⟨(⟨[],.nil,Nat.zero_le _,rfl,fun _=>rfl⟩:Row fc),trivial,rfl⟩
theorem Nc:eG.get 16=some BQ:=by kernel_rfl
theorem JG:ei 16=none:=by kernel_rfl
def WH (_a0:eb) (_a1:Row ed) (v:AV):Prop:=∃ r0:Bool,((r0=true→0 < _a1.l.length))∧v=.bool r0
theorem t16 (a0:eb) (a1:Row ed)  (h:bY):∃ v,eH cfg eG.get ei false 16 [.agg (eb.cells a0),Row.av ed.cells a1] h v h∧WH a0 a1 v:=by
 refine eW JG Nc rfl rfl ?_
 refine aU ?_
 refine ak ?_
 have hL1:=a1.lk
 refine fA a1 ?_
 refine aP ?_
 have hNk2:=a1.lk
 refine eN (a1.l.length) (fun k2 e h=>proj [1,2,13,14,15] e=[(1,Row.av ed.cells a1),(2,.la 2 0),(13,Row.av ed.cells a1),(14,iv (a1.l.length:Int)),(15,iv (k2:Int))]∧{ h with dO:=eV [1,2,13,14,15] h.dO } = { bY.empty with dO:=[(2,(eb.cells a0))] }) ?_ (k0:=0) cB ⟨rfl,rfl⟩
 rintro k2 e h hkk2 ⟨he,hh⟩
 refine ff he hh ?_
 clear he hh
 refine aa ?_
 refine fg ((k2:Int)) ((a1.l.length:Int)) (fun h3=>?_) (fun h3=>?_)
 refine ao ?_
 refine w0 [(1,Row.av ed.cells a1),(2,.la 2 0),(13,Row.av ed.cells a1),(14,iv (a1.l.length:Int)),(15,iv (k2:Int))] [(2,(eb.cells a0))] ?_
 refine bE ?_
 have hx4:k2<a1.l.length:=by omega
 refine gL k2 a1 hx4 ?_
 generalize hqx5:a1.l[k2]=x5
 refine bF ?_
 refine aF ?_
 refine oC (t15 a0 (x5.elem)) ?_
 rintro _ ⟨r7,hc6,rfl⟩
 have hK:=hc6
 refine ab ?_
 refine qs ?_
 refine bi ?_
 refine j8 (x5.en) (0) (fun h8=>?_) (fun h8=>?_)
 refine rV ?_
 iterate 5 refine rS ?_
 refine bp ?_
 refine rS ?_
 refine bo ?_
 exact xA (.bool false) ⟨false,cQ,rfl⟩
 iterate 4 refine rV ?_
 refine rC (t42 (r7)) ?_
 rintro _ ⟨r10,hc9,rfl⟩
 refine jR (x5.en) (r10) (fun h11=>?_) (fun h11=>?_)
 refine bp ?_
 refine rS ?_
 refine bo ?_
 exact xA (.bool false) ⟨false,cQ,rfl⟩
 iterate 3 refine rV ?_
 refine kJ (r7) (4) (fun h12=>?_) (fun h12=>?_)
 iterate 2 refine rV ?_
 refine zj ((k2:Int)) (0) (fun h13=>?_) (fun h13=>?_)
 refine rV ?_
 iterate 3 refine rS ?_
 iterate 2 refine rV ?_
 refine aR ?_
 refine ac ?_
 exact xA (.bool false) ⟨false,cQ,rfl⟩
 iterate 2 refine rV ?_
 have hL14:=a1.lk
 refine GH a1 ?_
 refine kJ ((a1.l.length:Int)) (1) (fun h15=>?_) (fun h15=>?_)
 iterate 2 refine rV ?_
 refine aR ?_
 refine ac ?_
 exact xA (.bool false) ⟨false,cQ,rfl⟩
 iterate 2 refine rV ?_
 refine bu ?_
 refine w0 [(1,Row.av ed.cells a1),(2,.la 2 0),(5,iv (k2:Int)),(6,.la 6 0),(13,Row.av ed.cells a1),(14,iv (a1.l.length:Int)),(15,iv (k2:Int))] [(2,(eb.cells a0)),(6,(ed.cells x5))] ?_
 refine ak ?_
 refine fj ((k2:Int)) (0) (fun h16=>?_) (fun h16=>?_)
 refine ay ?_
 refine qe ?_
 refine w0 [(1,Row.av ed.cells a1),(2,.la 2 0),(13,Row.av ed.cells a1),(14,iv (a1.l.length:Int)),(15,iv (k2:Int))] [(2,(eb.cells a0))] ?_
 refine qg ?_
 refine fu ((k2:Int)) (1) ?_
 refine ab ?_
 exact ⟨by omega,rfl,rfl⟩
 refine az ?_
 refine w0 [(1,Row.av ed.cells a1),(2,.la 2 0),(5,iv (k2:Int)),(6,.la 6 0),(13,Row.av ed.cells a1),(14,iv (a1.l.length:Int)),(15,iv (k2:Int))] [(2,(eb.cells a0)),(6,(ed.cells x5))] ?_
 refine bO ?_
 refine JV ((k2:Int)) (1) ?_
 have hx17:((k2:Int) - 1).toNat<a1.l.length:=by omega
 refine eI rfl rfl (fun _=>fE (n:=(k2:Int) - 1) (r:=a1) (enc:=ed.cells) rfl rfl rfl rfl rfl cB hx17 rfl) ?_
 generalize hqx18:a1.l[((k2:Int) - 1).toNat]=x18
 refine rV ?_
 refine rC (t18 a0 x18) ?_
 rintro _ ⟨r20,r21,hc19,rfl⟩
 have hN:=hc19
 cases r21
 refine bc ?_
 refine ak ?_
 refine b5 ?_
 exact xA (.bool false) ⟨false,cQ,rfl⟩
 refine bc ?_
 refine bL ?_
 iterate 7 refine oV ?_
 refine gK (r20.elem) (x5.elem) (fun h22=>?_) (fun h22=>?_)
 refine ai ?_
 exact xA (.bool false) ⟨false,cQ,rfl⟩
 refine aw ?_
 refine w0 [(1,Row.av ed.cells a1),(2,.la 2 0),(6,.la 6 0),(8,.la 8 0),(13,Row.av ed.cells a1),(14,iv (a1.l.length:Int)),(15,iv (k2:Int))] [(2,(eb.cells a0)),(6,(ed.cells x5)),(8,(ed.cells r20))] ?_
 refine aO ?_
 iterate 4 refine oV ?_
 refine oC (t43 a0 (r20.elem) (r20.en)) ?_
 rintro _ ⟨r24,hc23,rfl⟩
 have hL25:=r24.lk
 refine fA r24 ?_
 refine aP ?_
 have hNk26:=r24.lk
 refine eN (r24.l.length) (fun k26 e h=>∃ b27:Bool,proj [1,2,6,10,13,14,15,73,74,75] e=[(1,Row.av ed.cells a1),(2,.la 2 0),(6,.la 6 0),(10,.bool b27),(13,Row.av ed.cells a1),(14,iv (a1.l.length:Int)),(15,iv (k2:Int)),(73,Row.av fc.cells r24),(74,iv (r24.l.length:Int)),(75,iv (k26:Int))]∧{ h with dO:=eV [1,2,6,10,13,14,15,73,74,75] h.dO } = { bY.empty with dO:=[(2,(eb.cells a0)),(6,(ed.cells x5))] }) ?_ (k0:=0) cB ⟨(false),rfl,rfl⟩
 rintro k26 e h hkk26 ⟨b27,he,hh⟩
 refine ff he hh ?_
 clear he hh
 refine aa ?_
 refine fg ((k26:Int)) ((r24.l.length:Int)) (fun h28=>?_) (fun h28=>?_)
 refine ao ?_
 refine w0 [(1,Row.av ed.cells a1),(2,.la 2 0),(6,.la 6 0),(10,.bool b27),(13,Row.av ed.cells a1),(14,iv (a1.l.length:Int)),(15,iv (k2:Int)),(73,Row.av fc.cells r24),(74,iv (r24.l.length:Int)),(75,iv (k26:Int))] [(2,(eb.cells a0)),(6,(ed.cells x5))] ?_
 refine bg ?_
 have hx29:k26<r24.l.length:=by omega
 refine gL k26 r24 hx29 ?_
 generalize hqx30:r24.l[k26]=x30
 refine aW ?_
 refine qg ?_
 refine gH (b:=b27) rfl (fun _=>rfl) (fun h31=>?_) (fun h31=>?_)
 refine bf ?_
 refine ah ?_
 refine w0 [(1,Row.av ed.cells a1),(2,.la 2 0),(6,.la 6 0),(10,.bool true),(13,Row.av ed.cells a1),(14,iv (a1.l.length:Int)),(15,iv (k2:Int)),(73,Row.av fc.cells r24),(74,iv (r24.l.length:Int)),(75,iv (k26:Int))] [(2,(eb.cells a0)),(6,(ed.cells x5))] ?_
 refine qg ?_
 refine fu ((k26:Int)) (1) ?_
 refine ab ?_
 exact ⟨by omega,(true),rfl,rfl⟩
 iterate 5 refine oV ?_
 refine fj (x30.out) (x5.en) (fun h32=>?_) (fun h32=>?_)
 refine ah ?_
 refine w0 [(1,Row.av ed.cells a1),(2,.la 2 0),(6,.la 6 0),(10,.bool true),(13,Row.av ed.cells a1),(14,iv (a1.l.length:Int)),(15,iv (k2:Int)),(73,Row.av fc.cells r24),(74,iv (r24.l.length:Int)),(75,iv (k26:Int))] [(2,(eb.cells a0)),(6,(ed.cells x5))] ?_
 refine qg ?_
 refine fu ((k26:Int)) (1) ?_
 refine ab ?_
 exact ⟨by omega,(true),rfl,rfl⟩
 refine ah ?_
 refine w0 [(1,Row.av ed.cells a1),(2,.la 2 0),(6,.la 6 0),(10,.bool false),(13,Row.av ed.cells a1),(14,iv (a1.l.length:Int)),(15,iv (k2:Int)),(73,Row.av fc.cells r24),(74,iv (r24.l.length:Int)),(75,iv (k26:Int))] [(2,(eb.cells a0)),(6,(ed.cells x5))] ?_
 refine qg ?_
 refine fu ((k26:Int)) (1) ?_
 refine ab ?_
 exact ⟨by omega,(false),rfl,rfl⟩
 refine am ?_
 refine w0 [(1,Row.av ed.cells a1),(2,.la 2 0),(10,.bool b27),(13,Row.av ed.cells a1),(14,iv (a1.l.length:Int)),(15,iv (k2:Int))] [(2,(eb.cells a0))] ?_
 refine aa ?_
 refine gH (b:=b27) rfl (fun _=>rfl) (fun h33=>?_) (fun h33=>?_)
 refine aw ?_
 refine w0 [(1,Row.av ed.cells a1),(2,.la 2 0),(13,Row.av ed.cells a1),(14,iv (a1.l.length:Int)),(15,iv (k2:Int))] [(2,(eb.cells a0))] ?_
 refine qg ?_
 refine fu ((k2:Int)) (1) ?_
 refine ab ?_
 exact ⟨by omega,rfl,rfl⟩
 refine ai ?_
 exact xA (.bool false) ⟨false,cQ,rfl⟩
 refine ck ?_
 refine rS ?_
 refine rV ?_
 refine bu ?_
 refine w0 [(1,Row.av ed.cells a1),(2,.la 2 0),(5,iv (k2:Int)),(6,.la 6 0),(13,Row.av ed.cells a1),(14,iv (a1.l.length:Int)),(15,iv (k2:Int))] [(2,(eb.cells a0)),(6,(ed.cells x5))] ?_
 refine ak ?_
 refine fj ((k2:Int)) (0) (fun h34=>?_) (fun h34=>?_)
 refine ay ?_
 refine qe ?_
 refine w0 [(1,Row.av ed.cells a1),(2,.la 2 0),(13,Row.av ed.cells a1),(14,iv (a1.l.length:Int)),(15,iv (k2:Int))] [(2,(eb.cells a0))] ?_
 refine qg ?_
 refine fu ((k2:Int)) (1) ?_
 refine ab ?_
 exact ⟨by omega,rfl,rfl⟩
 refine az ?_
 refine w0 [(1,Row.av ed.cells a1),(2,.la 2 0),(5,iv (k2:Int)),(6,.la 6 0),(13,Row.av ed.cells a1),(14,iv (a1.l.length:Int)),(15,iv (k2:Int))] [(2,(eb.cells a0)),(6,(ed.cells x5))] ?_
 refine bO ?_
 refine JV ((k2:Int)) (1) ?_
 have hx35:((k2:Int) - 1).toNat<a1.l.length:=by omega
 refine eI rfl rfl (fun _=>fE (n:=(k2:Int) - 1) (r:=a1) (enc:=ed.cells) rfl rfl rfl rfl rfl cB hx35 rfl) ?_
 generalize hqx36:a1.l[((k2:Int) - 1).toNat]=x36
 refine rV ?_
 refine rC (t18 a0 x36) ?_
 rintro _ ⟨r38,r39,hc37,rfl⟩
 have hN:=hc37
 cases r39
 refine bc ?_
 refine ak ?_
 refine b5 ?_
 exact xA (.bool false) ⟨false,cQ,rfl⟩
 refine bc ?_
 refine bL ?_
 iterate 7 refine oV ?_
 refine gK (r38.elem) (x5.elem) (fun h40=>?_) (fun h40=>?_)
 refine ai ?_
 exact xA (.bool false) ⟨false,cQ,rfl⟩
 refine aw ?_
 refine w0 [(1,Row.av ed.cells a1),(2,.la 2 0),(6,.la 6 0),(8,.la 8 0),(13,Row.av ed.cells a1),(14,iv (a1.l.length:Int)),(15,iv (k2:Int))] [(2,(eb.cells a0)),(6,(ed.cells x5)),(8,(ed.cells r38))] ?_
 refine aO ?_
 iterate 4 refine oV ?_
 refine oC (t43 a0 (r38.elem) (r38.en)) ?_
 rintro _ ⟨r42,hc41,rfl⟩
 have hL43:=r42.lk
 refine fA r42 ?_
 refine aP ?_
 have hNk44:=r42.lk
 refine eN (r42.l.length) (fun k44 e h=>∃ b45:Bool,proj [1,2,6,10,13,14,15,73,74,75] e=[(1,Row.av ed.cells a1),(2,.la 2 0),(6,.la 6 0),(10,.bool b45),(13,Row.av ed.cells a1),(14,iv (a1.l.length:Int)),(15,iv (k2:Int)),(73,Row.av fc.cells r42),(74,iv (r42.l.length:Int)),(75,iv (k44:Int))]∧{ h with dO:=eV [1,2,6,10,13,14,15,73,74,75] h.dO } = { bY.empty with dO:=[(2,(eb.cells a0)),(6,(ed.cells x5))] }) ?_ (k0:=0) cB ⟨(false),rfl,rfl⟩
 rintro k44 e h hkk44 ⟨b45,he,hh⟩
 refine ff he hh ?_
 clear he hh
 refine aa ?_
 refine fg ((k44:Int)) ((r42.l.length:Int)) (fun h46=>?_) (fun h46=>?_)
 refine ao ?_
 refine w0 [(1,Row.av ed.cells a1),(2,.la 2 0),(6,.la 6 0),(10,.bool b45),(13,Row.av ed.cells a1),(14,iv (a1.l.length:Int)),(15,iv (k2:Int)),(73,Row.av fc.cells r42),(74,iv (r42.l.length:Int)),(75,iv (k44:Int))] [(2,(eb.cells a0)),(6,(ed.cells x5))] ?_
 refine bg ?_
 have hx47:k44<r42.l.length:=by omega
 refine gL k44 r42 hx47 ?_
 generalize hqx48:r42.l[k44]=x48
 refine aW ?_
 refine qg ?_
 refine gH (b:=b45) rfl (fun _=>rfl) (fun h49=>?_) (fun h49=>?_)
 refine bf ?_
 refine ah ?_
 refine w0 [(1,Row.av ed.cells a1),(2,.la 2 0),(6,.la 6 0),(10,.bool true),(13,Row.av ed.cells a1),(14,iv (a1.l.length:Int)),(15,iv (k2:Int)),(73,Row.av fc.cells r42),(74,iv (r42.l.length:Int)),(75,iv (k44:Int))] [(2,(eb.cells a0)),(6,(ed.cells x5))] ?_
 refine qg ?_
 refine fu ((k44:Int)) (1) ?_
 refine ab ?_
 exact ⟨by omega,(true),rfl,rfl⟩
 iterate 5 refine oV ?_
 refine fj (x48.out) (x5.en) (fun h50=>?_) (fun h50=>?_)
 refine ah ?_
 refine w0 [(1,Row.av ed.cells a1),(2,.la 2 0),(6,.la 6 0),(10,.bool true),(13,Row.av ed.cells a1),(14,iv (a1.l.length:Int)),(15,iv (k2:Int)),(73,Row.av fc.cells r42),(74,iv (r42.l.length:Int)),(75,iv (k44:Int))] [(2,(eb.cells a0)),(6,(ed.cells x5))] ?_
 refine qg ?_
 refine fu ((k44:Int)) (1) ?_
 refine ab ?_
 exact ⟨by omega,(true),rfl,rfl⟩
 refine ah ?_
 refine w0 [(1,Row.av ed.cells a1),(2,.la 2 0),(6,.la 6 0),(10,.bool false),(13,Row.av ed.cells a1),(14,iv (a1.l.length:Int)),(15,iv (k2:Int)),(73,Row.av fc.cells r42),(74,iv (r42.l.length:Int)),(75,iv (k44:Int))] [(2,(eb.cells a0)),(6,(ed.cells x5))] ?_
 refine qg ?_
 refine fu ((k44:Int)) (1) ?_
 refine ab ?_
 exact ⟨by omega,(false),rfl,rfl⟩
 refine am ?_
 refine w0 [(1,Row.av ed.cells a1),(2,.la 2 0),(10,.bool b45),(13,Row.av ed.cells a1),(14,iv (a1.l.length:Int)),(15,iv (k2:Int))] [(2,(eb.cells a0))] ?_
 refine aa ?_
 refine gH (b:=b45) rfl (fun _=>rfl) (fun h51=>?_) (fun h51=>?_)
 refine aw ?_
 refine w0 [(1,Row.av ed.cells a1),(2,.la 2 0),(13,Row.av ed.cells a1),(14,iv (a1.l.length:Int)),(15,iv (k2:Int))] [(2,(eb.cells a0))] ?_
 refine qg ?_
 refine fu ((k2:Int)) (1) ?_
 refine ab ?_
 exact ⟨by omega,rfl,rfl⟩
 refine ai ?_
 exact xA (.bool false) ⟨false,cQ,rfl⟩
 refine am ?_
 refine w0 [(1,Row.av ed.cells a1)] [] ?_
 refine aj ?_
 have hL52:=a1.lk
 refine fA a1 ?_
 refine fW ((a1.l.length:Int)) (0) (fun h53=>?_) (fun h53=>?_)
 refine ag ?_
 exact xA (.bool true) ⟨true,cQ,rfl⟩
 refine ag ?_
 exact xA (.bool false) ⟨false,cQ,rfl⟩
end Go.Sx
