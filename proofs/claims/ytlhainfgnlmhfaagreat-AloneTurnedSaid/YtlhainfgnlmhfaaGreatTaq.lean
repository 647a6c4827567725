/- Proves what some functions of the program answer, by walking through them. -/
import Derived.Test.YtlhainfgnlmhfaaGreatTaj
import Derived.Test.YtlhainfgnlmhfaaGreatTak
import Derived.Test.YtlhainfgnlmhfaaGreatTal
import Derived.Test.YtlhainfgnlmhfaaGreatTam
import Derived.Test.YtlhainfgnlmhfaaGreatTap
set_option linter.all false
set_option maxRecDepth 100000
set_option maxHeartbeats 0
namespace Go.Sx
open Go Go.Proofs
theorem VS:eG.get 6=some Jg:=by kernel_rfl
theorem Ru:ei 6=none:=by kernel_rfl
def P6 (_a0:eb) (_a1:Int) (_a2:fi) (v:AV):Prop:=∃ r0:Bool,(True)∧v=.bool r0
theorem t6 (a0:eb) (a1:Int) (a2:fi)  (h:bY):∃ v,eH cfg eG.get ei false 6 [.agg (eb.cells a0),iv a1,.agg (fi.cells a2)] h v h∧P6 a0 a1 a2 v:=by
 refine eW Ru VS rfl rfl ?_
 have hqb:=a2.eQ.ok
 simp only [lO] at hqb
 refine bm ?_
 refine ak ?_
 refine fg (a1) (1) (fun h1=>?_) (fun h1=>?_)
 refine ba ?_
 refine ai ?_
 exact xA (.bool false) ⟨false,trivial,rfl⟩
 iterate 2 refine oV ?_
 refine fW (a1) (4000) (fun h2=>?_) (fun h2=>?_)
 refine ai ?_
 exact xA (.bool false) ⟨false,trivial,rfl⟩
 refine aw ?_
 refine w0 [(1,iv a1),(3,.la 3 0),(5,.la 5 0)] [(3,(eb.cells a0)),(5,(fi.cells a2))] ?_
 refine kK (fun E Z=>(E=[(1,iv a1),(3,.la 3 0),(5,.la 5 0),(7,.bool true)]∧Z = { bY.empty with dO:=[(3,(eb.cells a0)),(5,(fi.cells a2))] })∨(E=[(1,iv a1),(3,.la 3 0),(5,.la 5 0),(7,.bool false)]∧Z = { bY.empty with dO:=[(3,(eb.cells a0)),(5,(fi.cells a2))] })) ?_ ?_
 rintro _ _ (⟨rfl,rfl⟩ | ⟨rfl,rfl⟩)
 refine kK (fun E Z=>(E=[(1,iv a1),(3,.la 3 0),(5,.la 5 0)]∧Z = { bY.empty with dO:=[(3,(eb.cells a0)),(5,(fi.cells a2))] })) ?_ ?_
 rintro _ _ ⟨rfl,rfl⟩
 refine aB ?_
 refine oC (t16 a0 a2.eQ) ?_
 rintro _ ⟨r4,hc3,rfl⟩
 cases r4
 clear hc3
 refine ai ?_
 exact xA (.bool false) ⟨false,trivial,rfl⟩
 have hc3t:=hc3 rfl
 refine aw ?_
 refine w0 [(1,iv a1),(3,.la 3 0),(5,.la 5 0)] [(3,(eb.cells a0)),(5,(fi.cells a2))] ?_
 refine aG ?_
 have hL5:=a2.eQ.lk
 refine fA a2.eQ ?_
 have hL6:=a2.eQ.lk
 refine g7 ((a2.eQ.l.length:Int)) (1) ?_
 have hx7:((a2.eQ.l.length:Int) - 1).toNat<a2.eQ.l.length:=by omega
 refine eg rfl (fun _=>fE (n:=(a2.eQ.l.length:Int) - 1) (r:=a2.eQ) (enc:=ed.cells) rfl rfl rfl rfl rfl cB hx7 rfl) ?_
 generalize hqx8:a2.eQ.l[((a2.eQ.l.length:Int) - 1).toNat]=x8
 refine aW ?_
 refine qs ?_
 refine bi ?_
 refine j8 (a2.left) (0) (fun h9=>?_) (fun h9=>?_)
 refine ck ?_
 refine rS ?_
 refine aD ?_
 refine co ?_
 refine bo ?_
 exact xA (.bool false) ⟨false,trivial,rfl⟩
 iterate 6 refine rV ?_
 refine rC (t17 a0 (x8.elem)) ?_
 rintro _ ⟨r11,hc10,rfl⟩
 refine jR (a2.left) (r11) (fun h12=>?_) (fun h12=>?_)
 refine aD ?_
 refine co ?_
 refine bo ?_
 exact xA (.bool false) ⟨false,trivial,rfl⟩
 iterate 4 refine rV ?_
 refine j8 (a2.v) (0) (fun h13=>?_) (fun h13=>?_)
 iterate 2 refine rV ?_
 refine co ?_
 refine bo ?_
 exact xA (.bool false) ⟨false,trivial,rfl⟩
 iterate 4 refine rV ?_
 refine zj (a2.v) (60) (fun h14=>?_) (fun h14=>?_)
 refine aD ?_
 refine bo ?_
 exact xA (.bool false) ⟨false,trivial,rfl⟩
 iterate 4 refine rV ?_
 refine j8 (a2.iG) (0) (fun h15=>?_) (fun h15=>?_)
 iterate 2 refine rV ?_
 refine bo ?_
 exact xA (.bool false) ⟨false,trivial,rfl⟩
 iterate 5 refine rV ?_
 refine jR (a2.iG) (a1) (fun h16=>?_) (fun h16=>?_)
 refine aR ?_
 refine ac ?_
 exact xA (.bool false) ⟨false,trivial,rfl⟩
 refine bu ?_
 refine w0 [(1,iv a1),(3,.la 3 0),(5,.la 5 0),(8,.la 8 0)] [(3,(eb.cells a0)),(5,(fi.cells a2)),(8,(ed.cells x8))] ?_
 refine ae ?_
 refine oC (t18 a0 x8) ?_
 rintro _ ⟨r18,r19,hc17,rfl⟩
 have hN:=hc17
 cases r19
 refine au ?_
 refine aI ?_
 refine fW (a2.iG) (0) (fun h20=>?_) (fun h20=>?_)
 iterate 3 refine oV ?_
 refine fW (a2.left) (0) (fun h21=>?_) (fun h21=>?_)
 refine ba ?_
 refine aK ?_
 refine a8 ?_
 exact xA (.bool false) ⟨false,trivial,rfl⟩
 iterate 3 refine oV ?_
 refine aK ?_
 refine a8 ?_
 exact xA (.bool false) ⟨false,trivial,rfl⟩
 refine cb ?_
 refine w0 [(1,iv a1),(3,.la 3 0),(5,.la 5 0)] [(3,(eb.cells a0)),(5,(fi.cells a2))] ?_
 refine aF ?_
 refine eg rfl (fun _=>fD rfl rfl rfl (gD .i64 (a1) (a2.iG))) ?_
 refine bX ?_
 have hL22:=a2.eQ.lk
 refine fA a2.eQ ?_
 have hL23:=a2.eQ.lk
 refine g7 ((a2.eQ.l.length:Int)) (1) ?_
 refine aP ?_
 refine iC (fun m28 e h=>∃ n24:Int,∃ n25:Int,m28=(n25+1).toNat∧(-1≤n25)∧(n25<(a2.eQ.l.length:Int))∧proj [3,5,11,12] e=[(3,.la 3 0),(5,.la 5 0),(11,iv n24),(12,iv n25)]∧{ h with dO:=eV [3,5,11,12] h.dO } = { bY.empty with dO:=[(3,(eb.cells a0)),(5,(fi.cells a2))] }) ?_ _ _ _ ⟨(IntKind.i64.wrap (a1 - (a2.iG))),((a2.eQ.l.length:Int) - 1),rfl,cB,cB,rfl,rfl⟩
 rintro m28 e h ⟨n24,n25,hmm28,hi26,hi27,he,hh⟩
 refine ff he hh ?_
 clear he hh
 refine ak ?_
 refine gV (n25) (0) (fun h29=>?_) (fun h29=>?_)
 refine aX ?_
 refine w0 [(3,.la 3 0),(5,.la 5 0),(11,iv n24),(12,iv n25)] [(3,(eb.cells a0)),(5,(fi.cells a2))] ?_
 refine aA ?_
 refine bO ?_
 refine rV ?_
 have hx30:(n25).toNat<a2.eQ.l.length:=by omega
 refine eI rfl rfl (fun _=>fE (n:=n25) (r:=a2.eQ) (enc:=ed.cells) rfl rfl rfl rfl rfl cB hx30 rfl) ?_
 generalize hqx31:a2.eQ.l[(n25).toNat]=x31
 iterate 2 refine rV ?_
 refine rC (t17 a0 (x31.elem)) ?_
 rintro _ ⟨r33,hc32,rfl⟩
 refine aR ?_
 refine aB ?_
 have hL34:=a2.eQ.lk
 refine fA a2.eQ ?_
 have hL35:=a2.eQ.lk
 refine g7 ((a2.eQ.l.length:Int)) (1) ?_
 refine fj (n25) ((a2.eQ.l.length:Int) - 1) (fun h36=>?_) (fun h36=>?_)
 refine b8 ?_
 refine eg rfl (fun _=>fD rfl rfl rfl (gD .i64 (r33) (a2.left))) ?_
 refine ab ?_
 refine w0 [(3,.la 3 0),(5,.la 5 0),(11,iv n24),(12,iv n25),(13,iv (IntKind.i64.wrap (r33 - (a2.left))))] [(3,(eb.cells a0)),(5,(fi.cells a2))] ?_
 refine ak ?_
 refine fj (n25) (0) (fun h37=>?_) (fun h37=>?_)
 refine bA ?_
 refine jR (n24) (1) (fun h38=>?_) (fun h38=>?_)
 iterate 3 refine rV ?_
 refine rf (n24) (IntKind.i64.wrap (r33 - (a2.left))) (fun h39=>?_) (fun h39=>?_)
 refine bh ?_
 exact xA (.bool true) ⟨true,trivial,rfl⟩
 iterate 4 refine rV ?_
 have hx40:0<a2.eQ.l.length:=by omega
 refine jE 0 a2.eQ hx40 ?_
 generalize hqx41:a2.eQ.l[0]=x41
 iterate 2 refine rV ?_
 refine rC (t15 a0 (x41.elem)) ?_
 rintro _ ⟨r43,hc42,rfl⟩
 have hK:=hc42
 refine kJ (r43) (4) (fun h44=>?_) (fun h44=>?_)
 refine bj ?_
 exact xA (.bool true) ⟨true,trivial,rfl⟩
 refine bj ?_
 exact xA (.bool false) ⟨false,trivial,rfl⟩
 refine bw ?_
 exact xA (.bool false) ⟨false,trivial,rfl⟩
 refine az ?_
 refine w0 [(3,.la 3 0),(5,.la 5 0),(11,iv n24),(12,iv n25),(13,iv (IntKind.i64.wrap (r33 - (a2.left))))] [(3,(eb.cells a0)),(5,(fi.cells a2))] ?_
 refine br ?_
 refine eg rfl (fun _=>fD rfl rfl rfl (gD .i64 (n24) (IntKind.i64.wrap (r33 - (a2.left))))) ?_
 refine ab ?_
 refine w0 [(3,.la 3 0),(5,.la 5 0),(11,iv (IntKind.i64.wrap (n24 - (IntKind.i64.wrap (r33 - (a2.left)))))),(12,iv n25)] [(3,(eb.cells a0)),(5,(fi.cells a2))] ?_
 refine aM ?_
 refine g7 (n25) (1) ?_
 refine ab ?_
 refine ⟨_,?_,(IntKind.i64.wrap (n24 - (IntKind.i64.wrap (r33 - (a2.left))))),(n25 - 1),rfl,cB,cB,rfl,rfl⟩
 omega
 refine az ?_
 refine w0 [(3,.la 3 0),(5,.la 5 0),(11,iv n24),(12,iv n25),(13,iv r33)] [(3,(eb.cells a0)),(5,(fi.cells a2))] ?_
 refine ak ?_
 refine fj (n25) (0) (fun h45=>?_) (fun h45=>?_)
 refine bA ?_
 refine jR (n24) (1) (fun h46=>?_) (fun h46=>?_)
 iterate 3 refine rV ?_
 refine rf (n24) (r33) (fun h47=>?_) (fun h47=>?_)
 refine bh ?_
 exact xA (.bool true) ⟨true,trivial,rfl⟩
 iterate 4 refine rV ?_
 have hx48:0<a2.eQ.l.length:=by omega
 refine jE 0 a2.eQ hx48 ?_
 generalize hqx49:a2.eQ.l[0]=x49
 iterate 2 refine rV ?_
 refine rC (t15 a0 (x49.elem)) ?_
 rintro _ ⟨r51,hc50,rfl⟩
 have hK:=hc50
 refine kJ (r51) (4) (fun h52=>?_) (fun h52=>?_)
 refine bj ?_
 exact xA (.bool true) ⟨true,trivial,rfl⟩
 refine bj ?_
 exact xA (.bool false) ⟨false,trivial,rfl⟩
 refine bw ?_
 exact xA (.bool false) ⟨false,trivial,rfl⟩
 refine az ?_
 refine w0 [(3,.la 3 0),(5,.la 5 0),(11,iv n24),(12,iv n25),(13,iv r33)] [(3,(eb.cells a0)),(5,(fi.cells a2))] ?_
 refine br ?_
 refine eg rfl (fun _=>fD rfl rfl rfl (gD .i64 (n24) (r33))) ?_
 refine ab ?_
 refine w0 [(3,.la 3 0),(5,.la 5 0),(11,iv (IntKind.i64.wrap (n24 - (r33)))),(12,iv n25)] [(3,(eb.cells a0)),(5,(fi.cells a2))] ?_
 refine aM ?_
 refine g7 (n25) (1) ?_
 refine ab ?_
 refine ⟨_,?_,(IntKind.i64.wrap (n24 - (r33))),(n25 - 1),rfl,cB,cB,rfl,rfl⟩
 omega
 refine aE ?_
 refine w0 [] [] ?_
 refine a6 ?_
 exact xA (.bool false) ⟨false,trivial,rfl⟩
 refine au ?_
 refine kK (fun E Z=>(E=[(1,iv a1),(3,.la 3 0),(5,.la 5 0)]∧Z = { bY.empty with dO:=[(3,(eb.cells a0)),(5,(fi.cells a2))] })) ?_ ?_
 rintro _ _ ⟨rfl,rfl⟩
 refine aF ?_
 refine eg rfl (fun _=>fD rfl rfl rfl (gD .i64 (a1) (a2.iG))) ?_
 refine bX ?_
 have hL53:=a2.eQ.lk
 refine fA a2.eQ ?_
 have hL54:=a2.eQ.lk
 refine g7 ((a2.eQ.l.length:Int)) (1) ?_
 refine aP ?_
 refine iC (fun m59 e h=>∃ n55:Int,∃ n56:Int,m59=(n56+1).toNat∧(-1≤n56)∧(n56<(a2.eQ.l.length:Int))∧proj [3,5,11,12] e=[(3,.la 3 0),(5,.la 5 0),(11,iv n55),(12,iv n56)]∧{ h with dO:=eV [3,5,11,12] h.dO } = { bY.empty with dO:=[(3,(eb.cells a0)),(5,(fi.cells a2))] }) ?_ _ _ _ ⟨(IntKind.i64.wrap (a1 - (a2.iG))),((a2.eQ.l.length:Int) - 1),rfl,cB,cB,rfl,rfl⟩
 rintro m59 e h ⟨n55,n56,hmm59,hi57,hi58,he,hh⟩
 refine ff he hh ?_
 clear he hh
 refine ak ?_
 refine gV (n56) (0) (fun h60=>?_) (fun h60=>?_)
 refine aX ?_
 refine w0 [(3,.la 3 0),(5,.la 5 0),(11,iv n55),(12,iv n56)] [(3,(eb.cells a0)),(5,(fi.cells a2))] ?_
 refine aA ?_
 refine bO ?_
 refine rV ?_
 have hx61:(n56).toNat<a2.eQ.l.length:=by omega
 refine eI rfl rfl (fun _=>fE (n:=n56) (r:=a2.eQ) (enc:=ed.cells) rfl rfl rfl rfl rfl cB hx61 rfl) ?_
 generalize hqx62:a2.eQ.l[(n56).toNat]=x62
 iterate 2 refine rV ?_
 refine rC (t17 a0 (x62.elem)) ?_
 rintro _ ⟨r64,hc63,rfl⟩
 refine aR ?_
 refine aB ?_
 have hL65:=a2.eQ.lk
 refine fA a2.eQ ?_
 have hL66:=a2.eQ.lk
 refine g7 ((a2.eQ.l.length:Int)) (1) ?_
 refine fj (n56) ((a2.eQ.l.length:Int) - 1) (fun h67=>?_) (fun h67=>?_)
 refine b8 ?_
 refine eg rfl (fun _=>fD rfl rfl rfl (gD .i64 (r64) (a2.left))) ?_
 refine ab ?_
 refine w0 [(3,.la 3 0),(5,.la 5 0),(11,iv n55),(12,iv n56),(13,iv (IntKind.i64.wrap (r64 - (a2.left))))] [(3,(eb.cells a0)),(5,(fi.cells a2))] ?_
 refine ak ?_
 refine fj (n56) (0) (fun h68=>?_) (fun h68=>?_)
 refine bA ?_
 refine jR (n55) (1) (fun h69=>?_) (fun h69=>?_)
 iterate 3 refine rV ?_
 refine rf (n55) (IntKind.i64.wrap (r64 - (a2.left))) (fun h70=>?_) (fun h70=>?_)
 refine bh ?_
 exact xA (.bool true) ⟨true,trivial,rfl⟩
 iterate 4 refine rV ?_
 have hx71:0<a2.eQ.l.length:=by omega
 refine jE 0 a2.eQ hx71 ?_
 generalize hqx72:a2.eQ.l[0]=x72
 iterate 2 refine rV ?_
 refine rC (t15 a0 (x72.elem)) ?_
 rintro _ ⟨r74,hc73,rfl⟩
 have hK:=hc73
 refine kJ (r74) (4) (fun h75=>?_) (fun h75=>?_)
 refine bj ?_
 exact xA (.bool true) ⟨true,trivial,rfl⟩
 refine bj ?_
 exact xA (.bool false) ⟨false,trivial,rfl⟩
 refine bw ?_
 exact xA (.bool false) ⟨false,trivial,rfl⟩
 refine az ?_
 refine w0 [(3,.la 3 0),(5,.la 5 0),(11,iv n55),(12,iv n56),(13,iv (IntKind.i64.wrap (r64 - (a2.left))))] [(3,(eb.cells a0)),(5,(fi.cells a2))] ?_
 refine br ?_
 refine eg rfl (fun _=>fD rfl rfl rfl (gD .i64 (n55) (IntKind.i64.wrap (r64 - (a2.left))))) ?_
 refine ab ?_
 refine w0 [(3,.la 3 0),(5,.la 5 0),(11,iv (IntKind.i64.wrap (n55 - (IntKind.i64.wrap (r64 - (a2.left)))))),(12,iv n56)] [(3,(eb.cells a0)),(5,(fi.cells a2))] ?_
 refine aM ?_
 refine g7 (n56) (1) ?_
 refine ab ?_
 refine ⟨_,?_,(IntKind.i64.wrap (n55 - (IntKind.i64.wrap (r64 - (a2.left))))),(n56 - 1),rfl,cB,cB,rfl,rfl⟩
 omega
 refine az ?_
 refine w0 [(3,.la 3 0),(5,.la 5 0),(11,iv n55),(12,iv n56),(13,iv r64)] [(3,(eb.cells a0)),(5,(fi.cells a2))] ?_
 refine ak ?_
 refine fj (n56) (0) (fun h76=>?_) (fun h76=>?_)
 refine bA ?_
 refine jR (n55) (1) (fun h77=>?_) (fun h77=>?_)
 iterate 3 refine rV ?_
 refine rf (n55) (r64) (fun h78=>?_) (fun h78=>?_)
 refine bh ?_
 exact xA (.bool true) ⟨true,trivial,rfl⟩
 iterate 4 refine rV ?_
 have hx79:0<a2.eQ.l.length:=by omega
 refine jE 0 a2.eQ hx79 ?_
 generalize hqx80:a2.eQ.l[0]=x80
 iterate 2 refine rV ?_
 refine rC (t15 a0 (x80.elem)) ?_
 rintro _ ⟨r82,hc81,rfl⟩
 have hK:=hc81
 refine kJ (r82) (4) (fun h83=>?_) (fun h83=>?_)
 refine bj ?_
 exact xA (.bool true) ⟨true,trivial,rfl⟩
 refine bj ?_
 exact xA (.bool false) ⟨false,trivial,rfl⟩
 refine bw ?_
 exact xA (.bool false) ⟨false,trivial,rfl⟩
 refine az ?_
 refine w0 [(3,.la 3 0),(5,.la 5 0),(11,iv n55),(12,iv n56),(13,iv r64)] [(3,(eb.cells a0)),(5,(fi.cells a2))] ?_
 refine br ?_
 refine eg rfl (fun _=>fD rfl rfl rfl (gD .i64 (n55) (r64))) ?_
 refine ab ?_
 refine w0 [(3,.la 3 0),(5,.la 5 0),(11,iv (IntKind.i64.wrap (n55 - (r64)))),(12,iv n56)] [(3,(eb.cells a0)),(5,(fi.cells a2))] ?_
 refine aM ?_
 refine g7 (n56) (1) ?_
 refine ab ?_
 refine ⟨_,?_,(IntKind.i64.wrap (n55 - (r64))),(n56 - 1),rfl,cB,cB,rfl,rfl⟩
 omega
 refine aE ?_
 refine w0 [] [] ?_
 refine a6 ?_
 exact xA (.bool false) ⟨false,trivial,rfl⟩
 refine ae ?_
 refine fW (a2.iG) (0) (fun h84=>?_) (fun h84=>?_)
 iterate 3 refine oV ?_
 refine fW (a2.left) (0) (fun h85=>?_) (fun h85=>?_)
 refine ba ?_
 refine aK ?_
 refine a8 ?_
 exact xA (.bool false) ⟨false,trivial,rfl⟩
 iterate 8 refine oV ?_
 refine oC (t15 a0 (r18.elem)) ?_
 rintro _ ⟨r87,hc86,rfl⟩
 have hK:=hc86
 refine gK (r87) (4) (fun h88=>?_) (fun h88=>?_)
 refine a8 ?_
 exact xA (.bool false) ⟨false,trivial,rfl⟩
 refine bv ?_
 exact ⟨rfl,rfl⟩
 refine cb ?_
 exact ⟨rfl,rfl⟩
 refine ae ?_
 refine bP ?_
 refine fj (a2.mode) (1) (fun h89=>?_) (fun h89=>?_)
 refine aC ?_
 refine bO ?_
 refine rV ?_
 have hL90:=a2.eQ.lk
 refine GH a2.eQ ?_
 refine kJ ((a2.eQ.l.length:Int)) (1) (fun h91=>?_) (fun h91=>?_)
 iterate 4 refine rV ?_
 have hx92:0<a2.eQ.l.length:=by omega
 refine jE 0 a2.eQ hx92 ?_
 generalize hqx93:a2.eQ.l[0]=x93
 iterate 2 refine rV ?_
 refine kJ (x93.en) (0) (fun h94=>?_) (fun h94=>?_)
 iterate 5 refine rV ?_
 have hx95:0<a2.eQ.l.length:=by omega
 refine jE 0 a2.eQ hx95 ?_
 rw [hqx93]
 iterate 2 refine rV ?_
 refine rC (t15 a0 (x93.elem)) ?_
 rintro _ ⟨r98,hc97,rfl⟩
 have hK:=hc97
 refine kJ (r98) (4) (fun h99=>?_) (fun h99=>?_)
 refine aH ?_
 exact xA (.bool true) ⟨true,trivial,rfl⟩
 refine aH ?_
 exact xA (.bool false) ⟨false,trivial,rfl⟩
 refine bp ?_
 iterate 2 refine rS ?_
 refine aH ?_
 exact xA (.bool false) ⟨false,trivial,rfl⟩
 refine bp ?_
 refine bp ?_
 iterate 2 refine rS ?_
 refine aH ?_
 exact xA (.bool false) ⟨false,trivial,rfl⟩
 refine aS ?_
 refine fj (a2.mode) (3) (fun h100=>?_) (fun h100=>?_)
 refine aC ?_
 refine aG ?_
 have hL101:=a2.eQ.lk
 refine fA a2.eQ ?_
 refine fj ((a2.eQ.l.length:Int)) (0) (fun h102=>?_) (fun h102=>?_)
 refine aV ?_
 exact xA (.bool true) ⟨true,trivial,rfl⟩
 refine aV ?_
 exact xA (.bool false) ⟨false,trivial,rfl⟩
 refine aS ?_
 refine fj (a2.mode) (4) (fun h103=>?_) (fun h103=>?_)
 refine aC ?_
 refine aa ?_
 refine bv ?_
 exact ⟨rfl,rfl⟩
 refine aS ?_
 refine fj (a2.mode) (2) (fun h104=>?_) (fun h104=>?_)
 refine oV ?_
 refine aX ?_
 exact ⟨rfl,rfl⟩
 refine aS ?_
 refine ag ?_
 exact xA (.bool false) ⟨false,trivial,rfl⟩
 refine aI ?_
 refine bP ?_
 refine fj (a2.mode) (1) (fun h105=>?_) (fun h105=>?_)
 refine aC ?_
 refine bi ?_
 iterate 4 refine rS ?_
 refine bp ?_
 refine bp ?_
 iterate 2 refine rS ?_
 refine aH ?_
 exact xA (.bool false) ⟨false,trivial,rfl⟩
 refine aS ?_
 refine fj (a2.mode) (3) (fun h106=>?_) (fun h106=>?_)
 refine aC ?_
 refine aa ?_
 refine aJ ?_
 refine aV ?_
 exact xA (.bool false) ⟨false,trivial,rfl⟩
 refine aS ?_
 refine fj (a2.mode) (4) (fun h107=>?_) (fun h107=>?_)
 refine aC ?_
 refine aa ?_
 refine a8 ?_
 exact xA (.bool false) ⟨false,trivial,rfl⟩
 refine aS ?_
 refine fj (a2.mode) (2) (fun h108=>?_) (fun h108=>?_)
 refine oV ?_
 refine aX ?_
 refine w0 [(1,iv a1),(3,.la 3 0),(5,.la 5 0)] [(3,(eb.cells a0)),(5,(fi.cells a2))] ?_
 refine aB ?_
 refine oC (t16 a0 a2.eQ) ?_
 rintro _ ⟨r110,hc109,rfl⟩
 cases r110
 clear hc109
 refine ai ?_
 exact xA (.bool false) ⟨false,trivial,rfl⟩
 have hc109t:=hc109 rfl
 refine aw ?_
 refine w0 [(1,iv a1),(3,.la 3 0),(5,.la 5 0)] [(3,(eb.cells a0)),(5,(fi.cells a2))] ?_
 refine aG ?_
 have hL111:=a2.eQ.lk
 refine fA a2.eQ ?_
 have hL112:=a2.eQ.lk
 refine g7 ((a2.eQ.l.length:Int)) (1) ?_
 have hx113:((a2.eQ.l.length:Int) - 1).toNat<a2.eQ.l.length:=by omega
 refine eg rfl (fun _=>fE (n:=(a2.eQ.l.length:Int) - 1) (r:=a2.eQ) (enc:=ed.cells) rfl rfl rfl rfl rfl cB hx113 rfl) ?_
 generalize hqx114:a2.eQ.l[((a2.eQ.l.length:Int) - 1).toNat]=x114
 refine aW ?_
 refine qs ?_
 refine bi ?_
 refine j8 (a2.left) (0) (fun h115=>?_) (fun h115=>?_)
 refine ck ?_
 refine rS ?_
 refine aD ?_
 refine co ?_
 refine bo ?_
 exact xA (.bool false) ⟨false,trivial,rfl⟩
 iterate 6 refine rV ?_
 refine rC (t17 a0 (x114.elem)) ?_
 rintro _ ⟨r117,hc116,rfl⟩
 refine jR (a2.left) (r117) (fun h118=>?_) (fun h118=>?_)
 refine aD ?_
 refine co ?_
 refine bo ?_
 exact xA (.bool false) ⟨false,trivial,rfl⟩
 iterate 4 refine rV ?_
 refine j8 (a2.v) (0) (fun h119=>?_) (fun h119=>?_)
 iterate 2 refine rV ?_
 refine co ?_
 refine bo ?_
 exact xA (.bool false) ⟨false,trivial,rfl⟩
 iterate 4 refine rV ?_
 refine zj (a2.v) (60) (fun h120=>?_) (fun h120=>?_)
 refine aD ?_
 refine bo ?_
 exact xA (.bool false) ⟨false,trivial,rfl⟩
 iterate 4 refine rV ?_
 refine j8 (a2.iG) (0) (fun h121=>?_) (fun h121=>?_)
 iterate 2 refine rV ?_
 refine bo ?_
 exact xA (.bool false) ⟨false,trivial,rfl⟩
 iterate 5 refine rV ?_
 refine jR (a2.iG) (a1) (fun h122=>?_) (fun h122=>?_)
 refine aR ?_
 refine ac ?_
 exact xA (.bool false) ⟨false,trivial,rfl⟩
 refine bu ?_
 refine w0 [(1,iv a1),(3,.la 3 0),(5,.la 5 0),(8,.la 8 0)] [(3,(eb.cells a0)),(5,(fi.cells a2)),(8,(ed.cells x114))] ?_
 refine ae ?_
 refine oC (t18 a0 x114) ?_
 rintro _ ⟨r124,r125,hc123,rfl⟩
 have hN:=hc123
 cases r125
 refine au ?_
 refine aI ?_
 refine fW (a2.iG) (0) (fun h126=>?_) (fun h126=>?_)
 iterate 3 refine oV ?_
 refine fW (a2.left) (0) (fun h127=>?_) (fun h127=>?_)
 refine ba ?_
 refine aK ?_
 refine a8 ?_
 exact xA (.bool false) ⟨false,trivial,rfl⟩
 iterate 3 refine oV ?_
 refine aK ?_
 refine a8 ?_
 exact xA (.bool false) ⟨false,trivial,rfl⟩
 refine cb ?_
 refine w0 [(1,iv a1),(3,.la 3 0),(5,.la 5 0)] [(3,(eb.cells a0)),(5,(fi.cells a2))] ?_
 refine aF ?_
 refine eg rfl (fun _=>fD rfl rfl rfl (gD .i64 (a1) (a2.iG))) ?_
 refine bX ?_
 have hL128:=a2.eQ.lk
 refine fA a2.eQ ?_
 have hL129:=a2.eQ.lk
 refine g7 ((a2.eQ.l.length:Int)) (1) ?_
 refine aP ?_
 refine iC (fun m134 e h=>∃ n130:Int,∃ n131:Int,m134=(n131+1).toNat∧(-1≤n131)∧(n131<(a2.eQ.l.length:Int))∧proj [3,5,11,12] e=[(3,.la 3 0),(5,.la 5 0),(11,iv n130),(12,iv n131)]∧{ h with dO:=eV [3,5,11,12] h.dO } = { bY.empty with dO:=[(3,(eb.cells a0)),(5,(fi.cells a2))] }) ?_ _ _ _ ⟨(IntKind.i64.wrap (a1 - (a2.iG))),((a2.eQ.l.length:Int) - 1),rfl,cB,cB,rfl,rfl⟩
 rintro m134 e h ⟨n130,n131,hmm134,hi132,hi133,he,hh⟩
 refine ff he hh ?_
 clear he hh
 refine ak ?_
 refine gV (n131) (0) (fun h135=>?_) (fun h135=>?_)
 refine aX ?_
 refine w0 [(3,.la 3 0),(5,.la 5 0),(11,iv n130),(12,iv n131)] [(3,(eb.cells a0)),(5,(fi.cells a2))] ?_
 refine aA ?_
 refine bO ?_
 refine rV ?_
 have hx136:(n131).toNat<a2.eQ.l.length:=by omega
 refine eI rfl rfl (fun _=>fE (n:=n131) (r:=a2.eQ) (enc:=ed.cells) rfl rfl rfl rfl rfl cB hx136 rfl) ?_
 generalize hqx137:a2.eQ.l[(n131).toNat]=x137
 iterate 2 refine rV ?_
 refine rC (t17 a0 (x137.elem)) ?_
 rintro _ ⟨r139,hc138,rfl⟩
 refine aR ?_
 refine aB ?_
 have hL140:=a2.eQ.lk
 refine fA a2.eQ ?_
 have hL141:=a2.eQ.lk
 refine g7 ((a2.eQ.l.length:Int)) (1) ?_
 refine fj (n131) ((a2.eQ.l.length:Int) - 1) (fun h142=>?_) (fun h142=>?_)
 refine b8 ?_
 refine eg rfl (fun _=>fD rfl rfl rfl (gD .i64 (r139) (a2.left))) ?_
 refine ab ?_
 refine w0 [(3,.la 3 0),(5,.la 5 0),(11,iv n130),(12,iv n131),(13,iv (IntKind.i64.wrap (r139 - (a2.left))))] [(3,(eb.cells a0)),(5,(fi.cells a2))] ?_
 refine ak ?_
 refine fj (n131) (0) (fun h143=>?_) (fun h143=>?_)
 refine bA ?_
 refine jR (n130) (1) (fun h144=>?_) (fun h144=>?_)
 iterate 3 refine rV ?_
 refine rf (n130) (IntKind.i64.wrap (r139 - (a2.left))) (fun h145=>?_) (fun h145=>?_)
 refine bh ?_
 exact xA (.bool true) ⟨true,trivial,rfl⟩
 iterate 4 refine rV ?_
 have hx146:0<a2.eQ.l.length:=by omega
 refine jE 0 a2.eQ hx146 ?_
 generalize hqx147:a2.eQ.l[0]=x147
 iterate 2 refine rV ?_
 refine rC (t15 a0 (x147.elem)) ?_
 rintro _ ⟨r149,hc148,rfl⟩
 have hK:=hc148
 refine kJ (r149) (4) (fun h150=>?_) (fun h150=>?_)
 refine bj ?_
 exact xA (.bool true) ⟨true,trivial,rfl⟩
 refine bj ?_
 exact xA (.bool false) ⟨false,trivial,rfl⟩
 refine bw ?_
 exact xA (.bool false) ⟨false,trivial,rfl⟩
 refine az ?_
 refine w0 [(3,.la 3 0),(5,.la 5 0),(11,iv n130),(12,iv n131),(13,iv (IntKind.i64.wrap (r139 - (a2.left))))] [(3,(eb.cells a0)),(5,(fi.cells a2))] ?_
 refine br ?_
 refine eg rfl (fun _=>fD rfl rfl rfl (gD .i64 (n130) (IntKind.i64.wrap (r139 - (a2.left))))) ?_
 refine ab ?_
 refine w0 [(3,.la 3 0),(5,.la 5 0),(11,iv (IntKind.i64.wrap (n130 - (IntKind.i64.wrap (r139 - (a2.left)))))),(12,iv n131)] [(3,(eb.cells a0)),(5,(fi.cells a2))] ?_
 refine aM ?_
 refine g7 (n131) (1) ?_
 refine ab ?_
 refine ⟨_,?_,(IntKind.i64.wrap (n130 - (IntKind.i64.wrap (r139 - (a2.left))))),(n131 - 1),rfl,cB,cB,rfl,rfl⟩
 omega
 refine az ?_
 refine w0 [(3,.la 3 0),(5,.la 5 0),(11,iv n130),(12,iv n131),(13,iv r139)] [(3,(eb.cells a0)),(5,(fi.cells a2))] ?_
 refine ak ?_
 refine fj (n131) (0) (fun h151=>?_) (fun h151=>?_)
 refine bA ?_
 refine jR (n130) (1) (fun h152=>?_) (fun h152=>?_)
 iterate 3 refine rV ?_
 refine rf (n130) (r139) (fun h153=>?_) (fun h153=>?_)
 refine bh ?_
 exact xA (.bool true) ⟨true,trivial,rfl⟩
 iterate 4 refine rV ?_
 have hx154:0<a2.eQ.l.length:=by omega
 refine jE 0 a2.eQ hx154 ?_
 generalize hqx155:a2.eQ.l[0]=x155
 iterate 2 refine rV ?_
 refine rC (t15 a0 (x155.elem)) ?_
 rintro _ ⟨r157,hc156,rfl⟩
 have hK:=hc156
 refine kJ (r157) (4) (fun h158=>?_) (fun h158=>?_)
 refine bj ?_
 exact xA (.bool true) ⟨true,trivial,rfl⟩
 refine bj ?_
 exact xA (.bool false) ⟨false,trivial,rfl⟩
 refine bw ?_
 exact xA (.bool false) ⟨false,trivial,rfl⟩
 refine az ?_
 refine w0 [(3,.la 3 0),(5,.la 5 0),(11,iv n130),(12,iv n131),(13,iv r139)] [(3,(eb.cells a0)),(5,(fi.cells a2))] ?_
 refine br ?_
 refine eg rfl (fun _=>fD rfl rfl rfl (gD .i64 (n130) (r139))) ?_
 refine ab ?_
 refine w0 [(3,.la 3 0),(5,.la 5 0),(11,iv (IntKind.i64.wrap (n130 - (r139)))),(12,iv n131)] [(3,(eb.cells a0)),(5,(fi.cells a2))] ?_
 refine aM ?_
 refine g7 (n131) (1) ?_
 refine ab ?_
 refine ⟨_,?_,(IntKind.i64.wrap (n130 - (r139))),(n131 - 1),rfl,cB,cB,rfl,rfl⟩
 omega
 refine aE ?_
 refine w0 [] [] ?_
 refine a6 ?_
 exact xA (.bool false) ⟨false,trivial,rfl⟩
 refine au ?_
 refine kK (fun E Z=>(E=[(1,iv a1),(3,.la 3 0),(5,.la 5 0)]∧Z = { bY.empty with dO:=[(3,(eb.cells a0)),(5,(fi.cells a2))] })) ?_ ?_
 rintro _ _ ⟨rfl,rfl⟩
 refine aF ?_
 refine eg rfl (fun _=>fD rfl rfl rfl (gD .i64 (a1) (a2.iG))) ?_
 refine bX ?_
 have hL159:=a2.eQ.lk
 refine fA a2.eQ ?_
 have hL160:=a2.eQ.lk
 refine g7 ((a2.eQ.l.length:Int)) (1) ?_
 refine aP ?_
 refine iC (fun m165 e h=>∃ n161:Int,∃ n162:Int,m165=(n162+1).toNat∧(-1≤n162)∧(n162<(a2.eQ.l.length:Int))∧proj [3,5,11,12] e=[(3,.la 3 0),(5,.la 5 0),(11,iv n161),(12,iv n162)]∧{ h with dO:=eV [3,5,11,12] h.dO } = { bY.empty with dO:=[(3,(eb.cells a0)),(5,(fi.cells a2))] }) ?_ _ _ _ ⟨(IntKind.i64.wrap (a1 - (a2.iG))),((a2.eQ.l.length:Int) - 1),rfl,cB,cB,rfl,rfl⟩
 rintro m165 e h ⟨n161,n162,hmm165,hi163,hi164,he,hh⟩
 refine ff he hh ?_
 clear he hh
 refine ak ?_
 refine gV (n162) (0) (fun h166=>?_) (fun h166=>?_)
 refine aX ?_
 refine w0 [(3,.la 3 0),(5,.la 5 0),(11,iv n161),(12,iv n162)] [(3,(eb.cells a0)),(5,(fi.cells a2))] ?_
 refine aA ?_
 refine bO ?_
 refine rV ?_
 have hx167:(n162).toNat<a2.eQ.l.length:=by omega
 refine eI rfl rfl (fun _=>fE (n:=n162) (r:=a2.eQ) (enc:=ed.cells) rfl rfl rfl rfl rfl cB hx167 rfl) ?_
 generalize hqx168:a2.eQ.l[(n162).toNat]=x168
 iterate 2 refine rV ?_
 refine rC (t17 a0 (x168.elem)) ?_
 rintro _ ⟨r170,hc169,rfl⟩
 refine aR ?_
 refine aB ?_
 have hL171:=a2.eQ.lk
 refine fA a2.eQ ?_
 have hL172:=a2.eQ.lk
 refine g7 ((a2.eQ.l.length:Int)) (1) ?_
 refine fj (n162) ((a2.eQ.l.length:Int) - 1) (fun h173=>?_) (fun h173=>?_)
 refine b8 ?_
 refine eg rfl (fun _=>fD rfl rfl rfl (gD .i64 (r170) (a2.left))) ?_
 refine ab ?_
 refine w0 [(3,.la 3 0),(5,.la 5 0),(11,iv n161),(12,iv n162),(13,iv (IntKind.i64.wrap (r170 - (a2.left))))] [(3,(eb.cells a0)),(5,(fi.cells a2))] ?_
 refine ak ?_
 refine fj (n162) (0) (fun h174=>?_) (fun h174=>?_)
 refine bA ?_
 refine jR (n161) (1) (fun h175=>?_) (fun h175=>?_)
 iterate 3 refine rV ?_
 refine rf (n161) (IntKind.i64.wrap (r170 - (a2.left))) (fun h176=>?_) (fun h176=>?_)
 refine bh ?_
 exact xA (.bool true) ⟨true,trivial,rfl⟩
 iterate 4 refine rV ?_
 have hx177:0<a2.eQ.l.length:=by omega
 refine jE 0 a2.eQ hx177 ?_
 generalize hqx178:a2.eQ.l[0]=x178
 iterate 2 refine rV ?_
 refine rC (t15 a0 (x178.elem)) ?_
 rintro _ ⟨r180,hc179,rfl⟩
 have hK:=hc179
 refine kJ (r180) (4) (fun h181=>?_) (fun h181=>?_)
 refine bj ?_
 exact xA (.bool true) ⟨true,trivial,rfl⟩
 refine bj ?_
 exact xA (.bool false) ⟨false,trivial,rfl⟩
 refine bw ?_
 exact xA (.bool false) ⟨false,trivial,rfl⟩
 refine az ?_
 refine w0 [(3,.la 3 0),(5,.la 5 0),(11,iv n161),(12,iv n162),(13,iv (IntKind.i64.wrap (r170 - (a2.left))))] [(3,(eb.cells a0)),(5,(fi.cells a2))] ?_
 refine br ?_
 refine eg rfl (fun _=>fD rfl rfl rfl (gD .i64 (n161) (IntKind.i64.wrap (r170 - (a2.left))))) ?_
 refine ab ?_
 refine w0 [(3,.la 3 0),(5,.la 5 0),(11,iv (IntKind.i64.wrap (n161 - (IntKind.i64.wrap (r170 - (a2.left)))))),(12,iv n162)] [(3,(eb.cells a0)),(5,(fi.cells a2))] ?_
 refine aM ?_
 refine g7 (n162) (1) ?_
 refine ab ?_
 refine ⟨_,?_,(IntKind.i64.wrap (n161 - (IntKind.i64.wrap (r170 - (a2.left))))),(n162 - 1),rfl,cB,cB,rfl,rfl⟩
 omega
 refine az ?_
 refine w0 [(3,.la 3 0),(5,.la 5 0),(11,iv n161),(12,iv n162),(13,iv r170)] [(3,(eb.cells a0)),(5,(fi.cells a2))] ?_
 refine ak ?_
 refine fj (n162) (0) (fun h182=>?_) (fun h182=>?_)
 refine bA ?_
 refine jR (n161) (1) (fun h183=>?_) (fun h183=>?_)
 iterate 3 refine rV ?_
 refine rf (n161) (r170) (fun h184=>?_) (fun h184=>?_)
 refine bh ?_
 exact xA (.bool true) ⟨true,trivial,rfl⟩
 iterate 4 refine rV ?_
 have hx185:0<a2.eQ.l.length:=by omega
 refine jE 0 a2.eQ hx185 ?_
 generalize hqx186:a2.eQ.l[0]=x186
 iterate 2 refine rV ?_
 refine rC (t15 a0 (x186.elem)) ?_
 rintro _ ⟨r188,hc187,rfl⟩
 have hK:=hc187
 refine kJ (r188) (4) (fun h189=>?_) (fun h189=>?_)
 refine bj ?_
 exact xA (.bool true) ⟨true,trivial,rfl⟩
 refine bj ?_
 exact xA (.bool false) ⟨false,trivial,rfl⟩
 refine bw ?_
 exact xA (.bool false) ⟨false,trivial,rfl⟩
 refine az ?_
 refine w0 [(3,.la 3 0),(5,.la 5 0),(11,iv n161),(12,iv n162),(13,iv r170)] [(3,(eb.cells a0)),(5,(fi.cells a2))] ?_
 refine br ?_
 refine eg rfl (fun _=>fD rfl rfl rfl (gD .i64 (n161) (r170))) ?_
 refine ab ?_
 refine w0 [(3,.la 3 0),(5,.la 5 0),(11,iv (IntKind.i64.wrap (n161 - (r170)))),(12,iv n162)] [(3,(eb.cells a0)),(5,(fi.cells a2))] ?_
 refine aM ?_
 refine g7 (n162) (1) ?_
 refine ab ?_
 refine ⟨_,?_,(IntKind.i64.wrap (n161 - (r170))),(n162 - 1),rfl,cB,cB,rfl,rfl⟩
 omega
 refine aE ?_
 refine w0 [] [] ?_
 refine a6 ?_
 exact xA (.bool false) ⟨false,trivial,rfl⟩
 refine ae ?_
 refine fW (a2.iG) (0) (fun h190=>?_) (fun h190=>?_)
 iterate 3 refine oV ?_
 refine fW (a2.left) (0) (fun h191=>?_) (fun h191=>?_)
 refine ba ?_
 refine aK ?_
 refine a8 ?_
 exact xA (.bool false) ⟨false,trivial,rfl⟩
 iterate 8 refine oV ?_
 refine oC (t15 a0 (r124.elem)) ?_
 rintro _ ⟨r193,hc192,rfl⟩
 have hK:=hc192
 refine gK (r193) (4) (fun h194=>?_) (fun h194=>?_)
 refine a8 ?_
 exact xA (.bool false) ⟨false,trivial,rfl⟩
 refine bv ?_
 exact ⟨rfl,rfl⟩
 refine cb ?_
 exact ⟨rfl,rfl⟩
 refine aS ?_
 refine ag ?_
 exact xA (.bool false) ⟨false,trivial,rfl⟩
 refine br ?_
 refine fj (a2.left) (0) (fun h195=>?_) (fun h195=>?_)
 iterate 3 refine oV ?_
 refine fj (a2.iG) (0) (fun h196=>?_) (fun h196=>?_)
 iterate 4 refine oV ?_
 refine fj (a2.v) (0) (fun h197=>?_) (fun h197=>?_)
 refine ah ?_
 exact .inl ⟨rfl,rfl⟩
 refine ah ?_
 exact .inr (⟨rfl,rfl⟩)
 refine bI ?_
 refine ah ?_
 exact .inr (⟨rfl,rfl⟩)
 refine bB ?_
 refine bI ?_
 refine ah ?_
 exact .inr (⟨rfl,rfl⟩)
theorem Ou:eG.get 44=some C2:=by kernel_rfl
theorem Kj:ei 44=none:=by kernel_rfl
def Xf (_a0:eS) (_a1:Int) (_a2:Int) (v:AV):Prop:=∃ r0:Row fY,∃ r1:Bool,(((r1=true→0≤_a1∧_a1<(_a0.runs.l.length:Int)∧0≤_a2∧(∀ h : _a1.toNat < _a0.runs.l.length,r0=(_a0.runs.l[_a1.toNat]).fK)∧_a2≤(r0.l.length:Int))∧(r1=false→yy _a0 _a1 _a2)))∧v=.eP [Row.av fY.cells r0,.bool r1]
theorem t44 (a0:eS) (a1:Int) (a2:Int)  (h:bY):∃ v,eH cfg eG.get ei false 44 [.agg (eS.cells a0),iv a1,iv a2] h v h∧Xf a0 a1 a2 v:=by
 refine eW Kj Ou rfl rfl ?_
 refine bm ?_
 refine ak ?_
 refine fg (a1) (0) (fun h1=>?_) (fun h1=>?_)
 refine bf ?_
 refine aL ?_
 refine bC ?_
 refine bQ ?_
 exact xF (.eP [.sl [] .nil,.bool false]) ⟨(⟨[],.nil,Nat.zero_le _,rfl,fun _=>rfl⟩:Row fY),false,cN,rfl⟩
 iterate 4 refine oV ?_
 have hL2:=a0.runs.lk
 refine fA a0.runs ?_
 refine gV (a1) ((a0.runs.l.length:Int)) (fun h3=>?_) (fun h3=>?_)
 refine aL ?_
 refine bC ?_
 refine bQ ?_
 exact xF (.eP [.sl [] .nil,.bool false]) ⟨(⟨[],.nil,Nat.zero_le _,rfl,fun _=>rfl⟩:Row fY),false,cN,rfl⟩
 iterate 3 refine oV ?_
 refine fg (a2) (0) (fun h4=>?_) (fun h4=>?_)
 refine bC ?_
 refine bQ ?_
 exact xF (.eP [.sl [] .nil,.bool false]) ⟨(⟨[],.nil,Nat.zero_le _,rfl,fun _=>rfl⟩:Row fY),false,cN,rfl⟩
 iterate 6 refine oV ?_
 have hx5:(a1).toNat<a0.runs.l.length:=by omega
 refine eg rfl (fun _=>fE (n:=a1) (r:=a0.runs) (enc:=gj.cells) rfl rfl rfl rfl rfl cB hx5 rfl) ?_
 generalize hqx6:a0.runs.l[(a1).toNat]=x6
 iterate 2 refine oV ?_
 have hL7:=x6.fK.lk
 refine fA x6.fK ?_
 refine fW (a2) ((x6.fK.l.length:Int)) (fun h8=>?_) (fun h8=>?_)
 refine bQ ?_
 exact xF (.eP [.sl [] .nil,.bool false]) ⟨(⟨[],.nil,Nat.zero_le _,rfl,fun _=>rfl⟩:Row fY),false,cN,rfl⟩
 refine aw ?_
 refine w0 [(1,iv a1),(3,.la 3 0)] [(3,(eS.cells a0))] ?_
 refine aF ?_
 have hx9:(a1).toNat<a0.runs.l.length:=by omega
 refine eg rfl (fun _=>fE (n:=a1) (r:=a0.runs) (enc:=gj.cells) rfl rfl rfl rfl rfl cB hx9 rfl) ?_
 rw [hqx6]
 refine bb ?_
 exact xF (.eP [Row.av fY.cells x6.fK,.bool true]) ⟨x6.fK,true,cN,rfl⟩
theorem NR:eG.get 45=some Bw:=by kernel_rfl
theorem Ju:ei 45=none:=by kernel_rfl
def WW (_a0:eE) (_a1:eS) (_a2:Int) (_a3:Int) (v:AV):Prop:=∃ r0:ed,∃ r1:Bool,(((r1=true→gX false (iD _a0.p.signals.l) (fun x=>look x _a0.next) _a1 _a2 _a3=some r0)∧(r1=false→gX false (iD _a0.p.signals.l) (fun x=>look x _a0.next) _a1 _a2 _a3=none)))∧v=.eP [.agg (ed.cells r0),.bool r1]
theorem t45 (a0:eE) (a1:eS) (a2:Int) (a3:Int) (q1:0≤a2) (q2:a2<(a1.runs.l.length:Int)) (q3:0≤a3) (q4:∀ h:a2.toNat<a1.runs.l.length,a3≤((a1.runs.l[a2.toNat]).fK.l.length:Int)) (h:bY):∃ v,eH cfg eG.get ei false 45 [.ip (eE.cells a0) 0 false,.agg (eS.cells a1),iv a2,iv a3] h v h∧WW a0 a1 a2 a3 v:=by
 refine eW Ju NR rfl rfl ?_
 refine bm ?_
 refine ak ?_
 refine fj (a3) (0) (fun h1=>?_) (fun h1=>?_)
 refine ay ?_
 refine aG ?_
 have hx2:(a2).toNat<a1.runs.l.length:=by omega
 refine eg rfl (fun _=>fE (n:=a2) (r:=a1.runs) (enc:=gj.cells) rfl rfl rfl rfl rfl cB hx2 rfl) ?_
 generalize hqx3:a1.runs.l[(a2).toNat]=x3
 have hinx3:x3∈a1.runs.l:=by rw [← hqx3]; exact List.getElem_mem _
 have hsx3:=q4 cC; rw [hqx3] at hsx3; have hkx3:=x3.fK.ok; simp only [lO] at hkx3
 iterate 2 refine oV ?_
 refine oC (t19 a0 (x3.from_)) ?_
 rintro _ ⟨r5,r6,hc4,rfl⟩
 have hA:=hc4
 cases r6
 refine bb ?_
 exact xF (.eP [.agg (ed.cells r5),.bool false]) ⟨r5,false,ct,rfl⟩
 refine bb ?_
 exact xF (.eP [.agg (ed.cells r5),.bool true]) ⟨r5,true,ct,rfl⟩
 refine az ?_
 refine w0 [(0,.ip (eE.cells a0) 0 false),(2,iv a2),(3,iv a3),(5,.la 5 0),(8,.la 8 0),(8,.la 8 0)] [(5,(eS.cells a1)),(8,[iv 0,iv 0]),(8,[iv 0,iv 0])] ?_
 refine aB ?_
 have hx7:(a2).toNat<a1.runs.l.length:=by omega
 refine eg rfl (fun _=>fE (n:=a2) (r:=a1.runs) (enc:=gj.cells) rfl rfl rfl rfl rfl cB hx7 rfl) ?_
 generalize hqx8:a1.runs.l[(a2).toNat]=x8
 have hinx8:x8∈a1.runs.l:=by rw [← hqx8]; exact List.getElem_mem _
 have hsx8:=q4 cC; rw [hqx8] at hsx8; have hkx8:=x8.fK.ok; simp only [lO] at hkx8
 iterate 3 refine oV ?_
 refine g7 (a3) (1) ?_
 have hx9:(a3 - 1).toNat<x8.fK.l.length:=by omega
 refine eg rfl (fun _=>fE (n:=a3 - 1) (r:=x8.fK) (enc:=fY.cells) rfl rfl rfl rfl rfl cB hx9 rfl) ?_
 generalize hqx10:x8.fK.l[(a3 - 1).toNat]=x10
 refine cg ?_
 refine bP ?_
 refine fj (x10.end_) (1) (fun h11=>?_) (fun h11=>?_)
 refine aC ?_
 refine aF ?_
 refine oC (t19 a0 (x10.to)) ?_
 rintro _ ⟨r13,r14,hc12,rfl⟩
 have hA:=hc12
 cases r14
 refine bb ?_
 exact xF (.eP [.agg (ed.cells r13),.bool false]) ⟨r13,false,ct,rfl⟩
 refine bb ?_
 exact xF (.eP [.agg (ed.cells r13),.bool true]) ⟨r13,true,ct,rfl⟩
 refine aS ?_
 refine fj (x10.end_) (3) (fun h15=>?_) (fun h15=>?_)
 refine aC ?_
 refine aG ?_
 refine oC (t80 a0 (⟨(x10.to),(0)⟩:ed)) ?_
 rintro _ ⟨r17,r18,hc16,rfl⟩
 have hN:=hc16
 cases r18
 refine au ?_
 refine aG ?_
 refine oC (t80 a0 (⟨(x10.to),(1)⟩:ed)) ?_
 rintro _ ⟨r20,r21,hc19,rfl⟩
 have hN:=hc19
 cases r21
 refine au ?_
 refine aB ?_
 refine bv ?_
 refine w0 [(8,.la 8 0),(8,.la 8 0),(10,.la 10 0),(12,.bool false),(14,.bool false)] [(8,[iv 0,iv 0]),(8,[iv 0,iv 0]),(10,(fY.cells x10))] ?_
 refine aF ?_
 refine aL ?_
 refine bz ?_
 exact xF (.eP [.agg [iv x10.to,iv 1],.bool false]) ⟨(⟨(x10.to),(1)⟩:ed),false,ct,rfl⟩
 refine bD ?_
 refine bF ?_
 refine qT ?_
 refine aj ?_
 refine bb ?_
 exact xF (.eP [.agg [iv x10.to,iv 0],.bool true]) ⟨(⟨(x10.to),(0)⟩:ed),true,ct,rfl⟩
 refine au ?_
 refine aG ?_
 refine oC (t80 a0 (⟨(x10.to),(1)⟩:ed)) ?_
 rintro _ ⟨r23,r24,hc22,rfl⟩
 have hN:=hc22
 cases r24
 refine au ?_
 refine aB ?_
 refine oS ?_
 refine aw ?_
 refine w0 [(8,.la 8 0),(8,.la 8 0),(10,.la 10 0),(12,.bool true),(14,.bool false)] [(8,[iv 0,iv 0]),(8,[iv 0,iv 0]),(10,(fY.cells x10))] ?_
 refine aG ?_
 refine au ?_
 refine qr ?_
 exact xF (.eP [.agg [iv x10.to,iv 1],.bool true]) ⟨(⟨(x10.to),(1)⟩:ed),true,ct,rfl⟩
 refine au ?_
 refine aB ?_
 refine oS ?_
 refine aw ?_
 refine w0 [(8,.la 8 0),(8,.la 8 0),(10,.la 10 0),(12,.bool true),(14,.bool true)] [(8,[iv 0,iv 0]),(8,[iv 0,iv 0]),(10,(fY.cells x10))] ?_
 refine aG ?_
 refine au ?_
 refine qr ?_
 exact xF (.eP [.agg [iv x10.to,iv 1],.bool false]) ⟨(⟨(x10.to),(1)⟩:ed),false,ct,rfl⟩
 refine aw ?_
 refine w0 [(8,.la 8 0),(8,.la 8 0)] [(8,[iv 0,iv 0]),(8,[iv 0,iv 0])] ?_
 refine a7 ?_
 exact xF (.eP [.agg [iv 0,iv 0],.bool false]) ⟨(⟨(0),(0)⟩:ed),false,ct,rfl⟩
theorem Ro:eG.get 20=some Bv:=by kernel_rfl
theorem I8:ei 20=none:=by kernel_rfl
def WB (_a0:eE) (_a1:eS) (_a2:Int) (_a3:Int) (v:AV):Prop:=∃ r0:Int,(r0=jD false (iD _a0.p.signals.l) (fun x=>look x _a0.next) (jG _a0.p) (fun x=>(look x _a0.reads).getD (-1)) _a1 _a2 _a3)∧v=iv r0
theorem t20 (a0:eE) (a1:eS) (a2:Int) (a3:Int)  (h:bY):∃ v,eH cfg eG.get ei false 20 [.ip (eE.cells a0) 0 false,.agg (eS.cells a1),iv a2,iv a3] h v h∧WB a0 a1 a2 a3 v:=by
 refine eW I8 Ro rfl rfl ?_
 refine aU ?_
 refine aF ?_
 refine oC (t44 a1 (a2) (a3)) ?_
 rintro _ ⟨r2,r3,hc1,rfl⟩
 have hL:=hc1
 cases r3
 refine bl ?_
 refine ak ?_
 refine bH ?_
 exact xA (iv (-1)) ⟨(-1),cL,rfl⟩
 have hLt:=hL.1 rfl; have hLL:=hLt.2.2.2.1
 refine bl ?_
 refine bL ?_
 iterate 5 refine oV ?_
 have hL4:=r2.lk
 refine fA r2 ?_
 refine fj (a3) ((r2.l.length:Int)) (fun h5=>?_) (fun h5=>?_)
 refine ai ?_
 exact xA (iv (-1)) ⟨(-1),cL,rfl⟩
 refine aw ?_
 refine w0 [(0,.ip (eE.cells a0) 0 false),(2,iv a2),(3,iv a3),(5,.la 5 0),(9,Row.av fY.cells r2)] [(5,(eS.cells a1))] ?_
 refine aG ?_
 refine oC (t45 a0 a1 (a2) (a3) cq cq cq cq) ?_
 rintro _ ⟨r7,r8,hc6,rfl⟩
 have hG:=hc6
 cases r8
 refine bD ?_
 refine bI ?_
 iterate 9 refine oS ?_
 refine ai ?_
 exact xA (iv (-1)) ⟨(-1),cL,rfl⟩
 refine bD ?_
 iterate 4 refine oV ?_
 have hx9:(a3).toNat<r2.l.length:=by omega
 refine eg rfl (fun _=>fE (n:=a3) (r:=r2) (enc:=fY.cells) rfl rfl rfl rfl rfl cB hx9 rfl) ?_
 generalize hqx10:r2.l[(a3).toNat]=x10
 refine oV ?_
 refine gH (b:=x10.sV) rfl (fun _=>rfl) (fun h11=>?_) (fun h11=>?_)
 iterate 4 refine oV ?_
 refine oC (t46 a0 (r7.elem)) ?_
 rintro _ ⟨r13,hc12,rfl⟩
 have hK:=hc12
 refine gK (r13) (1) (fun h14=>?_) (fun h14=>?_)
 refine a8 ?_
 exact xA (iv (-1)) ⟨(-1),cL,rfl⟩
 refine bv ?_
 refine w0 [(0,.ip (eE.cells a0) 0 false),(3,iv a3),(9,Row.av fY.cells r2),(11,.la 11 0)] [(11,(ed.cells r7))] ?_
 refine aI ?_
 have hx15:(a3).toNat<r2.l.length:=by omega
 refine eg rfl (fun _=>fE (n:=a3) (r:=r2) (enc:=fY.cells) rfl rfl rfl rfl rfl cB hx15 rfl) ?_
 rw [hqx10]
 refine oV ?_
 refine gH (b:=x10.sV) rfl (fun _=>rfl) (fun h17=>?_) (fun h17=>?_)
 refine ay ?_
 refine br ?_
 refine eg rfl (fun _=>fD rfl rfl rfl (gD .i64 (1) (r7.en))) ?_
 refine ah ?_
 refine w0 [(0,.ip (eE.cells a0) 0 false),(11,.la 11 0)] [(11,[iv r7.elem,iv (IntKind.i64.wrap (1 - (r7.en)))])] ?_
 refine ae ?_
 refine oC (t47 a0 (⟨(r7.elem),(IntKind.i64.wrap (1 - (r7.en)))⟩:ed)) ?_
 rintro _ ⟨r19,hc18,rfl⟩
 have hR:=hc18
 refine ag ?_
 exact xA (iv r19) ⟨(r19),cL,rfl⟩
 refine az ?_
 refine w0 [(0,.ip (eE.cells a0) 0 false),(11,.la 11 0)] [(11,(ed.cells r7))] ?_
 refine ae ?_
 refine oC (t47 a0 r7) ?_
 rintro _ ⟨r21,hc20,rfl⟩
 have hR:=hc20
 refine ag ?_
 exact xA (iv r21) ⟨(r21),cL,rfl⟩
 refine bf ?_
 refine bv ?_
 refine w0 [(0,.ip (eE.cells a0) 0 false),(3,iv a3),(9,Row.av fY.cells r2),(11,.la 11 0)] [(11,(ed.cells r7))] ?_
 refine aI ?_
 have hx22:(a3).toNat<r2.l.length:=by omega
 refine eg rfl (fun _=>fE (n:=a3) (r:=r2) (enc:=fY.cells) rfl rfl rfl rfl rfl cB hx22 rfl) ?_
 rw [hqx10]
 refine oV ?_
 refine gH (b:=x10.sV) rfl (fun _=>rfl) (fun h24=>?_) (fun h24=>?_)
 refine ay ?_
 refine br ?_
 refine eg rfl (fun _=>fD rfl rfl rfl (gD .i64 (1) (r7.en))) ?_
 refine ah ?_
 refine w0 [(0,.ip (eE.cells a0) 0 false),(11,.la 11 0)] [(11,[iv r7.elem,iv (IntKind.i64.wrap (1 - (r7.en)))])] ?_
 refine ae ?_
 refine oC (t47 a0 (⟨(r7.elem),(IntKind.i64.wrap (1 - (r7.en)))⟩:ed)) ?_
 rintro _ ⟨r26,hc25,rfl⟩
 have hR:=hc25
 refine ag ?_
 exact xA (iv r26) ⟨(r26),cL,rfl⟩
 refine az ?_
 refine w0 [(0,.ip (eE.cells a0) 0 false),(11,.la 11 0)] [(11,(ed.cells r7))] ?_
 refine ae ?_
 refine oC (t47 a0 r7) ?_
 rintro _ ⟨r28,hc27,rfl⟩
 have hR:=hc27
 refine ag ?_
 exact xA (iv r28) ⟨(r28),cL,rfl⟩
theorem Rf:eG.get 21=some BW:=by kernel_rfl
theorem IW:ei 21=none:=by kernel_rfl
def Wt (_a0:fi) (v:AV):Prop:=∃ r0:ed,∃ r1:Bool,(((r1=true→mP _a0=some r0)∧(r1=false→mP _a0=none)))∧v=.eP [.agg (ed.cells r0),.bool r1]
theorem t21 (a0:fi)  (h:bY):∃ v,eH cfg eG.get ei false 21 [.agg (fi.cells a0)] h v h∧Wt a0 v:=by
 refine eW IW Rf rfl rfl ?_
 refine ae ?_
 refine bX ?_
 have hL1:=a0.eQ.lk
 refine fA a0.eQ ?_
 refine fj ((a0.eQ.l.length:Int)) (0) (fun h2=>?_) (fun h2=>?_)
 refine ay ?_
 refine a7 ?_
 exact xF (.eP [.agg [iv 0,iv 0],.bool false]) ⟨(⟨(0),(0)⟩:ed),false,dQ,rfl⟩
 refine az ?_
 refine w0 [(1,.la 1 0),(2,.la 2 0),(2,.la 2 0)] [(1,(fi.cells a0)),(2,[iv 0,iv 0]),(2,[iv 0,iv 0])] ?_
 refine aG ?_
 have hL3:=a0.eQ.lk
 refine fA a0.eQ ?_
 have hL4:=a0.eQ.lk
 refine g7 ((a0.eQ.l.length:Int)) (1) ?_
 have hx5:((a0.eQ.l.length:Int) - 1).toNat<a0.eQ.l.length:=by omega
 refine eg rfl (fun _=>fE (n:=(a0.eQ.l.length:Int) - 1) (r:=a0.eQ) (enc:=ed.cells) rfl rfl rfl rfl rfl cB hx5 rfl) ?_
 generalize hqx6:a0.eQ.l[((a0.eQ.l.length:Int) - 1).toNat]=x6
 refine bz ?_
 exact xF (.eP [.agg (ed.cells x6),.bool true]) ⟨x6,true,dQ,rfl⟩
theorem SY:eG.get 7=some Kt:=by kernel_rfl
theorem Pj:ei 7=none:=by kernel_rfl
def P7 (_a0:eE) (_a1:eS) (_a2:Int) (_a3:Int) (_a4:fi) (v:AV):Prop:=∃ r0:Bool,(r0=pj (iD _a0.p.signals.l (jD false (iD _a0.p.signals.l) (fun x=>look x _a0.next) (jG _a0.p) (fun x=>(look x _a0.reads).getD (-1)) _a1 _a2 _a3)) (mP _a4) _a4.mode)∧v=.bool r0
theorem t7 (a0:eE) (a1:eS) (a2:Int) (a3:Int) (a4:fi)  (h:bY):∃ v,eH cfg eG.get ei false 7 [.ip (eE.cells a0) 0 false,.agg (eS.cells a1),iv a2,iv a3,.agg (fi.cells a4)] h v h∧P7 a0 a1 a2 a3 a4 v:=by
 refine eW Pj SY rfl rfl ?_
 refine bm ?_
 refine aG ?_
 refine oV ?_
 refine oC (t20 a0 a1 (a2) (a3)) ?_
 rintro _ ⟨r2,hc1,rfl⟩
 have hF:=hc1
 refine oC (t19 a0 (r2)) ?_
 rintro _ ⟨r4,r5,hc3,rfl⟩
 have hA:=hc3
 cases r5
 refine ca ?_
 refine oC (t21 a4) ?_
 rintro _ ⟨r7,r8,hc6,rfl⟩
 have hH:=hc6
 cases r8
 refine au ?_
 refine ae ?_
 refine oS ?_
 refine bU ?_
 refine bI ?_
 refine aV ?_
 exact xA (.bool false) ⟨false,cK,rfl⟩
 refine au ?_
 refine ae ?_
 refine oS ?_
 refine bU ?_
 refine bI ?_
 refine aV ?_
 exact xA (.bool false) ⟨false,cK,rfl⟩
 refine ca ?_
 refine oC (t21 a4) ?_
 rintro _ ⟨r10,r11,hc9,rfl⟩
 have hH:=hc9
 cases r11
 refine au ?_
 refine aF ?_
 refine bU ?_
 refine bI ?_
 refine aV ?_
 exact xA (.bool false) ⟨false,cK,rfl⟩
 refine bN ?_
 iterate 7 refine oV ?_
 refine fj (a4.mode) (2) (fun h12=>?_) (fun h12=>?_)
 refine bB ?_
 iterate 5 refine oV ?_
 refine jA rfl (fun _=>mO rfl rfl rfl (fun _ _=>rfl)) (fun h13=>?_) (fun h13=>?_)
 refine aV ?_
 exact xA (.bool true) ⟨true,cK,rfl⟩
 refine aV ?_
 exact xA (.bool false) ⟨false,cK,rfl⟩
 iterate 3 refine oV ?_
 refine fj (a4.mode) (1) (fun h14=>?_) (fun h14=>?_)
 iterate 5 refine oV ?_
 refine jA rfl (fun _=>mO rfl rfl rfl (fun _ _=>rfl)) (fun h15=>?_) (fun h15=>?_)
 refine aV ?_
 exact xA (.bool true) ⟨true,cK,rfl⟩
 refine aV ?_
 exact xA (.bool false) ⟨false,cK,rfl⟩
 refine oV ?_
 refine bI ?_
 refine aV ?_
 exact xA (.bool false) ⟨false,cK,rfl⟩
theorem TQ:eG.get 8=some K0:=by kernel_rfl
theorem QW:ei 8=none:=by kernel_rfl
def P8 (_a0:eb) (_a1:eS) (_a2:Int) (_a3:Int) (_a4:fi) (v:AV):Prop:=∃ r0:Bool,(r0=ns (jD true (iD _a0.signals.l) (gJ _a0.eT.l) (jG _a0) (fun x=>(ig _a0.signals.l x).getD (-1)) _a1 _a2 _a3) (mP _a4) _a4.mode (fun x=>(ig _a0.signals.l x).getD (-1)))∧v=.bool r0
theorem t8 (a0:eb) (a1:eS) (a2:Int) (a3:Int) (a4:fi)  (h:bY):∃ v,eH cfg eG.get ei false 8 [.agg (eb.cells a0),.agg (eS.cells a1),iv a2,iv a3,.agg (fi.cells a4)] h v h∧P8 a0 a1 a2 a3 a4 v:=by
 refine eW QW TQ rfl rfl ?_
 refine aa ?_
 refine bF ?_
 refine aG ?_
 refine oC (t22 a0 a1 (a2) (a3)) ?_
 rintro _ ⟨r2,hc1,rfl⟩
 have hC22:=hc1.1; have hF:=hc1.2
 refine ce ?_
 refine oC (t21 a4) ?_
 rintro _ ⟨r4,r5,hc3,rfl⟩
 have hH:=hc3
 cases r5
 refine au ?_
 refine ae ?_
 refine fj (a4.mode) (2) (fun h6=>?_) (fun h6=>?_)
 refine bB ?_
 iterate 3 refine oV ?_
 refine aL ?_
 refine aK ?_
 refine aV ?_
 exact xA (.bool false) ⟨false,cD,rfl⟩
 iterate 3 refine oV ?_
 refine fj (a4.mode) (1) (fun h7=>?_) (fun h7=>?_)
 iterate 3 refine oV ?_
 refine aL ?_
 refine aK ?_
 refine aV ?_
 exact xA (.bool false) ⟨false,cD,rfl⟩
 iterate 2 refine oV ?_
 refine oS ?_
 refine aL ?_
 refine aK ?_
 refine aV ?_
 exact xA (.bool false) ⟨false,cD,rfl⟩
 refine au ?_
 refine ae ?_
 refine fj (a4.mode) (2) (fun h8=>?_) (fun h8=>?_)
 refine bB ?_
 iterate 6 refine oV ?_
 refine gV (r2) (0) (fun h9=>?_) (fun h9=>?_)
 iterate 4 refine oV ?_
 refine oC (t23 a0 r4) ?_
 rintro _ ⟨r11,hc10,rfl⟩
 have hR:=hc10
 refine oV ?_
 refine fj (r11) (r2) (fun h12=>?_) (fun h12=>?_)
 refine aV ?_
 exact xA (.bool true) ⟨true,cD,rfl⟩
 refine aV ?_
 exact xA (.bool false) ⟨false,cD,rfl⟩
 refine aK ?_
 refine aV ?_
 exact xA (.bool false) ⟨false,cD,rfl⟩
 iterate 3 refine oV ?_
 refine fj (a4.mode) (1) (fun h13=>?_) (fun h13=>?_)
 iterate 6 refine oV ?_
 refine gV (r2) (0) (fun h14=>?_) (fun h14=>?_)
 iterate 4 refine oV ?_
 refine oC (t23 a0 r4) ?_
 rintro _ ⟨r16,hc15,rfl⟩
 have hR:=hc15
 refine oV ?_
 refine fj (r16) (r2) (fun h17=>?_) (fun h17=>?_)
 refine aV ?_
 exact xA (.bool true) ⟨true,cD,rfl⟩
 refine aV ?_
 exact xA (.bool false) ⟨false,cD,rfl⟩
 refine aK ?_
 refine aV ?_
 exact xA (.bool false) ⟨false,cD,rfl⟩
 iterate 2 refine oV ?_
 refine oS ?_
 refine aL ?_
 refine aK ?_
 refine aV ?_
 exact xA (.bool false) ⟨false,cD,rfl⟩
theorem T0:eG.get 3=some J7:=by kernel_rfl
theorem NH:ei 3=none:=by kernel_rfl
def P3 (_a0:eb) (_a1:eS) (_a2:Int) (_a3:Int) (_a4:Int) (_a5:fi) (v:AV):Prop:=∃ r0:Bool,(r0=true)∧v=.bool r0
theorem t3 (a0:eb) (a1:eS) (a2:Int) (a3:Int) (a4:Int) (a5:fi)  (h:bY):∃ v,eH cfg eG.get ei false 3 [.agg (eb.cells a0),.agg (eS.cells a1),iv a2,iv a3,iv a4,.agg (fi.cells a5)] h v h∧P3 a0 a1 a2 a3 a4 a5 v:=by
 refine eW NH T0 rfl rfl ?_
 refine aa ?_
 refine bF ?_
 refine bL ?_
 refine oC (t4) ?_
 rintro _ ⟨r2,hc1,rfl⟩
 have h4:=hc1
 cases r2
 refine ai ?_
 exact xA (.bool false) ⟨false,cU,rfl⟩
 refine aw ?_
 refine w0 [(2,iv a2),(3,iv a3),(4,iv a4),(6,.la 6 0),(7,.la 7 0),(11,.la 11 0)] [(6,(eb.cells a0)),(7,(eS.cells a1)),(11,(fi.cells a5))] ?_
 refine ae ?_
 refine oC (t5 a0 a1) ?_
 rintro _ (⟨r4,r5,hc3,rfl⟩ | ⟨r6,r7,hc3,rfl⟩)
 have hO:=hc3.1
 iterate 2 refine oV ?_
 refine bD ?_
 iterate 4 refine oV ?_
 have hL8:=a5.eQ.lk
 refine fA a5.eQ ?_
 refine fW ((a5.eQ.l.length:Int)) (1000) (fun h9=>?_) (fun h9=>?_)
 refine b5 ?_
 exact xA (.bool true) ⟨true,cU,rfl⟩
 iterate 5 refine oV ?_
 refine oC (t6 a0 (a4) a5) ?_
 rintro _ ⟨r11,hc10,rfl⟩
 cases r11
 refine a8 ?_
 exact xA (.bool true) ⟨true,cU,rfl⟩
 refine bv ?_
 refine w0 [(2,iv a2),(3,iv a3),(6,.la 6 0),(7,.la 7 0),(11,.la 11 0),(14,.ip (eE.cells r5) 0 false)] [(6,(eb.cells a0)),(7,(eS.cells a1)),(11,(fi.cells a5))] ?_
 refine bZ ?_
 refine rC (t7 r5 a1 (a2) (a3) a5) ?_
 rintro _ ⟨r13,hc12,rfl⟩
 have h7:=hc12
 cases r13
 iterate 5 refine rV ?_
 refine rC (t8 a0 a1 (a2) (a3) a5) ?_
 rintro _ ⟨r15,hc14,rfl⟩
 have h8:=hc14
 cases r15
 refine aH ?_
 exact xA (.bool true) ⟨true,cU,rfl⟩
 refine aH ?_
 exact xA (.bool false) ⟨false,cU,rfl⟩
 iterate 5 refine rV ?_
 refine rC (t8 a0 a1 (a2) (a3) a5) ?_
 rintro _ ⟨r17,hc16,rfl⟩
 have h8:=hc16
 cases r17
 refine aH ?_
 exact xA (.bool false) ⟨false,cU,rfl⟩
 refine aH ?_
 exact xA (.bool true) ⟨true,cU,rfl⟩
 iterate 2 refine oV ?_
 refine bD ?_
 refine aJ ?_
 refine b5 ?_
 exact xA (.bool true) ⟨true,cU,rfl⟩
end Go.Sx
