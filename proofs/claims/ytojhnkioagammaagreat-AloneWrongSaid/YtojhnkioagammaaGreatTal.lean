/- Proves what some functions of the program answer, by walking through them. -/
import Derived.Test.YtojhnkioagammaaGreatTai
import Derived.Test.YtojhnkioagammaaGreatTak
set_option linter.all false
set_option maxRecDepth 100000
set_option maxHeartbeats 0
namespace Go.Sx
open Go Go.Proofs
theorem X7:FT 81=some IV:=by kernel_rfl
theorem Q7:aT 81=none:=by kernel_rfl
def P81 (_a0:fk) (_a1:bY) (v:AV):Prop:=∃ r0:Int,(r0=(look _a1 _a0.reads).getD (-1))∧v=iv r0
theorem t81 (a0:fk) (a1:bY)  (h:ah):∃ v,fj cfg FT aT false 81 [.ip (fk.cells a0) 0 false,.agg (bY.cells a1)] h v h∧P81 a0 a1 v:=by
 refine fS Q7 X7 rfl rfl ?_
 refine ai ?_
 refine am ?_
 refine bR ?_
 refine zl (key:=a1) (l:=a0.reads) (ek:=pK) (ev:=iK) rfl rfl rfl rfl rfl rfl rfl rfl rfl rfl ja (fun y1 h2=>?_) (fun h3=>?_)
 iterate 4 refine rV ?_
 refine aV ?_
 refine aa ?_
 refine cu ?_
 exact xA (iv y1) ⟨(y1),eN,rfl⟩
 iterate 4 refine rV ?_
 refine aV ?_
 refine aa ?_
 refine ay ?_
 refine bu ?_
 exact xA (iv (-1)) ⟨(-1),eN,rfl⟩
theorem OF:FT 159=some Ek:=by kernel_rfl
theorem Ln:aT 159=none:=by kernel_rfl
def acE (_a0:fk) (_a1:Int) (v:AV):Prop:=∃ r0:gf,(r0.kind=mV _a0.p _a1)∧v=.agg (gf.cells r0)
theorem t159 (a0:fk) (a1:Int)  (h:ah):∃ v,fj cfg FT aT false 159 [.ip (fk.cells a0) 0 false,iv a1] h v h∧acE a0 a1 v:=by
 refine fS Ln OF rfl rfl ?_
 refine aY ?_
 refine gl (a1) (0) (fun h1=>?_) (fun h1=>?_)
 refine oV ?_
 iterate 8 refine oS ?_
 refine cu ?_
 exact xA (.agg [.str ([]),iv 0,iv 0]) ⟨(⟨(⟨[],by decide⟩:kO),(0),(0)⟩:gf),dF,rfl⟩
 iterate 7 refine oV ?_
 have hL2:=a0.p.elems.lk
 refine gG a0.p.elems ?_
 refine jg (a1) ((a0.p.elems.l.length:Int)) (fun h3=>?_) (fun h3=>?_)
 refine cu ?_
 exact xA (.agg [.str ([]),iv 0,iv 0]) ⟨(⟨(⟨[],by decide⟩:kO),(0),(0)⟩:gf),dF,rfl⟩
 refine ay ?_
 refine aa ?_
 iterate 6 refine oV ?_
 have hx4:(a1).toNat<a0.p.elems.l.length:=by omega
 refine fq rfl (fun _=>gN (n:=a1) (r:=a0.p.elems) (enc:=gf.cells) rfl rfl rfl rfl rfl cO hx4 rfl) ?_
 generalize hqx5:a0.p.elems.l[(a1).toNat]=x5
 refine aS ?_
 exact xF (.agg (gf.cells x5)) ⟨x5,dF,rfl⟩
theorem TC:FT 82=some Hu:=by kernel_rfl
theorem NL:aT 82=none:=by kernel_rfl
def P82 (_a0:fk) (_a1:Int) (v:AV):Prop:=∃ r0:Int,(r0=mV _a0.p _a1)∧v=iv r0
theorem t82 (a0:fk) (a1:Int)  (h:ah):∃ v,fj cfg FT aT false 82 [.ip (fk.cells a0) 0 false,iv a1] h v h∧P82 a0 a1 v:=by
 refine fS NL TC rfl rfl ?_
 refine cm ?_
 refine oC (t159 a0 (a1)) ?_
 rintro _ ⟨r2,hc1,rfl⟩
 refine aS ?_
 exact xA (iv r2.kind) ⟨(r2.kind),cP,rfl⟩
theorem NA:FT 136=some Eh:=by kernel_rfl
theorem Nb:aT 136=none:=by kernel_rfl
def acC (_a0:fk) (_a1:Int) (v:AV):Prop:=∃ r0:Int,(True)∧v=iv r0
theorem t136 (a0:fk) (a1:Int)  (h:ah):∃ v,fj cfg FT aT false 136 [.ip (fk.cells a0) 0 false,iv a1] h v h∧acC a0 a1 v:=by
 refine fS Nb NA rfl rfl ?_
 refine cm ?_
 refine oC (t159 a0 (a1)) ?_
 rintro _ ⟨r2,hc1,rfl⟩
 refine aS ?_
 exact xA (iv r2.len) ⟨(r2.len),trivial,rfl⟩
theorem NZ:FT 188=some Cj:=by kernel_rfl
theorem Lw:aT 188=none:=by kernel_rfl
def ab3 (_a0:Int) (v:AV):Prop:=∃ r0:Int,(((_a0=1→r0=2)∧(_a0=2→r0=3)∧(_a0=3→r0=4)∧(_a0=4→r0=1)∧0≤r0∧r0≤4))∧v=iv r0
theorem t188 (a0:Int)  (h:ah):∃ v,fj cfg FT aT false 188 [iv a0] h v h∧ab3 a0 v:=by
 refine fS Lw NZ rfl rfl ?_
 refine aY ?_
 refine cD ?_
 refine gA (a0) (1) (fun h1=>?_) (fun h1=>?_)
 refine au ?_
 exact xA (iv 2) ⟨(2),cO,rfl⟩
 refine bf ?_
 refine gA (a0) (2) (fun h2=>?_) (fun h2=>?_)
 refine au ?_
 exact xA (iv 3) ⟨(3),cO,rfl⟩
 refine bf ?_
 refine gA (a0) (3) (fun h3=>?_) (fun h3=>?_)
 refine au ?_
 exact xA (iv 4) ⟨(4),cO,rfl⟩
 refine bf ?_
 refine gA (a0) (4) (fun h4=>?_) (fun h4=>?_)
 refine au ?_
 exact xA (iv 1) ⟨(1),cO,rfl⟩
 refine ay ?_
 refine bu ?_
 exact xA (iv 0) ⟨(0),cO,rfl⟩
theorem NM:FT 137=some Eo:=by kernel_rfl
theorem Mo:aT 137=none:=by kernel_rfl
def abd (_a0:fk) (_a1:bY) (v:AV):Prop:=∃ r0:Bool,(True)∧v=.bool r0
theorem t137 (a0:fk) (a1:bY)  (h:ah):∃ v,fj cfg FT aT false 137 [.ip (fk.cells a0) 0 false,.agg (bY.cells a1)] h v h∧abd a0 a1 v:=by
 refine fS Mo NM rfl rfl ?_
 refine aQ ?_
 refine a6 ?_
 refine wm (a1.en) (0) (fun h1=>?_) (fun h1=>?_)
 iterate 6 refine rV ?_
 refine rC (t82 a0 (a1.elem)) ?_
 rintro _ ⟨r3,hc2,rfl⟩
 have hK:=hc2
 refine rC (t188 (r3)) ?_
 rintro _ ⟨r5,hc4,rfl⟩
 refine o4 (a1.en) (r5) (fun h6=>?_) (fun h6=>?_)
 refine aJ ?_
 exact xA (.bool true) ⟨true,trivial,rfl⟩
 refine aJ ?_
 exact xA (.bool false) ⟨false,trivial,rfl⟩
 refine rV ?_
 iterate 8 refine rS ?_
 refine aJ ?_
 exact xA (.bool false) ⟨false,trivial,rfl⟩
theorem Ux:FT 59=some GZ:=by kernel_rfl
theorem NC:aT 59=none:=by kernel_rfl
def abD (_a0:fk) (_a1:Int) (_a2:fX) (v:AV):Prop:=∃ r0:fJ,∃ r1:Int,((r1=0→r0.gT.l=[_a2.at_]))∧v=.fz [.agg (fJ.cells r0),iv r1]
theorem Nz (a0:fk) (a1:Int) (a2:fX)  (h:ah):∃ v,fj cfg FT aT false 59 [.ip (fk.cells a0) 0 false,iv a1,.agg (fX.cells a2)] h v h∧abD a0 a1 a2 v:=by
 refine fS NC Ux rfl rfl ?_
 refine bJ ?_
 refine bV ?_
 refine rV ?_
 refine rC (t82 a0 (a2.at_.elem)) ?_
 rintro _ ⟨r2,hc1,rfl⟩
 have hK:=hc1
 iterate 4 refine rV ?_
 refine rC (t136 a0 (a2.at_.elem)) ?_
 rintro _ ⟨r4,hc3,rfl⟩
 refine rV ?_
 refine aV ?_
 refine ba ?_
 refine ai ?_
 refine gl (a1) (1) (fun h5=>?_) (fun h5=>?_)
 refine bg ?_
 refine oV ?_
 refine bS ?_
 refine cB ?_
 refine oV ?_
 refine bp ?_
 exact xF (.fz [.agg [iv 0,.sl [] .nil,iv 0,iv 0,iv 0],iv 1]) ⟨(⟨(0),(⟨[],.nil,Nat.zero_le _,rfl,fun _=>rfl⟩:Row bY),(0),(0),(0)⟩:fJ),(1),cJ,rfl⟩
 iterate 2 refine oV ?_
 refine g9 (a1) (4000) (fun h6=>?_) (fun h6=>?_)
 refine oV ?_
 refine bS ?_
 refine cB ?_
 refine oV ?_
 refine bp ?_
 exact xF (.fz [.agg [iv 0,.sl [] .nil,iv 0,iv 0,iv 0],iv 1]) ⟨(⟨(0),(⟨[],.nil,Nat.zero_le _,rfl,fun _=>rfl⟩:Row bY),(0),(0),(0)⟩:fJ),(1),cJ,rfl⟩
 iterate 3 refine oV ?_
 refine iJ (r2) (4) (fun h7=>?_) (fun h7=>?_)
 iterate 2 refine oV ?_
 refine iJ (r2) (1) (fun h8=>?_) (fun h8=>?_)
 refine oV ?_
 refine cB ?_
 refine oV ?_
 refine bp ?_
 exact xF (.fz [.agg [iv 0,.sl [] .nil,iv 0,iv 0,iv 0],iv 1]) ⟨(⟨(0),(⟨[],.nil,Nat.zero_le _,rfl,fun _=>rfl⟩:Row bY),(0),(0),(0)⟩:fJ),(1),cJ,rfl⟩
 iterate 6 refine oV ?_
 refine oC (t137 a0 a2.at_) ?_
 rintro _ ⟨r10,hc9,rfl⟩
 cases r10
 iterate 2 refine oV ?_
 refine bp ?_
 exact xF (.fz [.agg [iv 0,.sl [] .nil,iv 0,iv 0,iv 0],iv 1]) ⟨(⟨(0),(⟨[],.nil,Nat.zero_le _,rfl,fun _=>rfl⟩:Row bY),(0),(0),(0)⟩:fJ),(1),cJ,rfl⟩
 refine aX ?_
 refine qF ?_
 refine aB ?_
 refine oC (t81 a0 a2.at_) ?_
 rintro _ ⟨r12,hc11,rfl⟩
 have hR:=hc11
 refine gl (r12) (0) (fun h13=>?_) (fun h13=>?_)
 refine bp ?_
 exact xF (.fz [.agg [iv 0,.sl [] .nil,iv 0,iv 0,iv 0],iv 7]) ⟨(⟨(0),(⟨[],.nil,Nat.zero_le _,rfl,fun _=>rfl⟩:Row bY),(0),(0),(0)⟩:fJ),(7),cJ,rfl⟩
 refine ab ?_
 refine cr ?_
 refine gA (r2) (4) (fun h14=>?_) (fun h14=>?_)
 iterate 3 refine oV ?_
 refine iJ (a2.left) (0) (fun h15=>?_) (fun h15=>?_)
 refine aE ?_
 refine cb ?_
 refine bp ?_
 exact xF (.fz [.agg [iv 0,.sl [] .nil,iv 0,iv 0,iv 0],iv 1]) ⟨(⟨(0),(⟨[],.nil,Nat.zero_le _,rfl,fun _=>rfl⟩:Row bY),(0),(0),(0)⟩:fJ),(1),cJ,rfl⟩
 iterate 3 refine oV ?_
 refine gA (r2) (1) (fun h16=>?_) (fun h16=>?_)
 iterate 3 refine oV ?_
 refine gl (a2.left) (0) (fun h17=>?_) (fun h17=>?_)
 refine bm ?_
 refine cw ?_
 exact xF (.fz [.agg [iv 0,.sl [] .nil,iv 0,iv 0,iv 0],iv 1]) ⟨(⟨(0),(⟨[],.nil,Nat.zero_le _,rfl,fun _=>rfl⟩:Row bY),(0),(0),(0)⟩:fJ),(1),cJ,rfl⟩
 iterate 4 refine oV ?_
 refine g9 (a2.left) (r4) (fun h18=>?_) (fun h18=>?_)
 refine cw ?_
 exact xF (.fz [.agg [iv 0,.sl [] .nil,iv 0,iv 0,iv 0],iv 1]) ⟨(⟨(0),(⟨[],.nil,Nat.zero_le _,rfl,fun _=>rfl⟩:Row bY),(0),(0),(0)⟩:fJ),(1),cJ,rfl⟩
 refine bM ?_
 refine cr ?_
 refine gA (r2) (1) (fun h19=>?_) (fun h19=>?_)
 iterate 4 refine oV ?_
 refine fq rfl (fun _=>gY rfl rfl rfl (lQ .i64 (a2.left) (a1))) ?_
 refine oV ?_
 refine g9 (IntKind.i64.wrap (a2.left+(a1))) (r4) (fun h20=>?_) (fun h20=>?_)
 refine oV ?_
 refine bp ?_
 exact xF (.fz [.agg [iv 0,.sl [] .nil,iv 0,iv 0,iv 0],iv 9]) ⟨(⟨(0),(⟨[],.nil,Nat.zero_le _,rfl,fun _=>rfl⟩:Row bY),(0),(0),(0)⟩:fJ),(9),cJ,rfl⟩
 refine aI ?_
 refine gA (r2) (4) (fun h21=>?_) (fun h21=>?_)
 refine aR ?_
 exact xF (.fz [.agg [iv 1,.sl [(bY.cells a2.at_)] (.exact 1),iv a2.left,iv 0,iv 0],iv 0]) ⟨(⟨(1),(⟨[a2.at_],.exact 1,Nat.le_of_ble_eq_true rfl,rfl,gU⟩:Row bY),(a2.left),(0),(0)⟩:fJ),(0),cJ,rfl⟩
 refine bF ?_
 exact xF (.fz [.agg [iv 2,.sl [(bY.cells a2.at_)] (.exact 1),iv a2.left,iv 0,iv 0],iv 0]) ⟨(⟨(2),(⟨[a2.at_],.exact 1,Nat.le_of_ble_eq_true rfl,rfl,gU⟩:Row bY),(a2.left),(0),(0)⟩:fJ),(0),cJ,rfl⟩
 refine bS ?_
 refine aI ?_
 refine gA (r2) (4) (fun h22=>?_) (fun h22=>?_)
 refine aR ?_
 exact xF (.fz [.agg [iv 1,.sl [(bY.cells a2.at_)] (.exact 1),iv a2.left,iv 0,iv 0],iv 0]) ⟨(⟨(1),(⟨[a2.at_],.exact 1,Nat.le_of_ble_eq_true rfl,rfl,gU⟩:Row bY),(a2.left),(0),(0)⟩:fJ),(0),cJ,rfl⟩
 refine bF ?_
 exact xF (.fz [.agg [iv 2,.sl [(bY.cells a2.at_)] (.exact 1),iv a2.left,iv 0,iv 0],iv 0]) ⟨(⟨(2),(⟨[a2.at_],.exact 1,Nat.le_of_ble_eq_true rfl,rfl,gU⟩:Row bY),(a2.left),(0),(0)⟩:fJ),(0),cJ,rfl⟩
 refine bQ ?_
 refine gA (r2) (1) (fun h23=>?_) (fun h23=>?_)
 iterate 4 refine oV ?_
 refine fq rfl (fun _=>gY rfl rfl rfl (lQ .i64 (a2.left) (a1))) ?_
 refine oV ?_
 refine g9 (IntKind.i64.wrap (a2.left+(a1))) (r4) (fun h24=>?_) (fun h24=>?_)
 refine oV ?_
 refine bp ?_
 exact xF (.fz [.agg [iv 0,.sl [] .nil,iv 0,iv 0,iv 0],iv 9]) ⟨(⟨(0),(⟨[],.nil,Nat.zero_le _,rfl,fun _=>rfl⟩:Row bY),(0),(0),(0)⟩:fJ),(9),cJ,rfl⟩
 refine aI ?_
 refine gA (r2) (4) (fun h25=>?_) (fun h25=>?_)
 refine aR ?_
 exact xF (.fz [.agg [iv 1,.sl [(bY.cells a2.at_)] (.exact 1),iv a2.left,iv 0,iv 0],iv 0]) ⟨(⟨(1),(⟨[a2.at_],.exact 1,Nat.le_of_ble_eq_true rfl,rfl,gU⟩:Row bY),(a2.left),(0),(0)⟩:fJ),(0),cJ,rfl⟩
 refine bF ?_
 exact xF (.fz [.agg [iv 2,.sl [(bY.cells a2.at_)] (.exact 1),iv a2.left,iv 0,iv 0],iv 0]) ⟨(⟨(2),(⟨[a2.at_],.exact 1,Nat.le_of_ble_eq_true rfl,rfl,gU⟩:Row bY),(a2.left),(0),(0)⟩:fJ),(0),cJ,rfl⟩
 refine bS ?_
 refine aI ?_
 refine gA (r2) (4) (fun h26=>?_) (fun h26=>?_)
 refine aR ?_
 exact xF (.fz [.agg [iv 1,.sl [(bY.cells a2.at_)] (.exact 1),iv a2.left,iv 0,iv 0],iv 0]) ⟨(⟨(1),(⟨[a2.at_],.exact 1,Nat.le_of_ble_eq_true rfl,rfl,gU⟩:Row bY),(a2.left),(0),(0)⟩:fJ),(0),cJ,rfl⟩
 refine bF ?_
 exact xF (.fz [.agg [iv 2,.sl [(bY.cells a2.at_)] (.exact 1),iv a2.left,iv 0,iv 0],iv 0]) ⟨(⟨(2),(⟨[a2.at_],.exact 1,Nat.le_of_ble_eq_true rfl,rfl,gU⟩:Row bY),(a2.left),(0),(0)⟩:fJ),(0),cJ,rfl⟩
 refine bD ?_
 iterate 3 refine oV ?_
 refine gA (r2) (1) (fun h27=>?_) (fun h27=>?_)
 iterate 3 refine oV ?_
 refine gl (a2.left) (0) (fun h28=>?_) (fun h28=>?_)
 refine bm ?_
 refine cw ?_
 exact xF (.fz [.agg [iv 0,.sl [] .nil,iv 0,iv 0,iv 0],iv 1]) ⟨(⟨(0),(⟨[],.nil,Nat.zero_le _,rfl,fun _=>rfl⟩:Row bY),(0),(0),(0)⟩:fJ),(1),cJ,rfl⟩
 iterate 4 refine oV ?_
 refine g9 (a2.left) (r4) (fun h29=>?_) (fun h29=>?_)
 refine cw ?_
 exact xF (.fz [.agg [iv 0,.sl [] .nil,iv 0,iv 0,iv 0],iv 1]) ⟨(⟨(0),(⟨[],.nil,Nat.zero_le _,rfl,fun _=>rfl⟩:Row bY),(0),(0),(0)⟩:fJ),(1),cJ,rfl⟩
 refine bM ?_
 refine cr ?_
 refine gA (r2) (1) (fun h30=>?_) (fun h30=>?_)
 iterate 4 refine oV ?_
 refine fq rfl (fun _=>gY rfl rfl rfl (lQ .i64 (a2.left) (a1))) ?_
 refine oV ?_
 refine g9 (IntKind.i64.wrap (a2.left+(a1))) (r4) (fun h31=>?_) (fun h31=>?_)
 refine oV ?_
 refine bp ?_
 exact xF (.fz [.agg [iv 0,.sl [] .nil,iv 0,iv 0,iv 0],iv 9]) ⟨(⟨(0),(⟨[],.nil,Nat.zero_le _,rfl,fun _=>rfl⟩:Row bY),(0),(0),(0)⟩:fJ),(9),cJ,rfl⟩
 refine aI ?_
 refine gA (r2) (4) (fun h32=>?_) (fun h32=>?_)
 refine aR ?_
 exact xF (.fz [.agg [iv 1,.sl [(bY.cells a2.at_)] (.exact 1),iv a2.left,iv 0,iv 0],iv 0]) ⟨(⟨(1),(⟨[a2.at_],.exact 1,Nat.le_of_ble_eq_true rfl,rfl,gU⟩:Row bY),(a2.left),(0),(0)⟩:fJ),(0),cJ,rfl⟩
 refine bF ?_
 exact xF (.fz [.agg [iv 2,.sl [(bY.cells a2.at_)] (.exact 1),iv a2.left,iv 0,iv 0],iv 0]) ⟨(⟨(2),(⟨[a2.at_],.exact 1,Nat.le_of_ble_eq_true rfl,rfl,gU⟩:Row bY),(a2.left),(0),(0)⟩:fJ),(0),cJ,rfl⟩
 refine bS ?_
 refine aI ?_
 refine gA (r2) (4) (fun h33=>?_) (fun h33=>?_)
 refine aR ?_
 exact xF (.fz [.agg [iv 1,.sl [(bY.cells a2.at_)] (.exact 1),iv a2.left,iv 0,iv 0],iv 0]) ⟨(⟨(1),(⟨[a2.at_],.exact 1,Nat.le_of_ble_eq_true rfl,rfl,gU⟩:Row bY),(a2.left),(0),(0)⟩:fJ),(0),cJ,rfl⟩
 refine bF ?_
 exact xF (.fz [.agg [iv 2,.sl [(bY.cells a2.at_)] (.exact 1),iv a2.left,iv 0,iv 0],iv 0]) ⟨(⟨(2),(⟨[a2.at_],.exact 1,Nat.le_of_ble_eq_true rfl,rfl,gU⟩:Row bY),(a2.left),(0),(0)⟩:fJ),(0),cJ,rfl⟩
 refine bQ ?_
 refine gA (r2) (1) (fun h34=>?_) (fun h34=>?_)
 iterate 4 refine oV ?_
 refine fq rfl (fun _=>gY rfl rfl rfl (lQ .i64 (a2.left) (a1))) ?_
 refine oV ?_
 refine g9 (IntKind.i64.wrap (a2.left+(a1))) (r4) (fun h35=>?_) (fun h35=>?_)
 refine oV ?_
 refine bp ?_
 exact xF (.fz [.agg [iv 0,.sl [] .nil,iv 0,iv 0,iv 0],iv 9]) ⟨(⟨(0),(⟨[],.nil,Nat.zero_le _,rfl,fun _=>rfl⟩:Row bY),(0),(0),(0)⟩:fJ),(9),cJ,rfl⟩
 refine aI ?_
 refine gA (r2) (4) (fun h36=>?_) (fun h36=>?_)
 refine aR ?_
 exact xF (.fz [.agg [iv 1,.sl [(bY.cells a2.at_)] (.exact 1),iv a2.left,iv 0,iv 0],iv 0]) ⟨(⟨(1),(⟨[a2.at_],.exact 1,Nat.le_of_ble_eq_true rfl,rfl,gU⟩:Row bY),(a2.left),(0),(0)⟩:fJ),(0),cJ,rfl⟩
 refine bF ?_
 exact xF (.fz [.agg [iv 2,.sl [(bY.cells a2.at_)] (.exact 1),iv a2.left,iv 0,iv 0],iv 0]) ⟨(⟨(2),(⟨[a2.at_],.exact 1,Nat.le_of_ble_eq_true rfl,rfl,gU⟩:Row bY),(a2.left),(0),(0)⟩:fJ),(0),cJ,rfl⟩
 refine bS ?_
 refine aI ?_
 refine gA (r2) (4) (fun h37=>?_) (fun h37=>?_)
 refine aR ?_
 exact xF (.fz [.agg [iv 1,.sl [(bY.cells a2.at_)] (.exact 1),iv a2.left,iv 0,iv 0],iv 0]) ⟨(⟨(1),(⟨[a2.at_],.exact 1,Nat.le_of_ble_eq_true rfl,rfl,gU⟩:Row bY),(a2.left),(0),(0)⟩:fJ),(0),cJ,rfl⟩
 refine bF ?_
 exact xF (.fz [.agg [iv 2,.sl [(bY.cells a2.at_)] (.exact 1),iv a2.left,iv 0,iv 0],iv 0]) ⟨(⟨(2),(⟨[a2.at_],.exact 1,Nat.le_of_ble_eq_true rfl,rfl,gU⟩:Row bY),(a2.left),(0),(0)⟩:fJ),(0),cJ,rfl⟩
 refine bg ?_
 iterate 6 refine oV ?_
 refine oC (t137 a0 a2.at_) ?_
 rintro _ ⟨r39,hc38,rfl⟩
 cases r39
 iterate 2 refine oV ?_
 refine bp ?_
 exact xF (.fz [.agg [iv 0,.sl [] .nil,iv 0,iv 0,iv 0],iv 1]) ⟨(⟨(0),(⟨[],.nil,Nat.zero_le _,rfl,fun _=>rfl⟩:Row bY),(0),(0),(0)⟩:fJ),(1),cJ,rfl⟩
 refine aX ?_
 refine qF ?_
 refine aB ?_
 refine oC (t81 a0 a2.at_) ?_
 rintro _ ⟨r41,hc40,rfl⟩
 have hR:=hc40
 refine gl (r41) (0) (fun h42=>?_) (fun h42=>?_)
 refine bp ?_
 exact xF (.fz [.agg [iv 0,.sl [] .nil,iv 0,iv 0,iv 0],iv 7]) ⟨(⟨(0),(⟨[],.nil,Nat.zero_le _,rfl,fun _=>rfl⟩:Row bY),(0),(0),(0)⟩:fJ),(7),cJ,rfl⟩
 refine ab ?_
 refine cr ?_
 refine gA (r2) (4) (fun h43=>?_) (fun h43=>?_)
 iterate 3 refine oV ?_
 refine iJ (a2.left) (0) (fun h44=>?_) (fun h44=>?_)
 refine aE ?_
 refine cb ?_
 refine bp ?_
 exact xF (.fz [.agg [iv 0,.sl [] .nil,iv 0,iv 0,iv 0],iv 1]) ⟨(⟨(0),(⟨[],.nil,Nat.zero_le _,rfl,fun _=>rfl⟩:Row bY),(0),(0),(0)⟩:fJ),(1),cJ,rfl⟩
 iterate 3 refine oV ?_
 refine gA (r2) (1) (fun h45=>?_) (fun h45=>?_)
 iterate 3 refine oV ?_
 refine gl (a2.left) (0) (fun h46=>?_) (fun h46=>?_)
 refine bm ?_
 refine cw ?_
 exact xF (.fz [.agg [iv 0,.sl [] .nil,iv 0,iv 0,iv 0],iv 1]) ⟨(⟨(0),(⟨[],.nil,Nat.zero_le _,rfl,fun _=>rfl⟩:Row bY),(0),(0),(0)⟩:fJ),(1),cJ,rfl⟩
 iterate 4 refine oV ?_
 refine g9 (a2.left) (r4) (fun h47=>?_) (fun h47=>?_)
 refine cw ?_
 exact xF (.fz [.agg [iv 0,.sl [] .nil,iv 0,iv 0,iv 0],iv 1]) ⟨(⟨(0),(⟨[],.nil,Nat.zero_le _,rfl,fun _=>rfl⟩:Row bY),(0),(0),(0)⟩:fJ),(1),cJ,rfl⟩
 refine bM ?_
 refine cr ?_
 refine gA (r2) (1) (fun h48=>?_) (fun h48=>?_)
 iterate 4 refine oV ?_
 refine fq rfl (fun _=>gY rfl rfl rfl (lQ .i64 (a2.left) (a1))) ?_
 refine oV ?_
 refine g9 (IntKind.i64.wrap (a2.left+(a1))) (r4) (fun h49=>?_) (fun h49=>?_)
 refine oV ?_
 refine bp ?_
 exact xF (.fz [.agg [iv 0,.sl [] .nil,iv 0,iv 0,iv 0],iv 9]) ⟨(⟨(0),(⟨[],.nil,Nat.zero_le _,rfl,fun _=>rfl⟩:Row bY),(0),(0),(0)⟩:fJ),(9),cJ,rfl⟩
 refine aI ?_
 refine gA (r2) (4) (fun h50=>?_) (fun h50=>?_)
 refine aR ?_
 exact xF (.fz [.agg [iv 1,.sl [(bY.cells a2.at_)] (.exact 1),iv a2.left,iv 0,iv 0],iv 0]) ⟨(⟨(1),(⟨[a2.at_],.exact 1,Nat.le_of_ble_eq_true rfl,rfl,gU⟩:Row bY),(a2.left),(0),(0)⟩:fJ),(0),cJ,rfl⟩
 refine bF ?_
 exact xF (.fz [.agg [iv 2,.sl [(bY.cells a2.at_)] (.exact 1),iv a2.left,iv 0,iv 0],iv 0]) ⟨(⟨(2),(⟨[a2.at_],.exact 1,Nat.le_of_ble_eq_true rfl,rfl,gU⟩:Row bY),(a2.left),(0),(0)⟩:fJ),(0),cJ,rfl⟩
 refine bS ?_
 refine aI ?_
 refine gA (r2) (4) (fun h51=>?_) (fun h51=>?_)
 refine aR ?_
 exact xF (.fz [.agg [iv 1,.sl [(bY.cells a2.at_)] (.exact 1),iv a2.left,iv 0,iv 0],iv 0]) ⟨(⟨(1),(⟨[a2.at_],.exact 1,Nat.le_of_ble_eq_true rfl,rfl,gU⟩:Row bY),(a2.left),(0),(0)⟩:fJ),(0),cJ,rfl⟩
 refine bF ?_
 exact xF (.fz [.agg [iv 2,.sl [(bY.cells a2.at_)] (.exact 1),iv a2.left,iv 0,iv 0],iv 0]) ⟨(⟨(2),(⟨[a2.at_],.exact 1,Nat.le_of_ble_eq_true rfl,rfl,gU⟩:Row bY),(a2.left),(0),(0)⟩:fJ),(0),cJ,rfl⟩
 refine bQ ?_
 refine gA (r2) (1) (fun h52=>?_) (fun h52=>?_)
 iterate 4 refine oV ?_
 refine fq rfl (fun _=>gY rfl rfl rfl (lQ .i64 (a2.left) (a1))) ?_
 refine oV ?_
 refine g9 (IntKind.i64.wrap (a2.left+(a1))) (r4) (fun h53=>?_) (fun h53=>?_)
 refine oV ?_
 refine bp ?_
 exact xF (.fz [.agg [iv 0,.sl [] .nil,iv 0,iv 0,iv 0],iv 9]) ⟨(⟨(0),(⟨[],.nil,Nat.zero_le _,rfl,fun _=>rfl⟩:Row bY),(0),(0),(0)⟩:fJ),(9),cJ,rfl⟩
 refine aI ?_
 refine gA (r2) (4) (fun h54=>?_) (fun h54=>?_)
 refine aR ?_
 exact xF (.fz [.agg [iv 1,.sl [(bY.cells a2.at_)] (.exact 1),iv a2.left,iv 0,iv 0],iv 0]) ⟨(⟨(1),(⟨[a2.at_],.exact 1,Nat.le_of_ble_eq_true rfl,rfl,gU⟩:Row bY),(a2.left),(0),(0)⟩:fJ),(0),cJ,rfl⟩
 refine bF ?_
 exact xF (.fz [.agg [iv 2,.sl [(bY.cells a2.at_)] (.exact 1),iv a2.left,iv 0,iv 0],iv 0]) ⟨(⟨(2),(⟨[a2.at_],.exact 1,Nat.le_of_ble_eq_true rfl,rfl,gU⟩:Row bY),(a2.left),(0),(0)⟩:fJ),(0),cJ,rfl⟩
 refine bS ?_
 refine aI ?_
 refine gA (r2) (4) (fun h55=>?_) (fun h55=>?_)
 refine aR ?_
 exact xF (.fz [.agg [iv 1,.sl [(bY.cells a2.at_)] (.exact 1),iv a2.left,iv 0,iv 0],iv 0]) ⟨(⟨(1),(⟨[a2.at_],.exact 1,Nat.le_of_ble_eq_true rfl,rfl,gU⟩:Row bY),(a2.left),(0),(0)⟩:fJ),(0),cJ,rfl⟩
 refine bF ?_
 exact xF (.fz [.agg [iv 2,.sl [(bY.cells a2.at_)] (.exact 1),iv a2.left,iv 0,iv 0],iv 0]) ⟨(⟨(2),(⟨[a2.at_],.exact 1,Nat.le_of_ble_eq_true rfl,rfl,gU⟩:Row bY),(a2.left),(0),(0)⟩:fJ),(0),cJ,rfl⟩
 refine bD ?_
 iterate 3 refine oV ?_
 refine gA (r2) (1) (fun h56=>?_) (fun h56=>?_)
 iterate 3 refine oV ?_
 refine gl (a2.left) (0) (fun h57=>?_) (fun h57=>?_)
 refine bm ?_
 refine cw ?_
 exact xF (.fz [.agg [iv 0,.sl [] .nil,iv 0,iv 0,iv 0],iv 1]) ⟨(⟨(0),(⟨[],.nil,Nat.zero_le _,rfl,fun _=>rfl⟩:Row bY),(0),(0),(0)⟩:fJ),(1),cJ,rfl⟩
 iterate 4 refine oV ?_
 refine g9 (a2.left) (r4) (fun h58=>?_) (fun h58=>?_)
 refine cw ?_
 exact xF (.fz [.agg [iv 0,.sl [] .nil,iv 0,iv 0,iv 0],iv 1]) ⟨(⟨(0),(⟨[],.nil,Nat.zero_le _,rfl,fun _=>rfl⟩:Row bY),(0),(0),(0)⟩:fJ),(1),cJ,rfl⟩
 refine bM ?_
 refine cr ?_
 refine gA (r2) (1) (fun h59=>?_) (fun h59=>?_)
 iterate 4 refine oV ?_
 refine fq rfl (fun _=>gY rfl rfl rfl (lQ .i64 (a2.left) (a1))) ?_
 refine oV ?_
 refine g9 (IntKind.i64.wrap (a2.left+(a1))) (r4) (fun h60=>?_) (fun h60=>?_)
 refine oV ?_
 refine bp ?_
 exact xF (.fz [.agg [iv 0,.sl [] .nil,iv 0,iv 0,iv 0],iv 9]) ⟨(⟨(0),(⟨[],.nil,Nat.zero_le _,rfl,fun _=>rfl⟩:Row bY),(0),(0),(0)⟩:fJ),(9),cJ,rfl⟩
 refine aI ?_
 refine gA (r2) (4) (fun h61=>?_) (fun h61=>?_)
 refine aR ?_
 exact xF (.fz [.agg [iv 1,.sl [(bY.cells a2.at_)] (.exact 1),iv a2.left,iv 0,iv 0],iv 0]) ⟨(⟨(1),(⟨[a2.at_],.exact 1,Nat.le_of_ble_eq_true rfl,rfl,gU⟩:Row bY),(a2.left),(0),(0)⟩:fJ),(0),cJ,rfl⟩
 refine bF ?_
 exact xF (.fz [.agg [iv 2,.sl [(bY.cells a2.at_)] (.exact 1),iv a2.left,iv 0,iv 0],iv 0]) ⟨(⟨(2),(⟨[a2.at_],.exact 1,Nat.le_of_ble_eq_true rfl,rfl,gU⟩:Row bY),(a2.left),(0),(0)⟩:fJ),(0),cJ,rfl⟩
 refine bS ?_
 refine aI ?_
 refine gA (r2) (4) (fun h62=>?_) (fun h62=>?_)
 refine aR ?_
 exact xF (.fz [.agg [iv 1,.sl [(bY.cells a2.at_)] (.exact 1),iv a2.left,iv 0,iv 0],iv 0]) ⟨(⟨(1),(⟨[a2.at_],.exact 1,Nat.le_of_ble_eq_true rfl,rfl,gU⟩:Row bY),(a2.left),(0),(0)⟩:fJ),(0),cJ,rfl⟩
 refine bF ?_
 exact xF (.fz [.agg [iv 2,.sl [(bY.cells a2.at_)] (.exact 1),iv a2.left,iv 0,iv 0],iv 0]) ⟨(⟨(2),(⟨[a2.at_],.exact 1,Nat.le_of_ble_eq_true rfl,rfl,gU⟩:Row bY),(a2.left),(0),(0)⟩:fJ),(0),cJ,rfl⟩
 refine bQ ?_
 refine gA (r2) (1) (fun h63=>?_) (fun h63=>?_)
 iterate 4 refine oV ?_
 refine fq rfl (fun _=>gY rfl rfl rfl (lQ .i64 (a2.left) (a1))) ?_
 refine oV ?_
 refine g9 (IntKind.i64.wrap (a2.left+(a1))) (r4) (fun h64=>?_) (fun h64=>?_)
 refine oV ?_
 refine bp ?_
 exact xF (.fz [.agg [iv 0,.sl [] .nil,iv 0,iv 0,iv 0],iv 9]) ⟨(⟨(0),(⟨[],.nil,Nat.zero_le _,rfl,fun _=>rfl⟩:Row bY),(0),(0),(0)⟩:fJ),(9),cJ,rfl⟩
 refine aI ?_
 refine gA (r2) (4) (fun h65=>?_) (fun h65=>?_)
 refine aR ?_
 exact xF (.fz [.agg [iv 1,.sl [(bY.cells a2.at_)] (.exact 1),iv a2.left,iv 0,iv 0],iv 0]) ⟨(⟨(1),(⟨[a2.at_],.exact 1,Nat.le_of_ble_eq_true rfl,rfl,gU⟩:Row bY),(a2.left),(0),(0)⟩:fJ),(0),cJ,rfl⟩
 refine bF ?_
 exact xF (.fz [.agg [iv 2,.sl [(bY.cells a2.at_)] (.exact 1),iv a2.left,iv 0,iv 0],iv 0]) ⟨(⟨(2),(⟨[a2.at_],.exact 1,Nat.le_of_ble_eq_true rfl,rfl,gU⟩:Row bY),(a2.left),(0),(0)⟩:fJ),(0),cJ,rfl⟩
 refine bS ?_
 refine aI ?_
 refine gA (r2) (4) (fun h66=>?_) (fun h66=>?_)
 refine aR ?_
 exact xF (.fz [.agg [iv 1,.sl [(bY.cells a2.at_)] (.exact 1),iv a2.left,iv 0,iv 0],iv 0]) ⟨(⟨(1),(⟨[a2.at_],.exact 1,Nat.le_of_ble_eq_true rfl,rfl,gU⟩:Row bY),(a2.left),(0),(0)⟩:fJ),(0),cJ,rfl⟩
 refine bF ?_
 exact xF (.fz [.agg [iv 2,.sl [(bY.cells a2.at_)] (.exact 1),iv a2.left,iv 0,iv 0],iv 0]) ⟨(⟨(2),(⟨[a2.at_],.exact 1,Nat.le_of_ble_eq_true rfl,rfl,gU⟩:Row bY),(a2.left),(0),(0)⟩:fJ),(0),cJ,rfl⟩
def P59 (_a0:fk) (_a1:Int) (_a2:fX) (v:AV):Prop:=∃ r0:fJ,∃ r1:Int,(((r1=0→r0.gT.l=[_a2.at_]))∧rs 59 [.ip (fk.cells _a0) 0 false,iv _a1,.agg (fX.cells _a2)]=.fz [.agg (fJ.cells r0),iv r1])∧v=.fz [.agg (fJ.cells r0),iv r1]
theorem t59 (a0:fk) (a1:Int) (a2:fX)  (h:ah):∃ v,fj cfg FT aT false 59 [.ip (fk.cells a0) 0 false,iv a1,.agg (fX.cells a2)] h v h∧P59 a0 a1 a2 v:=by
 obtain ⟨v,hc,hP,hr⟩:=kg mQ (Nz a0 a1 a2) h
 obtain ⟨r0,r1,hp,rfl⟩:=hP
 exact ⟨_,hc,r0,r1,⟨hp,hr⟩,rfl⟩
theorem Zo (a0:fk) (a1:Int) (a2:fX)  {V:AV} (hV:rs 59 [.ip (fk.cells a0) 0 false,iv a1,.agg (fX.cells a2)]=V) (h:ah):∃ v,fj cfg FT aT false 59 [.ip (fk.cells a0) 0 false,iv a1,.agg (fX.cells a2)] h v h∧v=V:=by
 obtain ⟨v,hc,hP,hr⟩:=kg mQ (Nz a0 a1 a2) h
 exact ⟨v,hc,hr.symm.trans hV⟩
theorem Rj:FT 186=some C1:=by kernel_rfl
theorem LZ:aT 186=none:=by kernel_rfl
def ZM (_a0:Int) (v:AV):Prop:=∃ r0:Bool,(True)∧v=.bool r0
theorem t186 (a0:Int)  (h:ah):∃ v,fj cfg FT aT false 186 [.int .u8 (a0)] h v h∧ZM a0 v:=by
 refine fS LZ Rj rfl rfl ?_
 refine aa ?_
 refine bP ?_
 refine jg (a0) (97) (fun h1=>?_) (fun h1=>?_)
 iterate 2 refine oV ?_
 refine o5 (a0) (122) (fun h2=>?_) (fun h2=>?_)
 refine oV ?_
 refine bS ?_
 refine aS ?_
 exact xA (.bool true) ⟨true,trivial,rfl⟩
 iterate 3 refine oV ?_
 refine jg (a0) (65) (fun h3=>?_) (fun h3=>?_)
 iterate 2 refine oV ?_
 refine o5 (a0) (90) (fun h4=>?_) (fun h4=>?_)
 refine bk ?_
 exact xA (.bool true) ⟨true,trivial,rfl⟩
 refine bk ?_
 exact xA (.bool false) ⟨false,trivial,rfl⟩
 refine bg ?_
 refine bk ?_
 exact xA (.bool false) ⟨false,trivial,rfl⟩
 refine bg ?_
 iterate 3 refine oV ?_
 refine jg (a0) (65) (fun h5=>?_) (fun h5=>?_)
 iterate 2 refine oV ?_
 refine o5 (a0) (90) (fun h6=>?_) (fun h6=>?_)
 refine bk ?_
 exact xA (.bool true) ⟨true,trivial,rfl⟩
 refine bk ?_
 exact xA (.bool false) ⟨false,trivial,rfl⟩
 refine bg ?_
 refine bk ?_
 exact xA (.bool false) ⟨false,trivial,rfl⟩
theorem OC:FT 121=some CI:=by kernel_rfl
theorem Lz:aT 121=none:=by kernel_rfl
def S9 (_a0:kO) (v:AV):Prop:=∃ r0:Bool,(True)∧v=.bool r0
theorem J2 (a0:kO)  (h:ah):∃ v,fj cfg FT aT false 121 [.str (a0.l)] h v h∧S9 a0 v:=by
 refine fS Lz OC rfl rfl ?_
 refine aY ?_
 refine lJ rfl (fun _=>qo rfl rfl) (fun h2=>?_) (fun h2=>?_)
 refine bD ?_
 refine bz ?_
 exact xA (.bool false) ⟨false,trivial,rfl⟩
 have hp1:0<a0.l.length:=List.length_pos_iff.mpr h2
 iterate 3 refine oV ?_
 refine g9 ((a0.l.length:Int)) (8) (fun h3=>?_) (fun h3=>?_)
 refine bz ?_
 exact xA (.bool false) ⟨false,trivial,rfl⟩
 iterate 3 refine oV ?_
 have hx4:0<a0.l.length:=by omega
 refine fq rfl (fun _=>uD (n:=0) (s:=a0.l) rfl rfl rfl rfl hx4) ?_
 generalize hqc5:a0.l[0]=c5
 refine oC (t186 ((c5.toNat:Int))) ?_
 rintro _ ⟨r7,hc6,rfl⟩
 cases r7
 refine bd ?_
 exact xA (.bool false) ⟨false,trivial,rfl⟩
 refine bA ?_
 refine bc ?_
 have hNk8:=a0.lk
 refine fC (a0.l.length) (fun k8 e h=>(1≤k8)∧proj [0,3] e=[(0,.str (a0.l)),(3,iv (k8:Int))]∧{ h with aq:=fU [0,3] h.aq } = { ah.empty with aq:=[] }) ?_ (k0:=1) cO ⟨cO,rfl,rfl⟩
 rintro k8 e h hkk8 ⟨hw9,he,hh⟩
 refine gm he hh ?_
 clear he hh
 refine bb ?_
 refine gl ((k8:Int)) ((a0.l.length:Int)) (fun h10=>?_) (fun h10=>?_)
 refine aG ?_
 refine ae ?_
 have hx11:k8<a0.l.length:=by omega
 refine fq rfl (fun _=>uD (n:=k8) (s:=a0.l) rfl rfl rfl rfl hx11) ?_
 generalize hqc12:a0.l[k8]=c12
 refine oC (t186 ((c12.toNat:Int))) ?_
 rintro _ ⟨r14,hc13,rfl⟩
 cases r14
 iterate 4 refine oV ?_
 have hx15:k8<a0.l.length:=by omega
 refine fq rfl (fun _=>uD (n:=k8) (s:=a0.l) rfl rfl rfl rfl hx15) ?_
 generalize hqc16:a0.l[k8]=c16
 refine gl ((c16.toNat:Int)) (48) (fun h17=>?_) (fun h17=>?_)
 refine bm ?_
 refine bd ?_
 exact xA (.bool false) ⟨false,trivial,rfl⟩
 iterate 3 refine oV ?_
 have hx18:k8<a0.l.length:=by omega
 refine fq rfl (fun _=>uD (n:=k8) (s:=a0.l) rfl rfl rfl rfl hx18) ?_
 generalize hqc19:a0.l[k8]=c19
 refine g9 ((c19.toNat:Int)) (57) (fun h20=>?_) (fun h20=>?_)
 refine bd ?_
 exact xA (.bool false) ⟨false,trivial,rfl⟩
 refine oV ?_
 refine ci ?_
 refine gy ((k8:Int)) (1) ?_
 refine ab ?_
 exact ⟨by omega,cO,rfl,rfl⟩
 refine bX ?_
 refine oS ?_
 refine ci ?_
 refine gy ((k8:Int)) (1) ?_
 refine ab ?_
 exact ⟨by omega,cO,rfl,rfl⟩
 refine cF ?_
 exact xA (.bool true) ⟨true,trivial,rfl⟩
def acu (_a0:kO) (v:AV):Prop:=∃ r0:Bool,((True)∧rs 121 [.str (_a0.l)]=.bool r0)∧v=.bool r0
theorem t121 (a0:kO)  (h:ah):∃ v,fj cfg FT aT false 121 [.str (a0.l)] h v h∧acu a0 v:=by
 obtain ⟨v,hc,hP,hr⟩:=kg mQ (J2 a0) h
 obtain ⟨r0,hp,rfl⟩:=hP
 exact ⟨_,hc,r0,⟨hp,hr⟩,rfl⟩
theorem Ud (a0:kO)  {V:AV} (hV:rs 121 [.str (a0.l)]=V) (h:ah):∃ v,fj cfg FT aT false 121 [.str (a0.l)] h v h∧v=V:=by
 obtain ⟨v,hc,hP,hr⟩:=kg mQ (J2 a0) h
 exact ⟨v,hc,hr.symm.trans hV⟩
theorem Q9:FT 123=some Ed:=by kernel_rfl
theorem Ma:aT 123=none:=by kernel_rfl
def Zj (_a0:fh) (v:AV):Prop:=∃ r0:Bool,(True)∧v=.bool r0
theorem t123 (a0:fh)  (h:ah):∃ v,fj cfg FT aT false 123 [.agg (fh.cells a0)] h v h∧Zj a0 v:=by
 refine fS Ma Q9 rfl rfl ?_
 refine aQ ?_
 refine pD ?_
 refine aW ?_
 refine gl (a0.top) (1) (fun h1=>?_) (fun h1=>?_)
 refine bD ?_
 refine cq ?_
 refine cq ?_
 refine bz ?_
 exact xA (.bool false) ⟨false,trivial,rfl⟩
 iterate 3 refine oV ?_
 refine g9 (a0.top) (60) (fun h2=>?_) (fun h2=>?_)
 refine cq ?_
 refine cq ?_
 refine bz ?_
 exact xA (.bool false) ⟨false,trivial,rfl⟩
 iterate 4 refine oV ?_
 refine gl (a0.gE) (1) (fun h3=>?_) (fun h3=>?_)
 refine cA ?_
 refine cA ?_
 refine cq ?_
 refine bz ?_
 exact xA (.bool false) ⟨false,trivial,rfl⟩
 iterate 4 refine oV ?_
 refine g9 (a0.gE) (10) (fun h4=>?_) (fun h4=>?_)
 refine cA ?_
 refine cq ?_
 refine bz ?_
 exact xA (.bool false) ⟨false,trivial,rfl⟩
 iterate 4 refine oV ?_
 refine gl (a0.gv) (1) (fun h5=>?_) (fun h5=>?_)
 refine cq ?_
 refine bz ?_
 exact xA (.bool false) ⟨false,trivial,rfl⟩
 iterate 4 refine oV ?_
 refine g9 (a0.gv) (4000) (fun h6=>?_) (fun h6=>?_)
 refine cA ?_
 refine cA ?_
 refine bz ?_
 exact xA (.bool false) ⟨false,trivial,rfl⟩
 iterate 4 refine oV ?_
 refine gl (a0.gz) (1) (fun h7=>?_) (fun h7=>?_)
 refine cA ?_
 refine bz ?_
 exact xA (.bool false) ⟨false,trivial,rfl⟩
 iterate 4 refine oV ?_
 refine g9 (a0.gz) (20) (fun h8=>?_) (fun h8=>?_)
 refine bz ?_
 exact xA (.bool false) ⟨false,trivial,rfl⟩
 iterate 4 refine oV ?_
 have hL9:=a0.elems.lk
 refine gG a0.elems ?_
 refine gA ((a0.elems.l.length:Int)) (0) (fun h10=>?_) (fun h10=>?_)
 refine au ?_
 exact xA (.bool false) ⟨false,trivial,rfl⟩
 refine ay ?_
 refine qq ?_
 refine ql ?_
 refine aW ?_
 have hL11:=a0.elems.lk
 refine gG a0.elems ?_
 refine aC ?_
 have hNk12:=a0.elems.lk
 refine fC (a0.elems.l.length) (fun je e h=>proj [1,54,55,56] e=[(1,.la 1 0),(54,Row.av gf.cells a0.elems),(55,iv (a0.elems.l.length:Int)),(56,iv (je:Int))]∧{ h with aq:=fU [1,54,55,56] h.aq } = { ah.empty with aq:=[(1,(fh.cells a0))] }) ?_ (k0:=0) cO ⟨rfl,rfl⟩
 rintro je e h hkk12 ⟨he,hh⟩
 refine gm he hh ?_
 clear he hh
 refine aa ?_
 refine gl ((je:Int)) ((a0.elems.l.length:Int)) (fun h13=>?_) (fun h13=>?_)
 refine bI ?_
 have hx14:je<a0.elems.l.length:=by omega
 refine iU je a0.elems hx14 ?_
 generalize hqx15:a0.elems.l[je]=x15
 refine aX ?_
 refine qb ?_
 refine ae ?_
 refine oC (t121 x15.name) ?_
 rintro _ ⟨r17,⟨hc16,hc16r⟩,rfl⟩
 cases r17
 refine aE ?_
 refine bd ?_
 exact xA (.bool false) ⟨false,trivial,rfl⟩
 iterate 4 refine oV ?_
 refine oC (t188 (x15.kind)) ?_
 rintro _ ⟨r19,hc18,rfl⟩
 refine gA (r19) (0) (fun h20=>?_) (fun h20=>?_)
 refine bd ?_
 exact xA (.bool false) ⟨false,trivial,rfl⟩
 refine aw ?_
 refine qF ?_
 refine ae ?_
 refine gA (x15.kind) (4) (fun h21=>?_) (fun h21=>?_)
 refine a7 ?_
 refine aW ?_
 refine iJ (x15.len) (0) (fun h22=>?_) (fun h22=>?_)
 refine aZ ?_
 exact xA (.bool false) ⟨false,trivial,rfl⟩
 refine az ?_
 refine qe ?_
 refine qg ?_
 refine gy ((je:Int)) (1) ?_
 refine ab ?_
 exact ⟨by omega,rfl,rfl⟩
 refine bf ?_
 iterate 2 refine oV ?_
 refine gl (x15.len) (1) (fun h23=>?_) (fun h23=>?_)
 refine bD ?_
 refine bd ?_
 exact xA (.bool false) ⟨false,trivial,rfl⟩
 iterate 3 refine oV ?_
 refine g9 (x15.len) (4000) (fun h24=>?_) (fun h24=>?_)
 refine bd ?_
 exact xA (.bool false) ⟨false,trivial,rfl⟩
 refine oV ?_
 refine bW ?_
 refine gy ((je:Int)) (1) ?_
 refine ab ?_
 exact ⟨by omega,rfl,rfl⟩
 refine aj ?_
 refine aW ?_
 have hL25:=a0.signals.lk
 refine gG a0.signals ?_
 refine aC ?_
 have hNk26:=a0.signals.lk
 refine fC (a0.signals.l.length) (fun jI e h=>proj [1,89,90,91] e=[(1,.la 1 0),(89,Row.av gg.cells a0.signals),(90,iv (a0.signals.l.length:Int)),(91,iv (jI:Int))]∧{ h with aq:=fU [1,89,90,91] h.aq } = { ah.empty with aq:=[(1,(fh.cells a0))] }) ?_ (k0:=0) cO ⟨rfl,rfl⟩
 rintro jI e h hkk26 ⟨he,hh⟩
 refine gm he hh ?_
 clear he hh
 refine aa ?_
 refine gl ((jI:Int)) ((a0.signals.l.length:Int)) (fun h27=>?_) (fun h27=>?_)
 refine bI ?_
 have hx28:jI<a0.signals.l.length:=by omega
 refine iU jI a0.signals hx28 ?_
 generalize hqx29:a0.signals.l[jI]=x29
 refine aX ?_
 refine ae ?_
 refine oC (t121 x29.name) ?_
 rintro _ ⟨r31,⟨hc30,hc30r⟩,rfl⟩
 cases r31
 refine au ?_
 exact xA (.bool false) ⟨false,trivial,rfl⟩
 refine bW ?_
 refine gy ((jI:Int)) (1) ?_
 refine ab ?_
 exact ⟨by omega,rfl,rfl⟩
 refine aj ?_
 refine aW ?_
 have hL32:=a0.lines.lk
 refine gG a0.lines ?_
 refine aC ?_
 have hNk33:=a0.lines.lk
 refine fC (a0.lines.l.length) (fun kB e h=>proj [101,102,103] e=[(101,Row.av fY.cells a0.lines),(102,iv (a0.lines.l.length:Int)),(103,iv (kB:Int))]∧{ h with aq:=fU [101,102,103] h.aq } = { ah.empty with aq:=[] }) ?_ (k0:=0) cO ⟨rfl,rfl⟩
 rintro kB e h hkk33 ⟨he,hh⟩
 refine gm he hh ?_
 clear he hh
 refine aa ?_
 refine gl ((kB:Int)) ((a0.lines.l.length:Int)) (fun h34=>?_) (fun h34=>?_)
 refine bI ?_
 have hx35:kB<a0.lines.l.length:=by omega
 refine iU kB a0.lines hx35 ?_
 generalize hqx36:a0.lines.l[kB]=x36
 refine aX ?_
 refine ae ?_
 refine oC (t121 x36.name) ?_
 rintro _ ⟨r38,⟨hc37,hc37r⟩,rfl⟩
 cases r38
 refine au ?_
 exact xA (.bool false) ⟨false,trivial,rfl⟩
 refine bW ?_
 refine gy ((kB:Int)) (1) ?_
 refine ab ?_
 exact ⟨by omega,rfl,rfl⟩
 refine aN ?_
 exact xA (.bool true) ⟨true,trivial,rfl⟩
theorem Oo:FT 125=some Cw:=by kernel_rfl
theorem Lx:aT 125=none:=by kernel_rfl
theorem Iq {H:ah} (b:Nat) (pp:fh) (i:Int) (F:List gH) (hS:Sep H (.obj (.ptr b 0 0 0) (fh.cells pp)::F)) (q1:0≤i) (q2:i<(pp.elems.l.length:Int)):∃ v H',fj cfg FT aT true 125 [iv i,(.ptr b 0 0 0)] { H with aq:=[] } v H'∧(∃ r0:kO,(True)∧Sep H' (.obj (.ptr b 0 0 0) (fh.cells pp)::F)∧v=.str (r0.l)):=by
 refine gB Lx Oo rfl ?_
 refine aU ?_
 refine aa ?_
 refine fq rfl (fun _=>jz (i:=0) hS rfl rfl rfl rfl rfl) ?_
 refine fq rfl (fun _=>jU (i:=0) (o:=0) (r:=Row.av gf.cells pp.elems) hS rfl rfl rfl rfl) ?_
 refine oV ?_
 have hx1:(i).toNat<pp.elems.l.length:=by omega
 refine fq rfl (fun _=>gN (n:=i) (r:=pp.elems) (enc:=gf.cells) rfl rfl rfl rfl rfl cO hx1 rfl) ?_
 generalize hqx2:pp.elems.l[(i).toNat]=x2
 refine bk ?_
 have hS3:=Sep.pick hS [0] 1 cK cK
 exact ⟨.str (x2.name.l),rfl,x2.name,trivial,Sep.aq hS3 _,rfl⟩
theorem NV:FT 126=some DL:=by kernel_rfl
theorem L2:aT 126=none:=by kernel_rfl
theorem GJ {H:ah} (b:Nat) (pp:fh) (i:Int) (F:List gH) (hS:Sep H (.obj (.ptr b 0 0 0) (fh.cells pp)::F)) (q1:0≤i) (q2:i<(pp.signals.l.length:Int)):∃ v H',fj cfg FT aT true 126 [iv i,(.ptr b 0 0 0)] { H with aq:=[] } v H'∧(∃ r0:kO,(True)∧Sep H' (.obj (.ptr b 0 0 0) (fh.cells pp)::F)∧v=.str (r0.l)):=by
 refine gB L2 NV rfl ?_
 refine aU ?_
 refine aa ?_
 refine fq rfl (fun _=>jz (i:=0) hS rfl rfl rfl rfl rfl) ?_
 refine fq rfl (fun _=>jU (i:=0) (o:=2) (r:=Row.av gg.cells pp.signals) hS rfl rfl rfl rfl) ?_
 refine oV ?_
 have hx1:(i).toNat<pp.signals.l.length:=by omega
 refine fq rfl (fun _=>gN (n:=i) (r:=pp.signals) (enc:=gg.cells) rfl rfl rfl rfl rfl cO hx1 rfl) ?_
 generalize hqx2:pp.signals.l[(i).toNat]=x2
 refine bk ?_
 have hS3:=Sep.pick hS [0] 1 cK cK
 exact ⟨.str (x2.name.l),rfl,x2.name,trivial,Sep.aq hS3 _,rfl⟩
theorem Qz:FT 127=some Dj:=by kernel_rfl
theorem LM:aT 127=none:=by kernel_rfl
theorem Hb {H:ah} (b:Nat) (pp:fh) (i:Int) (F:List gH) (hS:Sep H (.obj (.ptr b 0 0 0) (fh.cells pp)::F)) (q1:0≤i) (q2:i<(pp.lines.l.length:Int)):∃ v H',fj cfg FT aT true 127 [iv i,(.ptr b 0 0 0)] { H with aq:=[] } v H'∧(∃ r0:kO,(True)∧Sep H' (.obj (.ptr b 0 0 0) (fh.cells pp)::F)∧v=.str (r0.l)):=by
 refine gB LM Qz rfl ?_
 refine aU ?_
 refine aa ?_
 refine fq rfl (fun _=>jz (i:=0) hS rfl rfl rfl rfl rfl) ?_
 refine fq rfl (fun _=>jU (i:=0) (o:=3) (r:=Row.av fY.cells pp.lines) hS rfl rfl rfl rfl) ?_
 refine oV ?_
 have hx1:(i).toNat<pp.lines.l.length:=by omega
 refine fq rfl (fun _=>gN (n:=i) (r:=pp.lines) (enc:=fY.cells) rfl rfl rfl rfl rfl cO hx1 rfl) ?_
 generalize hqx2:pp.lines.l[(i).toNat]=x2
 refine bk ?_
 have hS3:=Sep.pick hS [0] 1 cK cK
 exact ⟨.str (x2.name.l),rfl,x2.name,trivial,Sep.aq hS3 _,rfl⟩
theorem Aq:FT 124=some Cn:=by kernel_rfl
theorem yi:aT 124=none:=by kernel_rfl
theorem Hx {H:ah} (n:Int) (b:Nat) (pp:fh) (F:List gH) (hS:Sep H (.obj (.ptr b 0 0 0) (fh.cells pp)::F)) (q2:n≤(pp.elems.l.length:Int)):∃ v H',fj cfg FT aT true 124 [iv n,.gL 125 [] [(.ptr b 0 0 0)]] { H with aq:=[] } v H'∧(∃ r0:Bool,(True)∧Sep H' (.obj (.ptr b 0 0 0) (fh.cells pp)::F)∧v=.bool r0):=by
 refine gB yi Aq rfl ?_
 have hqb:=pp.elems.ok
 simp only [ns] at hqb
 refine aU ?_
 refine aa ?_
 refine gd rfl (iH hS) ?_
 rintro _ H2 ⟨b1,rfl,hS3⟩
 refine ak ?_
 refine aC ?_
 refine fC ((n).toNat) (fun k4 e h=>∃ l5:List (List UInt8×Bool),∃ H6:ah,Sep H6 (.map (.hm b1) (gn sK bK l5)::.obj (.ptr b 0 0 0) (fh.cells pp)::F)∧proj [1,5,8,9] e=[(1,.gL 125 [] [(.ptr b 0 0 0)]),(5,(.hm b1)),(8,iv n),(9,iv (k4:Int))]∧{ h with aq:=fU [1,5,8,9] h.aq } = { H6 with aq:=[] }) ?_ (k0:=0) cO ⟨([]),H2,hS3,rfl,rfl⟩
 rintro k4 e h hkk4 ⟨l5,H6,hS7,he,hh⟩
 refine gm he hh ?_
 clear he hh
 refine aa ?_
 refine gl ((k4:Int)) (n) (fun h8=>?_) (fun h8=>?_)
 refine bL ?_
 refine bb ?_
 have hS9:=Sep.pick hS7 [1,0] 2 cK cK
 refine gC (H:=H6) (args:=[iv (k4:Int)]) (p:=[]) (r:=[(.ptr b 0 0 0)]) rfl rfl rfl rfl rfl rfl rfl (Iq b pp ((k4:Int)) (.map (.hm b1) (gn sK bK l5)::F) hS9 cG cG) ?_
 rintro _ H10 ⟨r13,hc12,hS11,rfl⟩
 refine jG (H:=H10) (i:=1) (ek:=sK) (ev:=bK) (l:=l5) r13.l rfl rfl hS11 rfl rfl rfl rfl rfl rfl rfl rfl nd (fun y14 h15=>?_) (fun h16=>?_)
 cases y14
 refine az ?_
 refine a8 ?_
 have hS17:=Sep.pick hS11 [0,1] 2 cK cK
 refine gC (H:=H10) (args:=[iv (k4:Int)]) (p:=[]) (r:=[(.ptr b 0 0 0)]) rfl rfl rfl rfl rfl rfl rfl (Iq b pp ((k4:Int)) (.map (.hm b1) (gn sK bK l5)::F) hS17 cG cG) ?_
 rintro _ H18 ⟨r21,hc20,hS19,rfl⟩
 refine gd rfl (jS (i:=1) (ek:=sK) (ev:=bK) r21.l true hS19 rfl rfl rfl rfl rfl rfl nd) ?_
 rintro _ H22 ⟨rfl,hS23⟩
 refine bO ?_
 refine gy ((k4:Int)) (1) ?_
 refine ab ?_
 have hS24:=Sep.pick hS23 [1,0] 2 cK cK
 exact ⟨by omega,((put r21.l true l5)),H22,hS24,rfl,rfl⟩
 refine aZ ?_
 have hS25:=Sep.pick hS11 [0] 2 cK cK
 exact ⟨.bool true,rfl,true,trivial,Sep.aq hS25 _,rfl⟩
 refine az ?_
 refine a8 ?_
 have hS26:=Sep.pick hS11 [0,1] 2 cK cK
 refine gC (H:=H10) (args:=[iv (k4:Int)]) (p:=[]) (r:=[(.ptr b 0 0 0)]) rfl rfl rfl rfl rfl rfl rfl (Iq b pp ((k4:Int)) (.map (.hm b1) (gn sK bK l5)::F) hS26 cG cG) ?_
 rintro _ H27 ⟨r30,hc29,hS28,rfl⟩
 refine gd rfl (jS (i:=1) (ek:=sK) (ev:=bK) r30.l true hS28 rfl rfl rfl rfl rfl rfl nd) ?_
 rintro _ H31 ⟨rfl,hS32⟩
 refine bO ?_
 refine gy ((k4:Int)) (1) ?_
 refine ab ?_
 have hS33:=Sep.pick hS32 [1,0] 2 cK cK
 exact ⟨by omega,((put r30.l true l5)),H31,hS33,rfl,rfl⟩
 refine aN ?_
 have hS34:=Sep.pick hS7 [1] 2 cK cK
 exact ⟨.bool false,rfl,false,trivial,Sep.aq hS34 _,rfl⟩
theorem Gq {H:ah} (n:Int) (b:Nat) (pp:fh) (F:List gH) (hS:Sep H (.obj (.ptr b 0 0 0) (fh.cells pp)::F)) (q2:n≤(pp.signals.l.length:Int)):∃ v H',fj cfg FT aT true 124 [iv n,.gL 126 [] [(.ptr b 0 0 0)]] { H with aq:=[] } v H'∧(∃ r0:Bool,(True)∧Sep H' (.obj (.ptr b 0 0 0) (fh.cells pp)::F)∧v=.bool r0):=by
 refine gB yi Aq rfl ?_
 have hqb:=pp.signals.ok
 simp only [ns] at hqb
 refine aU ?_
 refine aa ?_
 refine gd rfl (iH hS) ?_
 rintro _ H2 ⟨b1,rfl,hS3⟩
 refine ak ?_
 refine aC ?_
 refine fC ((n).toNat) (fun k4 e h=>∃ l5:List (List UInt8×Bool),∃ H6:ah,Sep H6 (.map (.hm b1) (gn sK bK l5)::.obj (.ptr b 0 0 0) (fh.cells pp)::F)∧proj [1,5,8,9] e=[(1,.gL 126 [] [(.ptr b 0 0 0)]),(5,(.hm b1)),(8,iv n),(9,iv (k4:Int))]∧{ h with aq:=fU [1,5,8,9] h.aq } = { H6 with aq:=[] }) ?_ (k0:=0) cO ⟨([]),H2,hS3,rfl,rfl⟩
 rintro k4 e h hkk4 ⟨l5,H6,hS7,he,hh⟩
 refine gm he hh ?_
 clear he hh
 refine aa ?_
 refine gl ((k4:Int)) (n) (fun h8=>?_) (fun h8=>?_)
 refine bL ?_
 refine bb ?_
 have hS9:=Sep.pick hS7 [1,0] 2 cK cK
 refine gC (H:=H6) (args:=[iv (k4:Int)]) (p:=[]) (r:=[(.ptr b 0 0 0)]) rfl rfl rfl rfl rfl rfl rfl (GJ b pp ((k4:Int)) (.map (.hm b1) (gn sK bK l5)::F) hS9 cG cG) ?_
 rintro _ H10 ⟨r13,hc12,hS11,rfl⟩
 refine jG (H:=H10) (i:=1) (ek:=sK) (ev:=bK) (l:=l5) r13.l rfl rfl hS11 rfl rfl rfl rfl rfl rfl rfl rfl nd (fun y14 h15=>?_) (fun h16=>?_)
 cases y14
 refine az ?_
 refine a8 ?_
 have hS17:=Sep.pick hS11 [0,1] 2 cK cK
 refine gC (H:=H10) (args:=[iv (k4:Int)]) (p:=[]) (r:=[(.ptr b 0 0 0)]) rfl rfl rfl rfl rfl rfl rfl (GJ b pp ((k4:Int)) (.map (.hm b1) (gn sK bK l5)::F) hS17 cG cG) ?_
 rintro _ H18 ⟨r21,hc20,hS19,rfl⟩
 refine gd rfl (jS (i:=1) (ek:=sK) (ev:=bK) r21.l true hS19 rfl rfl rfl rfl rfl rfl nd) ?_
 rintro _ H22 ⟨rfl,hS23⟩
 refine bO ?_
 refine gy ((k4:Int)) (1) ?_
 refine ab ?_
 have hS24:=Sep.pick hS23 [1,0] 2 cK cK
 exact ⟨by omega,((put r21.l true l5)),H22,hS24,rfl,rfl⟩
 refine aZ ?_
 have hS25:=Sep.pick hS11 [0] 2 cK cK
 exact ⟨.bool true,rfl,true,trivial,Sep.aq hS25 _,rfl⟩
 refine az ?_
 refine a8 ?_
 have hS26:=Sep.pick hS11 [0,1] 2 cK cK
 refine gC (H:=H10) (args:=[iv (k4:Int)]) (p:=[]) (r:=[(.ptr b 0 0 0)]) rfl rfl rfl rfl rfl rfl rfl (GJ b pp ((k4:Int)) (.map (.hm b1) (gn sK bK l5)::F) hS26 cG cG) ?_
 rintro _ H27 ⟨r30,hc29,hS28,rfl⟩
 refine gd rfl (jS (i:=1) (ek:=sK) (ev:=bK) r30.l true hS28 rfl rfl rfl rfl rfl rfl nd) ?_
 rintro _ H31 ⟨rfl,hS32⟩
 refine bO ?_
 refine gy ((k4:Int)) (1) ?_
 refine ab ?_
 have hS33:=Sep.pick hS32 [1,0] 2 cK cK
 exact ⟨by omega,((put r30.l true l5)),H31,hS33,rfl,rfl⟩
 refine aN ?_
 have hS34:=Sep.pick hS7 [1] 2 cK cK
 exact ⟨.bool false,rfl,false,trivial,Sep.aq hS34 _,rfl⟩
theorem HM {H:ah} (n:Int) (b:Nat) (pp:fh) (F:List gH) (hS:Sep H (.obj (.ptr b 0 0 0) (fh.cells pp)::F)) (q2:n≤(pp.lines.l.length:Int)):∃ v H',fj cfg FT aT true 124 [iv n,.gL 127 [] [(.ptr b 0 0 0)]] { H with aq:=[] } v H'∧(∃ r0:Bool,(True)∧Sep H' (.obj (.ptr b 0 0 0) (fh.cells pp)::F)∧v=.bool r0):=by
 refine gB yi Aq rfl ?_
 have hqb:=pp.lines.ok
 simp only [ns] at hqb
 refine aU ?_
 refine aa ?_
 refine gd rfl (iH hS) ?_
 rintro _ H2 ⟨b1,rfl,hS3⟩
 refine ak ?_
 refine aC ?_
 refine fC ((n).toNat) (fun k4 e h=>∃ l5:List (List UInt8×Bool),∃ H6:ah,Sep H6 (.map (.hm b1) (gn sK bK l5)::.obj (.ptr b 0 0 0) (fh.cells pp)::F)∧proj [1,5,8,9] e=[(1,.gL 127 [] [(.ptr b 0 0 0)]),(5,(.hm b1)),(8,iv n),(9,iv (k4:Int))]∧{ h with aq:=fU [1,5,8,9] h.aq } = { H6 with aq:=[] }) ?_ (k0:=0) cO ⟨([]),H2,hS3,rfl,rfl⟩
 rintro k4 e h hkk4 ⟨l5,H6,hS7,he,hh⟩
 refine gm he hh ?_
 clear he hh
 refine aa ?_
 refine gl ((k4:Int)) (n) (fun h8=>?_) (fun h8=>?_)
 refine bL ?_
 refine bb ?_
 have hS9:=Sep.pick hS7 [1,0] 2 cK cK
 refine gC (H:=H6) (args:=[iv (k4:Int)]) (p:=[]) (r:=[(.ptr b 0 0 0)]) rfl rfl rfl rfl rfl rfl rfl (Hb b pp ((k4:Int)) (.map (.hm b1) (gn sK bK l5)::F) hS9 cG cG) ?_
 rintro _ H10 ⟨r13,hc12,hS11,rfl⟩
 refine jG (H:=H10) (i:=1) (ek:=sK) (ev:=bK) (l:=l5) r13.l rfl rfl hS11 rfl rfl rfl rfl rfl rfl rfl rfl nd (fun y14 h15=>?_) (fun h16=>?_)
 cases y14
 refine az ?_
 refine a8 ?_
 have hS17:=Sep.pick hS11 [0,1] 2 cK cK
 refine gC (H:=H10) (args:=[iv (k4:Int)]) (p:=[]) (r:=[(.ptr b 0 0 0)]) rfl rfl rfl rfl rfl rfl rfl (Hb b pp ((k4:Int)) (.map (.hm b1) (gn sK bK l5)::F) hS17 cG cG) ?_
 rintro _ H18 ⟨r21,hc20,hS19,rfl⟩
 refine gd rfl (jS (i:=1) (ek:=sK) (ev:=bK) r21.l true hS19 rfl rfl rfl rfl rfl rfl nd) ?_
 rintro _ H22 ⟨rfl,hS23⟩
 refine bO ?_
 refine gy ((k4:Int)) (1) ?_
 refine ab ?_
 have hS24:=Sep.pick hS23 [1,0] 2 cK cK
 exact ⟨by omega,((put r21.l true l5)),H22,hS24,rfl,rfl⟩
 refine aZ ?_
 have hS25:=Sep.pick hS11 [0] 2 cK cK
 exact ⟨.bool true,rfl,true,trivial,Sep.aq hS25 _,rfl⟩
 refine az ?_
 refine a8 ?_
 have hS26:=Sep.pick hS11 [0,1] 2 cK cK
 refine gC (H:=H10) (args:=[iv (k4:Int)]) (p:=[]) (r:=[(.ptr b 0 0 0)]) rfl rfl rfl rfl rfl rfl rfl (Hb b pp ((k4:Int)) (.map (.hm b1) (gn sK bK l5)::F) hS26 cG cG) ?_
 rintro _ H27 ⟨r30,hc29,hS28,rfl⟩
 refine gd rfl (jS (i:=1) (ek:=sK) (ev:=bK) r30.l true hS28 rfl rfl rfl rfl rfl rfl nd) ?_
 rintro _ H31 ⟨rfl,hS32⟩
 refine bO ?_
 refine gy ((k4:Int)) (1) ?_
 refine ab ?_
 have hS33:=Sep.pick hS32 [1,0] 2 cK cK
 exact ⟨by omega,((put r30.l true l5)),H31,hS33,rfl,rfl⟩
 refine aN ?_
 have hS34:=Sep.pick hS7 [1] 2 cK cK
 exact ⟨.bool false,rfl,false,trivial,Sep.aq hS34 _,rfl⟩
theorem PE:FT 189=some Db:=by kernel_rfl
theorem Mb:aT 189=none:=by kernel_rfl
def abR (_a0:fh) (_a1:bY) (v:AV):Prop:=∃ r0:Bool,((r0=true→0≤_a1.elem∧_a1.elem<(_a0.elems.l.length:Int)∧0≤_a1.en∧_a1.en<4))∧v=.bool r0
theorem t189 (a0:fh) (a1:bY)  (h:ah):∃ v,fj cfg FT aT false 189 [.agg (fh.cells a0),.agg (bY.cells a1)] h v h∧abR a0 a1 v:=by
 refine fS Mb PE rfl rfl ?_
 refine bJ ?_
 refine a6 ?_
 refine wm (a1.elem) (0) (fun h1=>?_) (fun h1=>?_)
 iterate 5 refine rV ?_
 have hL2:=a0.elems.lk
 refine yG a0.elems ?_
 refine o4 (a1.elem) ((a0.elems.l.length:Int)) (fun h3=>?_) (fun h3=>?_)
 iterate 4 refine rV ?_
 refine wm (a1.en) (0) (fun h4=>?_) (fun h4=>?_)
 iterate 8 refine rV ?_
 have hx5:(a1.elem).toNat<a0.elems.l.length:=by omega
 refine ga rfl rfl (fun _=>gN (n:=a1.elem) (r:=a0.elems) (enc:=gf.cells) rfl rfl rfl rfl rfl cO hx5 rfl) ?_
 generalize hqx6:a0.elems.l[(a1.elem).toNat]=x6
 iterate 2 refine rV ?_
 refine rC (t188 (x6.kind)) ?_
 rintro _ ⟨r8,hc7,rfl⟩
 refine o4 (a1.en) (r8) (fun h9=>?_) (fun h9=>?_)
 refine aJ ?_
 exact xA (.bool true) ⟨true,dh,rfl⟩
 refine aJ ?_
 exact xA (.bool false) ⟨false,dh,rfl⟩
 iterate 2 refine rV ?_
 refine ct ?_
 exact xA (.bool false) ⟨false,dh,rfl⟩
 refine bv ?_
 refine ct ?_
 exact xA (.bool false) ⟨false,dh,rfl⟩
 refine co ?_
 refine bv ?_
 refine ct ?_
 exact xA (.bool false) ⟨false,dh,rfl⟩
theorem O1:FT 128=some DN:=by kernel_rfl
theorem Lq:aT 128=none:=by kernel_rfl
def YU (_a0:fh) (v:AV):Prop:=(∃ r0:List (bY×bY),((∀ y∈(r0:List (bY×bY)),0≤y.2.elem∧y.2.elem<(_a0.elems.l.length:Int))∧vC _a0.fQ.l)∧v=.fz [.fm (gn pK pK r0) false,.bool true])∨((True)∧v=.fz [.g8,.bool false])
theorem t128 (a0:fh)  (h:ah):∃ v,fj cfg FT aT false 128 [.agg (fh.cells a0)] h v h∧YU a0 v:=by
 refine fS Lq O1 rfl rfl ?_
 refine bJ ?_
 refine aa ?_
 refine gd rfl (iH gI) ?_
 rintro _ H2 ⟨b1,rfl,hS3⟩
 refine ab ?_
 refine aW ?_
 have hL4:=a0.fQ.lk
 refine gG a0.fQ ?_
 refine aC ?_
 have hNk5:=a0.fQ.lk
 refine fC (a0.fQ.l.length) (fun k5 e h=>∃ l6:List (bY×bY),∃ H7:ah,((∀ y∈(l6:List (bY×bY)),0≤y.2.elem∧y.2.elem<(a0.elems.l.length:Int)))∧(∀ x:bY,look x l6=jE (a0.fQ.l.take k5) x)∧(∀ (i:Nat) (h:i<a0.fQ.l.length),i<k5→jE (a0.fQ.l.take i) (a0.fQ.l[i]).a=none∧jE (a0.fQ.l.take i) (a0.fQ.l[i]).b=none∧(a0.fQ.l[i]).a≠(a0.fQ.l[i]).b)∧Sep H7 (.map (.hm b1) (gn pK pK l6)::[])∧proj [1,4,17,18,19] e=[(1,.la 1 0),(4,(.hm b1)),(17,Row.av gj.cells a0.fQ),(18,iv (a0.fQ.l.length:Int)),(19,iv (k5:Int))]∧{ h with aq:=fU [1,4,17,18,19] h.aq } = { H7 with aq:=[(1,(fh.cells a0))] }) ?_ (k0:=0) cO ⟨([]),H2,ef,(by (intro x; rfl)),eG,hS3,rfl,rfl⟩
 rintro k5 e h hkk5 ⟨l6,H7,hV,hD,hJ,hS8,he,hh⟩
 refine gm he hh ?_
 clear he hh
 refine aa ?_
 refine gl ((k5:Int)) ((a0.fQ.l.length:Int)) (fun h9=>?_) (fun h9=>?_)
 refine bI ?_
 have hx10:k5<a0.fQ.l.length:=by omega
 refine iU k5 a0.fQ hx10 ?_
 generalize hqx11:a0.fQ.l[k5]=x11
 refine aX ?_
 refine aB ?_
 refine jG (H:=H7) (i:=0) (ek:=pK) (ev:=pK) (l:=l6) x11.a rfl rfl hS8 rfl rfl rfl rfl rfl rfl rfl rfl ja (fun y12 h13=>?_) (fun h14=>?_)
 have hvy12:0≤y12.elem∧y12.elem<(a0.elems.l.length:Int):=hV _ (kU h13)
 refine aO ?_
 refine aB ?_
 refine jG (H:=H7) (i:=0) (ek:=pK) (ev:=pK) (l:=l6) x11.b rfl rfl hS8 rfl rfl rfl rfl rfl rfl rfl rfl ja (fun y15 h16=>?_) (fun h17=>?_)
 have hvy15:0≤y15.elem∧y15.elem<(a0.elems.l.length:Int):=hV _ (kU h16)
 refine aO ?_
 refine aW ?_
 refine oS ?_
 refine ao ?_
 refine cu ?_
 refine xF (.fz [.g8,.bool false]) (.inr (⟨trivial,rfl⟩))
 refine aO ?_
 refine aW ?_
 refine oS ?_
 refine ao ?_
 refine cu ?_
 refine xF (.fz [.g8,.bool false]) (.inr (⟨trivial,rfl⟩))
 refine aO ?_
 refine aB ?_
 refine jG (H:=H7) (i:=0) (ek:=pK) (ev:=pK) (l:=l6) x11.b rfl rfl hS8 rfl rfl rfl rfl rfl rfl rfl rfl ja (fun y18 h19=>?_) (fun h20=>?_)
 have hvy18:0≤y18.elem∧y18.elem<(a0.elems.l.length:Int):=hV _ (kU h19)
 refine aO ?_
 refine bb ?_
 refine ao ?_
 refine cu ?_
 refine xF (.fz [.g8,.bool false]) (.inr (⟨trivial,rfl⟩))
 refine cy ?_
 iterate 9 refine oV ?_
 refine lJ rfl (fun _=>sx rfl rfl rfl (fun _ _=>rfl)) (fun h21=>?_) (fun h21=>?_)
 refine ap ?_
 refine cu ?_
 refine xF (.fz [.g8,.bool false]) (.inr (⟨trivial,rfl⟩))
 iterate 5 refine oV ?_
 refine oC (t189 a0 x11.a) ?_
 rintro _ ⟨r23,hc22,rfl⟩
 cases r23
 clear hc22
 refine oV ?_
 refine cB ?_
 refine cu ?_
 refine xF (.fz [.g8,.bool false]) (.inr (⟨trivial,rfl⟩))
 have hc22t:=hc22 rfl
 iterate 6 refine oV ?_
 refine oC (t189 a0 x11.b) ?_
 rintro _ ⟨r25,hc24,rfl⟩
 cases r25
 clear hc24
 refine oV ?_
 refine cu ?_
 refine xF (.fz [.g8,.bool false]) (.inr (⟨trivial,rfl⟩))
 have hc24t:=hc24 rfl
 refine bA ?_
 refine bT ?_
 iterate 8 refine rV ?_
 refine qv rfl rfl (jS (H:=H7) (i:=0) (ek:=pK) (ev:=pK) x11.a x11.b hS8 rfl rfl rfl rfl rfl rfl ja) ?_
 rintro _ H26 ⟨rfl,hS27⟩
 refine ⟨fun call=>(zo (kS rfl rfl rfl rfl rfl dP) (we (kS rfl rfl rfl rfl rfl dP))),?_⟩
 refine gS rfl rfl (jS (H:=H26) (i:=0) (ek:=pK) (ev:=pK) x11.b x11.a hS27 rfl rfl rfl rfl rfl rfl ja) ?_
 rintro _ H28 ⟨rfl,hS29⟩
 refine cg ?_
 refine gy ((k5:Int)) (1) ?_
 refine ab ?_
 exact ⟨by omega,((put x11.b x11.a (put x11.a x11.b l6))),H28,(by exact qu (P:=fun y:bY=>0≤y.elem∧y.elem<(a0.elems.l.length:Int)) (qu (P:=fun y:bY=>0≤y.elem∧y.elem<(a0.elems.l.length:Int)) hV cO) cO),(by exact vS cP cP hD cP cP cP),(by exact AS cP cP hD hJ cP cP cP),hS29,rfl,rfl⟩
 refine aj ?_
 refine aW ?_
 have hL30:=a0.elems.lk
 refine gG a0.elems ?_
 refine aC ?_
 have hNk31:=a0.elems.lk
 refine fC (a0.elems.l.length) (fun ij e h=>proj [1,4,74,75,76] e=[(1,.la 1 0),(4,(.hm b1)),(74,Row.av gf.cells a0.elems),(75,iv (a0.elems.l.length:Int)),(76,iv (ij:Int))]∧{ h with aq:=fU [1,4,74,75,76] h.aq } = { H7 with aq:=[(1,(fh.cells a0))] }) ?_ (k0:=0) cO ⟨rfl,rfl⟩
 rintro ij e h hkk31 ⟨he,hh⟩
 refine gm he hh ?_
 clear he hh
 refine aa ?_
 refine gl ((ij:Int)) ((a0.elems.l.length:Int)) (fun h32=>?_) (fun h32=>?_)
 refine bU ?_
 have hx33:ij<a0.elems.l.length:=by omega
 refine iU ij a0.elems hx33 ?_
 generalize hqx34:a0.elems.l[ij]=x34
 refine bM ?_
 refine aW ?_
 refine iJ (x34.kind) (4) (fun h35=>?_) (fun h35=>?_)
 refine aA ?_
 refine qe ?_
 refine qg ?_
 refine gy ((ij:Int)) (1) ?_
 refine ab ?_
 exact ⟨by omega,rfl,rfl⟩
 refine az ?_
 refine aB ?_
 refine jG (H:=H7) (i:=0) (ek:=pK) (ev:=pK) (l:=l6) ((⟨((ij:Int)),(0)⟩:bY)) rfl rfl hS8 rfl rfl rfl rfl rfl rfl rfl rfl ja (fun y36 h37=>?_) (fun h38=>?_)
 have hvy36:0≤y36.elem∧y36.elem<(a0.elems.l.length:Int):=hV _ (kU h37)
 refine ca ?_
 iterate 7 refine oV ?_
 have hx39:(y36.elem).toNat<a0.elems.l.length:=by omega
 refine fq rfl (fun _=>gN (n:=y36.elem) (r:=a0.elems) (enc:=gf.cells) rfl rfl rfl rfl rfl cO hx39 rfl) ?_
 generalize hqx40:a0.elems.l[(y36.elem).toNat]=x40
 iterate 2 refine oV ?_
 refine gA (x40.kind) (4) (fun h41=>?_) (fun h41=>?_)
 refine cu ?_
 refine xF (.fz [.g8,.bool false]) (.inr (⟨trivial,rfl⟩))
 refine bW ?_
 refine gy ((ij:Int)) (1) ?_
 refine ab ?_
 exact ⟨by omega,rfl,rfl⟩
 refine aO ?_
 refine aB ?_
 iterate 8 refine oS ?_
 refine cu ?_
 refine xF (.fz [.g8,.bool false]) (.inr (⟨trivial,rfl⟩))
 refine aj ?_
 refine aD ?_
 have hz42:∀ m,freeze false { H7 with aq:=[] } (m+3) (.hm b1)=some (.fm (gn pK pK l6) false):=fun m=>lS (i:=0) hS8 rfl _ _ (sA fun _=>rfl)
 refine ⟨.fz [(.hm b1),.bool true],rfl,.fz [.fm (gn pK pK l6) false,.bool true],(show freeze false { H7 with aq:=[] } 8 (.fz [(.hm b1),.bool true])=some (.fz [.fm (gn pK pK l6) false,.bool true]) by simp only [FZ,hz42]),.inl ⟨l6,(by exact ⟨hV,fun i h=>hJ i h cO⟩),rfl⟩⟩
theorem N1:FT 129=some Eg:=by kernel_rfl
theorem Mw:aT 129=none:=by kernel_rfl
def Y4 (_a0:fh) (_a1:List (bY×bY)) (v:AV):Prop:=∃ r0:Bool,((r0=true→(∀ s∈_a0.signals.l,0≤s.at_.elem∧s.at_.elem<(_a0.elems.l.length:Int)∧0≤s.at_.en)∧tW _a0.signals.l))∧v=.bool r0
theorem t129 (a0:fh) (a1:List (bY×bY)) (q1:(∀ y∈(a1:List (bY×bY)),0≤y.2.elem∧y.2.elem<(a0.elems.l.length:Int))) (h:ah):∃ v,fj cfg FT aT false 129 [.agg (fh.cells a0),.fm (gn pK pK a1) false] h v h∧Y4 a0 a1 v:=by
 refine fS Mw N1 rfl rfl ?_
 refine aQ ?_
 refine aa ?_
 refine gd (H:=ah.empty) rfl (iH gI) ?_
 rintro _ H2 ⟨b1,rfl,hS3⟩
 refine ab ?_
 refine aW ?_
 have hL4:=a0.signals.lk
 refine gG a0.signals ?_
 refine aC ?_
 have hNk5:=a0.signals.lk
 refine fC (a0.signals.l.length) (fun k5 e h=>∃ l6:List (bY×Bool),∃ H7:ah,(∀ (i:Nat) (h:i<a0.signals.l.length),i<k5→0≤(a0.signals.l[i]).at_.elem∧(a0.signals.l[i]).at_.elem<(a0.elems.l.length:Int)∧0≤(a0.signals.l[i]).at_.en)∧(∀ x:bY,(∃ y,y∈a0.signals.l.take k5∧y.at_=x)→look x l6=some true)∧(∀ (i:Nat) (h:i<a0.signals.l.length),i<k5→∀ y∈a0.signals.l.take i,y.at_≠(a0.signals.l[i]).at_)∧(∀ y∈(l6:List (bY×Bool)),y.2=true)∧Sep H7 (.map (.hm b1) (gn pK bK l6)::[])∧proj [1,2,5,15,16,17] e=[(1,.fm (gn pK pK a1) false),(2,.la 2 0),(5,(.hm b1)),(15,Row.av gg.cells a0.signals),(16,iv (a0.signals.l.length:Int)),(17,iv (k5:Int))]∧{ h with aq:=fU [1,2,5,15,16,17] h.aq } = { H7 with aq:=[(2,(fh.cells a0))] }) ?_ (k0:=0) cO ⟨([]),H2,eG,(by (rintro x ⟨y,h,_⟩; simp at h)),eG,ef,hS3,rfl,rfl⟩
 rintro k5 e h hkk5 ⟨l6,H7,hV,hD,hJ,hT,hS8,he,hh⟩
 refine gm he hh ?_
 clear he hh
 refine aa ?_
 refine gl ((k5:Int)) ((a0.signals.l.length:Int)) (fun h9=>?_) (fun h9=>?_)
 refine aM ?_
 refine wa [(1,.fm (gn pK pK a1) false),(2,.la 2 0),(5,(.hm b1)),(15,Row.av gg.cells a0.signals),(16,iv (a0.signals.l.length:Int)),(17,iv (k5:Int))] H7 [(2,(fh.cells a0))] ?_
 refine bZ ?_
 have hx10:k5<a0.signals.l.length:=by omega
 refine iU k5 a0.signals hx10 ?_
 generalize hqx11:a0.signals.l[k5]=x11
 refine aX ?_
 refine bb ?_
 refine oC (t189 a0 x11.at_) ?_
 rintro _ ⟨r13,hc12,rfl⟩
 cases r13
 clear hc12
 refine bz ?_
 exact xA (.bool false) ⟨false,dl,rfl⟩
 have hc12t:=hc12 rfl
 iterate 5 refine oV ?_
 refine jG (H:=H7) (i:=0) (ek:=pK) (ev:=bK) (l:=l6) x11.at_ rfl rfl hS8 rfl rfl rfl rfl rfl rfl rfl rfl ja (fun y14 h15=>?_) (fun h16=>?_)
 cases y14
 exact absurd (hT _ (kU h15)) ef
 refine au ?_
 exact xA (.bool false) ⟨false,dl,rfl⟩
 refine ay ?_
 refine wa [(1,.fm (gn pK pK a1) false),(2,.la 2 0),(5,(.hm b1)),(7,.la 7 0),(15,Row.av gg.cells a0.signals),(16,iv (a0.signals.l.length:Int)),(17,iv (k5:Int))] H7 [(2,(fh.cells a0)),(7,(gg.cells x11))] ?_
 refine ck ?_
 iterate 5 refine oV ?_
 have hx17:(x11.at_.elem).toNat<a0.elems.l.length:=by omega
 refine fq rfl (fun _=>gN (n:=x11.at_.elem) (r:=a0.elems) (enc:=gf.cells) rfl rfl rfl rfl rfl cO hx17 rfl) ?_
 generalize hqx18:a0.elems.l[(x11.at_.elem).toNat]=x18
 refine aX ?_
 refine ai ?_
 refine iJ (x18.kind) (1) (fun h19=>?_) (fun h19=>?_)
 iterate 2 refine oV ?_
 refine iJ (x18.kind) (4) (fun h20=>?_) (fun h20=>?_)
 refine au ?_
 exact xA (.bool false) ⟨false,dl,rfl⟩
 refine ay ?_
 refine wa [(1,.fm (gn pK pK a1) false),(2,.la 2 0),(5,(.hm b1)),(7,.la 7 0),(15,Row.av gg.cells a0.signals),(16,iv (a0.signals.l.length:Int)),(17,iv (k5:Int))] H7 [(2,(fh.cells a0)),(7,(gg.cells x11))] ?_
 refine aB ?_
 refine tD (key:=x11.at_) (l:=a1) (ek:=pK) (ev:=pK) rfl rfl rfl rfl rfl rfl rfl rfl rfl ja (fun y21 h22=>?_) (fun h23=>?_)
 have hvy21:0≤y21.elem∧y21.elem<(a0.elems.l.length:Int):=q1 _ (kU h22)
 refine cy ?_
 iterate 7 refine oV ?_
 have hx24:(y21.elem).toNat<a0.elems.l.length:=by omega
 refine fq rfl (fun _=>gN (n:=y21.elem) (r:=a0.elems) (enc:=gf.cells) rfl rfl rfl rfl rfl cO hx24 rfl) ?_
 generalize hqx25:a0.elems.l[(y21.elem).toNat]=x25
 iterate 2 refine oV ?_
 refine gA (x25.kind) (4) (fun h26=>?_) (fun h26=>?_)
 refine au ?_
 exact xA (.bool false) ⟨false,dl,rfl⟩
 refine ay ?_
 refine wa [(1,.fm (gn pK pK a1) false),(2,.la 2 0),(5,(.hm b1)),(7,.la 7 0),(15,Row.av gg.cells a0.signals),(16,iv (a0.signals.l.length:Int)),(17,iv (k5:Int))] H7 [(2,(fh.cells a0)),(7,(gg.cells x11))] ?_
 refine a8 ?_
 refine gd (H:=H7) rfl (jS (H:=H7) (i:=0) (ek:=pK) (ev:=bK) (l:=l6) x11.at_ true hS8 rfl rfl rfl rfl rfl rfl ja) ?_
 rintro _ H27 ⟨rfl,hS28⟩
 refine oN ?_
 refine wa [(1,.fm (gn pK pK a1) false),(2,.la 2 0),(5,(.hm b1)),(15,Row.av gg.cells a0.signals),(16,iv (a0.signals.l.length:Int)),(17,iv (k5:Int))] H27 [(2,(fh.cells a0))] ?_
 refine qg ?_
 refine gy ((k5:Int)) (1) ?_
 refine ab ?_
 exact ⟨by omega,((put x11.at_ true l6)),H27,(by exact yE cP hV cO),(by exact yp cP cP hD),(by exact yy cP cP hD hJ cP),ff,hS28,rfl,rfl⟩
 refine aO ?_
 refine bb ?_
 iterate 8 refine oS ?_
 refine au ?_
 exact xA (.bool false) ⟨false,dl,rfl⟩
 refine bg ?_
 refine ay ?_
 refine wa [(1,.fm (gn pK pK a1) false),(2,.la 2 0),(5,(.hm b1)),(7,.la 7 0),(15,Row.av gg.cells a0.signals),(16,iv (a0.signals.l.length:Int)),(17,iv (k5:Int))] H7 [(2,(fh.cells a0)),(7,(gg.cells x11))] ?_
 refine aB ?_
 refine tD (key:=x11.at_) (l:=a1) (ek:=pK) (ev:=pK) rfl rfl rfl rfl rfl rfl rfl rfl rfl ja (fun y29 h30=>?_) (fun h31=>?_)
 have hvy29:0≤y29.elem∧y29.elem<(a0.elems.l.length:Int):=q1 _ (kU h30)
 refine cy ?_
 iterate 7 refine oV ?_
 have hx32:(y29.elem).toNat<a0.elems.l.length:=by omega
 refine fq rfl (fun _=>gN (n:=y29.elem) (r:=a0.elems) (enc:=gf.cells) rfl rfl rfl rfl rfl cO hx32 rfl) ?_
 generalize hqx33:a0.elems.l[(y29.elem).toNat]=x33
 iterate 2 refine oV ?_
 refine gA (x33.kind) (4) (fun h34=>?_) (fun h34=>?_)
 refine au ?_
 exact xA (.bool false) ⟨false,dl,rfl⟩
 refine ay ?_
 refine wa [(1,.fm (gn pK pK a1) false),(2,.la 2 0),(5,(.hm b1)),(7,.la 7 0),(15,Row.av gg.cells a0.signals),(16,iv (a0.signals.l.length:Int)),(17,iv (k5:Int))] H7 [(2,(fh.cells a0)),(7,(gg.cells x11))] ?_
 refine a8 ?_
 refine gd (H:=H7) rfl (jS (H:=H7) (i:=0) (ek:=pK) (ev:=bK) (l:=l6) x11.at_ true hS8 rfl rfl rfl rfl rfl rfl ja) ?_
 rintro _ H35 ⟨rfl,hS36⟩
 refine oN ?_
 refine wa [(1,.fm (gn pK pK a1) false),(2,.la 2 0),(5,(.hm b1)),(15,Row.av gg.cells a0.signals),(16,iv (a0.signals.l.length:Int)),(17,iv (k5:Int))] H35 [(2,(fh.cells a0))] ?_
 refine qg ?_
 refine gy ((k5:Int)) (1) ?_
 refine ab ?_
 exact ⟨by omega,((put x11.at_ true l6)),H35,(by exact yE cP hV cO),(by exact yp cP cP hD),(by exact yy cP cP hD hJ cP),ff,hS36,rfl,rfl⟩
 refine aO ?_
 refine bb ?_
 iterate 8 refine oS ?_
 refine au ?_
 exact xA (.bool false) ⟨false,dl,rfl⟩
 refine aj ?_
 refine wa [(2,.la 2 0),(5,(.hm b1))] H7 [(2,(fh.cells a0))] ?_
 refine aW ?_
 have hL37:=a0.elems.lk
 refine gG a0.elems ?_
 refine aC ?_
 have hNk38:=a0.elems.lk
 refine fC (a0.elems.l.length) (fun lA e h=>proj [5,70,71,72] e=[(5,(.hm b1)),(70,Row.av gf.cells a0.elems),(71,iv (a0.elems.l.length:Int)),(72,iv (lA:Int))]∧{ h with aq:=fU [5,70,71,72] h.aq } = { H7 with aq:=[] }) ?_ (k0:=0) cO ⟨rfl,rfl⟩
 rintro lA e h hkk38 ⟨he,hh⟩
 refine gm he hh ?_
 clear he hh
 refine aa ?_
 refine gl ((lA:Int)) ((a0.elems.l.length:Int)) (fun h39=>?_) (fun h39=>?_)
 refine aM ?_
 refine wa [(5,(.hm b1)),(70,Row.av gf.cells a0.elems),(71,iv (a0.elems.l.length:Int)),(72,iv (lA:Int))] H7 [] ?_
 refine ba ?_
 refine ai ?_
 have hx40:lA<a0.elems.l.length:=by omega
 refine iU lA a0.elems hx40 ?_
 generalize hqx41:a0.elems.l[lA]=x41
 refine bM ?_
 refine ae ?_
 refine gA (x41.kind) (4) (fun h42=>?_) (fun h42=>?_)
 iterate 4 refine oV ?_
 refine jG (H:=H7) (i:=0) (ek:=pK) (ev:=bK) (l:=l6) ((⟨((lA:Int)),(0)⟩:bY)) rfl rfl hS8 rfl rfl rfl rfl rfl rfl rfl rfl ja (fun y43 h44=>?_) (fun h45=>?_)
 cases y43
 exact absurd (hT _ (kU h44)) ef
 refine bA ?_
 refine wa [(5,(.hm b1)),(70,Row.av gf.cells a0.elems),(71,iv (a0.elems.l.length:Int)),(72,iv (lA:Int))] H7 [] ?_
 refine qg ?_
 refine gy ((lA:Int)) (1) ?_
 refine ab ?_
 exact ⟨by omega,rfl,rfl⟩
 refine bd ?_
 exact xA (.bool false) ⟨false,dl,rfl⟩
 refine bi ?_
 refine ay ?_
 refine wa [(5,(.hm b1)),(70,Row.av gf.cells a0.elems),(71,iv (a0.elems.l.length:Int)),(72,iv (lA:Int))] H7 [] ?_
 refine qg ?_
 refine gy ((lA:Int)) (1) ?_
 refine ab ?_
 exact ⟨by omega,rfl,rfl⟩
 refine aj ?_
 refine wa [] H7 [] ?_
 refine bu ?_
 exact xA (.bool true) ⟨true,dl,rfl⟩
theorem ND:FT 190=some DF:=by kernel_rfl
theorem LS:aT 190=none:=by kernel_rfl
def acb (_a0:Row Int) (_a1:List (bY×bY)) (v:AV):Prop:=∃ r0:Bool,(True)∧v=.bool r0
theorem t190 (a0:Row Int) (a1:List (bY×bY))  (h:ah):∃ v,fj cfg FT aT false 190 [Row.av fu a0,.fm (gn pK pK a1) false] h v h∧acb a0 a1 v:=by
 refine fS LS ND rfl rfl ?_
 refine aY ?_
 have hL1:=a0.lk
 refine gG a0 ?_
 refine gl ((a0.l.length:Int)) (2) (fun h2=>?_) (fun h2=>?_)
 refine aZ ?_
 exact xA (.bool true) ⟨true,trivial,rfl⟩
 refine az ?_
 refine aU ?_
 refine bc ?_
 refine lD (fun m7 e h=>∃ n3:Int,∃ n4:Int,m7=(n4+1).toNat∧(-1≤n4)∧(n4≤1)∧proj [0,1,5,6] e=[(0,Row.av fu a0),(1,.fm (gn pK pK a1) false),(5,iv n3),(6,iv n4)]∧{ h with aq:=fU [0,1,5,6] h.aq } = { ah.empty with aq:=[] }) ?_ _ _ _ ⟨(-1),(1),rfl,cO,cO,rfl,rfl⟩
 rintro m7 e h ⟨n3,n4,hmm7,hi5,hi6,he,hh⟩
 refine gm he hh ?_
 clear he hh
 refine bh ?_
 refine jg (n4) (0) (fun h8=>?_) (fun h8=>?_)
 refine aG ?_
 refine ae ?_
 have hx9:0<a0.l.length:=by omega
 refine iU 0 a0 hx9 ?_
 generalize hqx10:a0.l[0]=x10
 iterate 3 refine oV ?_
 refine tD (key:=(⟨(x10),(n4)⟩:bY)) (l:=a1) (ek:=pK) (ev:=pK) rfl rfl rfl rfl rfl rfl rfl rfl rfl ja (fun y11 h12=>?_) (fun h13=>?_)
 refine aO ?_
 refine bR ?_
 have hx14:1<a0.l.length:=by omega
 refine lO 1 a0 hx14 ?_
 generalize hqx15:a0.l[1]=x15
 refine rV ?_
 refine wv (y11.elem) (x15) (fun h16=>?_) (fun h16=>?_)
 refine cE ?_
 refine qg ?_
 refine aw ?_
 refine aL ?_
 refine lY (n4) (1) ?_
 refine ab ?_
 refine ⟨_,?_,(n4),(n4 - 1),rfl,cO,cO,rfl,rfl⟩
 omega
 refine bB ?_
 refine aL ?_
 refine lY (n4) (1) ?_
 refine ab ?_
 refine ⟨_,?_,(n3),(n4 - 1),rfl,cO,cO,rfl,rfl⟩
 omega
 refine aO ?_
 refine cf ?_
 refine co ?_
 refine bB ?_
 refine aL ?_
 refine lY (n4) (1) ?_
 refine ab ?_
 refine ⟨_,?_,(n3),(n4 - 1),rfl,cO,cO,rfl,rfl⟩
 omega
 refine aF ?_
 refine bh ?_
 refine gl (n3) (0) (fun h17=>?_) (fun h17=>?_)
 refine aZ ?_
 exact xA (.bool false) ⟨false,trivial,rfl⟩
 refine az ?_
 refine bc ?_
 have hNk18:=a0.lk
 refine fC (a0.l.length) (fun nt e h=>∃ n19:Int,(1≤nt)∧proj [0,1,5,9] e=[(0,Row.av fu a0),(1,.fm (gn pK pK a1) false),(5,iv n19),(9,iv (nt:Int))]∧{ h with aq:=fU [0,1,5,9] h.aq } = { ah.empty with aq:=[] }) ?_ (k0:=1) cO ⟨(n3),cO,rfl,rfl⟩
 rintro nt e h hkk18 ⟨n19,hw20,he,hh⟩
 refine gm he hh ?_
 clear he hh
 refine aW ?_
 have hL21:=a0.lk
 refine gG a0 ?_
 refine gl ((nt:Int)) ((a0.l.length:Int)) (fun h22=>?_) (fun h22=>?_)
 refine aG ?_
 refine aB ?_
 refine lY ((nt:Int)) (1) ?_
 have hx23:((nt:Int) - 1).toNat<a0.l.length:=by omega
 refine fq rfl (fun _=>gN (n:=(nt:Int) - 1) (r:=a0) (enc:=fu) rfl rfl rfl rfl rfl cO hx23 rfl) ?_
 generalize hqx24:a0.l[((nt:Int) - 1).toNat]=x24
 iterate 3 refine oV ?_
 refine tD (key:=(⟨(x24),(n19)⟩:bY)) (l:=a1) (ek:=pK) (ev:=pK) rfl rfl rfl rfl rfl rfl rfl rfl rfl ja (fun y25 h26=>?_) (fun h27=>?_)
 refine aO ?_
 refine qs ?_
 refine aK ?_
 iterate 7 refine rV ?_
 have hx28:nt<a0.l.length:=by omega
 refine lO nt a0 hx28 ?_
 generalize hqx29:a0.l[nt]=x29
 refine rV ?_
 refine ym (y25.elem) (x29) (fun h30=>?_) (fun h30=>?_)
 refine aV ?_
 refine ac ?_
 exact xA (.bool false) ⟨false,trivial,rfl⟩
 refine bB ?_
 refine bC ?_
 refine fq rfl (fun _=>gY rfl rfl rfl (nb .i64 (1) (y25.en))) ?_
 refine ab ?_
 refine aL ?_
 refine gy ((nt:Int)) (1) ?_
 refine ab ?_
 exact ⟨by omega,(IntKind.i64.wrap (1 - (y25.en))),cO,rfl,rfl⟩
 refine aO ?_
 refine qs ?_
 refine bV ?_
 iterate 7 refine rS ?_
 refine aV ?_
 refine ac ?_
 exact xA (.bool false) ⟨false,trivial,rfl⟩
 refine cF ?_
 exact xA (.bool true) ⟨true,trivial,rfl⟩
theorem Rn:FT 130=some Dk:=by kernel_rfl
theorem Na:aT 130=none:=by kernel_rfl
def abv (_a0:fh) (_a1:List (bY×bY)) (v:AV):Prop:=∃ r0:Bool,(True)∧v=.bool r0
theorem t130 (a0:fh) (a1:List (bY×bY))  (h:ah):∃ v,fj cfg FT aT false 130 [.agg (fh.cells a0),.fm (gn pK pK a1) false] h v h∧abv a0 a1 v:=by
 refine fS Na Rn rfl rfl ?_
 refine aQ ?_
 refine aa ?_
 refine gd rfl (iH gI) ?_
 rintro _ H2 ⟨b1,rfl,hS3⟩
 refine ab ?_
 refine aW ?_
 have hL4:=a0.lines.lk
 refine gG a0.lines ?_
 refine aC ?_
 have hNk5:=a0.lines.lk
 refine fC (a0.lines.l.length) (fun k5 e h=>∃ l6:List (Int×Bool),∃ H7:ah,Sep H7 (.map (.hm b1) (gn iK bK l6)::[])∧proj [1,2,5,12,13,14] e=[(1,.fm (gn pK pK a1) false),(2,.la 2 0),(5,(.hm b1)),(12,Row.av fY.cells a0.lines),(13,iv (a0.lines.l.length:Int)),(14,iv (k5:Int))]∧{ h with aq:=fU [1,2,5,12,13,14] h.aq } = { H7 with aq:=[(2,(fh.cells a0))] }) ?_ (k0:=0) cO ⟨([]),H2,hS3,rfl,rfl⟩
 rintro k5 e h hkk5 ⟨l6,H7,hS8,he,hh⟩
 refine gm he hh ?_
 clear he hh
 refine aa ?_
 refine gl ((k5:Int)) ((a0.lines.l.length:Int)) (fun h9=>?_) (fun h9=>?_)
 refine bI ?_
 have hx10:k5<a0.lines.l.length:=by omega
 refine iU k5 a0.lines hx10 ?_
 generalize hqx11:a0.lines.l[k5]=x11
 refine aX ?_
 refine aW ?_
 have hL12:=x11.elems.lk
 refine gG x11.elems ?_
 refine gA ((x11.elems.l.length:Int)) (0) (fun h13=>?_) (fun h13=>?_)
 refine aZ ?_
 exact xA (.bool false) ⟨false,trivial,rfl⟩
 refine az ?_
 refine aW ?_
 have hL14:=x11.elems.lk
 refine gG x11.elems ?_
 refine aC ?_
 have hNk15:=x11.elems.lk
 refine fC (x11.elems.l.length) (fun nu e h=>∃ l16:List (Int×Bool),∃ H17:ah,Sep H17 (.map (.hm b1) (gn iK bK l16)::[])∧proj [1,2,5,7,12,13,14,23,24,25] e=[(1,.fm (gn pK pK a1) false),(2,.la 2 0),(5,(.hm b1)),(7,.la 7 0),(12,Row.av fY.cells a0.lines),(13,iv (a0.lines.l.length:Int)),(14,iv (k5:Int)),(23,Row.av fu x11.elems),(24,iv (x11.elems.l.length:Int)),(25,iv (nu:Int))]∧{ h with aq:=fU [1,2,5,7,12,13,14,23,24,25] h.aq } = { H17 with aq:=[(2,(fh.cells a0)),(7,(fY.cells x11))] }) ?_ (k0:=0) cO ⟨(l6),H7,hS8,rfl,rfl⟩
 rintro nu e h hkk15 ⟨l16,H17,hS18,he,hh⟩
 refine gm he hh ?_
 clear he hh
 refine aa ?_
 refine gl ((nu:Int)) ((x11.elems.l.length:Int)) (fun h19=>?_) (fun h19=>?_)
 refine bI ?_
 have hx20:nu<x11.elems.l.length:=by omega
 refine iU nu x11.elems hx20 ?_
 generalize hqx21:x11.elems.l[nu]=x21
 refine oV ?_
 refine ak ?_
 refine gl (x21) (0) (fun h22=>?_) (fun h22=>?_)
 refine bi ?_
 refine aP ?_
 iterate 5 refine oS ?_
 refine cA ?_
 refine au ?_
 exact xA (.bool false) ⟨false,trivial,rfl⟩
 iterate 4 refine oV ?_
 have hL23:=a0.elems.lk
 refine gG a0.elems ?_
 refine jg (x21) ((a0.elems.l.length:Int)) (fun h24=>?_) (fun h24=>?_)
 refine aP ?_
 iterate 5 refine oS ?_
 refine cA ?_
 refine au ?_
 exact xA (.bool false) ⟨false,trivial,rfl⟩
 iterate 5 refine oV ?_
 have hx25:(x21).toNat<a0.elems.l.length:=by omega
 refine fq rfl (fun _=>gN (n:=x21) (r:=a0.elems) (enc:=gf.cells) rfl rfl rfl rfl rfl cO hx25 rfl) ?_
 generalize hqx26:a0.elems.l[(x21).toNat]=x26
 iterate 2 refine oV ?_
 refine iJ (x26.kind) (1) (fun h27=>?_) (fun h27=>?_)
 refine cA ?_
 refine au ?_
 exact xA (.bool false) ⟨false,trivial,rfl⟩
 iterate 4 refine oV ?_
 refine jG (H:=H17) (i:=0) (ek:=iK) (ev:=bK) (l:=l16) (x21) rfl rfl hS18 rfl rfl rfl rfl rfl rfl rfl rfl lq (fun y28 h29=>?_) (fun h30=>?_)
 cases y28
 refine ay ?_
 refine bC ?_
 refine gd rfl (jS (H:=H17) (i:=0) (ek:=iK) (ev:=bK) (x21) true hS18 rfl rfl rfl rfl rfl rfl lq) ?_
 rintro _ H31 ⟨rfl,hS32⟩
 refine bO ?_
 refine gy ((nu:Int)) (1) ?_
 refine ab ?_
 exact ⟨by omega,((put (x21) true l16)),H31,hS32,rfl,rfl⟩
 refine au ?_
 exact xA (.bool false) ⟨false,trivial,rfl⟩
 refine ay ?_
 refine bC ?_
 refine gd rfl (jS (H:=H17) (i:=0) (ek:=iK) (ev:=bK) (x21) true hS18 rfl rfl rfl rfl rfl rfl lq) ?_
 rintro _ H33 ⟨rfl,hS34⟩
 refine bO ?_
 refine gy ((nu:Int)) (1) ?_
 refine ab ?_
 exact ⟨by omega,((put (x21) true l16)),H33,hS34,rfl,rfl⟩
 refine aj ?_
 refine aB ?_
 refine oC (t190 x11.elems a1) ?_
 rintro _ ⟨r36,hc35,rfl⟩
 cases r36
 refine au ?_
 exact xA (.bool false) ⟨false,trivial,rfl⟩
 refine bW ?_
 refine gy ((k5:Int)) (1) ?_
 refine ab ?_
 exact ⟨by omega,(l16),H17,hS18,rfl,rfl⟩
 refine aN ?_
 exact xA (.bool true) ⟨true,trivial,rfl⟩
theorem QM:FT 191=some CM:=by kernel_rfl
theorem M5:aT 191=none:=by kernel_rfl
def ZB (_a0:Int) (_a1:Int) (v:AV):Prop:=∃ r0:Int,(True)∧v=iv r0
theorem t191 (a0:Int) (a1:Int)  (h:ah):∃ v,fj cfg FT aT false 191 [iv a0,iv a1] h v h∧ZB a0 a1 v:=by
 refine fS M5 QM rfl rfl ?_
 refine aY ?_
 refine gl (a0) (0) (fun h1=>?_) (fun h1=>?_)
 refine bg ?_
 refine aP ?_
 refine aP ?_
 refine au ?_
 exact xA (iv 0) ⟨(0),trivial,rfl⟩
 iterate 2 refine oV ?_
 refine g9 (a0) (60) (fun h2=>?_) (fun h2=>?_)
 refine aP ?_
 refine aP ?_
 refine au ?_
 exact xA (iv 0) ⟨(0),trivial,rfl⟩
 iterate 3 refine oV ?_
 refine gl (a1) (1) (fun h3=>?_) (fun h3=>?_)
 refine aP ?_
 refine au ?_
 exact xA (iv 0) ⟨(0),trivial,rfl⟩
 iterate 3 refine oV ?_
 refine g9 (a1) (10) (fun h4=>?_) (fun h4=>?_)
 refine au ?_
 exact xA (iv 0) ⟨(0),trivial,rfl⟩
 refine ay ?_
 refine aU ?_
 refine aW ?_
 refine lY (a0) (a1) ?_
 refine aC ?_
 refine lD (fun m9 e h=>∃ n5:Int,∃ n6:Int,m9=(n5+10).toNat∧(-10≤n5)∧(n5≤60)∧proj [0,1,5] e=[(0,iv n5),(1,iv a1),(5,iv n6)]∧{ h with aq:=fU [0,1,5] h.aq } = { ah.empty with aq:=[] }) ?_ _ _ _ ⟨(a0 - a1),(0),rfl,cO,cO,rfl,rfl⟩
 rintro m9 e h ⟨n5,n6,hmm9,hi7,hi8,he,hh⟩
 refine gm he hh ?_
 clear he hh
 refine bh ?_
 refine g9 (n5) (0) (fun h10=>?_) (fun h10=>?_)
 refine aG ?_
 refine bC ?_
 refine fq rfl (fun _=>gY rfl rfl rfl (lQ .i64 (n6) (n5))) ?_
 refine ab ?_
 refine bC ?_
 refine lY (n5) (a1) ?_
 refine ab ?_
 refine ⟨_,?_,(n5 - a1),(IntKind.i64.wrap (n6+(n5))),rfl,cO,cO,rfl,rfl⟩
 omega
 refine aF ?_
 refine bG ?_
 exact xA (iv n6) ⟨(n6),trivial,rfl⟩
theorem PH:FT 131=some DQ:=by kernel_rfl
theorem Mp:aT 131=none:=by kernel_rfl
def abh (_a0:fh) (v:AV):Prop:=∃ r0:Bool,(True)∧v=.bool r0
theorem t131 (a0:fh) (q1:(∀ s∈a0.signals.l,0≤s.at_.elem∧s.at_.elem<(a0.elems.l.length:Int)∧0≤s.at_.en)) (h:ah):∃ v,fj cfg FT aT false 131 [.agg (fh.cells a0)] h v h∧abh a0 v:=by
 refine fS Mp PH rfl rfl ?_
 refine ai ?_
 refine am ?_
 refine aK ?_
 iterate 8 refine rV ?_
 refine rC (t191 (a0.top) (a0.gE)) ?_
 rintro _ ⟨r2,hc1,rfl⟩
 refine ga rfl rfl (fun _=>gY rfl rfl rfl (lQ .i64 (a0.top) (r2))) ?_
 refine o4 (a0.gv) (IntKind.i64.wrap (a0.top+(r2))) (fun h3=>?_) (fun h3=>?_)
 refine rN ?_
 refine ac ?_
 exact xA (.bool false) ⟨false,trivial,rfl⟩
 refine bH ?_
 refine aW ?_
 have hL4:=a0.signals.lk
 refine gG a0.signals ?_
 refine aC ?_
 have hNk5:=a0.signals.lk
 refine fC (a0.signals.l.length) (fun k5 e h=>proj [1,20,21,22] e=[(1,.la 1 0),(20,Row.av gg.cells a0.signals),(21,iv (a0.signals.l.length:Int)),(22,iv (k5:Int))]∧{ h with aq:=fU [1,20,21,22] h.aq } = { ah.empty with aq:=[(1,(fh.cells a0))] }) ?_ (k0:=0) cO ⟨rfl,rfl⟩
 rintro k5 e h hkk5 ⟨he,hh⟩
 refine gm he hh ?_
 clear he hh
 refine aa ?_
 refine gl ((k5:Int)) ((a0.signals.l.length:Int)) (fun h6=>?_) (fun h6=>?_)
 refine bI ?_
 have hx7:k5<a0.signals.l.length:=by omega
 refine iU k5 a0.signals hx7 ?_
 generalize hqx8:a0.signals.l[k5]=x8
 have hinx8:x8∈a0.signals.l:=by rw [← hqx8]; exact List.getElem_mem _
 have hsx8:=q1 x8 hinx8
 refine aX ?_
 refine be ?_
 refine oV ?_
 have hx9:(x8.at_.elem).toNat<a0.elems.l.length:=by omega
 refine fq rfl (fun _=>gN (n:=x8.at_.elem) (r:=a0.elems) (enc:=gf.cells) rfl rfl rfl rfl rfl cO hx9 rfl) ?_
 generalize hqx10:a0.elems.l[(x8.at_.elem).toNat]=x10
 refine aX ?_
 refine ae ?_
 refine gA (x10.kind) (1) (fun h11=>?_) (fun h11=>?_)
 iterate 5 refine oV ?_
 refine gl (x10.len) (a0.gv) (fun h12=>?_) (fun h12=>?_)
 refine au ?_
 exact xA (.bool false) ⟨false,trivial,rfl⟩
 refine bW ?_
 refine gy ((k5:Int)) (1) ?_
 refine ab ?_
 exact ⟨by omega,rfl,rfl⟩
 refine bi ?_
 refine bW ?_
 refine gy ((k5:Int)) (1) ?_
 refine ab ?_
 exact ⟨by omega,rfl,rfl⟩
 refine aj ?_
 refine aW ?_
 have hL13:=a0.elems.lk
 refine gG a0.elems ?_
 refine aC ?_
 have hNk14:=a0.elems.lk
 refine fC (a0.elems.l.length) (fun gh e h=>proj [1,45,46,47] e=[(1,.la 1 0),(45,Row.av gf.cells a0.elems),(46,iv (a0.elems.l.length:Int)),(47,iv (gh:Int))]∧{ h with aq:=fU [1,45,46,47] h.aq } = { ah.empty with aq:=[(1,(fh.cells a0))] }) ?_ (k0:=0) cO ⟨rfl,rfl⟩
 rintro gh e h hkk14 ⟨he,hh⟩
 refine gm he hh ?_
 clear he hh
 refine aa ?_
 refine gl ((gh:Int)) ((a0.elems.l.length:Int)) (fun h15=>?_) (fun h15=>?_)
 refine bI ?_
 have hx16:gh<a0.elems.l.length:=by omega
 refine iU gh a0.elems hx16 ?_
 generalize hqx17:a0.elems.l[gh]=x17
 refine aX ?_
 refine ae ?_
 refine iJ (x17.kind) (4) (fun h18=>?_) (fun h18=>?_)
 iterate 5 refine oV ?_
 refine gl (x17.len) (a0.top) (fun h19=>?_) (fun h19=>?_)
 refine au ?_
 exact xA (.bool false) ⟨false,trivial,rfl⟩
 refine bW ?_
 refine gy ((gh:Int)) (1) ?_
 refine ab ?_
 exact ⟨by omega,rfl,rfl⟩
 refine bi ?_
 refine bW ?_
 refine gy ((gh:Int)) (1) ?_
 refine ab ?_
 exact ⟨by omega,rfl,rfl⟩
 refine aN ?_
 exact xA (.bool true) ⟨true,trivial,rfl⟩
theorem UI:FT 57=some G6:=by kernel_rfl
theorem QB:aT 57=none:=by kernel_rfl
def P57 (_a0:fh) (v:AV):Prop:=∃ r0:Int,((r0=0→vC _a0.fQ.l∧tW _a0.signals.l∧(∀ s∈_a0.signals.l,0≤s.at_.elem∧s.at_.elem<(_a0.elems.l.length:Int)∧0≤s.at_.en)∧_a0.elems.l.length≤40∧_a0.signals.l.length≤24∧_a0.fQ.l.length≤80))∧v=iv r0
theorem t57 (a0:fh)  (h:ah):∃ v,fj cfg FT aT false 57 [.agg (fh.cells a0)] h v h∧P57 a0 v:=by
 refine fS QB UI rfl rfl ?_
 refine aa ?_
 refine gd (H:=ah.empty) rfl (iz gI rfl rfl rfl rfl rfl) ?_
 rintro _ H2 ⟨b1,rfl,hS3⟩
 refine ab ?_
 refine ck ?_
 refine iN 0 hS3 ?_
 refine ix 0 hS3 (Row.av gf.cells a0.elems) ?_
 have hL4:=a0.elems.lk
 refine gG a0.elems ?_
 refine g9 ((a0.elems.l.length:Int)) (40) (fun h5=>?_) (fun h5=>?_)
 refine bm ?_
 refine aE ?_
 refine bz ?_
 exact xA (iv 3) ⟨(3),cR,rfl⟩
 refine oV ?_
 refine iN 0 hS3 ?_
 refine ix 0 hS3 (Row.av gg.cells a0.signals) ?_
 have hL6:=a0.signals.lk
 refine gG a0.signals ?_
 refine g9 ((a0.signals.l.length:Int)) (24) (fun h7=>?_) (fun h7=>?_)
 refine aE ?_
 refine bz ?_
 exact xA (iv 3) ⟨(3),cR,rfl⟩
 iterate 2 refine oV ?_
 refine iN 0 hS3 ?_
 refine ix 0 hS3 (Row.av fY.cells a0.lines) ?_
 have hL8:=a0.lines.lk
 refine gG a0.lines ?_
 refine g9 ((a0.lines.l.length:Int)) (4) (fun h9=>?_) (fun h9=>?_)
 refine bz ?_
 exact xA (iv 3) ⟨(3),cR,rfl⟩
 iterate 2 refine oV ?_
 refine iN 0 hS3 ?_
 refine ix 0 hS3 (Row.av gj.cells a0.fQ) ?_
 have hL10:=a0.fQ.lk
 refine gG a0.fQ ?_
 refine g9 ((a0.fQ.l.length:Int)) (80) (fun h11=>?_) (fun h11=>?_)
 refine au ?_
 exact xA (iv 3) ⟨(3),cR,rfl⟩
 refine ay ?_
 refine ck ?_
 refine ix 0 hS3 (.agg (fh.cells a0)) ?_
 refine oC (t123 a0) ?_
 rintro _ ⟨r13,hc12,rfl⟩
 cases r13
 refine au ?_
 exact xA (iv 1) ⟨(1),cR,rfl⟩
 refine ay ?_
 refine ck ?_
 refine iN 0 hS3 ?_
 refine ix 0 hS3 (Row.av gf.cells a0.elems) ?_
 have hL14:=a0.elems.lk
 refine gG a0.elems ?_
 refine fq rfl (fun _=>pf rfl rfl (ph rfl rfl)) ?_
 have hS15:=Sep.pick hS3 [0] 1 cK cK
 refine gC (H:=H2) (args:=[iv (a0.elems.l.length:Int),.gL 125 [] [(.ptr b1 0 0 0)]]) (p:=[]) (r:=[]) rfl rfl rfl rfl rfl rfl rfl (Hx ((a0.elems.l.length:Int)) b1 a0 ([]) hS15 cG) ?_
 rintro _ H16 ⟨r19,hc18,hS17,rfl⟩
 cases r19
 refine oV ?_
 refine iN 0 hS17 ?_
 refine ix 0 hS17 (Row.av gg.cells a0.signals) ?_
 have hL20:=a0.signals.lk
 refine gG a0.signals ?_
 refine fq rfl (fun _=>pf rfl rfl (ph rfl rfl)) ?_
 have hS21:=Sep.pick hS17 [0] 1 cK cK
 refine gC (H:=H16) (args:=[iv (a0.signals.l.length:Int),.gL 126 [] [(.ptr b1 0 0 0)]]) (p:=[]) (r:=[]) rfl rfl rfl rfl rfl rfl rfl (Gq ((a0.signals.l.length:Int)) b1 a0 ([]) hS21 cG) ?_
 rintro _ H22 ⟨r25,hc24,hS23,rfl⟩
 cases r25
 iterate 2 refine oV ?_
 refine iN 0 hS23 ?_
 refine ix 0 hS23 (Row.av fY.cells a0.lines) ?_
 have hL26:=a0.lines.lk
 refine gG a0.lines ?_
 refine fq rfl (fun _=>pf rfl rfl (ph rfl rfl)) ?_
 have hS27:=Sep.pick hS23 [0] 1 cK cK
 refine gC (H:=H22) (args:=[iv (a0.lines.l.length:Int),.gL 127 [] [(.ptr b1 0 0 0)]]) (p:=[]) (r:=[]) rfl rfl rfl rfl rfl rfl rfl (HM ((a0.lines.l.length:Int)) b1 a0 ([]) hS27 cG) ?_
 rintro _ H28 ⟨r31,hc30,hS29,rfl⟩
 cases r31
 refine ay ?_
 refine aa ?_
 refine ix 0 hS29 (.agg (fh.cells a0)) ?_
 refine oC (t128 a0) ?_
 rintro _ (⟨r33,hc32,rfl⟩ | ⟨hc32,rfl⟩)
 have hPre:=hc32.1; have hC148:=hc32.2
 refine oV ?_
 refine bM ?_
 refine ba ?_
 refine ae ?_
 refine bf ?_
 refine ix 0 hS29 (.agg (fh.cells a0)) ?_
 refine oV ?_
 refine oC (t129 a0 r33 cG) ?_
 rintro _ ⟨r35,hc34,rfl⟩
 cases r35
 clear hc34
 refine bd ?_
 exact xA (iv 7) ⟨(7),cR,rfl⟩
 have hc34t:=hc34 rfl
 have hPre:=hc34t.1; have hD149:=hc34t.2
 refine oV ?_
 refine bf ?_
 refine ix 0 hS29 (.agg (fh.cells a0)) ?_
 refine oV ?_
 refine oC (t130 a0 r33) ?_
 rintro _ ⟨r37,hc36,rfl⟩
 cases r37
 refine bd ?_
 exact xA (iv 8) ⟨(8),cR,rfl⟩
 refine oV ?_
 refine bf ?_
 refine ix 0 hS29 (.agg (fh.cells a0)) ?_
 refine oC (t131 a0 cG) ?_
 rintro _ ⟨r39,hc38,rfl⟩
 cases r39
 refine bd ?_
 exact xA (iv 9) ⟨(9),cR,rfl⟩
 refine bA ?_
 refine bu ?_
 exact xA (iv 0) ⟨(0),cR,rfl⟩
 refine oV ?_
 refine bM ?_
 refine ba ?_
 refine ai ?_
 refine bd ?_
 exact xA (iv 6) ⟨(6),cR,rfl⟩
 refine au ?_
 exact xA (iv 4) ⟨(4),cR,rfl⟩
 refine cB ?_
 refine au ?_
 exact xA (iv 4) ⟨(4),cR,rfl⟩
 refine bi ?_
 refine cB ?_
 refine au ?_
 exact xA (iv 4) ⟨(4),cR,rfl⟩
theorem Ot:FT 95=some Ck:=by kernel_rfl
theorem Mm:jm 95=none:=by kernel_rfl
def abV (_a0:fE Int) (v:AV):Prop:=∃ r0:Row Int,((r0.l = _a0.l∧(r0.c=.nil↔_a0.c=.nil)))∧v=Row.av fu r0
theorem Z1 (a0:fE Int) (q1:a0.l.length≤1000) (h:ah):∃ v,fj cfg FT jm false 95 [fE.av fu a0] h v h∧abV a0 v:=by
 refine fS Mm Ot rfl rfl ?_
 refine aY ?_
 refine ik (b:=a0.isNil) rfl (fun _=>kT rfl rfl rfl rfl) (fun h1=>?_) (fun h1=>?_)
 refine aZ ?_
 exact xF (.sl [] .nil) ⟨(⟨[],.nil,Nat.zero_le _,rfl,fun _=>rfl⟩:Row Int),cZ,rfl⟩
 refine bE ?_
 have hS2:=Sep.mF gI 1
 refine gd rfl (qB (i:=0) (l:=([]:List Int)) (enc:=fu) a0.l hS2 rfl rfl rfl rfl rfl rfl rfl rfl rfl (fun _=>rfl) (.inl rfl) cS (fun _=>rfl)) ?_
 rintro v3 H4 ⟨hS5,hNN⟩
 refine af ?_
 obtain ⟨r6,hl7,hnn,hf8⟩:=qD (H:=H4) (i:=0) (l:=(([]:List Int)++a0.l)) (enc:=fu) hS5 rfl cH
 have hlq:=hl7; have hln10:=congrArg List.length hl7
 have hz9:∀ m,freeze false { H4 with aq:=[] } (m+2) v3=some (Row.av fu r6):=fun m=>hf8 _ _ (fun _=>rfl)
 exact ⟨v3,(iB (vs:=[v3]) rfl (fD (Sep.arg (i:=0) hS5 rfl) gJ)),Row.av fu r6,(show freeze false { H4 with aq:=[] } 8 v3=some (Row.av fu r6) by simp only [FZ,hz9]),r6,cZ,rfl⟩
theorem LL:FT 132=some Df:=by kernel_rfl
theorem F3:jm 132=none:=by kernel_rfl
def UL (_a0:fE gf) (v:AV):Prop:=∃ r0:Row gf,((r0.l = _a0.l∧(r0.c=.nil↔_a0.c=.nil)))∧v=Row.av gf.cells r0
theorem Ur (a0:fE gf) (q1:a0.l.length≤1000) (h:ah):∃ v,fj cfg FT jm false 132 [fE.av gf.cells a0] h v h∧UL a0 v:=by
 refine fS F3 LL rfl rfl ?_
 refine aY ?_
 refine ik (b:=a0.isNil) rfl (fun _=>kT rfl rfl rfl rfl) (fun h1=>?_) (fun h1=>?_)
 refine aZ ?_
 exact xF (.sl [] .nil) ⟨(⟨[],.nil,Nat.zero_le _,rfl,fun _=>rfl⟩:Row gf),cZ,rfl⟩
 refine bE ?_
 have hS2:=Sep.mF gI 3
 refine gd rfl (qB (i:=0) (l:=([]:List gf)) (enc:=gf.cells) a0.l hS2 rfl rfl rfl rfl rfl rfl rfl rfl rfl (fun _=>rfl) (.inl rfl) cS (fun _=>rfl)) ?_
 rintro v3 H4 ⟨hS5,hNN⟩
 refine af ?_
 obtain ⟨r6,hl7,hnn,hf8⟩:=qD (H:=H4) (i:=0) (l:=(([]:List gf)++a0.l)) (enc:=gf.cells) hS5 rfl cH
 have hlq:=hl7; have hln10:=congrArg List.length hl7
 have hz9:∀ m,freeze false { H4 with aq:=[] } (m+2) v3=some (Row.av gf.cells r6):=fun m=>hf8 _ _ (fun _=>rfl)
 exact ⟨v3,(iB (vs:=[v3]) rfl (fD (Sep.arg (i:=0) hS5 rfl) gJ)),Row.av gf.cells r6,(show freeze false { H4 with aq:=[] } 8 v3=some (Row.av gf.cells r6) by simp only [FZ,hz9]),r6,cZ,rfl⟩
theorem Mj:FT 133=some Cv:=by kernel_rfl
theorem HI:jm 133=none:=by kernel_rfl
def VQ (_a0:fE gj) (v:AV):Prop:=∃ r0:Row gj,((r0.l = _a0.l∧(r0.c=.nil↔_a0.c=.nil)))∧v=Row.av gj.cells r0
theorem Wj (a0:fE gj) (q1:a0.l.length≤1000) (h:ah):∃ v,fj cfg FT jm false 133 [fE.av gj.cells a0] h v h∧VQ a0 v:=by
 refine fS HI Mj rfl rfl ?_
 refine aY ?_
 refine ik (b:=a0.isNil) rfl (fun _=>kT rfl rfl rfl rfl) (fun h1=>?_) (fun h1=>?_)
 refine aZ ?_
 exact xF (.sl [] .nil) ⟨(⟨[],.nil,Nat.zero_le _,rfl,fun _=>rfl⟩:Row gj),cZ,rfl⟩
 refine bE ?_
 have hS2:=Sep.mF gI 4
 refine gd rfl (qB (i:=0) (l:=([]:List gj)) (enc:=gj.cells) a0.l hS2 rfl rfl rfl rfl rfl rfl rfl rfl rfl (fun _=>rfl) (.inl rfl) cS (fun _=>rfl)) ?_
 rintro v3 H4 ⟨hS5,hNN⟩
 refine af ?_
 obtain ⟨r6,hl7,hnn,hf8⟩:=qD (H:=H4) (i:=0) (l:=(([]:List gj)++a0.l)) (enc:=gj.cells) hS5 rfl cH
 have hlq:=hl7; have hln10:=congrArg List.length hl7
 have hz9:∀ m,freeze false { H4 with aq:=[] } (m+2) v3=some (Row.av gj.cells r6):=fun m=>hf8 _ _ (fun _=>rfl)
 exact ⟨v3,(iB (vs:=[v3]) rfl (fD (Sep.arg (i:=0) hS5 rfl) gJ)),Row.av gj.cells r6,(show freeze false { H4 with aq:=[] } 8 v3=some (Row.av gj.cells r6) by simp only [FZ,hz9]),r6,cZ,rfl⟩
theorem L4:FT 134=some CB:=by kernel_rfl
theorem Ic:jm 134=none:=by kernel_rfl
def Si (_a0:fE gg) (v:AV):Prop:=∃ r0:Row gg,((r0.l = _a0.l∧(r0.c=.nil↔_a0.c=.nil)))∧v=Row.av gg.cells r0
theorem Xm (a0:fE gg) (q1:a0.l.length≤1000) (h:ah):∃ v,fj cfg FT jm false 134 [fE.av gg.cells a0] h v h∧Si a0 v:=by
 refine fS Ic L4 rfl rfl ?_
 refine aY ?_
 refine ik (b:=a0.isNil) rfl (fun _=>kT rfl rfl rfl rfl) (fun h1=>?_) (fun h1=>?_)
 refine aZ ?_
 exact xF (.sl [] .nil) ⟨(⟨[],.nil,Nat.zero_le _,rfl,fun _=>rfl⟩:Row gg),cZ,rfl⟩
 refine bE ?_
 have hS2:=Sep.mF gI 4
 refine gd rfl (qB (i:=0) (l:=([]:List gg)) (enc:=gg.cells) a0.l hS2 rfl rfl rfl rfl rfl rfl rfl rfl rfl (fun _=>rfl) (.inl rfl) cS (fun _=>rfl)) ?_
 rintro v3 H4 ⟨hS5,hNN⟩
 refine af ?_
 obtain ⟨r6,hl7,hnn,hf8⟩:=qD (H:=H4) (i:=0) (l:=(([]:List gg)++a0.l)) (enc:=gg.cells) hS5 rfl cH
 have hlq:=hl7; have hln10:=congrArg List.length hl7
 have hz9:∀ m,freeze false { H4 with aq:=[] } (m+2) v3=some (Row.av gg.cells r6):=fun m=>hf8 _ _ (fun _=>rfl)
 exact ⟨v3,(iB (vs:=[v3]) rfl (fD (Sep.arg (i:=0) hS5 rfl) gJ)),Row.av gg.cells r6,(show freeze false { H4 with aq:=[] } 8 v3=some (Row.av gg.cells r6) by simp only [FZ,hz9]),r6,cZ,rfl⟩
theorem LI:FT 135=some Ci:=by kernel_rfl
theorem HE:jm 135=none:=by kernel_rfl
theorem WN {H:ah} (a0:fE fY) (F:List gH) (hS:Sep H (F)) (q1:a0.l.length≤1000):∃ v H',fj cfg FT jm true 135 [fE.av fY.cells a0] { H with aq:=[] } v H'∧(∃ ov:AV,∃ ol:List fY,(ol=a0.l∧(ov=.sl [] .nil↔a0.c=.nil))∧Sep H' (.sl true true ov 2 (List.map fY.cells ol)::F)∧v=ov):=by
 refine gB HE LI rfl ?_
 refine aY ?_
 refine ik (b:=a0.isNil) rfl (fun _=>kT rfl rfl rfl rfl) (fun h1=>?_) (fun h1=>?_)
 refine aZ ?_
 have hS2:=Sep.iF hS 2
 have hS3:=Sep.pick hS2 [0] 1 cK cK
 exact ⟨(.sl [] .nil),rfl,(.sl [] .nil),([]:List fY),dW,Sep.aq hS3 _,rfl⟩
 refine bE ?_
 have hS4:=Sep.mF hS 2
 refine gd rfl (qB (H:=H) (i:=0) (l:=([]:List fY)) (enc:=fY.cells) a0.l hS4 rfl rfl rfl rfl rfl rfl rfl rfl rfl (fun _=>rfl) (.inl rfl) cS (fun _=>rfl)) ?_
 rintro v5 H6 ⟨hS7,hNN⟩
 refine af ?_
 have hS8:=Sep.pick hS7 [0] 1 cK cK
 exact ⟨v5,(iB (vs:=[v5]) rfl (fD (Sep.arg (i:=0) hS7 rfl) gJ)),v5,(([]:List fY)++a0.l),dW,Sep.aq hS8 _,rfl⟩
theorem O5:FT 58=some F0:=by kernel_rfl
theorem LK:jm 58=none:=by kernel_rfl
def aan (_a0:fh) (v:AV):Prop:=∃ r0:fh,((CF r0 _a0∧∀ x∈r0.lines.l,x.elems.l.length≤60))∧v=.agg (fh.cells r0)
theorem acg (a0:fh) (q1:jb a0) (h:ah):∃ v,fj cfg FT jm false 58 [.agg (fh.cells a0)] h v h∧aan a0 v:=by
 refine fS LK O5 rfl rfl ?_
 have q2:=q1.elems; have q3:=q1.fQ; have q4:=q1.signals; have q5:=q1.lines
 refine aQ ?_
 refine a6 ?_
 refine rC (Ur (Row.j6 a0.elems) cG) ?_
 rintro _ ⟨r2,hc1,rfl⟩
 iterate 2 refine rV ?_
 refine rC (Wj (Row.j6 a0.fQ) cG) ?_
 rintro _ ⟨r4,hc3,rfl⟩
 iterate 2 refine rV ?_
 refine rC (Xm (Row.j6 a0.signals) cG) ?_
 rintro _ ⟨r6,hc5,rfl⟩
 refine br ?_
 refine ae ?_
 refine gC (H:=ah.empty) (args:=[Row.av fY.cells a0.lines]) (p:=[]) (r:=[]) rfl rfl rfl rfl rfl rfl rfl (WN (Row.j6 a0.lines) ([]) gI cG) ?_
 rintro ov11 H8 ⟨_,ol12,hc10,hS9,rfl⟩
 have hqF:ol12.length=(Row.j6 a0.lines).l.length:=by rw [hc10.1]
 simp only [Row.j6] at hqF
 have hLn:=hc10
 refine oV ?_
 refine fq rfl (fun _=>wH rfl rfl rfl (jq rfl rfl (Sep.cell (i:=0) hS9 rfl)) (fD (Sep.cell (i:=0) hS9 rfl) gJ) rfl rfl) ?_
 refine oN ?_
 refine aW ?_
 refine fq rfl (fun _=>jT (H:=H8) (i:=0) hS9 rfl rfl rfl rfl rfl rfl rfl) ?_
 refine aC ?_
 refine fC (ol12.length) (fun lE e h=>∃ v14:AV,∃ l15:List fY,∃ H16:ah,(l15.length=a0.lines.l.length)∧(∀ x∈l15,x.elems.l.length≤60)∧(∀ (i:Nat) (h:i<(l15).length) (h2:i<a0.lines.l.length),pd (l15)[i] a0.lines.l[i])∧((v14=.sl [] .nil↔a0.lines.c=.nil))∧Sep H16 (.sl true true v14 2 (List.map fY.cells l15)::[])∧proj [1,2,22,23] e=[(1,.la 1 0),(2,.la 2 0),(22,iv (ol12.length:Int)),(23,iv (lE:Int))]∧{ h with aq:=fU [1,2,22,23] h.aq } = { H16 with aq:=[(1,[Row.av gf.cells r2,Row.av gj.cells r4,Row.av gg.cells r6,v14,iv a0.top,iv a0.gE,iv a0.gv,iv a0.gz,.bool a0.gO]),(2,[.sl [] .nil,.sl [] .nil,.sl [] .nil,.sl [] .nil,iv 0,iv 0,iv 0,iv 0,.bool false])] }) ?_ (k0:=0) cO ⟨(ov11),(ol12),H8,(by (simp_all [Row.j6])),(by (intro x hx; exact q1.line x (by simp_all [Row.j6]))),(by (rw [hLn.1]; exact fun i h h2=>⟨rfl,rfl,Iff.rfl⟩)),(by exact hLn.2),hS9,rfl,rfl⟩
 rintro lE e h hkk13 ⟨v14,l15,H16,hL,hE,hN,hV,hS17,he,hh⟩
 refine gm he hh ?_
 clear he hh
 refine aa ?_
 refine gl ((lE:Int)) ((ol12.length:Int)) (fun h18=>?_) (fun h18=>?_)
 refine bL ?_
 refine qd ?_
 iterate 6 refine rV ?_
 have hx19:lE<l15.length:=by first | omega | (simp<;>omega) | (simp_all; omega)
 obtain ⟨x20,hqx20⟩:∃ x,l15[lE]=x:=⟨_,rfl⟩
 have hinx20:x20∈l15:=by rw [← hqx20]; exact List.getElem_mem _
 have hsx20:=hE _ hinx20
 refine me rfl rfl (ji (H:=H16) (i:=0) (m:=lE) (cs:=fY.cells x20) hS17 rfl rfl rfl rfl rfl rfl rfl (iq hx19 hqx20)) ?_
 rintro a21 ⟨ha22,hea23⟩
 refine ga rfl rfl (fun _=>EA.w4 hea23 rfl rfl rfl ha22) ?_
 refine ga rfl rfl (fun _=>ko (H:=H16) (i:=0) (m:=lE) (o:=1) (r:=Row.av fu x20.elems) (cs:=fY.cells x20) hS17 rfl (iq hx19 hqx20) hea23 rfl rfl rfl) ?_
 refine rC (Z1 (Row.j6 x20.elems) cG) ?_
 rintro _ ⟨r25,hc24,rfl⟩
 have hRN:=hc24
 have hx26:lE<l15.length:=by first | omega | (simp<;>omega) | (simp_all; omega)
 refine me rfl rfl (ji (H:=H16) (i:=0) (m:=lE) (cs:=fY.cells x20) hS17 rfl rfl rfl rfl rfl rfl rfl (iq hx26 hqx20)) ?_
 rintro a27 ⟨ha28,hea29⟩
 refine ga rfl rfl (fun _=>EA.w4 hea29 rfl rfl rfl ha28) ?_
 refine gS rfl rfl (od (H:=H16) (i:=0) (m:=lE) (o:=1) x20 (⟨x20.name,r25⟩:fY) hS17 rfl hx26 hqx20 hea29 rfl rfl rfl rfl rfl rfl) ?_
 rintro _ H30 ⟨rfl,hS31⟩
 refine cg ?_
 refine gy ((lE:Int)) (1) ?_
 refine ab ?_
 exact ⟨by omega,(v14),((l15.set lE (⟨x20.name,r25⟩:fY))),H30,d4,(by exact yh hE (by show List.length (Row.l _)≤60; rw [hRN.1]; assumption)),(by (refine FK (x:=?x) hN ?h1 ?h2 ?h3; (case h2=>assumption); exact ⟨rfl,hRN⟩)),(by exact hV),hS31,rfl,rfl⟩
 refine aj ?_
 refine ai ?_
 refine fq rfl (fun _=>wH rfl rfl rfl rfl (fD rfl (fD rfl (fD rfl (fD (Sep.cell (i:=0) hS17 rfl) (fD rfl (fD rfl (fD rfl (fD rfl (fD rfl gJ))))))))) rfl rfl) ?_
 refine oN ?_
 refine qr ?_
 obtain ⟨r32,hl33,hnn,hf34⟩:=qD (H:=H16) (i:=0) (l:=l15) (enc:=fY.cells) hS17 rfl cH
 have hlq:=hl33; have hln36:=congrArg List.length hl33
 have hz35:∀ m,freeze false { H16 with aq:=[(1,[Row.av gf.cells r2,Row.av gj.cells r4,Row.av gg.cells r6,v14,iv a0.top,iv a0.gE,iv a0.gv,iv a0.gz,.bool a0.gO]),(2,[Row.av gf.cells r2,Row.av gj.cells r4,Row.av gg.cells r6,v14,iv a0.top,iv a0.gE,iv a0.gv,iv a0.gz,.bool a0.gO])] } (m+2) v14=some (Row.av fY.cells r32):=fun m=>hf34 _ _ (fun _=>by simp only [fY.cells,gr,jC,ju,jK,jH,j1])
 exact ⟨.agg [Row.av gf.cells r2,Row.av gj.cells r4,Row.av gg.cells r6,v14,iv a0.top,iv a0.gE,iv a0.gv,iv a0.gz,.bool a0.gO],(iB (vs:=[.agg [Row.av gf.cells r2,Row.av gj.cells r4,Row.av gg.cells r6,v14,iv a0.top,iv a0.gE,iv a0.gv,iv a0.gz,.bool a0.gO]]) rfl rfl),.agg [Row.av gf.cells r2,Row.av gj.cells r4,Row.av gg.cells r6,Row.av fY.cells r32,iv a0.top,iv a0.gE,iv a0.gv,iv a0.gz,.bool a0.gO],(show freeze false { H16 with aq:=[(1,[Row.av gf.cells r2,Row.av gj.cells r4,Row.av gg.cells r6,v14,iv a0.top,iv a0.gE,iv a0.gv,iv a0.gz,.bool a0.gO]),(2,[Row.av gf.cells r2,Row.av gj.cells r4,Row.av gg.cells r6,v14,iv a0.top,iv a0.gE,iv a0.gv,iv a0.gz,.bool a0.gO])] } 8 (.agg [Row.av gf.cells r2,Row.av gj.cells r4,Row.av gg.cells r6,v14,iv a0.top,iv a0.gE,iv a0.gv,iv a0.gz,.bool a0.gO])=some (.agg [Row.av gf.cells r2,Row.av gj.cells r4,Row.av gg.cells r6,Row.av fY.cells r32,iv a0.top,iv a0.gE,iv a0.gv,iv a0.gz,.bool a0.gO]) by simp only [FZ,hz35]),(⟨r2,r4,r6,r32,(a0.top),(a0.gE),(a0.gv),(a0.gz),(a0.gO)⟩:fh),(by refine ⟨⟨by assumption,by assumption,by assumption,hnn.trans hV,by simp_all,?_,rfl,rfl,rfl,rfl,rfl⟩,by simp_all⟩; simp_all),rfl⟩
theorem Pu:aT 58=some (pb cfg FT jm 58):=by rfl
def P58 (_a0:fh) (v:AV):Prop:=∃ r0:fh,(r0.elems.l = _a0.elems.l∧r0.fQ.l = _a0.fQ.l∧r0.signals.l = _a0.signals.l∧r0.lines.l.length = _a0.lines.l.length∧(∀ x∈r0.lines.l,x.elems.l.length≤60)∧r0 = _a0.canon)∧v=.agg (fh.cells r0)
theorem t58 (a0:fh) (q1:jb a0) (h:ah):∃ v,fj cfg FT aT false 58 [.agg (fh.cells a0)] h v h∧P58 a0 v:=by
 obtain ⟨v,hc,r0,⟨h1,h2⟩,rfl⟩:=acg a0 q1 h
 refine ⟨_,D9 Pu hc,a0.canon,⟨rfl,rfl,rfl,by simp [fh.canon,Row.canon,Row.xL],?_,rfl⟩,BC h1⟩
 intro x hx
 simp only [fh.canon,Row.canon,Row.xL,List.mem_map] at hx
 obtain ⟨y,hy,rfl⟩:=hx
 exact q1.line y hy
theorem Wr:FT 24=some F5:=by kernel_rfl
theorem Ox:aT 24=none:=by kernel_rfl
def Zi (_a0:fh) (v:AV):Prop:=(∃ r0:fk,(mW r0 _a0)∧v=.fz [.ip (fk.cells r0) 0 false,iv 0])∨(∃ r1:Int,(r1≠0)∧v=.fz [.ia,iv r1])
theorem Qk (a0:fh) (q1:jb a0) (h:ah):∃ v,fj cfg FT aT false 24 [.agg (fh.cells a0)] h v h∧Zi a0 v:=by
 refine fS Ox Wr rfl rfl ?_
 have q2:=q1.fQ; have q3:=q1.signals; have q4:=q1.lines
 refine ae ?_
 refine ak ?_
 refine oC (t57 a0) ?_
 rintro _ ⟨r2,hc1,rfl⟩
 have hC89:=hc1
 refine bP ?_
 refine iJ (r2) (0) (fun h3=>?_) (fun h3=>?_)
 refine aA ?_
 refine aD ?_
 refine xF (.fz [.ia,iv r2]) (.inr (⟨r2,eV,rfl⟩))
 refine az ?_
 refine ai ?_
 refine oC (t58 a0 cG) ?_
 rintro _ ⟨r5,hc4,rfl⟩
 have hC90:=hc4
 refine gd (H:=ah.empty) rfl (iH gI) ?_
 rintro _ H7 ⟨b6,rfl,hS8⟩
 refine gd (H:=H7) rfl (iH hS8) ?_
 rintro _ H10 ⟨b9,rfl,hS11⟩
 refine gd (H:=H10) rfl (iH hS11) ?_
 rintro _ H13 ⟨b12,rfl,hS14⟩
 refine gd (H:=H13) rfl (iH hS14) ?_
 rintro _ H16 ⟨b15,rfl,hS17⟩
 refine oV ?_
 refine gd (H:=H16) rfl (iz hS17 rfl rfl rfl rfl rfl) ?_
 rintro _ H19 ⟨b18,rfl,hS20⟩
 refine ab ?_
 refine aW ?_
 have hL21:=a0.fQ.lk
 refine gG a0.fQ ?_
 refine aC ?_
 have hNk22:=a0.fQ.lk
 refine fC (a0.fQ.l.length) (fun iL e h=>∃ l23:List (bY×bY),∃ H24:ah,(∀ x:bY,look x l23=jE (a0.fQ.l.take iL) x)∧(l23.length≤2*iL)∧Sep H24 (.obj (.ptr b18 0 0 0) [Row.av gf.cells r5.elems,Row.av gj.cells r5.fQ,Row.av gg.cells r5.signals,Row.av fY.cells r5.lines,iv r5.top,iv r5.gE,iv r5.gv,iv r5.gz,.bool r5.gO,(.hm b6),(.hm b9),(.hm b12),(.hm b15)]::.map (.hm b15) (gn iK iK [])::.map (.hm b12) (gn iK pG [])::.map (.hm b9) (gn pK iK [])::.map (.hm b6) (gn pK pK l23)::[])∧proj [1,5,31,32,33] e=[(1,.la 1 0),(5,(.ptr b18 0 0 0)),(31,Row.av gj.cells a0.fQ),(32,iv (a0.fQ.l.length:Int)),(33,iv (iL:Int))]∧{ h with aq:=fU [1,5,31,32,33] h.aq } = { H24 with aq:=[(1,(fh.cells a0))] }) ?_ (k0:=0) cO ⟨([]),H19,(by (intro x; rfl)),ef,hS20,rfl,rfl⟩
 rintro iL e h hkk22 ⟨l23,H24,hD,hN,hS25,he,hh⟩
 refine gm he hh ?_
 clear he hh
 refine aa ?_
 refine gl ((iL:Int)) ((a0.fQ.l.length:Int)) (fun h26=>?_) (fun h26=>?_)
 refine bI ?_
 have hx27:iL<a0.fQ.l.length:=by omega
 refine iU iL a0.fQ hx27 ?_
 generalize hqx28:a0.fQ.l[iL]=x28
 refine aX ?_
 refine qd ?_
 refine rV ?_
 refine kM 0 hS25 ?_
 refine kj 0 hS25 ?_
 refine lR 0 hS25 ((.hm b6)) ?_
 iterate 3 refine rV ?_
 refine kM 0 hS25 ?_
 refine kj 0 hS25 ?_
 refine lR 0 hS25 ((.hm b6)) ?_
 iterate 6 refine rV ?_
 refine qv (H:=H24) rfl rfl (oe (H:=H24) (i:=4) (ek:=pK) (ev:=pK) (l:=l23) x28.a x28.b hS25 rfl rfl rfl rfl rfl rfl rfl rfl rfl ja) ?_
 rintro _ H29 ⟨w30,n31,H32,rfl,hop33,hS34⟩
 refine ⟨fun call=>(zo (kS rfl rfl rfl rfl rfl dP) (zo (kS rfl rfl rfl rfl rfl dP) (we (kS rfl rfl rfl rfl rfl dP)))),?_⟩
 refine rV ?_
 refine ze rfl rfl ⟨0,fun _ _=>hop33 _ _ _ _ _ _ _ _ rfl rfl rfl⟩ (fun call=>(zo (kS rfl rfl rfl rfl rfl dP) (we (kS rfl rfl rfl rfl rfl dP)))) ?_
 refine qv (H:=H32) rfl rfl (oe (H:=H32) (i:=4) (ek:=pK) (ev:=pK) (l:=(put x28.a x28.b l23)) x28.b x28.a hS34 rfl rfl rfl rfl rfl rfl rfl rfl rfl ja) ?_
 rintro _ H35 ⟨w36,n37,H38,rfl,hop39,hS40⟩
 refine ⟨fun call=>(we (kS rfl rfl rfl rfl rfl dP)),?_⟩
 refine rV ?_
 refine ga rfl rfl (fun _=>hop39 _ _ _ _ _ _ _ _ rfl rfl rfl) ?_
 refine cg ?_
 refine gy ((iL:Int)) (1) ?_
 refine ab ?_
 exact ⟨by omega,((put x28.b x28.a (put x28.a x28.b l23))),H38,(by exact HZ cP cP (hC89 cO).1 hD),(by exact GQ hN),hS40,rfl,rfl⟩
 refine aj ?_
 refine aW ?_
 have hL41:=a0.signals.lk
 refine gG a0.signals ?_
 refine aC ?_
 have hNk42:=a0.signals.lk
 refine fC (a0.signals.l.length) (fun rM e h=>∃ l43:List (bY×Int),∃ H44:ah,(∀ x:bY,look x l43=oi (a0.signals.l.take rM) x)∧Sep H44 (.obj (.ptr b18 0 0 0) [Row.av gf.cells r5.elems,Row.av gj.cells r5.fQ,Row.av gg.cells r5.signals,Row.av fY.cells r5.lines,iv r5.top,iv r5.gE,iv r5.gv,iv r5.gz,.bool r5.gO,(.hm b6),(.hm b9),(.hm b12),(.hm b15)]::.map (.hm b15) (gn iK iK [])::.map (.hm b12) (gn iK pG [])::.map (.hm b9) (gn pK iK l43)::.map (.hm b6) (gn pK pK l23)::[])∧proj [1,5,59,60,61] e=[(1,.la 1 0),(5,(.ptr b18 0 0 0)),(59,Row.av gg.cells a0.signals),(60,iv (a0.signals.l.length:Int)),(61,iv (rM:Int))]∧{ h with aq:=fU [1,5,59,60,61] h.aq } = { H44 with aq:=[(1,(fh.cells a0))] }) ?_ (k0:=0) cO ⟨([]),H24,(by (intro x; rfl)),hS25,rfl,rfl⟩
 rintro rM e h hkk42 ⟨l43,H44,hR,hS45,he,hh⟩
 refine gm he hh ?_
 clear he hh
 refine aa ?_
 refine gl ((rM:Int)) ((a0.signals.l.length:Int)) (fun h46=>?_) (fun h46=>?_)
 refine bU ?_
 have hx47:rM<a0.signals.l.length:=by omega
 refine iU rM a0.signals hx47 ?_
 generalize hqx48:a0.signals.l[rM]=x48
 refine bM ?_
 refine qd ?_
 refine rV ?_
 refine kM 0 hS45 ?_
 refine kj 0 hS45 ?_
 refine lR 0 hS45 ((.hm b9)) ?_
 iterate 3 refine rV ?_
 refine gS (H:=H44) rfl rfl (jS (H:=H44) (i:=3) (ek:=pK) (ev:=iK) (l:=l43) x48.at_ ((rM:Int)) hS45 rfl rfl rfl rfl rfl rfl ja) ?_
 rintro _ H49 ⟨rfl,hS50⟩
 refine cg ?_
 refine gy ((rM:Int)) (1) ?_
 refine ab ?_
 exact ⟨by omega,((put x48.at_ ((rM:Int)) l43)),H49,(by exact CL cP cP (hC89 cO).2.1 hR),hS50,rfl,rfl⟩
 refine aj ?_
 refine aW ?_
 have hL51:=a0.lines.lk
 refine gG a0.lines ?_
 refine aC ?_
 have hNk52:=a0.lines.lk
 refine fC (a0.lines.l.length) (fun mh e h=>∃ l53:List (Int×Int),∃ l54:List (Int×(Int×Int)),∃ H55:ah,Sep H55 (.obj (.ptr b18 0 0 0) [Row.av gf.cells r5.elems,Row.av gj.cells r5.fQ,Row.av gg.cells r5.signals,Row.av fY.cells r5.lines,iv r5.top,iv r5.gE,iv r5.gv,iv r5.gz,.bool r5.gO,(.hm b6),(.hm b9),(.hm b12),(.hm b15)]::.map (.hm b15) (gn iK iK l53)::.map (.hm b12) (gn iK pG l54)::.map (.hm b9) (gn pK iK l43)::.map (.hm b6) (gn pK pK l23)::[])∧proj [5,75,76,77] e=[(5,(.ptr b18 0 0 0)),(75,Row.av fY.cells a0.lines),(76,iv (a0.lines.l.length:Int)),(77,iv (mh:Int))]∧{ h with aq:=fU [5,75,76,77] h.aq } = { H55 with aq:=[] }) ?_ (k0:=0) cO ⟨([]),([]),H44,hS45,rfl,rfl⟩
 rintro mh e h hkk52 ⟨l53,l54,H55,hS56,he,hh⟩
 refine gm he hh ?_
 clear he hh
 refine aa ?_
 refine gl ((mh:Int)) ((a0.lines.l.length:Int)) (fun h57=>?_) (fun h57=>?_)
 refine bU ?_
 have hx58:mh<a0.lines.l.length:=by omega
 refine iU mh a0.lines hx58 ?_
 generalize hqx59:a0.lines.l[mh]=x59
 have hinx59:x59∈a0.lines.l:=by rw [← hqx59]; exact List.getElem_mem _
 have hsx59:=q1.line x59 hinx59
 refine bM ?_
 refine aU ?_
 refine wE (fun E Z=>(E=[(5,(.ptr b18 0 0 0)),(10,iv (mh:Int)),(11,.la 11 0),(12,iv 1),(75,Row.av fY.cells a0.lines),(76,iv (a0.lines.l.length:Int)),(77,iv (mh:Int))]∧Z = { H55 with aq:=[(11,(fY.cells x59))] })∨(E=[(5,(.ptr b18 0 0 0)),(10,iv (mh:Int)),(11,.la 11 0),(12,iv 0),(75,Row.av fY.cells a0.lines),(76,iv (a0.lines.l.length:Int)),(77,iv (mh:Int))]∧Z = { H55 with aq:=[(11,(fY.cells x59))] })) ?_ ?_
 rintro _ _ (⟨rfl,rfl⟩ | ⟨rfl,rfl⟩)
 refine ae ?_
 have hL60:=x59.elems.lk
 refine gG x59.elems ?_
 refine aC ?_
 have hNk61:=x59.elems.lk
 refine fC (x59.elems.l.length) (fun kX e h=>∃ l62:List (Int×Int),∃ l63:List (Int×(Int×Int)),∃ n64:Int,∃ H65:ah,Sep H65 (.obj (.ptr b18 0 0 0) [Row.av gf.cells r5.elems,Row.av gj.cells r5.fQ,Row.av gg.cells r5.signals,Row.av fY.cells r5.lines,iv r5.top,iv r5.gE,iv r5.gv,iv r5.gz,.bool r5.gO,(.hm b6),(.hm b9),(.hm b12),(.hm b15)]::.map (.hm b15) (gn iK iK l62)::.map (.hm b12) (gn iK pG l63)::.map (.hm b9) (gn pK iK l43)::.map (.hm b6) (gn pK pK l23)::[])∧proj [5,10,12,75,76,77,110,111,112] e=[(5,(.ptr b18 0 0 0)),(10,iv (mh:Int)),(12,iv n64),(75,Row.av fY.cells a0.lines),(76,iv (a0.lines.l.length:Int)),(77,iv (mh:Int)),(110,Row.av fu x59.elems),(111,iv (x59.elems.l.length:Int)),(112,iv (kX:Int))]∧{ h with aq:=fU [5,10,12,75,76,77,110,111,112] h.aq } = { H65 with aq:=[] }) ?_ (k0:=0) cO ⟨(l53),(l54),(1),H55,hS56,rfl,rfl⟩
 rintro kX e h hkk61 ⟨l62,l63,n64,H65,hS66,he,hh⟩
 refine gm he hh ?_
 clear he hh
 refine aa ?_
 refine gl ((kX:Int)) ((x59.elems.l.length:Int)) (fun h67=>?_) (fun h67=>?_)
 refine bU ?_
 have hx68:kX<x59.elems.l.length:=by omega
 refine iU kX x59.elems hx68 ?_
 generalize hqx69:x59.elems.l[kX]=x69
 refine aX ?_
 refine cf ?_
 refine kM 0 hS66 ?_
 refine kj 0 hS66 ?_
 refine lR 0 hS66 ((.hm b12)) ?_
 iterate 2 refine rV ?_
 refine kM 0 hS66 ?_
 refine kj 0 hS66 ?_
 refine lR 0 hS66 ((.hm b15)) ?_
 iterate 5 refine rV ?_
 refine gS (H:=H65) rfl rfl (oe (H:=H65) (i:=2) (ek:=iK) (ev:=pG) (l:=l63) (x69) (((mh:Int),(kX:Int))) hS66 rfl rfl rfl rfl rfl rfl rfl rfl rfl lq) ?_
 rintro _ H70 ⟨w71,n72,H73,rfl,hop74,hS75⟩
 refine rV ?_
 refine ga rfl rfl (fun _=>hop74 _ _ _ _ _ _ _ _ rfl rfl rfl) ?_
 refine gS (H:=H73) rfl rfl (oe (H:=H73) (i:=1) (ek:=iK) (ev:=iK) (l:=l62) (x69) (n64) hS75 rfl rfl rfl rfl rfl rfl rfl rfl rfl lq) ?_
 rintro _ H76 ⟨w77,n78,H79,rfl,hop80,hS81⟩
 refine rV ?_
 refine ga rfl rfl (fun _=>hop80 _ _ _ _ _ _ _ _ rfl rfl rfl) ?_
 refine rN ?_
 refine aL ?_
 refine lP 0 hS81 ?_
 refine iN 0 hS81 ?_
 refine ix 0 hS81 ((.hm b6)) ?_
 iterate 2 refine oV ?_
 refine fq rfl (fun _=>gY rfl rfl rfl (nb .i64 (1) (n64))) ?_
 refine oV ?_
 refine jG (H:=H79) (i:=4) (ek:=pK) (ev:=pK) (l:=l23) ((⟨(x69),(IntKind.i64.wrap (1 - (n64)))⟩:bY)) rfl rfl hS81 rfl rfl rfl rfl rfl rfl rfl rfl ja (fun y82 h83=>?_) (fun h84=>?_)
 refine aw ?_
 refine qg ?_
 refine gy ((kX:Int)) (1) ?_
 refine ab ?_
 exact ⟨by omega,((put (x69) (n64) l62)),((put (x69) (((mh:Int),(kX:Int))) l63)),(y82.en),H79,hS81,rfl,rfl⟩
 refine aw ?_
 refine qg ?_
 refine gy ((kX:Int)) (1) ?_
 refine ab ?_
 exact ⟨by omega,((put (x69) (n64) l62)),((put (x69) (((mh:Int),(kX:Int))) l63)),(0),H79,hS81,rfl,rfl⟩
 refine aj ?_
 refine qg ?_
 refine gy ((mh:Int)) (1) ?_
 refine ab ?_
 exact ⟨by omega,(l62),(l63),H65,hS66,rfl,rfl⟩
 refine ae ?_
 have hL85:=x59.elems.lk
 refine gG x59.elems ?_
 refine aC ?_
 have hNk86:=x59.elems.lk
 refine fC (x59.elems.l.length) (fun k86 e h=>∃ l87:List (Int×Int),∃ l88:List (Int×(Int×Int)),∃ n89:Int,∃ H90:ah,Sep H90 (.obj (.ptr b18 0 0 0) [Row.av gf.cells r5.elems,Row.av gj.cells r5.fQ,Row.av gg.cells r5.signals,Row.av fY.cells r5.lines,iv r5.top,iv r5.gE,iv r5.gv,iv r5.gz,.bool r5.gO,(.hm b6),(.hm b9),(.hm b12),(.hm b15)]::.map (.hm b15) (gn iK iK l87)::.map (.hm b12) (gn iK pG l88)::.map (.hm b9) (gn pK iK l43)::.map (.hm b6) (gn pK pK l23)::[])∧proj [5,10,12,75,76,77,110,111,112] e=[(5,(.ptr b18 0 0 0)),(10,iv (mh:Int)),(12,iv n89),(75,Row.av fY.cells a0.lines),(76,iv (a0.lines.l.length:Int)),(77,iv (mh:Int)),(110,Row.av fu x59.elems),(111,iv (x59.elems.l.length:Int)),(112,iv (k86:Int))]∧{ h with aq:=fU [5,10,12,75,76,77,110,111,112] h.aq } = { H90 with aq:=[] }) ?_ (k0:=0) cO ⟨(l53),(l54),(0),H55,hS56,rfl,rfl⟩
 rintro k86 e h hkk86 ⟨l87,l88,n89,H90,hS91,he,hh⟩
 refine gm he hh ?_
 clear he hh
 refine aa ?_
 refine gl ((k86:Int)) ((x59.elems.l.length:Int)) (fun h92=>?_) (fun h92=>?_)
 refine bU ?_
 have hx93:k86<x59.elems.l.length:=by omega
 refine iU k86 x59.elems hx93 ?_
 generalize hqx94:x59.elems.l[k86]=x94
 refine aX ?_
 refine cf ?_
 refine kM 0 hS91 ?_
 refine kj 0 hS91 ?_
 refine lR 0 hS91 ((.hm b12)) ?_
 iterate 2 refine rV ?_
 refine kM 0 hS91 ?_
 refine kj 0 hS91 ?_
 refine lR 0 hS91 ((.hm b15)) ?_
 iterate 5 refine rV ?_
 refine gS (H:=H90) rfl rfl (oe (H:=H90) (i:=2) (ek:=iK) (ev:=pG) (l:=l88) (x94) (((mh:Int),(k86:Int))) hS91 rfl rfl rfl rfl rfl rfl rfl rfl rfl lq) ?_
 rintro _ H95 ⟨w96,n97,H98,rfl,hop99,hS100⟩
 refine rV ?_
 refine ga rfl rfl (fun _=>hop99 _ _ _ _ _ _ _ _ rfl rfl rfl) ?_
 refine gS (H:=H98) rfl rfl (oe (H:=H98) (i:=1) (ek:=iK) (ev:=iK) (l:=l87) (x94) (n89) hS100 rfl rfl rfl rfl rfl rfl rfl rfl rfl lq) ?_
 rintro _ H101 ⟨w102,n103,H104,rfl,hop105,hS106⟩
 refine rV ?_
 refine ga rfl rfl (fun _=>hop105 _ _ _ _ _ _ _ _ rfl rfl rfl) ?_
 refine rN ?_
 refine aL ?_
 refine lP 0 hS106 ?_
 refine iN 0 hS106 ?_
 refine ix 0 hS106 ((.hm b6)) ?_
 iterate 2 refine oV ?_
 refine fq rfl (fun _=>gY rfl rfl rfl (nb .i64 (1) (n89))) ?_
 refine oV ?_
 refine jG (H:=H104) (i:=4) (ek:=pK) (ev:=pK) (l:=l23) ((⟨(x94),(IntKind.i64.wrap (1 - (n89)))⟩:bY)) rfl rfl hS106 rfl rfl rfl rfl rfl rfl rfl rfl ja (fun y107 h108=>?_) (fun h109=>?_)
 refine aw ?_
 refine qg ?_
 refine gy ((k86:Int)) (1) ?_
 refine ab ?_
 exact ⟨by omega,((put (x94) (n89) l87)),((put (x94) (((mh:Int),(k86:Int))) l88)),(y107.en),H104,hS106,rfl,rfl⟩
 refine aw ?_
 refine qg ?_
 refine gy ((k86:Int)) (1) ?_
 refine ab ?_
 exact ⟨by omega,((put (x94) (n89) l87)),((put (x94) (((mh:Int),(k86:Int))) l88)),(0),H104,hS106,rfl,rfl⟩
 refine aj ?_
 refine qg ?_
 refine gy ((mh:Int)) (1) ?_
 refine ab ?_
 exact ⟨by omega,(l87),(l88),H90,hS91,rfl,rfl⟩
 refine ae ?_
 have hL110:=x59.elems.lk
 refine gG x59.elems ?_
 refine g9 ((x59.elems.l.length:Int)) (1) (fun h111=>?_) (fun h111=>?_)
 refine aA ?_
 refine cf ?_
 refine kM 0 hS56 ?_
 refine kj 0 hS56 ?_
 refine lR 0 hS56 ((.hm b6)) ?_
 iterate 2 refine rV ?_
 have hx112:0<x59.elems.l.length:=by omega
 refine lO 0 x59.elems hx112 ?_
 generalize hqx113:x59.elems.l[0]=x113
 iterate 2 refine rV ?_
 refine EL (H:=H55) (i:=4) (ek:=pK) (ev:=pK) (l:=l23) ((⟨(x113),(0)⟩:bY)) rfl rfl rfl hS56 rfl rfl rfl rfl rfl rfl rfl rfl ja (fun y114 h115=>?_) (fun h116=>?_)
 refine br ?_
 refine bR ?_
 refine rV ?_
 have hx117:1<x59.elems.l.length:=by omega
 refine lO 1 x59.elems hx117 ?_
 generalize hqx118:x59.elems.l[1]=x118
 refine rV ?_
 refine wv (y114.elem) (x118) (fun h119=>?_) (fun h119=>?_)
 refine cE ?_
 refine qg ?_
 refine ab ?_
 exact .inl ⟨rfl,rfl⟩
 refine bB ?_
 exact .inr (⟨rfl,rfl⟩)
 refine br ?_
 refine a6 ?_
 iterate 7 refine rS ?_
 refine bB ?_
 exact .inr (⟨rfl,rfl⟩)
 refine az ?_
 exact .inr (⟨rfl,rfl⟩)
 refine aj ?_
 refine aD ?_
 have hz120:∀ m,freeze false { H55 with aq:=[] } (m+3) (.hm b6)=some (.fm (gn pK pK l23) false):=fun m=>lS (i:=4) hS56 rfl _ _ (sA fun _=>rfl)
 have hz121:∀ m,freeze false { H55 with aq:=[] } (m+3) (.hm b9)=some (.fm (gn pK iK l43) false):=fun m=>lS (i:=3) hS56 rfl _ _ (sA fun _=>rfl)
 have hz122:∀ m,freeze false { H55 with aq:=[] } (m+3) (.hm b12)=some (.fm (gn iK pG l54) false):=fun m=>lS (i:=2) hS56 rfl _ _ (sA fun _=>rfl)
 have hz123:∀ m,freeze false { H55 with aq:=[] } (m+3) (.hm b15)=some (.fm (gn iK iK l53) false):=fun m=>lS (i:=1) hS56 rfl _ _ (sA fun _=>rfl)
 have hz124:∀ m,freeze false { H55 with aq:=[] } (m+4) (.ptr b18 0 0 0)=some (.ip [Row.av gf.cells r5.elems,Row.av gj.cells r5.fQ,Row.av gg.cells r5.signals,Row.av fY.cells r5.lines,iv r5.top,iv r5.gE,iv r5.gv,iv r5.gz,.bool r5.gO,.fm (gn pK pK l23) false,.fm (gn pK iK l43) false,.fm (gn iK pG l54) false,.fm (gn iK iK l53) false] 0 false):=fun m=>iS (i:=0) hS56 rfl _ _ (by simp only [FZ,hz120,hz121,hz122,hz123])
 refine ⟨.fz [(.ptr b18 0 0 0),iv 0],rfl,.fz [.ip [Row.av gf.cells r5.elems,Row.av gj.cells r5.fQ,Row.av gg.cells r5.signals,Row.av fY.cells r5.lines,iv r5.top,iv r5.gE,iv r5.gv,iv r5.gz,.bool r5.gO,.fm (gn pK pK l23) false,.fm (gn pK iK l43) false,.fm (gn iK pG l54) false,.fm (gn iK iK l53) false] 0 false,iv 0],(show freeze false { H55 with aq:=[] } 8 (.fz [(.ptr b18 0 0 0),iv 0])=some (.fz [.ip [Row.av gf.cells r5.elems,Row.av gj.cells r5.fQ,Row.av gg.cells r5.signals,Row.av fY.cells r5.lines,iv r5.top,iv r5.gE,iv r5.gv,iv r5.gz,.bool r5.gO,.fm (gn pK pK l23) false,.fm (gn pK iK l43) false,.fm (gn iK pG l54) false,.fm (gn iK iK l53) false] 0 false,iv 0]) by simp only [FZ,hz120,hz121,hz122,hz123,hz124]),.inl ⟨(⟨r5,l23,l43,l54,l53⟩:fk),eV,rfl⟩⟩
def P24 (_a0:fh) (v:AV):Prop:=(∃ r0:fk,((mW r0 _a0)∧rs 24 [.agg (fh.cells _a0)]=.fz [.ip (fk.cells r0) 0 false,iv 0])∧v=.fz [.ip (fk.cells r0) 0 false,iv 0])∨(∃ r1:Int,((r1≠0)∧rs 24 [.agg (fh.cells _a0)]=.fz [.ia,iv r1])∧v=.fz [.ia,iv r1])
theorem t24 (a0:fh) (q1:jb a0) (h:ah):∃ v,fj cfg FT aT false 24 [.agg (fh.cells a0)] h v h∧P24 a0 v:=by
 obtain ⟨v,hc,hP,hr⟩:=kg mQ (Qk a0 q1) h
 rcases hP with ⟨r0,hp,rfl⟩ | ⟨r1,hp,rfl⟩
 ·exact ⟨_,hc,.inl ⟨r0,⟨hp,hr⟩,rfl⟩⟩
 ·exact ⟨_,hc,.inr (⟨r1,⟨hp,hr⟩,rfl⟩)⟩
theorem Ew (a0:fh) (q1:jb a0) {V:AV} (hV:rs 24 [.agg (fh.cells a0)]=V) (h:ah):∃ v,fj cfg FT aT false 24 [.agg (fh.cells a0)] h v h∧v=V:=by
 obtain ⟨v,hc,hP,hr⟩:=kg mQ (Qk a0 q1) h
 exact ⟨v,hc,hr.symm.trans hV⟩
theorem PM:FT 235=some Em:=by kernel_rfl
theorem Mu:aT 235=none:=by kernel_rfl
def ZH (_a0:Int) (_a1:Int) (v:AV):Prop:=∃ r0:Bool,(True)∧v=.bool r0
theorem t235 (a0:Int) (a1:Int)  (h:ah):∃ v,fj cfg FT aT false 235 [iv a0,iv a1] h v h∧ZH a0 a1 v:=by
 refine fS Mu PM rfl rfl ?_
 refine aa ?_
 refine bP ?_
 refine jg (a0) (1) (fun h1=>?_) (fun h1=>?_)
 iterate 3 refine oV ?_
 refine o5 (a0) (a1) (fun h2=>?_) (fun h2=>?_)
 refine aS ?_
 exact xA (.bool true) ⟨true,trivial,rfl⟩
 refine aS ?_
 exact xA (.bool false) ⟨false,trivial,rfl⟩
 refine bD ?_
 refine aS ?_
 exact xA (.bool false) ⟨false,trivial,rfl⟩
end Go.Sx
