/- Proves what some functions of the program answer, by walking through them. -/
import Derived.Test.YtlhainfgnlmhfaaGreatTaj
import Derived.Test.YtlhainfgnlmhfaaGreatTak
import Derived.Test.YtlhainfgnlmhfaaGreatTam
set_option linter.all false
set_option maxRecDepth 100000
set_option maxHeartbeats 0
namespace Go.Sx
open Go Go.Proofs
theorem QP:eG.get 92=some CB:=by kernel_rfl
theorem LP:ei 92=none:=by kernel_rfl
def Wh (_a0:eE) (_a1:Int) (v:AV):Prop:=∃ r0:Row eF,(r0.l.length≤8192∧(∀ r∈(r0.l:List eF),0<r.steps.l.length∧r.steps.l.length≤12∧r.gU.l.length≤12))∧v=Row.av eF.cells r0
theorem t92 (a0:eE) (a1:Int)  (h:bY):∃ v,eH cfg eG.get ei false 92 [.ip (eE.cells a0) 0 false,iv a1] h v h∧Wh a0 a1 v:=by
 refine eW LP QP rfl rfl ?_
 refine aQ ?_
 refine oo ?_
 refine ae ?_
 refine oC (t19 a0 (a1)) ?_
 rintro _ ⟨r2,r3,hc1,rfl⟩
 have hA:=hc1
 cases r3
 refine bD ?_
 refine ai ?_
 exact xF (.sl [] .nil) ⟨(⟨[],.nil,Nat.zero_le _,rfl,fun _=>rfl⟩:Row eF),du,rfl⟩
 refine bD ?_
 refine aw ?_
 refine w0 [(0,.ip (eE.cells a0) 0 false),(1,iv a1),(5,.la 5 0)] [(5,(ed.cells r2))] ?_
 refine ae ?_
 refine oC (t80 a0 r2) ?_
 rintro _ ⟨r5,r6,hc4,rfl⟩
 have hN:=hc4
 cases r6
 refine bD ?_
 refine ai ?_
 exact xF (.sl [] .nil) ⟨(⟨[],.nil,Nat.zero_le _,rfl,fun _=>rfl⟩:Row eF),du,rfl⟩
 refine bD ?_
 refine aw ?_
 refine w0 [(0,.ip (eE.cells a0) 0 false),(1,iv a1),(5,.la 5 0),(7,.la 7 0)] [(5,(ed.cells r2)),(7,(ed.cells r5))] ?_
 refine aQ ?_
 refine aF ?_
 refine e7 (H:=bY.empty) rfl (mr gg rfl rfl rfl rfl rfl) ?_
 rintro _ H8 ⟨b7,rfl,hS9⟩
 refine ab ?_
 refine cf ?_
 have hS10:=Sep.iF hS9 9
 have hS11:=Sep.iF hS10 1
 have hS12:=Sep.iF hS11 3
 have hS13:=Sep.iF hS12 1
 have hS14:=Sep.pA (i:=0) hS13 rfl
 have hS15:=Sep.pA (i:=1) hS14 rfl
 have hS16:=Sep.pA (i:=2) hS15 rfl
 refine iC (fun m30 e h=>∃ v17:AV,∃ l18:List (Row fc),∃ v19:AV,∃ l20:List ew,∃ v21:AV,∃ l22:List Int,∃ v23:AV,∃ l24:List eF,∃ n25:Int,∃ n26:Int,∃ n27:Int,∃ H28:bY,m30=2*(wt l18+n7 l20.length)+l20.length∧(l20.length≤12∧l22.length=l20.length∧l24.length+wt l18+n7 l20.length≤8192)∧(l18.length=l20.length)∧((∀ r∈(l24:List eF),0<r.steps.l.length∧r.steps.l.length≤12∧r.gU.l.length≤12))∧Sep H28 (.sl true false v17 1 (List.map (gi fc.cells) l18)::.sl true false v19 3 (List.map ew.cells l20)::.sl true false v21 1 (List.map eu l22)::.sl true true v23 9 (List.map eF.cells l24)::.obj (.ptr b7 0 0 0) [iv n27,v19,v21,v17]::[])∧proj [0,1,7,8,9] e=[(0,.ip (eE.cells a0) 0 false),(1,iv a1),(7,.la 7 0),(8,v23),(9,(.ptr b7 0 0 0))]∧{ h with dO:=eV [0,1,7,8,9] h.dO } = { H28 with dO:=[(7,[iv n25,iv n26])] }) ?_ _ _ _ ⟨((.sl [] .nil)),(([]:List (Row fc))),((.sl [] .nil)),(([]:List ew)),((.sl [] .nil)),(([]:List Int)),((.sl [] .nil)),(([]:List eF)),(r5.elem),(r5.en),(r2.elem),H8,rfl,(by (simp [JK,Kx])),dv,dv,hS16,rfl,rfl⟩
 rintro m30 e h ⟨v17,l18,v19,l20,v21,l22,v23,l24,n25,n26,n27,H28,hmm30,hL,hL3,hRo,hS29,he,hh⟩
 refine ff he hh ?_
 clear he hh
 have hPp:l20.length≤12→1≤n7 l20.length:=s5
 refine qb ?_
 refine oo ?_
 refine kK (fun E Z=>∃ v31:AV,∃ l32:List (Row fc),∃ v33:AV,∃ l34:List ew,∃ v35:AV,∃ l36:List Int,∃ v37:AV,∃ l38:List eF,∃ H39:bY,(l34.length≤12∧l36.length=l34.length∧l38.length+wt l32≤8192∧2*wt l32+l34.length<m30)∧(l32.length=l34.length)∧((∀ r∈(l38:List eF),0<r.steps.l.length∧r.steps.l.length≤12∧r.gU.l.length≤12))∧Sep H39 (.sl true false v31 1 (List.map (gi fc.cells) l32)::.sl true false v33 3 (List.map ew.cells l34)::.sl true false v35 1 (List.map eu l36)::.sl true true v37 9 (List.map eF.cells l38)::.obj (.ptr b7 0 0 0) [iv n27,v33,v35,v31]::[])∧E=[(0,.ip (eE.cells a0) 0 false),(1,iv a1),(7,.la 7 0),(8,v37),(9,(.ptr b7 0 0 0))]∧Z = { H39 with dO:=[(7,[iv n25,iv n26])] }) ?_ ?_
 rintro _ _ ⟨v31,l32,v33,l34,v35,l36,v37,l38,H39,hL,hL3,hRo,hS40,rfl,rfl⟩
 have hPp:l34.length≤12→1≤n7 l34.length:=s5
 refine cf ?_
 refine iC (fun m51 e h=>∃ v41:AV,∃ l42:List (Row fc),∃ v43:AV,∃ l44:List ew,∃ v45:AV,∃ l46:List Int,∃ v47:AV,∃ l48:List eF,∃ H49:bY,m51=2*wt l42+l44.length∧(l44.length≤12∧l46.length=l44.length∧l48.length+wt l42≤8192∧2*wt l42+l44.length<m30)∧(l42.length=l44.length)∧((∀ r∈(l48:List eF),0<r.steps.l.length∧r.steps.l.length≤12∧r.gU.l.length≤12))∧Sep H49 (.sl true false v41 1 (List.map (gi fc.cells) l42)::.sl true false v43 3 (List.map ew.cells l44)::.sl true false v45 1 (List.map eu l46)::.sl true true v47 9 (List.map eF.cells l48)::.obj (.ptr b7 0 0 0) [iv n27,v43,v45,v41]::[])∧proj [0,1,7,8,9] e=[(0,.ip (eE.cells a0) 0 false),(1,iv a1),(7,.la 7 0),(8,v47),(9,(.ptr b7 0 0 0))]∧{ h with dO:=eV [0,1,7,8,9] h.dO } = { H49 with dO:=[(7,[iv n25,iv n26])] }) ?_ _ _ _ ⟨(v31),(l32),(v33),(l34),(v35),(l36),(v37),(l38),H39,rfl,cB,cB,(by exact hRo),hS40,(Eq.trans (b:=[(0,.ip (eE.cells a0) 0 false),(1,iv a1),(7,.la 7 0),(8,eB 8 v37),(9,(.ptr b7 0 0 0))]) rfl (by first | (rw [(show eB 8 v37=v37 from Sep.fh (i:=3) hS40 rfl 8)]; done) | (rw [(show eB 8 v37=v37 from Sep.fh (i:=3) hS40 rfl 8)]; rfl))),rfl⟩
 rintro m51 e h ⟨v41,l42,v43,l44,v45,l46,v47,l48,H49,hmm51,hL,hL3,hRo,hS50,he,hh⟩
 refine ff he hh ?_
 clear he hh
 have hPp:l44.length≤12→1≤n7 l44.length:=s5
 refine ak ?_
 refine eg rfl (fun _=>gh (H:=H49) (i:=4) hS50 rfl rfl) ?_
 refine eg rfl (fun _=>fq (H:=H49) (i:=4) hS50 rfl rfl rfl rfl rfl) ?_
 refine eg rfl (fun _=>eU (H:=H49) (i:=4) (o:=1) (r:=v43) hS50 rfl rfl rfl rfl) ?_
 refine eg rfl (fun _=>jb (H:=H49) (i:=1) (l:=l44) (enc:=ew.cells) hS50 rfl rfl rfl rfl rfl rfl rfl) ?_
 refine fW ((l44.length:Int)) (0) (fun h52=>?_) (fun h52=>?_)
 refine aX ?_
 refine wa [(0,.ip (eE.cells a0) 0 false),(1,iv a1),(7,.la 7 0),(8,v47),(9,(.ptr b7 0 0 0))] H49 [(7,[iv n25,iv n26])] ?_ (Eq.trans (b:=[(0,.ip (eE.cells a0) 0 false),(1,iv a1),(7,.la 7 0),(8,eB 8 v47),(9,(.ptr b7 0 0 0))]) rfl c9)
 refine qb ?_
 refine aj ?_
 refine eg rfl (fun _=>gh (H:=H49) (i:=4) hS50 rfl rfl) ?_
 refine eg rfl (fun _=>fq (H:=H49) (i:=4) hS50 rfl rfl rfl rfl rfl) ?_
 refine eg rfl (fun _=>eU (H:=H49) (i:=4) (o:=1) (r:=v43) hS50 rfl rfl rfl rfl) ?_
 refine eg rfl (fun _=>jb (H:=H49) (i:=1) (l:=l44) (enc:=ew.cells) hS50 rfl rfl rfl rfl rfl rfl rfl) ?_
 refine g7 ((l44.length:Int)) (1) ?_
 refine ab ?_
 refine ak ?_
 refine eg rfl (fun _=>gh (H:=H49) (i:=4) hS50 rfl rfl) ?_
 refine eg rfl (fun _=>fq (H:=H49) (i:=4) hS50 rfl rfl rfl rfl rfl) ?_
 refine eg rfl (fun _=>eU (H:=H49) (i:=4) (o:=3) (r:=v41) hS50 rfl rfl rfl rfl) ?_
 refine oV ?_
 have hk53:((((l44.length:Int) - 1).toNat:Nat):Int)=(l44.length:Int) - 1:=Int.toNat_of_nonneg cA
 have hx54:((l44.length:Int) - 1).toNat<l42.length:=by first | omega | (simp<;>omega) | (simp_all; omega)
 obtain ⟨x55,hqx55⟩:∃ x,l42[((l44.length:Int) - 1).toNat]=x:=⟨_,rfl⟩
 refine nu rfl (je (H:=H49) (i:=0) (m:=((l44.length:Int) - 1).toNat) (cs:=(gi fc.cells) x55) hS50 rfl rfl rfl rfl rfl rfl (congrArg (AV.int .i64) hk53.symm) (g9 hx54 hqx55)) ?_
 rintro a56 ⟨ha57,hea58⟩
 refine eg rfl (fun _=>kB (H:=H49) (i:=0) (m:=((l44.length:Int) - 1).toNat) (o:=0) (r:=Row.av fc.cells x55) (cs:=(gi fc.cells) x55) hS50 rfl (g9 hx54 hqx55) hea58 rfl rfl ha57) ?_
 have hL59:=x55.lk
 refine fA x55 ?_
 refine fj ((x55.l.length:Int)) (0) (fun h60=>?_) (fun h60=>?_)
 refine ay ?_
 refine aj ?_
 have hS61:Sep H49 (.obj (.ptr b7 0 0 0) [iv n27,v43,v45,v41]::.sl true false v43 3 (List.map ew.cells l44)::.sl true false v45 1 (List.map eu l46)::.sl true false v41 1 (List.map (gi fc.cells) l42)::.sl true true v47 9 (List.map eF.cells l48)::[]):=Sep.pick hS50 [4,1,2,0,3] 5 cG cG
 refine fU (H:=H49) (args:=[(.ptr b7 0 0 0)]) (p:=[]) (r:=[]) rfl rfl rfl rfl rfl rfl rfl (Vr b7 n27 v43 l44 v45 l46 v41 l42 (.sl true true v47 9 (List.map eF.cells l48)::[]) hS61 cq cq cq cq) ?_
 rintro _ H62 ⟨vso65,stepso66,vpo67,poso68,vlo69,lefto70,hc64,hS63,rfl⟩
 obtain ⟨hp1,hp2,hp3⟩:=hc64
 have hWt:wt lefto70=wt l42:=by rw [hp3]; exact BB cC cB cC cB
 have hp5:lefto70.length+1=l42.length:=by rw [hp3,List.length_take]; omega
 refine oN ?_
 refine qe ?_
 have hS71:Sep H62 (.sl true false vlo69 1 (List.map (gi fc.cells) lefto70)::.sl true false vso65 3 (List.map ew.cells stepso66)::.sl true false vpo67 1 (List.map eu poso68)::.sl true true v47 9 (List.map eF.cells l48)::.obj (.ptr b7 0 0 0) [iv n27,vso65,vpo67,vlo69]::[]):=Sep.pick hS63 [3,1,2,4,0] 5 cG cG
 refine ⟨_,?_,(vlo69),(lefto70),(vso65),(stepso66),(vpo67),(poso68),(v47),(l48),H62,rfl,cB,cB,cJ,hS71,(Eq.trans (b:=[(0,.ip (eE.cells a0) 0 false),(1,iv a1),(7,.la 7 0),(8,eB 8 v47),(9,(.ptr b7 0 0 0))]) rfl (by first | (rw [(show eB 8 v47=v47 from Sep.fh (i:=3) hS71 rfl 8)]; done) | (rw [(show eB 8 v47=v47 from Sep.fh (i:=3) hS71 rfl 8)]; rfl))),rfl⟩
 omega
 refine az ?_
 refine wa [(0,.ip (eE.cells a0) 0 false),(1,iv a1),(7,.la 7 0),(8,v47),(9,(.ptr b7 0 0 0)),(10,iv ((l44.length:Int) - 1))] H49 [(7,[iv n25,iv n26])] ?_ (Eq.trans (b:=[(0,.ip (eE.cells a0) 0 false),(1,iv a1),(7,.la 7 0),(8,eB 8 v47),(9,(.ptr b7 0 0 0)),(10,iv ((l44.length:Int) - 1))]) rfl c9)
 refine aj ?_
 refine eg rfl (fun _=>gh (H:=H49) (i:=4) hS50 rfl rfl) ?_
 refine eg rfl (fun _=>fq (H:=H49) (i:=4) hS50 rfl rfl rfl rfl rfl) ?_
 refine eg rfl (fun _=>eU (H:=H49) (i:=4) (o:=3) (r:=v41) hS50 rfl rfl rfl rfl) ?_
 refine oV ?_
 have hk72:((((l44.length:Int) - 1).toNat:Nat):Int)=(l44.length:Int) - 1:=Int.toNat_of_nonneg cA
 have hx73:((l44.length:Int) - 1).toNat<l42.length:=by first | omega | (simp<;>omega) | (simp_all; omega)
 refine nu rfl (je (H:=H49) (i:=0) (m:=((l44.length:Int) - 1).toNat) (cs:=(gi fc.cells) x55) hS50 rfl rfl rfl rfl rfl rfl (congrArg (AV.int .i64) hk72.symm) (g9 hx73 hqx55)) ?_
 rintro a74 ⟨ha75,hea76⟩
 refine eg rfl (fun _=>kB (H:=H49) (i:=0) (m:=((l44.length:Int) - 1).toNat) (o:=0) (r:=Row.av fc.cells x55) (cs:=(gi fc.cells) x55) hS50 rfl (g9 hx73 hqx55) hea76 rfl rfl ha75) ?_
 have hx77:0<x55.l.length:=by omega
 refine gL 0 x55 hx77 ?_
 generalize hqx78:x55.l[0]=x78
 refine aW ?_
 refine aN ?_
 refine rV ?_
 refine eI rfl rfl (fun _=>gh (H:=H49) (i:=4) hS50 rfl rfl) ?_
 refine eI rfl rfl (fun _=>fq (H:=H49) (i:=4) hS50 rfl rfl rfl rfl rfl) ?_
 refine eI rfl rfl (fun _=>eU (H:=H49) (i:=4) (o:=3) (r:=v41) hS50 rfl rfl rfl rfl) ?_
 iterate 2 refine rV ?_
 refine eI rfl rfl (fun _=>gh (H:=H49) (i:=4) hS50 rfl rfl) ?_
 refine eI rfl rfl (fun _=>fq (H:=H49) (i:=4) hS50 rfl rfl rfl rfl rfl) ?_
 refine eI rfl rfl (fun _=>eU (H:=H49) (i:=4) (o:=3) (r:=v41) hS50 rfl rfl rfl rfl) ?_
 refine rV ?_
 have hk79:((((l44.length:Int) - 1).toNat:Nat):Int)=(l44.length:Int) - 1:=Int.toNat_of_nonneg cA
 have hx80:((l44.length:Int) - 1).toNat<l42.length:=by first | omega | (simp<;>omega) | (simp_all; omega)
 refine ki rfl rfl (je (H:=H49) (i:=0) (m:=((l44.length:Int) - 1).toNat) (cs:=(gi fc.cells) x55) hS50 rfl rfl rfl rfl rfl rfl (congrArg (AV.int .i64) hk79.symm) (g9 hx80 hqx55)) ?_
 rintro a81 ⟨ha82,hea83⟩
 refine eI rfl rfl (fun _=>kB (H:=H49) (i:=0) (m:=((l44.length:Int) - 1).toNat) (o:=0) (r:=Row.av fc.cells x55) (cs:=(gi fc.cells) x55) hS50 rfl (g9 hx80 hqx55) hea83 rfl rfl ha82) ?_
 have hx84:1≤x55.l.length:=by omega
 refine eI rfl rfl (fun _=>Cx (k:=1) (r:=x55) (enc:=fc.cells) (n:=2) rfl rfl rfl rfl rfl rfl hx84 (fun _=>rfl)) ?_
 have hk85:((((l44.length:Int) - 1).toNat:Nat):Int)=(l44.length:Int) - 1:=Int.toNat_of_nonneg cA
 have hx86:((l44.length:Int) - 1).toNat<l42.length:=by first | omega | (simp<;>omega) | (simp_all; omega)
 refine ki rfl rfl (je (H:=H49) (i:=0) (m:=((l44.length:Int) - 1).toNat) (cs:=(gi fc.cells) x55) hS50 rfl rfl rfl rfl rfl rfl (congrArg (AV.int .i64) hk85.symm) (g9 hx86 hqx55)) ?_
 rintro a87 ⟨ha88,hea89⟩
 have hWs:wt (l42.set _ (Row.drop x55 1))+n7 l42.length=wt l42:=Lr hx86 cB hqx55 cB (by simp [Row.drop]; omega); rw [hL3] at hWs
 have hz92:(l42.set (((l44.length:Int) - 1).toNat) (Row.drop x55 1)).length=l42.length:=List.length_set
 refine iA (H:=H49) rfl rfl (pD (H:=H49) (i:=0) (m:=((l44.length:Int) - 1).toNat) (o:=0) x55 (Row.drop x55 1) hS50 rfl hx86 hqx55 hea89 rfl ha88 rfl rfl rfl rfl) ?_
 rintro _ H90 ⟨rfl,hS91⟩
 simp only [List.set] at hS91
 refine rN ?_
 refine aN ?_
 refine rV ?_
 refine eI rfl rfl (fun _=>gh (H:=H90) (i:=4) hS91 rfl rfl) ?_
 refine eI rfl rfl (fun _=>fq (H:=H90) (i:=4) hS91 rfl rfl rfl rfl rfl) ?_
 refine eI rfl rfl (fun _=>eU (H:=H90) (i:=4) (o:=1) (r:=v43) hS91 rfl rfl rfl rfl) ?_
 iterate 2 refine rV ?_
 refine eI rfl rfl (fun _=>gh (H:=H90) (i:=4) hS91 rfl rfl) ?_
 refine eI rfl rfl (fun _=>fq (H:=H90) (i:=4) hS91 rfl rfl rfl rfl rfl) ?_
 refine eI rfl rfl (fun _=>eU (H:=H90) (i:=4) (o:=2) (r:=v45) hS91 rfl rfl rfl rfl) ?_
 iterate 5 refine rV ?_
 have hk93:((((l44.length:Int) - 1).toNat:Nat):Int)=(l44.length:Int) - 1:=Int.toNat_of_nonneg cA
 have hx94:((l44.length:Int) - 1).toNat<l44.length:=by first | omega | (simp<;>omega) | (simp_all; omega)
 obtain ⟨x95,hqx95⟩:∃ x,l44[((l44.length:Int) - 1).toNat]=x:=⟨_,rfl⟩
 refine ki rfl rfl (je (H:=H90) (i:=1) (m:=((l44.length:Int) - 1).toNat) (cs:=ew.cells x95) hS91 rfl rfl rfl rfl rfl rfl (congrArg (AV.int .i64) hk93.symm) (g9 hx94 hqx95)) ?_
 rintro a96 ⟨ha97,hea98⟩
 refine eI rfl rfl (fun _=>EA.Hh hea98 rfl rfl rfl ha97) ?_
 have hz101:(l44.set (((l44.length:Int) - 1).toNat) (⟨(x95.elem),(x95.iy),(x78.out)⟩:ew)).length=l44.length:=List.length_set
 refine nv (H:=H90) rfl rfl (pD (H:=H90) (i:=1) (m:=((l44.length:Int) - 1).toNat) (o:=2) x95 (⟨(x95.elem),(x95.iy),(x78.out)⟩:ew) hS91 rfl hx94 hqx95 hea98 rfl rfl rfl rfl rfl rfl) ?_
 rintro _ H99 ⟨rfl,hS100⟩
 refine ⟨fun call=>(sR (jc rfl rfl rfl rfl rfl dp)),?_⟩
 have hk102:((((l44.length:Int) - 1).toNat:Nat):Int)=(l44.length:Int) - 1:=Int.toNat_of_nonneg cA
 have hx103:((l44.length:Int) - 1).toNat<l46.length:=by first | omega | (simp<;>omega) | (simp_all; omega)
 obtain ⟨x104,hqx104⟩:∃ x,l46[((l44.length:Int) - 1).toNat]=x:=⟨_,rfl⟩
 refine ki rfl rfl (je (H:=H99) (i:=2) (m:=((l44.length:Int) - 1).toNat) (cs:=eu x104) hS100 rfl rfl rfl rfl rfl rfl (congrArg (AV.int .i64) hk102.symm) (g9 hx103 hqx104)) ?_
 rintro a105 ⟨ha106,hea107⟩
 have hz110:(l46.set (((l44.length:Int) - 1).toNat) (x78.pos)).length=l46.length:=List.length_set
 refine iA (H:=H99) rfl rfl (pD (H:=H99) (i:=2) (m:=((l44.length:Int) - 1).toNat) (o:=0) x104 (x78.pos) hS100 rfl hx103 hqx104 hea107 rfl ha106 rfl rfl rfl rfl) ?_
 rintro _ H108 ⟨rfl,hS109⟩
 simp only [List.set] at hS109
 refine rN ?_
 refine aN ?_
 refine rV ?_
 refine eI rfl rfl (fun _=>gh (H:=H108) (i:=4) hS109 rfl rfl) ?_
 refine eI rfl rfl (fun _=>fq (H:=H108) (i:=4) hS109 rfl rfl rfl rfl rfl) ?_
 refine eI rfl rfl (fun _=>eU (H:=H108) (i:=4) (o:=1) (r:=v43) hS109 rfl rfl rfl rfl) ?_
 refine rV ?_
 have hk111:((((l44.length:Int) - 1).toNat:Nat):Int)=(l44.length:Int) - 1:=Int.toNat_of_nonneg cA
 have hx112:((l44.length:Int) - 1).toNat<((l44.set (((l44.length:Int) - 1).toNat) (⟨(x95.elem),(x95.iy),(x78.out)⟩:ew))).length:=by first | omega | (simp<;>omega) | (simp_all; omega)
 obtain ⟨x113,hqx113⟩:∃ x,((l44.set (((l44.length:Int) - 1).toNat) (⟨(x95.elem),(x95.iy),(x78.out)⟩:ew)))[((l44.length:Int) - 1).toNat]=x:=⟨_,rfl⟩
 refine ki rfl rfl (je (H:=H108) (i:=1) (m:=((l44.length:Int) - 1).toNat) (cs:=ew.cells x113) hS109 rfl rfl rfl rfl rfl rfl (congrArg (AV.int .i64) hk111.symm) (g9 hx112 hqx113)) ?_
 rintro a114 ⟨ha115,hea116⟩
 refine eI rfl rfl (fun _=>EA.Hh hea116 rfl rfl rfl ha115) ?_
 refine eI rfl rfl (fun _=>kB (H:=H108) (i:=1) (m:=((l44.length:Int) - 1).toNat) (o:=0) (r:=iv x113.elem) (cs:=ew.cells x113) hS109 rfl (g9 hx112 hqx113) hea116 rfl rfl rfl) ?_
 iterate 4 refine rV ?_
 refine aR ?_
 refine aI ?_
 refine oC (t47 a0 (⟨(x113.elem),(x78.out)⟩:ed)) ?_
 rintro _ ⟨r118,hc117,rfl⟩
 have hR:=hc117
 refine ce ?_
 refine gV (r118) (0) (fun h119=>?_) (fun h119=>?_)
 refine ay ?_
 refine aG ?_
 refine Exists.elim (gx (H:=H108) (i:=1) (l:=(l44.set (((l44.length:Int) - 1).toNat) (⟨(x95.elem),(x95.iy),(x78.out)⟩:ew))) (enc:=ew.cells) hS109 rfl cP) (fun r120 hh=>And.elim (fun hl121 hf122=>?_) hh)
 have hln124:=congrArg List.length hl121
 have hz123:∀ m,freeze true { H108 with dO:=[] } (m+2) v43=some (eR.av ew.cells r120):=fun m=>hf122 [] _ (fun _=>rfl)
 refine Exists.elim (gx (H:=H108) (i:=2) (l:=(l46.set (((l44.length:Int) - 1).toNat) (x78.pos))) (enc:=eu) hS109 rfl cP) (fun r125 hh=>And.elim (fun hl126 hf127=>?_) hh)
 have hln129:=congrArg List.length hl126
 have hz128:∀ m,freeze true { H108 with dO:=[] } (m+2) v45=some (eR.av eu r125):=fun m=>hf127 [] _ (fun _=>rfl)
 refine Exists.elim (gx (H:=H108) (i:=0) (l:=(l42.set (((l44.length:Int) - 1).toNat) (Row.drop x55 1))) (enc:=(gi fc.cells)) hS109 rfl cP) (fun r130 hh=>And.elim (fun hl131 hf132=>?_) hh)
 have hln134:=congrArg List.length hl131
 have hz133:∀ m,freeze true { H108 with dO:=[] } (m+2) v41=some (eR.av (gi fc.cells) r130):=fun m=>hf132 [] _ (fun _=>by simp only [gi,fx,kE,kP,lT,kD,lK])
 have hz135:∀ m,freeze true { H108 with dO:=[] } (m+4) (.ptr b7 0 0 0)=some (.ip [iv n27,eR.av ew.cells r120,eR.av eu r125,eR.av (gi fc.cells) r130] 0 true):=fun m=>oa (i:=4) hS109 rfl [] _ (by simp only [FZ,hz123,hz128,hz133])
 refine ib (args:=[(.ptr b7 0 0 0),iv a1,iv r118,iv 1]) (p:=[]) (r:=[]) (args':=[.ip [iv n27,eR.av ew.cells r120,eR.av eu r125,eR.av (gi fc.cells) r130] 0 true,iv a1,iv r118,iv 1]) (R:=ze (⟨(n27),r120,r125,r130⟩:iT) (a1) (r118) (1)) rfl rfl rfl rfl rfl rfl rfl rG (gb (by show fx (freeze true { H108 with dO:=[] } 8) [(.ptr b7 0 0 0),iv a1,iv r118,iv 1] = _; simp only [FZ,hz123,hz128,hz133,hz135]) (eJ rfl (eJ rfl (eJ rfl (eJ rfl fG))))) (gb dt (eJ rfl (eJ rfl (eJ rfl (eJ rfl fG))))) (fun h=>t158 (⟨(n27),r120,r125,r130⟩:iT) (a1) (r118) (1) cq cq h) ?_
 rintro _ ⟨r137,hc136,rfl⟩
 have hC158:=congrArg List.length hc136.1; have hD158:=hc136.2; dsimp only at hC158 hD158
 refine eg rfl (fun _=>vB (xs:=[(eF.cells r137)]) rfl rfl rfl rfl (Fz (eJ rfl (eJ rfl (eJ rfl (eJ (ir _) (eJ (ir _) (eJ (ir _) (eJ (ir _) (eJ (ir _) (eJ rfl fG))))))))) rfl)) ?_
 have hz141:(l48++[r137]).length=l48.length+1:=List.length_append
 refine e7 (H:=H108) rfl (fX (H:=H108) (i:=3) (l:=l48) (enc:=eF.cells) [r137] hS109 rfl rfl rfl rfl rfl rfl rfl rfl rfl (fun _=>rfl) (.inl rfl) cF (fun _=>rfl)) ?_
 rintro v138 H139 hS140
 simp only [List.set] at hS140
 refine ab ?_
 refine qe ?_
 refine ⟨_,?_,(v41),((l42.set (((l44.length:Int) - 1).toNat) (Row.drop x55 1))),(v43),((l44.set (((l44.length:Int) - 1).toNat) (⟨(x95.elem),(x95.iy),(x78.out)⟩:ew))),(v45),((l46.set (((l44.length:Int) - 1).toNat) (x78.pos))),(v138),((l48++[r137])),H139,rfl,cB,cB,cJ,hS140,(Eq.trans (b:=[(0,.ip (eE.cells a0) 0 false),(1,iv a1),(7,.la 7 0),(8,eB 8 v138),(9,(.ptr b7 0 0 0))]) rfl (by first | (rw [(show eB 8 v138=v138 from Sep.fh (i:=3) hS140 rfl 8)]; done) | (rw [(show eB 8 v138=v138 from Sep.fh (i:=3) hS140 rfl 8)]; rfl))),rfl⟩
 omega
 refine az ?_
 refine wa [(0,.ip (eE.cells a0) 0 false),(1,iv a1),(7,.la 7 0),(8,v47),(9,(.ptr b7 0 0 0)),(12,.la 12 0)] H108 [(7,[iv n25,iv n26]),(12,[iv x113.elem,iv x78.out])] ?_ (Eq.trans (b:=[(0,.ip (eE.cells a0) 0 false),(1,iv a1),(7,.la 7 0),(8,eB 8 v47),(9,(.ptr b7 0 0 0)),(12,.la 12 0)]) rfl dm)
 refine ae ?_
 refine oC (t80 a0 (⟨(x113.elem),(x78.out)⟩:ed)) ?_
 rintro _ ⟨r143,r144,hc142,rfl⟩
 have hN:=hc142
 cases r144
 refine bD ?_
 refine aC ?_
 refine aF ?_
 refine Exists.elim (gx (H:=H108) (i:=1) (l:=(l44.set (((l44.length:Int) - 1).toNat) (⟨(x95.elem),(x95.iy),(x78.out)⟩:ew))) (enc:=ew.cells) hS109 rfl cP) (fun r145 hh=>And.elim (fun hl146 hf147=>?_) hh)
 have hln149:=congrArg List.length hl146
 have hz148:∀ m,freeze true { H108 with dO:=[] } (m+2) v43=some (eR.av ew.cells r145):=fun m=>hf147 [] _ (fun _=>rfl)
 refine Exists.elim (gx (H:=H108) (i:=2) (l:=(l46.set (((l44.length:Int) - 1).toNat) (x78.pos))) (enc:=eu) hS109 rfl cP) (fun r150 hh=>And.elim (fun hl151 hf152=>?_) hh)
 have hln154:=congrArg List.length hl151
 have hz153:∀ m,freeze true { H108 with dO:=[] } (m+2) v45=some (eR.av eu r150):=fun m=>hf152 [] _ (fun _=>rfl)
 refine Exists.elim (gx (H:=H108) (i:=0) (l:=(l42.set (((l44.length:Int) - 1).toNat) (Row.drop x55 1))) (enc:=(gi fc.cells)) hS109 rfl cP) (fun r155 hh=>And.elim (fun hl156 hf157=>?_) hh)
 have hln159:=congrArg List.length hl156
 have hz158:∀ m,freeze true { H108 with dO:=[] } (m+2) v41=some (eR.av (gi fc.cells) r155):=fun m=>hf157 [] _ (fun _=>by simp only [gi,fx,kE,kP,lT,kD,lK])
 have hz160:∀ m,freeze true { H108 with dO:=[] } (m+4) (.ptr b7 0 0 0)=some (.ip [iv n27,eR.av ew.cells r145,eR.av eu r150,eR.av (gi fc.cells) r155] 0 true):=fun m=>oa (i:=4) hS109 rfl [] _ (by simp only [FZ,hz148,hz153,hz158])
 refine ib (args:=[(.ptr b7 0 0 0),iv a1,iv (-1),iv 3]) (p:=[]) (r:=[]) (args':=[.ip [iv n27,eR.av ew.cells r145,eR.av eu r150,eR.av (gi fc.cells) r155] 0 true,iv a1,iv (-1),iv 3]) (R:=ze (⟨(n27),r145,r150,r155⟩:iT) (a1) (-1) (3)) rfl rfl rfl rfl rfl rfl rfl rG (gb (by show fx (freeze true { H108 with dO:=[] } 8) [(.ptr b7 0 0 0),iv a1,iv (-1),iv 3] = _; simp only [FZ,hz148,hz153,hz158,hz160]) (eJ rfl (eJ rfl (eJ rfl (eJ rfl fG))))) (gb dt (eJ rfl (eJ rfl (eJ rfl (eJ rfl fG))))) (fun h=>t158 (⟨(n27),r145,r150,r155⟩:iT) (a1) (-1) (3) cq cq h) ?_
 rintro _ ⟨r162,hc161,rfl⟩
 have hC158:=congrArg List.length hc161.1; have hD158:=hc161.2; dsimp only at hC158 hD158
 refine eg rfl (fun _=>vB (xs:=[(eF.cells r162)]) rfl rfl rfl rfl (Fz (eJ rfl (eJ rfl (eJ rfl (eJ (ir _) (eJ (ir _) (eJ (ir _) (eJ (ir _) (eJ (ir _) (eJ rfl fG))))))))) rfl)) ?_
 have hz166:(l48++[r162]).length=l48.length+1:=List.length_append
 refine e7 (H:=H108) rfl (fX (H:=H108) (i:=3) (l:=l48) (enc:=eF.cells) [r162] hS109 rfl rfl rfl rfl rfl rfl rfl rfl rfl (fun _=>rfl) (.inl rfl) cF (fun _=>rfl)) ?_
 rintro v163 H164 hS165
 simp only [List.set] at hS165
 refine ab ?_
 refine qe ?_
 refine ⟨_,?_,(v41),((l42.set (((l44.length:Int) - 1).toNat) (Row.drop x55 1))),(v43),((l44.set (((l44.length:Int) - 1).toNat) (⟨(x95.elem),(x95.iy),(x78.out)⟩:ew))),(v45),((l46.set (((l44.length:Int) - 1).toNat) (x78.pos))),(v163),((l48++[r162])),H164,rfl,cB,cB,cJ,hS165,(Eq.trans (b:=[(0,.ip (eE.cells a0) 0 false),(1,iv a1),(7,.la 7 0),(8,eB 8 v163),(9,(.ptr b7 0 0 0))]) rfl (by first | (rw [(show eB 8 v163=v163 from Sep.fh (i:=3) hS165 rfl 8)]; done) | (rw [(show eB 8 v163=v163 from Sep.fh (i:=3) hS165 rfl 8)]; rfl))),rfl⟩
 omega
 refine bD ?_
 refine aw ?_
 refine wa [(0,.ip (eE.cells a0) 0 false),(1,iv a1),(7,.la 7 0),(8,v47),(9,(.ptr b7 0 0 0)),(14,.la 14 0)] H108 [(7,[iv n25,iv n26]),(14,(ed.cells r143))] ?_ (Eq.trans (b:=[(0,.ip (eE.cells a0) 0 false),(1,iv a1),(7,.la 7 0),(8,eB 8 v47),(9,(.ptr b7 0 0 0)),(14,.la 14 0)]) rfl dm)
 refine aU ?_
 refine qe ?_
 refine ⟨_,?_,(v41),((l42.set (((l44.length:Int) - 1).toNat) (Row.drop x55 1))),(v43),((l44.set (((l44.length:Int) - 1).toNat) (⟨(x95.elem),(x95.iy),(x78.out)⟩:ew))),(v45),((l46.set (((l44.length:Int) - 1).toNat) (x78.pos))),(v47),(l48),(r143.elem),(r143.en),(n27),H108,rfl,d6,cB,cJ,hS109,(Eq.trans (b:=[(0,.ip (eE.cells a0) 0 false),(1,iv a1),(7,.la 7 0),(8,eB 8 v47),(9,(.ptr b7 0 0 0))]) rfl dm),rfl⟩
 (first | omega | (simp only [List.length_set]; omega))
 refine aE ?_
 refine wa [(8,v47)] H49 [] ?_ (Eq.trans (b:=[(8,eB 8 v47)]) rfl c9)
 refine qe ?_
 refine wa [(8,v47)] H49 [] ?_ (Eq.trans (b:=[(8,eB 8 v47)]) rfl c9)
 refine a9 ?_
 obtain ⟨r167,hl168,hf169⟩:=gQ (H:=H49) (i:=3) (l:=l48) (enc:=eF.cells) hS50 rfl cz
 have hlq:=hl168; have hln171:=congrArg List.length hl168
 have hz170:∀ m,freeze false { H49 with dO:=[] } (m+2) v47=some (Row.av eF.cells r167):=fun m=>hf169 _ _ (fun _=>by simp only [eF.cells,fx,kE,kP,lT,kD,lK])
 exact ⟨v47,(ia (vs:=[v47]) rfl (eJ (Sep.arg (i:=3) hS50 rfl) fG)),Row.av eF.cells r167,(show freeze false { H49 with dO:=[] } 8 v47=some (Row.av eF.cells r167) by simp only [FZ,hz170]),r167,du,rfl⟩
 refine aF ?_
 refine Exists.elim (gx (H:=H28) (i:=1) (l:=l20) (enc:=ew.cells) hS29 rfl cP) (fun r172 hh=>And.elim (fun hl173 hf174=>?_) hh)
 have hln176:=congrArg List.length hl173
 have hz175:∀ m,freeze true { H28 with dO:=[] } (m+2) v19=some (eR.av ew.cells r172):=fun m=>hf174 [] _ (fun _=>rfl)
 refine Exists.elim (gx (H:=H28) (i:=2) (l:=l22) (enc:=eu) hS29 rfl cP) (fun r177 hh=>And.elim (fun hl178 hf179=>?_) hh)
 have hln181:=congrArg List.length hl178
 have hz180:∀ m,freeze true { H28 with dO:=[] } (m+2) v21=some (eR.av eu r177):=fun m=>hf179 [] _ (fun _=>rfl)
 refine Exists.elim (gx (H:=H28) (i:=0) (l:=l18) (enc:=(gi fc.cells)) hS29 rfl cP) (fun r182 hh=>And.elim (fun hl183 hf184=>?_) hh)
 have hln186:=congrArg List.length hl183
 have hz185:∀ m,freeze true { H28 with dO:=[] } (m+2) v17=some (eR.av (gi fc.cells) r182):=fun m=>hf184 [] _ (fun _=>by simp only [gi,fx,kE,kP,lT,kD,lK])
 have hz187:∀ m,freeze true { H28 with dO:=[] } (m+4) (.ptr b7 0 0 0)=some (.ip [iv n27,eR.av ew.cells r172,eR.av eu r177,eR.av (gi fc.cells) r182] 0 true):=fun m=>oa (i:=4) hS29 rfl [] _ (by simp only [FZ,hz175,hz180,hz185])
 refine ib (args:=[(.ptr b7 0 0 0),iv n25]) (p:=[]) (r:=[]) (args':=[.ip [iv n27,eR.av ew.cells r172,eR.av eu r177,eR.av (gi fc.cells) r182] 0 true,iv n25]) (R:=Ly (⟨(n27),r172,r177,r182⟩:iT) (n25)) rfl rfl rfl rfl rfl rfl rfl yo (gb (by show fx (freeze true { H28 with dO:=[] } 8) [(.ptr b7 0 0 0),iv n25] = _; simp only [FZ,hz175,hz180,hz185,hz187]) (eJ rfl (eJ rfl fG))) (gb dt (eJ rfl (eJ rfl fG))) (fun h=>t156 (⟨(n27),r172,r177,r182⟩:iT) (n25)  h) ?_
 rintro _ ⟨r189,hc188,rfl⟩
 cases r189
 clear hc188
 refine az ?_
 exact ⟨(v17),(l18),(v19),(l20),(v21),(l22),(v23),(l24),H28,cB,cB,cJ,hS29,(Eq.trans (b:=[(0,.ip (eE.cells a0) 0 false),(1,iv a1),(7,.la 7 0),(8,eB 8 v23),(9,(.ptr b7 0 0 0))]) rfl (by first | (rw [(show eB 8 v23=v23 from Sep.fh (i:=3) hS29 rfl 8)]; done) | (rw [(show eB 8 v23=v23 from Sep.fh (i:=3) hS29 rfl 8)]; rfl))),rfl⟩
 have hc188t:=hc188 rfl
 dsimp only at hc188t
 refine ay ?_
 refine aF ?_
 have hS190:Sep H28 (.obj (.ptr b7 0 0 0) [iv n27,v19,v21,v17]::.sl true false v19 3 (List.map ew.cells l20)::.sl true false v21 1 (List.map eu l22)::.sl true false v17 1 (List.map (gi fc.cells) l18)::.sl true true v23 9 (List.map eF.cells l24)::[]):=Sep.pick hS29 [4,1,2,0,3] 5 cG cG
 refine fU (H:=H28) (args:=[(.ptr b7 0 0 0),.ip (eE.cells a0) 0 false,.agg [iv n25,iv n26]]) (p:=[]) (r:=[]) rfl rfl rfl rfl rfl rfl rfl (VJ b7 n27 v19 l20 v21 l22 v17 l18 a0 ((⟨(n25),(n26)⟩:ed)) (.sl true true v23 9 (List.map eF.cells l24)::[]) hS190 cq cq cq) ?_
 rintro _ H191 ⟨vso194,stepso195,vpo196,poso197,vlo198,lefto199,hc193,hS192,rfl⟩
 obtain ⟨hp1,hp2,ww,hp3,hp4⟩:=hc193
 have hWp:=HF (l:=l18) (w:=ww) cB hp3
 rw [← hp4,hL3] at hWp
 have hp5:lefto199.length=l18.length+1:=by rw [hp4]; simp
 refine oN ?_
 refine aF ?_
 refine oC (t46 a0 (n25)) ?_
 rintro _ ⟨r201,hc200,rfl⟩
 have hK:=hc200
 refine fj (r201) (4) (fun h202=>?_) (fun h202=>?_)
 refine b8 ?_
 refine Exists.elim (gx (H:=H191) (i:=1) (l:=stepso195) (enc:=ew.cells) hS192 rfl cP) (fun r203 hh=>And.elim (fun hl204 hf205=>?_) hh)
 have hln207:=congrArg List.length hl204
 have hz206:∀ m,freeze true { H191 with dO:=[] } (m+2) vso194=some (eR.av ew.cells r203):=fun m=>hf205 [] _ (fun _=>rfl)
 refine Exists.elim (gx (H:=H191) (i:=2) (l:=poso197) (enc:=eu) hS192 rfl cP) (fun r208 hh=>And.elim (fun hl209 hf210=>?_) hh)
 have hln212:=congrArg List.length hl209
 have hz211:∀ m,freeze true { H191 with dO:=[] } (m+2) vpo196=some (eR.av eu r208):=fun m=>hf210 [] _ (fun _=>rfl)
 refine Exists.elim (gx (H:=H191) (i:=3) (l:=lefto199) (enc:=(gi fc.cells)) hS192 rfl cP) (fun r213 hh=>And.elim (fun hl214 hf215=>?_) hh)
 have hln217:=congrArg List.length hl214
 have hz216:∀ m,freeze true { H191 with dO:=[] } (m+2) vlo198=some (eR.av (gi fc.cells) r213):=fun m=>hf215 [] _ (fun _=>by simp only [gi,fx,kE,kP,lT,kD,lK])
 have hz218:∀ m,freeze true { H191 with dO:=[] } (m+4) (.ptr b7 0 0 0)=some (.ip [iv n27,eR.av ew.cells r203,eR.av eu r208,eR.av (gi fc.cells) r213] 0 true):=fun m=>oa (i:=0) hS192 rfl [] _ (by simp only [FZ,hz206,hz211,hz216])
 refine ib (args:=[(.ptr b7 0 0 0),iv a1,iv (-1),iv 2]) (p:=[]) (r:=[]) (args':=[.ip [iv n27,eR.av ew.cells r203,eR.av eu r208,eR.av (gi fc.cells) r213] 0 true,iv a1,iv (-1),iv 2]) (R:=ze (⟨(n27),r203,r208,r213⟩:iT) (a1) (-1) (2)) rfl rfl rfl rfl rfl rfl rfl rG (gb (by show fx (freeze true { H191 with dO:=[] } 8) [(.ptr b7 0 0 0),iv a1,iv (-1),iv 2] = _; simp only [FZ,hz206,hz211,hz216,hz218]) (eJ rfl (eJ rfl (eJ rfl (eJ rfl fG))))) (gb dt (eJ rfl (eJ rfl (eJ rfl (eJ rfl fG))))) (fun h=>t158 (⟨(n27),r203,r208,r213⟩:iT) (a1) (-1) (2) cq cq h) ?_
 rintro _ ⟨r220,hc219,rfl⟩
 have hC158:=congrArg List.length hc219.1; have hD158:=hc219.2; dsimp only at hC158 hD158
 refine eg rfl (fun _=>vB (xs:=[(eF.cells r220)]) rfl rfl rfl rfl (Fz (eJ rfl (eJ rfl (eJ rfl (eJ (ir _) (eJ (ir _) (eJ (ir _) (eJ (ir _) (eJ (ir _) (eJ rfl fG))))))))) rfl)) ?_
 have hz224:(l24++[r220]).length=l24.length+1:=List.length_append
 refine e7 (H:=H191) rfl (fX (H:=H191) (i:=4) (l:=l24) (enc:=eF.cells) [r220] hS192 rfl rfl rfl rfl rfl rfl rfl rfl rfl (fun _=>rfl) (.inl rfl) cF (fun _=>rfl)) ?_
 rintro v221 H222 hS223
 simp only [List.set] at hS223
 refine ab ?_
 have hS225:Sep H222 (.sl true false vlo198 1 (List.map (gi fc.cells) lefto199)::.sl true false vso194 3 (List.map ew.cells stepso195)::.sl true false vpo196 1 (List.map eu poso197)::.sl true true v221 9 (List.map eF.cells (l24++[r220]))::.obj (.ptr b7 0 0 0) [iv n27,vso194,vpo196,vlo198]::[]):=Sep.pick hS223 [3,1,2,4,0] 5 cG cG
 exact ⟨(vlo198),(lefto199),(vso194),(stepso195),(vpo196),(poso197),(v221),((l24++[r220])),H222,cB,cB,cJ,hS225,(Eq.trans (b:=[(0,.ip (eE.cells a0) 0 false),(1,iv a1),(7,.la 7 0),(8,eB 8 v221),(9,(.ptr b7 0 0 0))]) rfl (by first | (rw [(show eB 8 v221=v221 from Sep.fh (i:=3) hS225 rfl 8)]; done) | (rw [(show eB 8 v221=v221 from Sep.fh (i:=3) hS225 rfl 8)]; rfl))),rfl⟩
 refine az ?_
 have hS226:Sep H191 (.sl true false vlo198 1 (List.map (gi fc.cells) lefto199)::.sl true false vso194 3 (List.map ew.cells stepso195)::.sl true false vpo196 1 (List.map eu poso197)::.sl true true v23 9 (List.map eF.cells l24)::.obj (.ptr b7 0 0 0) [iv n27,vso194,vpo196,vlo198]::[]):=Sep.pick hS192 [3,1,2,4,0] 5 cG cG
 exact ⟨(vlo198),(lefto199),(vso194),(stepso195),(vpo196),(poso197),(v23),(l24),H191,cB,cB,cJ,hS226,(Eq.trans (b:=[(0,.ip (eE.cells a0) 0 false),(1,iv a1),(7,.la 7 0),(8,eB 8 v23),(9,(.ptr b7 0 0 0))]) rfl (by first | (rw [(show eB 8 v23=v23 from Sep.fh (i:=3) hS226 rfl 8)]; done) | (rw [(show eB 8 v23=v23 from Sep.fh (i:=3) hS226 rfl 8)]; rfl))),rfl⟩
theorem Nk:eG.get 52=some C4:=by kernel_rfl
theorem Jc:ei 52=none:=by kernel_rfl
theorem Wi {H:bY} (nn:eE) (F:List gn) (hS:Sep H (F)) (q1:nn.p.signals.l.length≤60):∃ v H',eH cfg eG.get ei true 52 [.ip (eE.cells nn) 0 false] { H with dO:=[] } v H'∧(∃ ov:AV,∃ ol:List eF,∃ eo:Int,((∀ r∈(ol:List eF),0<r.steps.l.length∧r.steps.l.length≤12∧r.gU.l.length≤12)∧ol.length≤64)∧Sep H' (.sl true true ov 9 (List.map eF.cells ol)::F)∧v=.eP [ov,iv eo]):=by
 refine gF Jc Nk rfl ?_
 refine aU ?_
 refine aO ?_
 refine oC (t91 nn) ?_
 rintro _ ⟨r2,hc1,rfl⟩
 have hC91:=hc1
 refine aP ?_
 have hS3:=Sep.iF hS 9
 refine eN ((r2).toNat) (fun k4 e h=>∃ v5:AV,∃ l6:List eF,∃ H7:bY,(l6.length≤8192*k4)∧((∀ r∈(l6:List eF),0<r.steps.l.length∧r.steps.l.length≤12∧r.gU.l.length≤12))∧Sep H7 (.sl true true v5 9 (List.map eF.cells l6)::F)∧proj [0,4,7,8] e=[(0,.ip (eE.cells nn) 0 false),(4,v5),(7,iv r2),(8,iv (k4:Int))]∧{ h with dO:=eV [0,4,7,8] h.dO } = { H7 with dO:=[] }) ?_ (k0:=0) cB ⟨((.sl [] .nil)),(([]:List eF)),H,dv,dv,hS3,rfl,rfl⟩
 rintro k4 e h hkk4 ⟨v5,l6,H7,hI,hR,hS8,he,hh⟩
 refine ff he hh ?_
 clear he hh
 refine aa ?_
 refine fg ((k4:Int)) (r2) (fun h9=>?_) (fun h9=>?_)
 refine ao ?_
 refine wa [(0,.ip (eE.cells nn) 0 false),(4,v5),(7,iv r2),(8,iv (k4:Int))] H7 [] ?_ (Eq.trans (b:=[(0,.ip (eE.cells nn) 0 false),(4,eB 4 v5),(7,iv r2),(8,iv (k4:Int))]) rfl dn)
 refine bS ?_
 refine aY ?_
 refine oC (t92 nn ((k4:Int))) ?_
 rintro _ ⟨r11,hc10,rfl⟩
 have hL12:=r11.lk
 refine e7 (H:=H7) rfl (fX (H:=H7) (i:=0) (l:=l6) (enc:=eF.cells) r11.l hS8 rfl rfl rfl rfl rfl rfl rfl rfl rfl (fun _=>rfl) (.inl rfl) cF (fun _=>rfl)) ?_
 rintro v13 H14 hS15
 refine ab ?_
 refine wa [(0,.ip (eE.cells nn) 0 false),(4,v13),(7,iv r2),(8,iv (k4:Int))] H14 [] ?_ (Eq.trans (b:=[(0,.ip (eE.cells nn) 0 false),(4,eB 4 v13),(7,iv r2),(8,iv (k4:Int))]) rfl dH)
 refine qg ?_
 refine fu ((k4:Int)) (1) ?_
 refine ab ?_
 exact ⟨by omega,(v13),((l6++r11.l)),H14,(by (simp<;>omega)),(by exact Hs hR (by simp_all)),hS15,(Eq.trans (b:=[(0,.ip (eE.cells nn) 0 false),(4,eB 4 v13),(7,iv r2),(8,iv ((k4:Int)+1))]) rfl dH),rfl⟩
 refine am ?_
 refine wa [(4,v5)] H7 [] ?_ (Eq.trans (b:=[(4,eB 4 v5)]) rfl dn)
 refine ak ?_
 refine eg rfl (fun _=>jb (H:=H7) (i:=0) (l:=l6) (enc:=eF.cells) hS8 rfl rfl rfl rfl rfl rfl rfl) ?_
 refine fW ((l6.length:Int)) (64) (fun h16=>?_) (fun h16=>?_)
 refine bW ?_
 have hS17:=Sep.iF hS8 9
 have hS18:Sep H7 (.sl true true (.sl [] .nil) 9 (List.map eF.cells ([]:List eF))::F):=Sep.pick hS17 [0] 2 cG cG
 exact ⟨.eP [(.sl [] .nil),iv 3],rfl,(.sl [] .nil),([]:List eF),3,dX,Sep.dO hS18 _,rfl⟩
 refine az ?_
 refine wa [(4,v5)] H7 [] ?_ (Eq.trans (b:=[(4,eB 4 v5)]) rfl dn)
 refine a7 ?_
 have hS19:Sep H7 (.sl true true v5 9 (List.map eF.cells l6)::F):=Sep.pick hS8 [0] 1 cG cG
 exact ⟨.eP [v5,iv 0],(ia (vs:=[v5,iv 0]) rfl (eJ (Sep.arg (i:=0) hS8 rfl) (eJ rfl fG))),v5,l6,0,dX,Sep.dO hS19 _,rfl⟩
theorem Q6:eG.get 54=some BK:=by kernel_rfl
theorem Ko:ei 54=none:=by kernel_rfl
def WA (_a0:eE) (v:AV):Prop:=∃ r0:eb,(r0.elems.l = _a0.p.elems.l∧r0.eT.l = _a0.p.eT.l∧r0.signals.l = _a0.p.signals.l∧r0.lines.l.length = _a0.p.lines.l.length∧∀ x∈r0.lines.l,x.elems.l.length≤60)∧v=.agg (eb.cells r0)
theorem t54 (a0:eE) (q1:iY a0.p) (h:bY):∃ v,eH cfg eG.get ei false 54 [.ip (eE.cells a0) 0 false] h v h∧WA a0 v:=by
 refine eW Ko Q6 rfl rfl ?_
 refine aQ ?_
 refine aG ?_
 refine oC (t90 a0.p cq) ?_
 rintro _ ⟨r2,hc1,rfl⟩
 have hC90:=hc1
 refine ag ?_
 exact xF (.agg (eb.cells r2)) ⟨r2,cC,rfl⟩
theorem R1:eG.get 94=some Dq:=by kernel_rfl
theorem Je:ei 94=none:=by kernel_rfl
def Wr (_a0:eR eA) (v:AV):Prop:=∃ r0:Row eA,(r0.l = _a0.l)∧v=Row.av eA.cells r0
theorem t94 (a0:eR eA) (q1:a0.l.length≤1000) (h:bY):∃ v,eH cfg eG.get ei false 94 [eR.av eA.cells a0] h v h∧Wr a0 v:=by
 refine eW Je R1 rfl rfl ?_
 refine aO ?_
 refine gH (b:=a0.isNil) rfl (fun _=>lE rfl rfl rfl rfl) (fun h1=>?_) (fun h1=>?_)
 refine be ?_
 exact xF (.sl [] .nil) ⟨(⟨[],.nil,Nat.zero_le _,rfl,fun _=>rfl⟩:Row eA),cT,rfl⟩
 refine az ?_
 refine w0 [(0,eR.av eA.cells a0)] [] ?_
 refine ae ?_
 have hS2:=Sep.nH gg 2
 refine e7 (H:=bY.empty) rfl (fX (H:=bY.empty) (i:=0) (l:=([]:List eA)) (enc:=eA.cells) a0.l hS2 rfl rfl rfl rfl rfl rfl rfl rfl rfl (fun _=>rfl) (.inl rfl) cF (fun _=>rfl)) ?_
 rintro v3 H4 hS5
 refine ag ?_
 obtain ⟨r6,hl7,hf8⟩:=gQ (H:=H4) (i:=0) (l:=(([]:List eA)++a0.l)) (enc:=eA.cells) hS5 rfl cz
 have hlq:=hl7; have hln10:=congrArg List.length hl7
 have hz9:∀ m,freeze false { H4 with dO:=[] } (m+2) v3=some (Row.av eA.cells r6):=fun m=>hf8 _ _ (fun _=>rfl)
 exact ⟨v3,(ia (vs:=[v3]) rfl (eJ (Sep.arg (i:=0) hS5 rfl) fG)),Row.av eA.cells r6,(show freeze false { H4 with dO:=[] } 8 v3=some (Row.av eA.cells r6) by simp only [FZ,hz9]),r6,cT,rfl⟩
theorem MN:eG.get 95=some Cn:=by kernel_rfl
theorem Lx:ei 95=none:=by kernel_rfl
def Xe (_a0:eE) (_a1:eF) (v:AV):Prop:=∃ r0:Row ed,(r0.l.length≤2 * _a1.steps.l.length)∧v=Row.av ed.cells r0
theorem t95 (a0:eE) (a1:eF) (q1:a1.steps.l.length≤12) (h:bY):∃ v,eH cfg eG.get ei false 95 [.ip (eE.cells a0) 0 false,.agg (eF.cells a1)] h v h∧Xe a0 a1 v:=by
 refine eW Lx MN rfl rfl ?_
 refine aU ?_
 refine aa ?_
 refine bX ?_
 have hL1:=a1.steps.lk
 refine fA a1.steps ?_
 refine aP ?_
 have hS2:=Sep.iF gg 2
 have hNk3:=a1.steps.lk
 refine eN (a1.steps.l.length) (fun k3 e h=>∃ v4:AV,∃ l5:List ed,∃ H6:bY,(l5.length≤2*k3)∧Sep H6 (.sl true true v4 2 (List.map ed.cells l5)::[])∧proj [0,5,16,17,18] e=[(0,.ip (eE.cells a0) 0 false),(5,v4),(16,Row.av ew.cells a1.steps),(17,iv (a1.steps.l.length:Int)),(18,iv (k3:Int))]∧{ h with dO:=eV [0,5,16,17,18] h.dO } = { H6 with dO:=[] }) ?_ (k0:=0) cB ⟨((.sl [] .nil)),(([]:List ed)),bY.empty,dv,hS2,rfl,rfl⟩
 rintro k3 e h hkk3 ⟨v4,l5,H6,hI,hS7,he,hh⟩
 refine ff he hh ?_
 clear he hh
 refine aa ?_
 refine fg ((k3:Int)) ((a1.steps.l.length:Int)) (fun h8=>?_) (fun h8=>?_)
 refine ao ?_
 refine wa [(0,.ip (eE.cells a0) 0 false),(5,v4),(16,Row.av ew.cells a1.steps),(17,iv (a1.steps.l.length:Int)),(18,iv (k3:Int))] H6 [] ?_ (Eq.trans (b:=[(0,.ip (eE.cells a0) 0 false),(5,eB 5 v4),(16,Row.av ew.cells a1.steps),(17,iv (a1.steps.l.length:Int)),(18,iv (k3:Int))]) rfl cH)
 refine bg ?_
 have hx9:k3<a1.steps.l.length:=by omega
 refine gL k3 a1.steps hx9 ?_
 generalize hqx10:a1.steps.l[k3]=x10
 refine aW ?_
 refine aQ ?_
 refine aB ?_
 refine oC (t46 a0 (x10.elem)) ?_
 rintro _ ⟨r12,hc11,rfl⟩
 have hK:=hc11
 refine bP ?_
 refine fj (r12) (2) (fun h13=>?_) (fun h13=>?_)
 refine aC ?_
 refine aa ?_
 refine au ?_
 refine aM ?_
 refine eg rfl (fun _=>fD rfl rfl rfl (gD .i64 (3) ((if x10.out > x10.iy then x10.out else x10.iy)))) ?_
 refine ah ?_
 refine wa [(0,.ip (eE.cells a0) 0 false),(5,v4),(7,.la 7 0),(8,.sl [[iv (IntKind.i64.wrap (3 - ((if x10.out > x10.iy then x10.out else x10.iy))))]] (.exact 1)),(16,Row.av ew.cells a1.steps),(17,iv (a1.steps.l.length:Int)),(18,iv (k3:Int))] H6 [(7,(ew.cells x10))] ?_ (Eq.trans (b:=[(0,.ip (eE.cells a0) 0 false),(5,eB 5 v4),(7,.la 7 0),(8,.sl [[iv (IntKind.i64.wrap (3 - ((if x10.out > x10.iy then x10.out else x10.iy))))]] (.exact 1)),(16,Row.av ew.cells a1.steps),(17,iv (a1.steps.l.length:Int)),(18,iv (k3:Int))]) rfl cH)
 refine ae ?_
 refine aP ?_
 refine eN (1) (fun k14 e h=>∃ v15:AV,∃ l16:List ed,∃ H17:bY,(l16.length≤l5.length+k14)∧Sep H17 (.sl true true v15 2 (List.map ed.cells l16)::[])∧proj [0,5,7,16,17,18,43,44,45] e=[(0,.ip (eE.cells a0) 0 false),(5,v15),(7,.la 7 0),(16,Row.av ew.cells a1.steps),(17,iv (a1.steps.l.length:Int)),(18,iv (k3:Int)),(43,.sl [[iv (IntKind.i64.wrap (3 - ((if x10.out > x10.iy then x10.out else x10.iy))))]] (.exact 1)),(44,iv 1),(45,iv (k14:Int))]∧{ h with dO:=eV [0,5,7,16,17,18,43,44,45] h.dO } = { H17 with dO:=[(7,(ew.cells x10))] }) ?_ (k0:=0) cB ⟨(v4),(l5),H6,c8,hS7,(Eq.trans (b:=[(0,.ip (eE.cells a0) 0 false),(5,eB 5 v4),(7,.la 7 0),(16,Row.av ew.cells a1.steps),(17,iv (a1.steps.l.length:Int)),(18,iv (k3:Int)),(43,.sl [[iv (IntKind.i64.wrap (3 - ((if x10.out > x10.iy then x10.out else x10.iy))))]] (.exact 1)),(44,iv 1),(45,iv 0)]) rfl cH),rfl⟩
 rintro k14 e h hkk14 ⟨v15,l16,H17,hl19,hS18,he,hh⟩
 refine ff he hh ?_
 clear he hh
 refine aa ?_
 refine fg ((k14:Int)) (1) (fun h20=>?_) (fun h20=>?_)
 refine ao ?_
 refine wa [(0,.ip (eE.cells a0) 0 false),(5,v15),(7,.la 7 0),(16,Row.av ew.cells a1.steps),(17,iv (a1.steps.l.length:Int)),(18,iv (k3:Int)),(43,.sl [[iv (IntKind.i64.wrap (3 - ((if x10.out > x10.iy then x10.out else x10.iy))))]] (.exact 1)),(44,iv 1),(45,iv (k14:Int))] H17 [(7,(ew.cells x10))] ?_ (Eq.trans (b:=[(0,.ip (eE.cells a0) 0 false),(5,eB 5 v15),(7,.la 7 0),(16,Row.av ew.cells a1.steps),(17,iv (a1.steps.l.length:Int)),(18,iv (k3:Int)),(43,.sl [[iv (IntKind.i64.wrap (3 - ((if x10.out > x10.iy then x10.out else x10.iy))))]] (.exact 1)),(44,iv 1),(45,iv (k14:Int))]) rfl c3)
 refine bg ?_
 have hx21:k14<(⟨[(IntKind.i64.wrap (3 - ((if x10.out > x10.iy then x10.out else x10.iy))))],.exact 1,Nat.le_of_ble_eq_true rfl,rfl,capXn⟩:Row Int).l.length:=by show k14<1; omega
 refine eg rfl (fun _=>po (n:=k14) (r:=(⟨[(IntKind.i64.wrap (3 - ((if x10.out > x10.iy then x10.out else x10.iy))))],.exact 1,Nat.le_of_ble_eq_true rfl,rfl,capXn⟩:Row Int)) (enc:=eu) rfl rfl rfl rfl rfl hx21 rfl) ?_
 generalize (⟨[(IntKind.i64.wrap (3 - ((if x10.out > x10.iy then x10.out else x10.iy))))],.exact 1,Nat.le_of_ble_eq_true rfl,rfl,capXn⟩:Row Int).l[k14]=x22
 refine ah ?_
 refine aF ?_
 refine cg ?_
 refine oC (t80 a0 (⟨(x10.elem),(x22)⟩:ed)) ?_
 rintro _ ⟨r24,r25,hc23,rfl⟩
 have hN:=hc23
 cases r25
 refine bN ?_
 refine aw ?_
 refine wa [(0,.ip (eE.cells a0) 0 false),(5,v15),(7,.la 7 0),(16,Row.av ew.cells a1.steps),(17,iv (a1.steps.l.length:Int)),(18,iv (k3:Int)),(43,.sl [[iv (IntKind.i64.wrap (3 - ((if x10.out > x10.iy then x10.out else x10.iy))))]] (.exact 1)),(44,iv 1),(45,iv (k14:Int))] H17 [(7,(ew.cells x10))] ?_ (Eq.trans (b:=[(0,.ip (eE.cells a0) 0 false),(5,eB 5 v15),(7,.la 7 0),(16,Row.av ew.cells a1.steps),(17,iv (a1.steps.l.length:Int)),(18,iv (k3:Int)),(43,.sl [[iv (IntKind.i64.wrap (3 - ((if x10.out > x10.iy then x10.out else x10.iy))))]] (.exact 1)),(44,iv 1),(45,iv (k14:Int))]) rfl c3)
 refine qg ?_
 refine fu ((k14:Int)) (1) ?_
 refine ab ?_
 exact ⟨by omega,(v15),(l16),H17,cA,hS18,(Eq.trans (b:=[(0,.ip (eE.cells a0) 0 false),(5,eB 5 v15),(7,.la 7 0),(16,Row.av ew.cells a1.steps),(17,iv (a1.steps.l.length:Int)),(18,iv (k3:Int)),(43,.sl [[iv (IntKind.i64.wrap (3 - ((if x10.out > x10.iy then x10.out else x10.iy))))]] (.exact 1)),(44,iv 1),(45,iv ((k14:Int)+1))]) rfl c3),rfl⟩
 refine ca ?_
 refine b8 ?_
 refine e7 (H:=H17) rfl (fX (H:=H17) (i:=0) (l:=l16) (enc:=ed.cells) [(⟨(x10.elem),(x22)⟩:ed)] hS18 rfl rfl rfl rfl rfl rfl rfl rfl rfl (fun _=>rfl) (.inl rfl) cF (fun _=>rfl)) ?_
 rintro v26 H27 hS28
 refine ab ?_
 refine wa [(0,.ip (eE.cells a0) 0 false),(5,v26),(7,.la 7 0),(16,Row.av ew.cells a1.steps),(17,iv (a1.steps.l.length:Int)),(18,iv (k3:Int)),(43,.sl [[iv (IntKind.i64.wrap (3 - ((if x10.out > x10.iy then x10.out else x10.iy))))]] (.exact 1)),(44,iv 1),(45,iv (k14:Int))] H27 [(7,(ew.cells x10))] ?_ (Eq.trans (b:=[(0,.ip (eE.cells a0) 0 false),(5,eB 5 v26),(7,.la 7 0),(16,Row.av ew.cells a1.steps),(17,iv (a1.steps.l.length:Int)),(18,iv (k3:Int)),(43,.sl [[iv (IntKind.i64.wrap (3 - ((if x10.out > x10.iy then x10.out else x10.iy))))]] (.exact 1)),(44,iv 1),(45,iv (k14:Int))]) rfl dF)
 refine qg ?_
 refine fu ((k14:Int)) (1) ?_
 refine ab ?_
 exact ⟨by omega,(v26),((l16++[(⟨(x10.elem),(x22)⟩:ed)])),H27,cA,hS28,(Eq.trans (b:=[(0,.ip (eE.cells a0) 0 false),(5,eB 5 v26),(7,.la 7 0),(16,Row.av ew.cells a1.steps),(17,iv (a1.steps.l.length:Int)),(18,iv (k3:Int)),(43,.sl [[iv (IntKind.i64.wrap (3 - ((if x10.out > x10.iy then x10.out else x10.iy))))]] (.exact 1)),(44,iv 1),(45,iv ((k14:Int)+1))]) rfl dF),rfl⟩
 refine am ?_
 refine wa [(0,.ip (eE.cells a0) 0 false),(5,v15),(16,Row.av ew.cells a1.steps),(17,iv (a1.steps.l.length:Int)),(18,iv (k3:Int))] H17 [] ?_ (Eq.trans (b:=[(0,.ip (eE.cells a0) 0 false),(5,eB 5 v15),(16,Row.av ew.cells a1.steps),(17,iv (a1.steps.l.length:Int)),(18,iv (k3:Int))]) rfl c3)
 refine qg ?_
 refine fu ((k3:Int)) (1) ?_
 refine ab ?_
 exact ⟨by omega,(v15),(l16),H17,cw,hS18,(Eq.trans (b:=[(0,.ip (eE.cells a0) 0 false),(5,eB 5 v15),(16,Row.av ew.cells a1.steps),(17,iv (a1.steps.l.length:Int)),(18,iv ((k3:Int)+1))]) rfl c3),rfl⟩
 refine aS ?_
 refine fj (r12) (3) (fun h29=>?_) (fun h29=>?_)
 refine aC ?_
 refine aU ?_
 refine ae ?_
 refine fW (x10.iy) (1) (fun h30=>?_) (fun h30=>?_)
 refine ay ?_
 refine qg ?_
 refine ah ?_
 refine wa [(0,.ip (eE.cells a0) 0 false),(5,v4),(7,.la 7 0),(8,.sl [[iv 0],[iv 1]] (.exact 2)),(16,Row.av ew.cells a1.steps),(17,iv (a1.steps.l.length:Int)),(18,iv (k3:Int))] H6 [(7,(ew.cells x10))] ?_ (Eq.trans (b:=[(0,.ip (eE.cells a0) 0 false),(5,eB 5 v4),(7,.la 7 0),(8,.sl [[iv 0],[iv 1]] (.exact 2)),(16,Row.av ew.cells a1.steps),(17,iv (a1.steps.l.length:Int)),(18,iv (k3:Int))]) rfl cH)
 refine ae ?_
 refine aP ?_
 refine eN (2) (fun k31 e h=>∃ v32:AV,∃ l33:List ed,∃ H34:bY,(l33.length≤l5.length+k31)∧Sep H34 (.sl true true v32 2 (List.map ed.cells l33)::[])∧proj [0,5,7,16,17,18,43,44,45] e=[(0,.ip (eE.cells a0) 0 false),(5,v32),(7,.la 7 0),(16,Row.av ew.cells a1.steps),(17,iv (a1.steps.l.length:Int)),(18,iv (k3:Int)),(43,.sl [[iv 0],[iv 1]] (.exact 2)),(44,iv 2),(45,iv (k31:Int))]∧{ h with dO:=eV [0,5,7,16,17,18,43,44,45] h.dO } = { H34 with dO:=[(7,(ew.cells x10))] }) ?_ (k0:=0) cB ⟨(v4),(l5),H6,c8,hS7,(Eq.trans (b:=[(0,.ip (eE.cells a0) 0 false),(5,eB 5 v4),(7,.la 7 0),(16,Row.av ew.cells a1.steps),(17,iv (a1.steps.l.length:Int)),(18,iv (k3:Int)),(43,.sl [[iv 0],[iv 1]] (.exact 2)),(44,iv 2),(45,iv 0)]) rfl cH),rfl⟩
 rintro k31 e h hkk31 ⟨v32,l33,H34,hl36,hS35,he,hh⟩
 refine ff he hh ?_
 clear he hh
 refine aa ?_
 refine fg ((k31:Int)) (2) (fun h37=>?_) (fun h37=>?_)
 refine ao ?_
 refine wa [(0,.ip (eE.cells a0) 0 false),(5,v32),(7,.la 7 0),(16,Row.av ew.cells a1.steps),(17,iv (a1.steps.l.length:Int)),(18,iv (k3:Int)),(43,.sl [[iv 0],[iv 1]] (.exact 2)),(44,iv 2),(45,iv (k31:Int))] H34 [(7,(ew.cells x10))] ?_ (Eq.trans (b:=[(0,.ip (eE.cells a0) 0 false),(5,eB 5 v32),(7,.la 7 0),(16,Row.av ew.cells a1.steps),(17,iv (a1.steps.l.length:Int)),(18,iv (k3:Int)),(43,.sl [[iv 0],[iv 1]] (.exact 2)),(44,iv 2),(45,iv (k31:Int))]) rfl cZ)
 refine bg ?_
 have hx38:k31<(⟨[(0),(1)],.exact 2,Nat.le_of_ble_eq_true rfl,rfl,capXn⟩:Row Int).l.length:=by show k31<2; omega
 refine eg rfl (fun _=>po (n:=k31) (r:=(⟨[(0),(1)],.exact 2,Nat.le_of_ble_eq_true rfl,rfl,capXn⟩:Row Int)) (enc:=eu) rfl rfl rfl rfl rfl hx38 rfl) ?_
 generalize (⟨[(0),(1)],.exact 2,Nat.le_of_ble_eq_true rfl,rfl,capXn⟩:Row Int).l[k31]=x39
 refine ah ?_
 refine aF ?_
 refine cg ?_
 refine oC (t80 a0 (⟨(x10.elem),(x39)⟩:ed)) ?_
 rintro _ ⟨r41,r42,hc40,rfl⟩
 have hN:=hc40
 cases r42
 refine bN ?_
 refine aw ?_
 refine wa [(0,.ip (eE.cells a0) 0 false),(5,v32),(7,.la 7 0),(16,Row.av ew.cells a1.steps),(17,iv (a1.steps.l.length:Int)),(18,iv (k3:Int)),(43,.sl [[iv 0],[iv 1]] (.exact 2)),(44,iv 2),(45,iv (k31:Int))] H34 [(7,(ew.cells x10))] ?_ (Eq.trans (b:=[(0,.ip (eE.cells a0) 0 false),(5,eB 5 v32),(7,.la 7 0),(16,Row.av ew.cells a1.steps),(17,iv (a1.steps.l.length:Int)),(18,iv (k3:Int)),(43,.sl [[iv 0],[iv 1]] (.exact 2)),(44,iv 2),(45,iv (k31:Int))]) rfl cZ)
 refine qg ?_
 refine fu ((k31:Int)) (1) ?_
 refine ab ?_
 exact ⟨by omega,(v32),(l33),H34,cA,hS35,(Eq.trans (b:=[(0,.ip (eE.cells a0) 0 false),(5,eB 5 v32),(7,.la 7 0),(16,Row.av ew.cells a1.steps),(17,iv (a1.steps.l.length:Int)),(18,iv (k3:Int)),(43,.sl [[iv 0],[iv 1]] (.exact 2)),(44,iv 2),(45,iv ((k31:Int)+1))]) rfl cZ),rfl⟩
 refine ca ?_
 refine b8 ?_
 refine e7 (H:=H34) rfl (fX (H:=H34) (i:=0) (l:=l33) (enc:=ed.cells) [(⟨(x10.elem),(x39)⟩:ed)] hS35 rfl rfl rfl rfl rfl rfl rfl rfl rfl (fun _=>rfl) (.inl rfl) cF (fun _=>rfl)) ?_
 rintro v43 H44 hS45
 refine ab ?_
 refine wa [(0,.ip (eE.cells a0) 0 false),(5,v43),(7,.la 7 0),(16,Row.av ew.cells a1.steps),(17,iv (a1.steps.l.length:Int)),(18,iv (k3:Int)),(43,.sl [[iv 0],[iv 1]] (.exact 2)),(44,iv 2),(45,iv (k31:Int))] H44 [(7,(ew.cells x10))] ?_ (Eq.trans (b:=[(0,.ip (eE.cells a0) 0 false),(5,eB 5 v43),(7,.la 7 0),(16,Row.av ew.cells a1.steps),(17,iv (a1.steps.l.length:Int)),(18,iv (k3:Int)),(43,.sl [[iv 0],[iv 1]] (.exact 2)),(44,iv 2),(45,iv (k31:Int))]) rfl dE)
 refine qg ?_
 refine fu ((k31:Int)) (1) ?_
 refine ab ?_
 exact ⟨by omega,(v43),((l33++[(⟨(x10.elem),(x39)⟩:ed)])),H44,cA,hS45,(Eq.trans (b:=[(0,.ip (eE.cells a0) 0 false),(5,eB 5 v43),(7,.la 7 0),(16,Row.av ew.cells a1.steps),(17,iv (a1.steps.l.length:Int)),(18,iv (k3:Int)),(43,.sl [[iv 0],[iv 1]] (.exact 2)),(44,iv 2),(45,iv ((k31:Int)+1))]) rfl dE),rfl⟩
 refine am ?_
 refine wa [(0,.ip (eE.cells a0) 0 false),(5,v32),(16,Row.av ew.cells a1.steps),(17,iv (a1.steps.l.length:Int)),(18,iv (k3:Int))] H34 [] ?_ (Eq.trans (b:=[(0,.ip (eE.cells a0) 0 false),(5,eB 5 v32),(16,Row.av ew.cells a1.steps),(17,iv (a1.steps.l.length:Int)),(18,iv (k3:Int))]) rfl cZ)
 refine qg ?_
 refine fu ((k3:Int)) (1) ?_
 refine ab ?_
 exact ⟨by omega,(v32),(l33),H34,cw,hS35,(Eq.trans (b:=[(0,.ip (eE.cells a0) 0 false),(5,eB 5 v32),(16,Row.av ew.cells a1.steps),(17,iv (a1.steps.l.length:Int)),(18,iv ((k3:Int)+1))]) rfl cZ),rfl⟩
 refine az ?_
 refine wa [(0,.ip (eE.cells a0) 0 false),(5,v4),(7,.la 7 0),(8,.sl [[iv 2],[iv 3]] (.exact 2)),(16,Row.av ew.cells a1.steps),(17,iv (a1.steps.l.length:Int)),(18,iv (k3:Int))] H6 [(7,(ew.cells x10))] ?_ (Eq.trans (b:=[(0,.ip (eE.cells a0) 0 false),(5,eB 5 v4),(7,.la 7 0),(8,.sl [[iv 2],[iv 3]] (.exact 2)),(16,Row.av ew.cells a1.steps),(17,iv (a1.steps.l.length:Int)),(18,iv (k3:Int))]) rfl cH)
 refine ae ?_
 refine aP ?_
 refine eN (2) (fun k46 e h=>∃ v47:AV,∃ l48:List ed,∃ H49:bY,(l48.length≤l5.length+k46)∧Sep H49 (.sl true true v47 2 (List.map ed.cells l48)::[])∧proj [0,5,7,16,17,18,43,44,45] e=[(0,.ip (eE.cells a0) 0 false),(5,v47),(7,.la 7 0),(16,Row.av ew.cells a1.steps),(17,iv (a1.steps.l.length:Int)),(18,iv (k3:Int)),(43,.sl [[iv 2],[iv 3]] (.exact 2)),(44,iv 2),(45,iv (k46:Int))]∧{ h with dO:=eV [0,5,7,16,17,18,43,44,45] h.dO } = { H49 with dO:=[(7,(ew.cells x10))] }) ?_ (k0:=0) cB ⟨(v4),(l5),H6,c8,hS7,(Eq.trans (b:=[(0,.ip (eE.cells a0) 0 false),(5,eB 5 v4),(7,.la 7 0),(16,Row.av ew.cells a1.steps),(17,iv (a1.steps.l.length:Int)),(18,iv (k3:Int)),(43,.sl [[iv 2],[iv 3]] (.exact 2)),(44,iv 2),(45,iv 0)]) rfl cH),rfl⟩
 rintro k46 e h hkk46 ⟨v47,l48,H49,hl51,hS50,he,hh⟩
 refine ff he hh ?_
 clear he hh
 refine aa ?_
 refine fg ((k46:Int)) (2) (fun h52=>?_) (fun h52=>?_)
 refine ao ?_
 refine wa [(0,.ip (eE.cells a0) 0 false),(5,v47),(7,.la 7 0),(16,Row.av ew.cells a1.steps),(17,iv (a1.steps.l.length:Int)),(18,iv (k3:Int)),(43,.sl [[iv 2],[iv 3]] (.exact 2)),(44,iv 2),(45,iv (k46:Int))] H49 [(7,(ew.cells x10))] ?_ (Eq.trans (b:=[(0,.ip (eE.cells a0) 0 false),(5,eB 5 v47),(7,.la 7 0),(16,Row.av ew.cells a1.steps),(17,iv (a1.steps.l.length:Int)),(18,iv (k3:Int)),(43,.sl [[iv 2],[iv 3]] (.exact 2)),(44,iv 2),(45,iv (k46:Int))]) rfl cY)
 refine bg ?_
 have hx53:k46<(⟨[(2),(3)],.exact 2,Nat.le_of_ble_eq_true rfl,rfl,capXn⟩:Row Int).l.length:=by show k46<2; omega
 refine eg rfl (fun _=>po (n:=k46) (r:=(⟨[(2),(3)],.exact 2,Nat.le_of_ble_eq_true rfl,rfl,capXn⟩:Row Int)) (enc:=eu) rfl rfl rfl rfl rfl hx53 rfl) ?_
 generalize (⟨[(2),(3)],.exact 2,Nat.le_of_ble_eq_true rfl,rfl,capXn⟩:Row Int).l[k46]=x54
 refine ah ?_
 refine aF ?_
 refine cg ?_
 refine oC (t80 a0 (⟨(x10.elem),(x54)⟩:ed)) ?_
 rintro _ ⟨r56,r57,hc55,rfl⟩
 have hN:=hc55
 cases r57
 refine bN ?_
 refine aw ?_
 refine wa [(0,.ip (eE.cells a0) 0 false),(5,v47),(7,.la 7 0),(16,Row.av ew.cells a1.steps),(17,iv (a1.steps.l.length:Int)),(18,iv (k3:Int)),(43,.sl [[iv 2],[iv 3]] (.exact 2)),(44,iv 2),(45,iv (k46:Int))] H49 [(7,(ew.cells x10))] ?_ (Eq.trans (b:=[(0,.ip (eE.cells a0) 0 false),(5,eB 5 v47),(7,.la 7 0),(16,Row.av ew.cells a1.steps),(17,iv (a1.steps.l.length:Int)),(18,iv (k3:Int)),(43,.sl [[iv 2],[iv 3]] (.exact 2)),(44,iv 2),(45,iv (k46:Int))]) rfl cY)
 refine qg ?_
 refine fu ((k46:Int)) (1) ?_
 refine ab ?_
 exact ⟨by omega,(v47),(l48),H49,cA,hS50,(Eq.trans (b:=[(0,.ip (eE.cells a0) 0 false),(5,eB 5 v47),(7,.la 7 0),(16,Row.av ew.cells a1.steps),(17,iv (a1.steps.l.length:Int)),(18,iv (k3:Int)),(43,.sl [[iv 2],[iv 3]] (.exact 2)),(44,iv 2),(45,iv ((k46:Int)+1))]) rfl cY),rfl⟩
 refine ca ?_
 refine b8 ?_
 refine e7 (H:=H49) rfl (fX (H:=H49) (i:=0) (l:=l48) (enc:=ed.cells) [(⟨(x10.elem),(x54)⟩:ed)] hS50 rfl rfl rfl rfl rfl rfl rfl rfl rfl (fun _=>rfl) (.inl rfl) cF (fun _=>rfl)) ?_
 rintro v58 H59 hS60
 refine ab ?_
 refine wa [(0,.ip (eE.cells a0) 0 false),(5,v58),(7,.la 7 0),(16,Row.av ew.cells a1.steps),(17,iv (a1.steps.l.length:Int)),(18,iv (k3:Int)),(43,.sl [[iv 2],[iv 3]] (.exact 2)),(44,iv 2),(45,iv (k46:Int))] H59 [(7,(ew.cells x10))] ?_ (Eq.trans (b:=[(0,.ip (eE.cells a0) 0 false),(5,eB 5 v58),(7,.la 7 0),(16,Row.av ew.cells a1.steps),(17,iv (a1.steps.l.length:Int)),(18,iv (k3:Int)),(43,.sl [[iv 2],[iv 3]] (.exact 2)),(44,iv 2),(45,iv (k46:Int))]) rfl dD)
 refine qg ?_
 refine fu ((k46:Int)) (1) ?_
 refine ab ?_
 exact ⟨by omega,(v58),((l48++[(⟨(x10.elem),(x54)⟩:ed)])),H59,cA,hS60,(Eq.trans (b:=[(0,.ip (eE.cells a0) 0 false),(5,eB 5 v58),(7,.la 7 0),(16,Row.av ew.cells a1.steps),(17,iv (a1.steps.l.length:Int)),(18,iv (k3:Int)),(43,.sl [[iv 2],[iv 3]] (.exact 2)),(44,iv 2),(45,iv ((k46:Int)+1))]) rfl dD),rfl⟩
 refine am ?_
 refine wa [(0,.ip (eE.cells a0) 0 false),(5,v47),(16,Row.av ew.cells a1.steps),(17,iv (a1.steps.l.length:Int)),(18,iv (k3:Int))] H49 [] ?_ (Eq.trans (b:=[(0,.ip (eE.cells a0) 0 false),(5,eB 5 v47),(16,Row.av ew.cells a1.steps),(17,iv (a1.steps.l.length:Int)),(18,iv (k3:Int))]) rfl cY)
 refine qg ?_
 refine fu ((k3:Int)) (1) ?_
 refine ab ?_
 exact ⟨by omega,(v47),(l48),H49,cw,hS50,(Eq.trans (b:=[(0,.ip (eE.cells a0) 0 false),(5,eB 5 v47),(16,Row.av ew.cells a1.steps),(17,iv (a1.steps.l.length:Int)),(18,iv ((k3:Int)+1))]) rfl cY),rfl⟩
 refine aw ?_
 refine wa [(0,.ip (eE.cells a0) 0 false),(5,v4),(7,.la 7 0),(8,.sl [] .nil),(16,Row.av ew.cells a1.steps),(17,iv (a1.steps.l.length:Int)),(18,iv (k3:Int))] H6 [(7,(ew.cells x10))] ?_ (Eq.trans (b:=[(0,.ip (eE.cells a0) 0 false),(5,eB 5 v4),(7,.la 7 0),(8,.sl [] .nil),(16,Row.av ew.cells a1.steps),(17,iv (a1.steps.l.length:Int)),(18,iv (k3:Int))]) rfl cH)
 refine ae ?_
 refine aP ?_
 refine eN (0) (fun k61 e h=>proj [0,5,7,16,17,18,43,44,45] e=[(0,.ip (eE.cells a0) 0 false),(5,v4),(7,.la 7 0),(16,Row.av ew.cells a1.steps),(17,iv (a1.steps.l.length:Int)),(18,iv (k3:Int)),(43,.sl [] .nil),(44,iv 0),(45,iv (k61:Int))]∧{ h with dO:=eV [0,5,7,16,17,18,43,44,45] h.dO } = { H6 with dO:=[(7,(ew.cells x10))] }) ?_ (k0:=0) cB ⟨(Eq.trans (b:=[(0,.ip (eE.cells a0) 0 false),(5,eB 5 v4),(7,.la 7 0),(16,Row.av ew.cells a1.steps),(17,iv (a1.steps.l.length:Int)),(18,iv (k3:Int)),(43,.sl [] .nil),(44,iv 0),(45,iv 0)]) rfl cH),rfl⟩
 rintro k61 e h hkk61 ⟨he,hh⟩
 refine ff he hh ?_
 clear he hh
 refine aa ?_
 refine fg ((k61:Int)) (0) (fun h62=>?_) (fun h62=>?_)
 refine ao ?_
 refine wa [(0,.ip (eE.cells a0) 0 false),(5,v4),(7,.la 7 0),(16,Row.av ew.cells a1.steps),(17,iv (a1.steps.l.length:Int)),(18,iv (k3:Int)),(43,.sl [] .nil),(44,iv 0),(45,iv (k61:Int))] H6 [(7,(ew.cells x10))] ?_ (Eq.trans (b:=[(0,.ip (eE.cells a0) 0 false),(5,eB 5 v4),(7,.la 7 0),(16,Row.av ew.cells a1.steps),(17,iv (a1.steps.l.length:Int)),(18,iv (k3:Int)),(43,.sl [] .nil),(44,iv 0),(45,iv (k61:Int))]) rfl cH)
 refine bg ?_
 exfalso; omega
 refine am ?_
 refine wa [(0,.ip (eE.cells a0) 0 false),(5,v4),(16,Row.av ew.cells a1.steps),(17,iv (a1.steps.l.length:Int)),(18,iv (k3:Int))] H6 [] ?_ (Eq.trans (b:=[(0,.ip (eE.cells a0) 0 false),(5,eB 5 v4),(16,Row.av ew.cells a1.steps),(17,iv (a1.steps.l.length:Int)),(18,iv (k3:Int))]) rfl cH)
 refine qg ?_
 refine fu ((k3:Int)) (1) ?_
 refine ab ?_
 exact ⟨by omega,(v4),(l5),H6,cw,hS7,(Eq.trans (b:=[(0,.ip (eE.cells a0) 0 false),(5,eB 5 v4),(16,Row.av ew.cells a1.steps),(17,iv (a1.steps.l.length:Int)),(18,iv ((k3:Int)+1))]) rfl cH),rfl⟩
 refine am ?_
 refine wa [(5,v4)] H6 [] ?_ (Eq.trans (b:=[(5,eB 5 v4)]) rfl cH)
 refine a9 ?_
 obtain ⟨r63,hl64,hf65⟩:=gQ (H:=H6) (i:=0) (l:=l5) (enc:=ed.cells) hS7 rfl cz
 have hlq:=hl64; have hln67:=congrArg List.length hl64
 have hz66:∀ m,freeze false { H6 with dO:=[] } (m+2) v4=some (Row.av ed.cells r63):=fun m=>hf65 _ _ (fun _=>rfl)
 exact ⟨v4,(ia (vs:=[v4]) rfl (eJ (Sep.arg (i:=0) hS7 rfl) fG)),Row.av ed.cells r63,(show freeze false { H6 with dO:=[] } 8 v4=some (Row.av ed.cells r63) by simp only [FZ,hz66]),r63,(by first | omega | (simp_all; omega)),rfl⟩
theorem PW:eG.get 96=some B1:=by kernel_rfl
theorem La:ei 96=none:=by kernel_rfl
theorem sw {H:bY} (el:Int) (en:Int) (bn:Nat) (nn:eE) (bt:Nat) (vt:AV) (todo:List ed) (F:List gn) (hS:Sep H (.obj (.ptr bn 0 0 0) [.ip (eE.cells nn) 0 false]::.obj (.ptr bt 0 0 0) [vt]::.sl true false vt 2 (List.map ed.cells todo)::F)) (q1:todo.length≤2000):∃ v H',eH cfg eG.get ei true 96 [iv el,iv en,(.ptr bn 0 0 0),(.ptr bt 0 0 0)] { H with dO:=[] } v H'∧(∃ vto:AV,∃ todoo:List ed,(todoo.length≤todo.length+1∧∀ y∈todoo,y∈todo∨y∈univ nn)∧Sep H' (.obj (.ptr bn 0 0 0) [.ip (eE.cells nn) 0 false]::.obj (.ptr bt 0 0 0) [vto]::.sl true false vto 2 (List.map ed.cells todoo)::F)∧v=.eP []):=by
 refine gF La PW rfl ?_
 refine aa ?_
 refine eg rfl (fun _=>eU (H:=H) (i:=0) (o:=0) (r:=.ip (eE.cells nn) 0 false) hS rfl rfl rfl rfl) ?_
 iterate 3 refine oV ?_
 refine oC (t80 nn (⟨(el),(en)⟩:ed)) ?_
 rintro _ ⟨r2,r3,hc1,rfl⟩
 have hN:=hc1
 cases r3
 refine bN ?_
 refine aw ?_
 have hS4:Sep H (.obj (.ptr bn 0 0 0) [.ip (eE.cells nn) 0 false]::.obj (.ptr bt 0 0 0) [vt]::.sl true false vt 2 (List.map ed.cells todo)::F):=Sep.pick hS [0,1,2] 3 cG cG
 exact ⟨.eP [],rfl,vt,todo,dw,Sep.dO hS4 _,rfl⟩
 refine bN ?_
 refine aC ?_
 refine qg ?_
 refine eg rfl (fun _=>eU (H:=H) (i:=1) (o:=0) (r:=vt) hS rfl rfl rfl rfl) ?_
 iterate 2 refine oV ?_
 refine e7 (H:=H) rfl (fX (H:=H) (i:=2) (l:=todo) (enc:=ed.cells) [r2] hS rfl rfl rfl rfl rfl rfl rfl rfl rfl (fun _=>rfl) (.inr rfl) cF (fun _=>rfl)) ?_
 rintro v5 H6 hS7
 refine e7 (H:=H6) rfl (gC (H:=H6) (i:=1) (o:=0) (r:=v5) hS7 rfl rfl rfl rfl (iJ rfl rfl (Sep.cell (i:=2) hS7 rfl)) (eJ (Sep.cell (i:=2) hS7 rfl) fG) rfl) ?_
 rintro _ H8 ⟨rfl,hS9⟩
 refine oN ?_
 have hS10:Sep H8 (.obj (.ptr bn 0 0 0) [.ip (eE.cells nn) 0 false]::.obj (.ptr bt 0 0 0) [v5]::.sl true false v5 2 (List.map ed.cells (todo++[r2]))::F):=Sep.pick hS9 [0,1,2] 3 cG cG
 exact ⟨.eP [],rfl,v5,(todo++[r2]),dw,Sep.dO hS10 _,rfl⟩
theorem Om:eG.get 97=some Cz:=by kernel_rfl
theorem xr:ei 97=none:=by kernel_rfl
def JM (_a0:lj) (_a1:Int) (v:AV):Prop:=∃ r0:Bool,(True)∧v=.bool r0
theorem t97 (a0:lj) (a1:Int)  (h:bY):∃ v,eH cfg eG.get ei false 97 [.agg (lj.cells a0),iv a1] h v h∧JM a0 a1 v:=by
 refine eW xr Om rfl rfl ?_
 refine aj ?_
 refine e7 (H:=bY.empty) rfl (mr gg rfl rfl rfl rfl rfl) ?_
 rintro _ H2 ⟨b1,rfl,hS3⟩
 refine ab ?_
 refine ae ?_
 refine eg rfl (fun _=>qn rfl rfl (qo rfl rfl)) ?_
 have hS4:Sep H2 (.obj (.ptr b1 0 0 0) [iv a1]::[]):=Sep.pick hS3 [0] 1 cG cG
 refine fU (H:=H2) (args:=[eR.av ew.cells a0.steps,.fz 161 [] [(.ptr b1 0 0 0)]]) (p:=[]) (r:=[]) rfl rfl rfl rfl rfl rfl rfl (BY a0.steps b1 a1 ([]) hS4) ?_
 rintro _ H5 ⟨r8,hc7,hS6,rfl⟩
 cases r8
 refine ag ?_
 exact xA (.bool false) ⟨false,trivial,rfl⟩
 refine ag ?_
 exact xA (.bool true) ⟨true,trivial,rfl⟩
theorem LR:eG.get 162=some Aj:=by kernel_rfl
theorem Ia:ei 162=none:=by kernel_rfl
def VP (_a0:eR Int) (_a1:Int) (v:AV):Prop:=∃ r0:Int,(True)∧v=iv r0
theorem t162 (a0:eR Int) (a1:Int)  (h:bY):∃ v,eH cfg eG.get ei false 162 [eR.av eu a0,iv a1] h v h∧VP a0 a1 v:=by
 refine eW Ia LR rfl rfl ?_
 refine aO ?_
 have hL1:=a0.lk
 refine eg rfl (fun _=>lG (r:=a0) (enc:=eu) rfl rfl rfl rfl rfl rfl) ?_
 refine aP ?_
 have hNk2:=a0.lk
 refine eN (a0.l.length) (fun k2 e h=>proj [0,1,7,8] e=[(0,eR.av eu a0),(1,iv a1),(7,iv (a0.l.length:Int)),(8,iv (k2:Int))]∧{ h with dO:=eV [0,1,7,8] h.dO } = { bY.empty with dO:=[] }) ?_ (k0:=0) cB ⟨rfl,rfl⟩
 rintro k2 e h hkk2 ⟨he,hh⟩
 refine ff he hh ?_
 clear he hh
 refine aa ?_
 refine fg ((k2:Int)) ((a0.l.length:Int)) (fun h3=>?_) (fun h3=>?_)
 refine ao ?_
 refine w0 [(0,eR.av eu a0),(1,iv a1),(7,iv (a0.l.length:Int)),(8,iv (k2:Int))] [] ?_
 refine bS ?_
 refine aF ?_
 have hx4:k2<a0.l.length:=by omega
 refine eg rfl (fun _=>lS (n:=k2) (r:=a0) (enc:=eu) rfl rfl rfl rfl rfl hx4 rfl) ?_
 generalize hqx5:a0.l[k2]=x5
 refine oV ?_
 refine fj (a1) (x5) (fun h6=>?_) (fun h6=>?_)
 refine bW ?_
 exact xA (iv (k2:Int)) ⟨((k2:Int)),trivial,rfl⟩
 refine az ?_
 refine w0 [(0,eR.av eu a0),(1,iv a1),(7,iv (a0.l.length:Int)),(8,iv (k2:Int))] [] ?_
 refine qg ?_
 refine fu ((k2:Int)) (1) ?_
 refine ab ?_
 exact ⟨by omega,rfl,rfl⟩
 refine am ?_
 refine w0 [] [] ?_
 refine a6 ?_
 exact xA (iv (-1)) ⟨(-1),trivial,rfl⟩
theorem NF:eG.get 98=some By:=by kernel_rfl
theorem xi:ei 98=none:=by kernel_rfl
def JB (_a0:eR Int) (_a1:Int) (v:AV):Prop:=∃ r0:Bool,(True)∧v=.bool r0
theorem t98 (a0:eR Int) (a1:Int)  (h:bY):∃ v,eH cfg eG.get ei false 98 [eR.av eu a0,iv a1] h v h∧JB a0 a1 v:=by
 refine eW xi NF rfl rfl ?_
 refine aQ ?_
 refine ae ?_
 refine oC (t162 a0 (a1)) ?_
 rintro _ ⟨r2,hc1,rfl⟩
 refine gV (r2) (0) (fun h3=>?_) (fun h3=>?_)
 refine ag ?_
 exact xA (.bool true) ⟨true,trivial,rfl⟩
 refine ag ?_
 exact xA (.bool false) ⟨false,trivial,rfl⟩
theorem NJ:eG.get 99=some Cr:=by kernel_rfl
theorem Kp:ei 99=none:=by kernel_rfl
theorem u6 {H:bY} (b:Nat) (f0:Int) (f1:Int) (f2:Int) (steps:Row ew) (gU:Row eA) (vg:AV) (guards:List eA) (vz:AV) (j5:List Int) (vh:AV) (holds:List Int) (bare:Bool) (el:Int) (F:List gn) (hS:Sep H (.obj (.ptr b 0 0 0) [iv f0,iv f1,iv f2,Row.av ew.cells steps,Row.av eA.cells gU,vg,vz,vh,.bool bare]::.sl true true vg 2 (List.map eA.cells guards)::.sl true true vz 1 (List.map eu j5)::.sl true true vh 1 (List.map eu holds)::F)) (q1:j5.length≤12):∃ v H',eH cfg eG.get ei true 99 [(.ptr b 0 0 0),iv el] { H with dO:=[] } v H'∧(∃ r0:Bool,∃ vzo:AV,∃ zoneo:List Int,∃ bareo:Bool,(zoneo.length≤12)∧Sep H' (.obj (.ptr b 0 0 0) [iv f0,iv f1,iv f2,Row.av ew.cells steps,Row.av eA.cells gU,vg,vzo,vh,.bool bareo]::.sl true true vg 2 (List.map eA.cells guards)::.sl true true vzo 1 (List.map eu zoneo)::.sl true true vh 1 (List.map eu holds)::F)∧v=.bool r0):=by
 refine gF Kp NJ rfl ?_
 refine aO ?_
 refine eg rfl (fun _=>gh (H:=H) (i:=0) hS rfl rfl) ?_
 refine eg rfl (fun _=>fq (H:=H) (i:=0) hS rfl rfl rfl rfl rfl) ?_
 refine eg rfl (fun _=>eU (H:=H) (i:=0) (o:=6) (r:=vz) hS rfl rfl rfl rfl) ?_
 refine oV ?_
 refine Exists.elim (gx (H:=H) (i:=2) (l:=j5) (enc:=eu) hS rfl cP) (fun r1 hh=>And.elim (fun hl2 hf3=>?_) hh)
 have hln5:=congrArg List.length hl2
 have hz4:∀ m,freeze true { H with dO:=[] } (m+2) vz=some (eR.av eu r1):=fun m=>hf3 [] _ (fun _=>rfl)
 refine ib (args:=[vz,iv el]) (p:=[]) (r:=[]) (args':=[eR.av eu r1,iv el]) (R:=JB r1 (el)) rfl rfl rfl rfl rfl (eJ (Sep.arg (i:=2) hS rfl) (eJ rfl fG)) rfl xi (gb (by show fx (freeze true { H with dO:=[] } 8) [vz,iv el] = _; simp only [FZ,hz4]) (eJ (Sep.lF (i:=2) hS rfl) (eJ rfl fG))) (gb dt (eJ rfl (eJ rfl fG))) (fun h=>t98 r1 (el)  h) ?_
 rintro _ ⟨r7,hc6,rfl⟩
 cases r7
 refine az ?_
 refine wa [(0,(.ptr b 0 0 0)),(1,iv el)] H [] ?_
 refine ak ?_
 refine eg rfl (fun _=>gh (H:=H) (i:=0) hS rfl rfl) ?_
 refine eg rfl (fun _=>fq (H:=H) (i:=0) hS rfl rfl rfl rfl rfl) ?_
 refine eg rfl (fun _=>eU (H:=H) (i:=0) (o:=6) (r:=vz) hS rfl rfl rfl rfl) ?_
 refine eg rfl (fun _=>jb (H:=H) (i:=2) (l:=j5) (enc:=eu) hS rfl rfl rfl rfl rfl rfl rfl) ?_
 refine gV ((j5.length:Int)) (12) (fun h8=>?_) (fun h8=>?_)
 refine ay ?_
 refine aj ?_
 refine eg rfl (fun _=>gh (H:=H) (i:=0) hS rfl rfl) ?_
 refine eg rfl (fun _=>fq (H:=H) (i:=0) hS rfl rfl rfl rfl rfl) ?_
 refine e7 (H:=H) rfl (gC (H:=H) (i:=0) (o:=8) (r:=.bool true) hS rfl rfl rfl rfl rfl rfl rfl) ?_
 rintro _ H9 ⟨rfl,hS10⟩
 refine oN ?_
 refine a6 ?_
 have hS11:Sep H9 (.obj (.ptr b 0 0 0) [iv f0,iv f1,iv f2,Row.av ew.cells steps,Row.av eA.cells gU,vg,vz,vh,.bool true]::.sl true true vg 2 (List.map eA.cells guards)::.sl true true vz 1 (List.map eu j5)::.sl true true vh 1 (List.map eu holds)::F):=Sep.pick hS10 [0,1,2,3] 4 cG cG
 exact ⟨.bool false,rfl,false,vz,j5,true,dY,Sep.dO hS11 _,rfl⟩
 refine az ?_
 refine wa [(0,(.ptr b 0 0 0)),(1,iv el)] H [] ?_
 refine ae ?_
 refine eg rfl (fun _=>gh (H:=H) (i:=0) hS rfl rfl) ?_
 refine eg rfl (fun _=>fq (H:=H) (i:=0) hS rfl rfl rfl rfl rfl) ?_
 refine eg rfl (fun _=>eU (H:=H) (i:=0) (o:=6) (r:=vz) hS rfl rfl rfl rfl) ?_
 iterate 2 refine oV ?_
 refine e7 (H:=H) rfl (fX (H:=H) (i:=2) (l:=j5) (enc:=eu) [(el)] hS rfl rfl rfl rfl rfl rfl rfl rfl rfl (fun _=>rfl) (.inl rfl) cF (fun _=>rfl)) ?_
 rintro v12 H13 hS14
 refine eg rfl (fun _=>gh (H:=H13) (i:=0) hS14 rfl rfl) ?_
 refine eg rfl (fun _=>fq (H:=H13) (i:=0) hS14 rfl rfl rfl rfl rfl) ?_
 refine e7 (H:=H13) rfl (gC (H:=H13) (i:=0) (o:=6) (r:=v12) hS14 rfl rfl rfl rfl (iJ rfl rfl (Sep.cell (i:=2) hS14 rfl)) (eJ (Sep.cell (i:=2) hS14 rfl) fG) rfl) ?_
 rintro _ H15 ⟨rfl,hS16⟩
 refine oN ?_
 refine a6 ?_
 have hS17:Sep H15 (.obj (.ptr b 0 0 0) [iv f0,iv f1,iv f2,Row.av ew.cells steps,Row.av eA.cells gU,vg,v12,vh,.bool bare]::.sl true true vg 2 (List.map eA.cells guards)::.sl true true v12 1 (List.map eu (j5++[(el)]))::.sl true true vh 1 (List.map eu holds)::F):=Sep.pick hS16 [0,1,2,3] 4 cG cG
 exact ⟨.bool true,rfl,true,v12,(j5++[(el)]),(bare),dY,Sep.dO hS17 _,rfl⟩
 refine be ?_
 have hS18:Sep H (.obj (.ptr b 0 0 0) [iv f0,iv f1,iv f2,Row.av ew.cells steps,Row.av eA.cells gU,vg,vz,vh,.bool bare]::.sl true true vg 2 (List.map eA.cells guards)::.sl true true vz 1 (List.map eu j5)::.sl true true vh 1 (List.map eu holds)::F):=Sep.pick hS [0,1,2,3] 4 cG cG
 exact ⟨.bool true,rfl,true,vz,j5,(bare),dY,Sep.dO hS18 _,rfl⟩
theorem Ka:eG.get 163=some zL:=by kernel_rfl
theorem Ir:ei 163=none:=by kernel_rfl
def Ve (_a0:eR eA) (_a1:eA) (v:AV):Prop:=∃ r0:Int,(True)∧v=iv r0
theorem t163 (a0:eR eA) (a1:eA)  (h:bY):∃ v,eH cfg eG.get ei false 163 [eR.av eA.cells a0,.agg (eA.cells a1)] h v h∧Ve a0 a1 v:=by
 refine eW Ir Ka rfl rfl ?_
 refine aU ?_
 refine ak ?_
 have hL1:=a0.lk
 refine eg rfl (fun _=>lG (r:=a0) (enc:=eA.cells) rfl rfl rfl rfl rfl rfl) ?_
 refine aP ?_
 have hNk2:=a0.lk
 refine eN (a0.l.length) (fun k2 e h=>proj [0,3,7,8] e=[(0,eR.av eA.cells a0),(3,.la 3 0),(7,iv (a0.l.length:Int)),(8,iv (k2:Int))]∧{ h with dO:=eV [0,3,7,8] h.dO } = { bY.empty with dO:=[(3,(eA.cells a1))] }) ?_ (k0:=0) cB ⟨rfl,rfl⟩
 rintro k2 e h hkk2 ⟨he,hh⟩
 refine ff he hh ?_
 clear he hh
 refine aa ?_
 refine fg ((k2:Int)) ((a0.l.length:Int)) (fun h3=>?_) (fun h3=>?_)
 refine ao ?_
 refine w0 [(0,eR.av eA.cells a0),(3,.la 3 0),(7,iv (a0.l.length:Int)),(8,iv (k2:Int))] [(3,(eA.cells a1))] ?_
 refine bS ?_
 refine bO ?_
 have hx4:k2<a0.l.length:=by omega
 refine eI rfl rfl (fun _=>lS (n:=k2) (r:=a0) (enc:=eA.cells) rfl rfl rfl rfl rfl hx4 rfl) ?_
 generalize hqx5:a0.l[k2]=x5
 refine rV ?_
 refine jC rfl rfl (fun _=>mO rfl rfl rfl (fun _ _=>rfl)) (fun h6=>?_) (fun h6=>?_)
 refine rN ?_
 refine qT ?_
 refine a9 ?_
 exact xA (iv (k2:Int)) ⟨((k2:Int)),trivial,rfl⟩
 refine bV ?_
 refine w0 [(0,eR.av eA.cells a0),(3,.la 3 0),(7,iv (a0.l.length:Int)),(8,iv (k2:Int))] [(3,(eA.cells a1))] ?_
 refine qg ?_
 refine fu ((k2:Int)) (1) ?_
 refine ab ?_
 exact ⟨by omega,rfl,rfl⟩
 refine am ?_
 refine w0 [] [] ?_
 refine a6 ?_
 exact xA (iv (-1)) ⟨(-1),trivial,rfl⟩
theorem Lj:eG.get 100=some zm:=by kernel_rfl
theorem pt:ei 100=none:=by kernel_rfl
def wW (_a0:eR eA) (_a1:eA) (v:AV):Prop:=∃ r0:Bool,(True)∧v=.bool r0
theorem t100 (a0:eR eA) (a1:eA)  (h:bY):∃ v,eH cfg eG.get ei false 100 [eR.av eA.cells a0,.agg (eA.cells a1)] h v h∧wW a0 a1 v:=by
 refine eW pt Lj rfl rfl ?_
 refine aU ?_
 refine ae ?_
 refine oC (t163 a0 a1) ?_
 rintro _ ⟨r2,hc1,rfl⟩
 refine gV (r2) (0) (fun h3=>?_) (fun h3=>?_)
 refine ag ?_
 exact xA (.bool true) ⟨true,trivial,rfl⟩
 refine ag ?_
 exact xA (.bool false) ⟨false,trivial,rfl⟩
theorem J8:eG.get 164=some zK:=by kernel_rfl
theorem Ht:ei 164=none:=by kernel_rfl
def T7 (_a0:eE) (_a1:Int) (_a2:Int) (_a3:Int) (v:AV):Prop:=∃ r0:Int,∃ r1:Bool,(True)∧v=.eP [iv r0,.bool r1]
theorem t164 (a0:eE) (a1:Int) (a2:Int) (a3:Int)  (h:bY):∃ v,eH cfg eG.get ei false 164 [.ip (eE.cells a0) 0 false,iv a1,iv a2,iv a3] h v h∧T7 a0 a1 a2 a3 v:=by
 refine eW Ht J8 rfl rfl ?_
 refine aU ?_
 refine aB ?_
 refine oC (t209 a0 (a1) (a2)) ?_
 rintro _ ⟨r2,hc1,rfl⟩
 have hL3:=r2.lk
 refine fA r2 ?_
 refine aP ?_
 have hNk4:=r2.lk
 refine eN (r2.l.length) (fun k4 e h=>proj [3,15,16,17] e=[(3,iv a3),(15,Row.av fc.cells r2),(16,iv (r2.l.length:Int)),(17,iv (k4:Int))]∧{ h with dO:=eV [3,15,16,17] h.dO } = { bY.empty with dO:=[] }) ?_ (k0:=0) cB ⟨rfl,rfl⟩
 rintro k4 e h hkk4 ⟨he,hh⟩
 refine ff he hh ?_
 clear he hh
 refine aa ?_
 refine fg ((k4:Int)) ((r2.l.length:Int)) (fun h5=>?_) (fun h5=>?_)
 refine ao ?_
 refine w0 [(3,iv a3),(15,Row.av fc.cells r2),(16,iv (r2.l.length:Int)),(17,iv (k4:Int))] [] ?_
 refine bg ?_
 have hx6:k4<r2.l.length:=by omega
 refine gL k4 r2 hx6 ?_
 generalize hqx7:r2.l[k4]=x7
 refine cg ?_
 refine fj (x7.pos) (0) (fun h8=>?_) (fun h8=>?_)
 refine bk ?_
 refine aC ?_
 refine bM ?_
 exact xF (.eP [iv x7.out,.bool true]) ⟨(x7.out),true,trivial,rfl⟩
 iterate 4 refine oV ?_
 refine fj (x7.pos) (a3) (fun h9=>?_) (fun h9=>?_)
 refine aC ?_
 refine bM ?_
 exact xF (.eP [iv x7.out,.bool true]) ⟨(x7.out),true,trivial,rfl⟩
 refine aw ?_
 refine w0 [(3,iv a3),(15,Row.av fc.cells r2),(16,iv (r2.l.length:Int)),(17,iv (k4:Int))] [] ?_
 refine qg ?_
 refine fu ((k4:Int)) (1) ?_
 refine ab ?_
 exact ⟨by omega,rfl,rfl⟩
 refine am ?_
 refine w0 [] [] ?_
 refine a9 ?_
 exact xF (.eP [iv 0,.bool false]) ⟨(0),false,trivial,rfl⟩
theorem IL:eG.get 101=some zI:=by kernel_rfl
theorem Hy:ei 101=none:=by kernel_rfl
def Tc (_a0:eE) (_a1:Int) (_a2:Int) (_a3:Int) (v:AV):Prop:=∃ r0:Int,∃ r1:Bool,(True)∧v=.eP [iv r0,.bool r1]
theorem t101 (a0:eE) (a1:Int) (a2:Int) (a3:Int)  (h:bY):∃ v,eH cfg eG.get ei false 101 [.ip (eE.cells a0) 0 false,iv a1,iv a2,iv a3] h v h∧Tc a0 a1 a2 a3 v:=by
 refine eW Hy IL rfl rfl ?_
 refine aU ?_
 refine aG ?_
 refine oC (t164 a0 (a1) (a2) (a3)) ?_
 rintro _ ⟨r2,r3,hc1,rfl⟩
 cases r3
 refine bb ?_
 exact xF (.eP [iv r2,.bool false]) ⟨(r2),false,trivial,rfl⟩
 refine bb ?_
 exact xF (.eP [iv r2,.bool true]) ⟨(r2),true,trivial,rfl⟩
end Go.Sx
