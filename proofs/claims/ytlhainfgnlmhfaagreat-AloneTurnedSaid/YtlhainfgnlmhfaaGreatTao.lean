/- Proves what some functions of the program answer, by walking through them. -/
import Derived.Test.YtlhainfgnlmhfaaGreatTaj
import Derived.Test.YtlhainfgnlmhfaaGreatTak
import Derived.Test.YtlhainfgnlmhfaaGreatTal
import Derived.Test.YtlhainfgnlmhfaaGreatTam
import Derived.Test.YtlhainfgnlmhfaaGreatTan
set_option linter.all false
set_option maxRecDepth 100000
set_option maxHeartbeats 0
namespace Go.Sx
open Go Go.Proofs
theorem N3:eG.get 53=some Cv:=by kernel_rfl
theorem I2:ei 53=none:=by kernel_rfl
def Wv (_a0:eE) (_a1:eF) (v:AV):Prop:=∃ r0:eF,(r0.steps.l = _a1.steps.l∧r0.gU.l = _a1.gU.l)∧v=.agg (eF.cells r0)
theorem t53 (a0:eE) (a1:eF) (q1:iY a0.p) (q2:a0.next.length≤240) (q3:a1.steps.l.length≤12) (q4:a1.gU.l.length≤1000) (h:bY):∃ v,eH cfg eG.get ei false 53 [.ip (eE.cells a0) 0 false,.agg (eF.cells a1)] h v h∧Wv a0 a1 v:=by
 refine eW I2 N3 rfl rfl ?_
 have q5:(univ a0).length≤241:=by simp only [univ,List.length_cons,List.length_map]; omega
 refine aa ?_
 refine e7 (H:=bY.empty) rfl (mr gg rfl rfl rfl rfl rfl) ?_
 rintro _ H2 ⟨b1,rfl,hS3⟩
 refine e7 (H:=H2) rfl (mr hS3 rfl rfl rfl rfl rfl) ?_
 rintro _ H5 ⟨b4,rfl,hS6⟩
 refine ab ?_
 refine oo ?_
 refine aN ?_
 refine eI rfl rfl (fun _=>fq (H:=H5) (i:=0) hS6 rfl rfl rfl rfl rfl) ?_
 refine eI rfl rfl (fun _=>eU (H:=H5) (i:=0) (o:=3) (r:=Row.av ew.cells a1.steps) hS6 rfl rfl rfl rfl) ?_
 refine rC (t93 (Row.iV a1.steps) cq) ?_
 rintro _ ⟨r8,hc7,rfl⟩
 have hC93:=congrArg List.length hc7; try simp only [Row.iV] at hC93
 refine eI rfl rfl (fun _=>fq (H:=H5) (i:=0) hS6 rfl rfl rfl rfl rfl) ?_
 refine eI rfl rfl (fun _=>eU (H:=H5) (i:=0) (o:=4) (r:=Row.av eA.cells a1.gU) hS6 rfl rfl rfl rfl) ?_
 refine rC (t94 (Row.iV a1.gU) cq) ?_
 rintro _ ⟨r10,hc9,rfl⟩
 have hC94:=congrArg List.length hc9; try simp only [Row.iV] at hC94
 refine eI rfl rfl (fun _=>fq (H:=H5) (i:=0) hS6 rfl rfl rfl rfl rfl) ?_
 refine iA (H:=H5) rfl rfl (gC (H:=H5) (i:=0) (o:=3) (r:=Row.av ew.cells r8) hS6 rfl rfl rfl rfl rfl rfl rfl) ?_
 rintro _ H11 ⟨rfl,hS12⟩
 refine eI rfl rfl (fun _=>fq (H:=H11) (i:=0) hS12 rfl rfl rfl rfl rfl) ?_
 refine iA (H:=H11) rfl rfl (gC (H:=H11) (i:=0) (o:=4) (r:=Row.av eA.cells r10) hS12 rfl rfl rfl rfl rfl rfl rfl) ?_
 rintro _ H13 ⟨rfl,hS14⟩
 refine rN ?_
 refine aa ?_
 refine eg rfl (fun _=>fq (H:=H13) (i:=0) hS14 rfl rfl rfl rfl rfl) ?_
 refine e7 (H:=H13) rfl (gC (H:=H13) (i:=0) (o:=5) (r:=.sl [] .nil) hS14 rfl rfl rfl rfl rfl rfl rfl) ?_
 rintro _ H15 ⟨rfl,hS16⟩
 refine eg rfl (fun _=>fq (H:=H15) (i:=0) hS16 rfl rfl rfl rfl rfl) ?_
 refine e7 (H:=H15) rfl (gC (H:=H15) (i:=0) (o:=6) (r:=.sl [] .nil) hS16 rfl rfl rfl rfl rfl rfl rfl) ?_
 rintro _ H17 ⟨rfl,hS18⟩
 refine eg rfl (fun _=>fq (H:=H17) (i:=0) hS18 rfl rfl rfl rfl rfl) ?_
 refine e7 (H:=H17) rfl (gC (H:=H17) (i:=0) (o:=7) (r:=.sl [] .nil) hS18 rfl rfl rfl rfl rfl rfl rfl) ?_
 rintro _ H19 ⟨rfl,hS20⟩
 refine eg rfl (fun _=>fq (H:=H19) (i:=0) hS20 rfl rfl rfl rfl rfl) ?_
 refine e7 (H:=H19) rfl (gC (H:=H19) (i:=0) (o:=8) (r:=.bool false) hS20 rfl rfl rfl rfl rfl rfl rfl) ?_
 rintro _ H21 ⟨rfl,hS22⟩
 refine oN ?_
 refine aa ?_
 refine eg rfl (fun _=>eU (H:=H21) (i:=1) (o:=0) (r:=.ip (eE.cells a0) 0 false) hS22 rfl rfl rfl rfl) ?_
 refine oC (t54 a0 cq) ?_
 rintro _ ⟨r24,hc23,rfl⟩
 refine gH (b:=r24.gT) rfl (fun _=>rfl) (fun h25=>?_) (fun h25=>?_)
 refine ab ?_
 refine aa ?_
 refine e7 (H:=H21) rfl (ic hS22) ?_
 rintro _ H27 ⟨b26,rfl,hS28⟩
 refine ab ?_
 refine aa ?_
 refine e7 (H:=H27) rfl (uY hS28 rfl rfl) ?_
 rintro _ H30 ⟨b29,rfl,hS31⟩
 refine oN ?_
 refine aa ?_
 refine eg rfl (fun _=>eU (H:=H30) (i:=3) (o:=0) (r:=.ip (eE.cells a0) 0 false) hS31 rfl rfl rfl rfl) ?_
 refine eg rfl (fun _=>eU (H:=H30) (i:=2) (o:=0) (r:=.agg [iv a1.from_,iv a1.to,iv a1.end_,Row.av ew.cells r8,Row.av eA.cells r10,.sl [] .nil,.sl [] .nil,.sl [] .nil,.bool false]) hS31 rfl rfl rfl rfl) ?_
 refine oC (t95 a0 (⟨(a1.from_),(a1.to),(a1.end_),r8,r10,(⟨[],.nil,Nat.zero_le _,rfl,fun _=>rfl⟩:Row eA),(⟨[],.nil,Nat.zero_le _,rfl,fun _=>rfl⟩:Row Int),(⟨[],.nil,Nat.zero_le _,rfl,fun _=>rfl⟩:Row Int),false⟩:eF) cq) ?_
 rintro _ ⟨r33,hc32,rfl⟩
 dsimp only at hc32
 refine ab ?_
 refine ak ?_
 have hL34:=r33.lk
 refine fA r33 ?_
 have hL35:=r33.lk
 refine g7 ((r33.l.length:Int)) (1) ?_
 refine aP ?_
 have hS36:=Sep.iF hS31 2
 refine iC (fun m42 e h=>∃ v37:AV,∃ l38:List ed,∃ n39:Int,∃ H40:bY,m42=(n39+1).toNat∧(-1≤n39)∧(n39<(r33.l.length:Int))∧((l38.length:Int)+n39+1≤r33.l.length)∧((∀ y∈(l38:List ed),y∈univ a0))∧Sep H40 (.sl true true v37 2 (List.map ed.cells l38)::.obj (.ptr b29 0 0 0) [v37]::.map (.hm b26) (eM pK bK [])::.obj (.ptr b4 0 0 0) [iv a1.from_,iv a1.to,iv a1.end_,Row.av ew.cells r8,Row.av eA.cells r10,.sl [] .nil,.sl [] .nil,.sl [] .nil,.bool false]::.obj (.ptr b1 0 0 0) [.ip (eE.cells a0) 0 false]::[])∧proj [2,3,4,5,6,7,8,9] e=[(2,(.ptr b1 0 0 0)),(3,(.ptr b4 0 0 0)),(4,.la 4 0),(5,.bool true),(6,(.hm b26)),(7,(.ptr b29 0 0 0)),(8,Row.av ed.cells r33),(9,iv n39)]∧{ h with dO:=eV [2,3,4,5,6,7,8,9] h.dO } = { H40 with dO:=[(4,[iv 0,iv 0,iv 0,.sl [] .nil,.sl [] .nil,.sl [] .nil,.sl [] .nil,.sl [] .nil,.bool false])] }) ?_ _ _ _ ⟨((.sl [] .nil)),(([]:List ed)),((r33.l.length:Int) - 1),H30,rfl,cw,cw,cw,dv,hS36,rfl,rfl⟩
 rintro m42 e h ⟨v37,l38,n39,H40,hmm42,hA1,hA2,hA3,hTu,hS41,he,hh⟩
 refine ff he hh ?_
 clear he hh
 refine ak ?_
 refine gV (n39) (0) (fun h43=>?_) (fun h43=>?_)
 refine aX ?_
 refine wa [(2,(.ptr b1 0 0 0)),(3,(.ptr b4 0 0 0)),(4,.la 4 0),(5,.bool true),(6,(.hm b26)),(7,(.ptr b29 0 0 0)),(8,Row.av ed.cells r33),(9,iv n39)] H40 [(4,[iv 0,iv 0,iv 0,.sl [] .nil,.sl [] .nil,.sl [] .nil,.sl [] .nil,.sl [] .nil,.bool false])] ?_
 refine aA ?_
 refine aN ?_
 refine eI rfl rfl (fun _=>eU (H:=H40) (i:=4) (o:=0) (r:=.ip (eE.cells a0) 0 false) hS41 rfl rfl rfl rfl) ?_
 iterate 2 refine rV ?_
 have hx44:(n39).toNat<r33.l.length:=by omega
 refine eI rfl rfl (fun _=>fE (n:=n39) (r:=r33) (enc:=ed.cells) rfl rfl rfl rfl rfl cB hx44 rfl) ?_
 generalize hqx45:r33.l[(n39).toNat]=x45
 refine rV ?_
 refine rC (t80 a0 x45) ?_
 rintro _ ⟨r47,r48,hc46,rfl⟩
 have hN:=hc46
 cases r48
 refine bc ?_
 refine qg ?_
 refine eg rfl (fun _=>eU (H:=H40) (i:=1) (o:=0) (r:=v37) hS41 rfl rfl rfl rfl) ?_
 iterate 2 refine oV ?_
 refine e7 (H:=H40) rfl (fX (H:=H40) (i:=0) (l:=l38) (enc:=ed.cells) [r47] hS41 rfl rfl rfl rfl rfl rfl rfl rfl rfl (fun _=>rfl) (.inl rfl) cF (fun _=>rfl)) ?_
 rintro v49 H50 hS51
 refine e7 (H:=H50) rfl (gC (H:=H50) (i:=1) (o:=0) (r:=v49) hS51 rfl rfl rfl rfl (iJ rfl rfl (Sep.cell (i:=0) hS51 rfl)) (eJ (Sep.cell (i:=0) hS51 rfl) fG) rfl) ?_
 rintro _ H52 ⟨rfl,hS53⟩
 refine oN ?_
 refine wa [(2,(.ptr b1 0 0 0)),(3,(.ptr b4 0 0 0)),(4,.la 4 0),(5,.bool true),(6,(.hm b26)),(7,(.ptr b29 0 0 0)),(8,Row.av ed.cells r33),(9,iv n39)] H52 [(4,[iv 0,iv 0,iv 0,.sl [] .nil,.sl [] .nil,.sl [] .nil,.sl [] .nil,.sl [] .nil,.bool false])] ?_
 refine aM ?_
 refine g7 (n39) (1) ?_
 refine ab ?_
 refine ⟨_,?_,(v49),((l38++[r47])),(n39 - 1),H52,rfl,cw,cw,cw,dR,hS53,rfl,rfl⟩
 omega
 refine bc ?_
 refine qg ?_
 refine eg rfl (fun _=>eU (H:=H40) (i:=1) (o:=0) (r:=v37) hS41 rfl rfl rfl rfl) ?_
 iterate 2 refine oV ?_
 refine e7 (H:=H40) rfl (fX (H:=H40) (i:=0) (l:=l38) (enc:=ed.cells) [r47] hS41 rfl rfl rfl rfl rfl rfl rfl rfl rfl (fun _=>rfl) (.inl rfl) cF (fun _=>rfl)) ?_
 rintro v54 H55 hS56
 refine e7 (H:=H55) rfl (gC (H:=H55) (i:=1) (o:=0) (r:=v54) hS56 rfl rfl rfl rfl (iJ rfl rfl (Sep.cell (i:=0) hS56 rfl)) (eJ (Sep.cell (i:=0) hS56 rfl) fG) rfl) ?_
 rintro _ H57 ⟨rfl,hS58⟩
 refine oN ?_
 refine wa [(2,(.ptr b1 0 0 0)),(3,(.ptr b4 0 0 0)),(4,.la 4 0),(5,.bool true),(6,(.hm b26)),(7,(.ptr b29 0 0 0)),(8,Row.av ed.cells r33),(9,iv n39)] H57 [(4,[iv 0,iv 0,iv 0,.sl [] .nil,.sl [] .nil,.sl [] .nil,.sl [] .nil,.sl [] .nil,.bool false])] ?_
 refine aM ?_
 refine g7 (n39) (1) ?_
 refine ab ?_
 refine ⟨_,?_,(v54),((l38++[r47])),(n39 - 1),H57,rfl,cw,cw,cw,dR,hS58,rfl,rfl⟩
 omega
 refine aE ?_
 refine wa [(2,(.ptr b1 0 0 0)),(3,(.ptr b4 0 0 0)),(4,.la 4 0),(5,.bool true),(6,(.hm b26)),(7,(.ptr b29 0 0 0))] H40 [(4,[iv 0,iv 0,iv 0,.sl [] .nil,.sl [] .nil,.sl [] .nil,.sl [] .nil,.sl [] .nil,.bool false])] ?_
 refine aa ?_
 refine eg rfl (fun _=>qn rfl rfl (qo rfl rfl)) ?_
 refine ab ?_
 refine cf ?_
 have hS59:=Sep.iF hS41 1
 have hS60:=Sep.iF hS59 2
 have hS61:=Sep.iF hS60 1
 have hS62:=Sep.pA (i:=3) hS61 rfl
 refine iC (fun m76 e h=>∃ v63:AV,∃ l64:List eA,∃ v65:AV,∃ l66:List Int,∃ v67:AV,∃ l68:List ed,∃ l69:List (ed×Bool),∃ n70:Int,∃ n71:Int,∃ n72:Int,∃ b73:Bool,∃ H74:bY,m76=3*((univ a0).length - l69.length)+l68.length∧(l9 l69)∧(∀ k∈l69.map Prod.fst,k∈univ a0)∧(∀ y∈(l69:List (ed×Bool)),y.2=true)∧((∀ y∈(l68:List ed),y∈univ a0))∧(l68.length+3*((univ a0).length - l69.length)≤1000)∧(l64.length≤l69.length)∧(([]:List Int).length≤l69.length)∧(l66.length≤12)∧(l69.length≤(univ a0).length)∧Sep H74 (.sl true true (.sl [] .nil) 1 (List.map eu ([]:List Int))::.sl true true v63 2 (List.map eA.cells l64)::.sl true true v65 1 (List.map eu l66)::.sl true false v67 2 (List.map ed.cells l68)::.obj (.ptr b29 0 0 0) [v67]::.map (.hm b26) (eM pK bK l69)::.obj (.ptr b4 0 0 0) [iv n70,iv n71,iv n72,Row.av ew.cells r8,Row.av eA.cells r10,v63,v65,(.sl [] .nil),.bool b73]::.obj (.ptr b1 0 0 0) [.ip (eE.cells a0) 0 false]::[])∧proj [2,3,4,5,6,7,12] e=[(2,(.ptr b1 0 0 0)),(3,(.ptr b4 0 0 0)),(4,.la 4 0),(5,.bool true),(6,(.hm b26)),(7,(.ptr b29 0 0 0)),(12,.fz 96 [] [(.ptr b1 0 0 0),(.ptr b29 0 0 0)])]∧{ h with dO:=eV [2,3,4,5,6,7,12] h.dO } = { H74 with dO:=[(4,[iv 0,iv 0,iv 0,.sl [] .nil,.sl [] .nil,.sl [] .nil,.sl [] .nil,.sl [] .nil,.bool false])] }) ?_ _ _ _ ⟨((.sl [] .nil)),(([]:List eA)),((.sl [] .nil)),(([]:List Int)),(v37),(l38),([]),(a1.from_),(a1.to),(a1.end_),(false),H40,rfl,(by simp [l9]),dv,dv,da,cw,dv,dv,dv,dv,hS62,rfl,rfl⟩
 rintro m76 e h ⟨v63,l64,v65,l66,v67,l68,l69,n70,n71,n72,b73,H74,hmm76,hKd,hKu,hT,hTu,hB1,hB2,hB3,hB4,hB5,hS75,he,hh⟩
 refine ff he hh ?_
 clear he hh
 refine bL ?_
 refine eg rfl (fun _=>eU (H:=H74) (i:=4) (o:=0) (r:=v67) hS75 rfl rfl rfl rfl) ?_
 refine eg rfl (fun _=>jb (H:=H74) (i:=3) (l:=l68) (enc:=ed.cells) hS75 rfl rfl rfl rfl rfl rfl rfl) ?_
 refine fW ((l68.length:Int)) (0) (fun h77=>?_) (fun h77=>?_)
 refine aX ?_
 refine wa [(2,(.ptr b1 0 0 0)),(3,(.ptr b4 0 0 0)),(4,.la 4 0),(5,.bool true),(6,(.hm b26)),(7,(.ptr b29 0 0 0)),(12,.fz 96 [] [(.ptr b1 0 0 0),(.ptr b29 0 0 0)])] H74 [(4,[iv 0,iv 0,iv 0,.sl [] .nil,.sl [] .nil,.sl [] .nil,.sl [] .nil,.sl [] .nil,.bool false])] ?_
 refine qb ?_
 refine aa ?_
 iterate 2 refine eg rfl (fun _=>eU (H:=H74) (i:=4) (o:=0) (r:=v67) hS75 rfl rfl rfl rfl) ?_
 refine eg rfl (fun _=>jb (H:=H74) (i:=3) (l:=l68) (enc:=ed.cells) hS75 rfl rfl rfl rfl rfl rfl rfl) ?_
 refine g7 ((l68.length:Int)) (1) ?_
 have hk78:((((l68.length:Int) - 1).toNat:Nat):Int)=(l68.length:Int) - 1:=Int.toNat_of_nonneg cA
 have hx79:((l68.length:Int) - 1).toNat<l68.length:=by first | omega | (simp<;>omega) | (simp_all; omega)
 obtain ⟨x80,hqx80⟩:∃ x,l68[((l68.length:Int) - 1).toNat]=x:=⟨_,rfl⟩
 have hinx80:x80∈l68:=by rw [← hqx80]; exact List.getElem_mem _
 have hmx80:=hTu x80 hinx80
 refine nu rfl (je (H:=H74) (i:=3) (m:=((l68.length:Int) - 1).toNat) (cs:=ed.cells x80) hS75 rfl rfl rfl rfl rfl rfl (congrArg (AV.int .i64) hk78.symm) (g9 hx79 hqx80)) ?_
 rintro a81 ⟨ha82,hea83⟩
 refine eg rfl (fun _=>kB (H:=H74) (i:=3) (m:=((l68.length:Int) - 1).toNat) (o:=0) (r:=.agg (ed.cells x80)) (cs:=ed.cells x80) hS75 rfl (g9 hx79 hqx80) hea83 rfl rfl ha82) ?_
 refine ah ?_
 refine aa ?_
 iterate 2 refine eg rfl (fun _=>eU (H:=H74) (i:=4) (o:=0) (r:=v67) hS75 rfl rfl rfl rfl) ?_
 refine eg rfl (fun _=>jb (H:=H74) (i:=3) (l:=l68) (enc:=ed.cells) hS75 rfl rfl rfl rfl rfl rfl rfl) ?_
 refine g7 ((l68.length:Int)) (1) ?_
 have hk84:((((l68.length:Int) - 1).toNat:Nat):Int)=(l68.length:Int) - 1:=Int.toNat_of_nonneg cA
 have hx85:((l68.length:Int) - 1).toNat≤l68.length:=by first | omega | (simp<;>omega) | (simp_all; omega)
 have hTl:(l68.take (((l68.length:Int) - 1).toNat)).length+1=l68.length:=by rw [List.length_take]; omega
 have hTu:∀ y∈l68.take (((l68.length:Int) - 1).toNat),y∈univ a0:=fun y hy=>hTu y (List.mem_of_mem_take hy)
 refine e7 (H:=H74) rfl (nW (H:=H74) (i:=3) (k:=((l68.length:Int) - 1).toNat) hS75 rfl rfl rfl rfl rfl rfl (congrArg (AV.int .i64) hk84.symm) hx85) ?_
 rintro v86 H87 ⟨hc88,hS89⟩
 refine e7 (H:=H87) rfl (gC (H:=H87) (i:=4) (o:=0) (r:=v86) hS89 rfl rfl rfl rfl (iJ rfl rfl (Sep.cell (i:=3) hS89 rfl)) (eJ (Sep.cell (i:=3) hS89 rfl) fG) rfl) ?_
 rintro _ H90 ⟨rfl,hS91⟩
 refine oN ?_
 refine bL ?_
 refine eg rfl (fun _=>eU (H:=H90) (i:=6) (o:=0) (r:=.agg [iv n70,iv n71,iv n72,Row.av ew.cells r8,Row.av eA.cells r10,v63,v65,(.sl [] .nil),.bool b73]) hS91 rfl rfl rfl rfl) ?_
 iterate 2 refine oV ?_
 refine Exists.elim (gx (H:=H90) (i:=1) (l:=l64) (enc:=eA.cells) hS91 rfl cP) (fun r92 hh=>And.elim (fun hl93 hf94=>?_) hh)
 have hln96:=congrArg List.length hl93
 have hz95:∀ m,freeze true { H90 with dO:=[] } (m+2) v63=some (eR.av eA.cells r92):=fun m=>hf94 [] _ (fun _=>rfl)
 refine Exists.elim (gx (H:=H90) (i:=2) (l:=l66) (enc:=eu) hS91 rfl cP) (fun r97 hh=>And.elim (fun hl98 hf99=>?_) hh)
 have hln101:=congrArg List.length hl98
 have hz100:∀ m,freeze true { H90 with dO:=[] } (m+2) v65=some (eR.av eu r97):=fun m=>hf99 [] _ (fun _=>rfl)
 refine Exists.elim (gx (H:=H90) (i:=0) (l:=([]:List Int)) (enc:=eu) hS91 rfl cP) (fun r102 hh=>And.elim (fun hl103 hf104=>?_) hh)
 have hln106:=congrArg List.length hl103
 have hz105:∀ m,freeze true { H90 with dO:=[] } (m+2) (.sl [] .nil)=some (eR.av eu r102):=fun m=>hf104 [] _ (fun _=>rfl)
 refine ib (args:=[.agg [iv n70,iv n71,iv n72,Row.av ew.cells r8,Row.av eA.cells r10,v63,v65,(.sl [] .nil),.bool b73],iv x80.elem]) (p:=[]) (r:=[]) (args':=[.agg [iv n70,iv n71,iv n72,Row.av ew.cells r8,Row.av eA.cells r10,eR.av eA.cells r92,eR.av eu r97,eR.av eu r102,.bool b73],iv x80.elem]) (R:=JM (⟨(n70),(n71),(n72),(Row.iV r8),(Row.iV r10),r92,r97,r102,(b73)⟩:lj) (x80.elem)) rfl rfl rfl rfl rfl rfl rfl xr (gb (by show fx (freeze true { H90 with dO:=[] } 8) [.agg [iv n70,iv n71,iv n72,Row.av ew.cells r8,Row.av eA.cells r10,v63,v65,(.sl [] .nil),.bool b73],iv x80.elem] = _; simp only [FZ,hz95,hz100,hz105]) (eJ (FI (eJ rfl (eJ rfl (eJ rfl (eJ rfl (eJ rfl (eJ (Sep.cell (i:=1) hS91 rfl) (eJ (Sep.cell (i:=2) hS91 rfl) (eJ rfl (eJ rfl fG)))))))))) (eJ rfl fG))) (gb dt (eJ rfl (eJ rfl fG))) (fun h=>t97 (⟨(n70),(n71),(n72),(Row.iV r8),(Row.iV r10),r92,r97,r102,(b73)⟩:lj) (x80.elem)  h) ?_
 rintro _ ⟨r108,hc107,rfl⟩
 cases r108
 iterate 3 refine oV ?_
 refine ix (H:=H90) (i:=5) (ek:=pK) (ev:=bK) (l:=l69) x80 rfl rfl hS91 rfl rfl rfl rfl rfl rfl rfl rfl gB (fun y109 h110=>?_) (fun h111=>?_)
 cases y109
 exact absurd (hT _ (jt h110)) dv
 refine bJ ?_
 refine ⟨_,?_,(v63),(l64),(v65),(l66),(v86),((l68.take (((l68.length:Int) - 1).toNat))),(l69),(n70),(n71),(n72),(b73),H90,rfl,dh,dg,dk,da,cy,cw,cw,cw,cS,hS91,rfl,rfl⟩
 first | omega | (simp only [List.length_append,List.length_cons,List.length_nil,List.length_take] at *; omega)
 refine aw ?_
 refine wa [(2,(.ptr b1 0 0 0)),(3,(.ptr b4 0 0 0)),(4,.la 4 0),(5,.bool true),(6,(.hm b26)),(7,(.ptr b29 0 0 0)),(12,.fz 96 [] [(.ptr b1 0 0 0),(.ptr b29 0 0 0)]),(13,.la 13 0)] H90 [(4,[iv 0,iv 0,iv 0,.sl [] .nil,.sl [] .nil,.sl [] .nil,.sl [] .nil,.sl [] .nil,.bool false]),(13,(ed.cells x80))] ?_
 refine ae ?_
 have hPl:(put x80 true l69).length=l69.length+1:=by rw [uk cC]; simp
 have hKd:l9 (put x80 true l69):=xg hKd cC
 have hKu:∀ k∈(put x80 true l69).map Prod.fst,k∈univ a0:=uU hKu cC
 have hPle:(put x80 true l69).length≤(univ a0).length:=by rw [← List.length_map Prod.fst]; exact qZ hKd hKu
 have hT:∀ y∈(put x80 true l69),y.2=true:=pI (P:=fun y:Bool=>y=true) hT rfl
 refine e7 (H:=H90) rfl (iR (H:=H90) (i:=5) (ek:=pK) (ev:=bK) (l:=l69) x80 true hS91 rfl rfl rfl rfl rfl rfl gB) ?_
 rintro _ H112 ⟨rfl,hS113⟩
 refine oN ?_
 refine kK (fun E Z=>(E=[(2,(.ptr b1 0 0 0)),(3,(.ptr b4 0 0 0)),(4,.la 4 0),(5,.bool true),(6,(.hm b26)),(7,(.ptr b29 0 0 0)),(12,.fz 96 [] [(.ptr b1 0 0 0),(.ptr b29 0 0 0)]),(13,.la 13 0)]∧Z = { H112 with dO:=[(4,[iv 0,iv 0,iv 0,.sl [] .nil,.sl [] .nil,.sl [] .nil,.sl [] .nil,.sl [] .nil,.bool false]),(13,(ed.cells x80))] })) ?_ ?_
 rintro _ _ ⟨rfl,rfl⟩
 refine aa ?_
 refine eg rfl (fun _=>eU (H:=H112) (i:=7) (o:=0) (r:=.ip (eE.cells a0) 0 false) hS113 rfl rfl rfl rfl) ?_
 iterate 2 refine oV ?_
 refine oC (t46 a0 (x80.elem)) ?_
 rintro _ ⟨r115,hc114,rfl⟩
 have hK:=hc114
 refine bP ?_
 refine fj (r115) (4) (fun h116=>?_) (fun h116=>?_)
 refine aC ?_
 refine qg ?_
 refine eg rfl (fun _=>fq (H:=H112) (i:=6) hS113 rfl rfl rfl rfl rfl) ?_
 refine e7 (H:=H112) rfl (gC (H:=H112) (i:=6) (o:=8) (r:=.bool true) hS113 rfl rfl rfl rfl rfl rfl rfl) ?_
 rintro _ H117 ⟨rfl,hS118⟩
 refine oN ?_
 refine ⟨_,?_,(v63),(l64),(v65),(l66),(v86),((l68.take (((l68.length:Int) - 1).toNat))),((put x80 true l69)),(n70),(n71),(n72),(true),H117,rfl,dh,dg,dk,da,cy,cw,cw,cw,cS,hS118,rfl,rfl⟩
 first | omega | (simp only [List.length_append,List.length_cons,List.length_nil,List.length_take] at *; omega)
 refine aS ?_
 refine fj (r115) (2) (fun h119=>?_) (fun h119=>?_)
 refine aC ?_
 refine aI ?_
 refine fj (x80.en) (0) (fun h120=>?_) (fun h120=>?_)
 refine ay ?_
 refine aI ?_
 have hS121:Sep H112 (.obj (.ptr b4 0 0 0) [iv n70,iv n71,iv n72,Row.av ew.cells r8,Row.av eA.cells r10,v63,v65,(.sl [] .nil),.bool b73]::.sl true true v63 2 (List.map eA.cells l64)::.sl true true v65 1 (List.map eu l66)::.sl true true (.sl [] .nil) 1 (List.map eu ([]:List Int))::.sl true false v86 2 (List.map ed.cells (l68.take (((l68.length:Int) - 1).toNat)))::.obj (.ptr b29 0 0 0) [v86]::.map (.hm b26) (eM pK bK (put x80 true l69))::.obj (.ptr b1 0 0 0) [.ip (eE.cells a0) 0 false]::[]):=Sep.pick hS113 [6,1,2,0,3,4,5,7] 8 cG cG
 refine fU (H:=H112) (args:=[(.ptr b4 0 0 0),iv x80.elem]) (p:=[]) (r:=[]) rfl rfl rfl rfl rfl rfl rfl (u6 b4 n70 n71 n72 r8 r10 v63 l64 v65 l66 (.sl [] .nil) ([]:List Int) b73 (x80.elem) (.sl true false v86 2 (List.map ed.cells (l68.take (((l68.length:Int) - 1).toNat)))::.obj (.ptr b29 0 0 0) [v86]::.map (.hm b26) (eM pK bK (put x80 true l69))::.obj (.ptr b1 0 0 0) [.ip (eE.cells a0) 0 false]::[]) hS121 cq) ?_
 rintro _ H122 ⟨r128,vzo125,zoneo126,bareo127,hc124,hS123,rfl⟩
 cases r128
 refine az ?_
 refine wa [(2,(.ptr b1 0 0 0)),(3,(.ptr b4 0 0 0)),(4,.la 4 0),(5,.bool true),(6,(.hm b26)),(7,(.ptr b29 0 0 0)),(12,.fz 96 [] [(.ptr b1 0 0 0),(.ptr b29 0 0 0)])] H122 [(4,[iv 0,iv 0,iv 0,.sl [] .nil,.sl [] .nil,.sl [] .nil,.sl [] .nil,.sl [] .nil,.bool false])] ?_
 refine qe ?_
 have hS129:Sep H122 (.sl true true (.sl [] .nil) 1 (List.map eu ([]:List Int))::.sl true true v63 2 (List.map eA.cells l64)::.sl true true vzo125 1 (List.map eu zoneo126)::.sl true false v86 2 (List.map ed.cells (l68.take (((l68.length:Int) - 1).toNat)))::.obj (.ptr b29 0 0 0) [v86]::.map (.hm b26) (eM pK bK (put x80 true l69))::.obj (.ptr b4 0 0 0) [iv n70,iv n71,iv n72,Row.av ew.cells r8,Row.av eA.cells r10,v63,vzo125,(.sl [] .nil),.bool bareo127]::.obj (.ptr b1 0 0 0) [.ip (eE.cells a0) 0 false]::[]):=Sep.pick hS123 [3,1,2,4,5,6,0,7] 8 cG cG
 refine ⟨_,?_,(v63),(l64),(vzo125),(zoneo126),(v86),((l68.take (((l68.length:Int) - 1).toNat))),((put x80 true l69)),(n70),(n71),(n72),(bareo127),H122,rfl,dh,dg,dk,da,cy,cw,cw,cw,cS,hS129,rfl,rfl⟩
 first | omega | (simp only [List.length_append,List.length_cons,List.length_nil,List.length_take] at *; omega)
 refine ay ?_
 refine aF ?_
 have hS130:Sep H122 (.obj (.ptr b1 0 0 0) [.ip (eE.cells a0) 0 false]::.obj (.ptr b29 0 0 0) [v86]::.sl true false v86 2 (List.map ed.cells (l68.take (((l68.length:Int) - 1).toNat)))::.obj (.ptr b4 0 0 0) [iv n70,iv n71,iv n72,Row.av ew.cells r8,Row.av eA.cells r10,v63,vzo125,(.sl [] .nil),.bool bareo127]::.sl true true v63 2 (List.map eA.cells l64)::.sl true true vzo125 1 (List.map eu zoneo126)::.sl true true (.sl [] .nil) 1 (List.map eu ([]:List Int))::.map (.hm b26) (eM pK bK (put x80 true l69))::[]):=Sep.pick hS123 [7,5,4,0,1,2,3,6] 8 cG cG
 refine fU (H:=H122) (args:=[iv x80.elem,iv 2]) (p:=[]) (r:=[(.ptr b1 0 0 0),(.ptr b29 0 0 0)]) rfl rfl rfl rfl rfl rfl rfl (sw (x80.elem) 2 b1 a0 b29 v86 (l68.take (((l68.length:Int) - 1).toNat)) (.obj (.ptr b4 0 0 0) [iv n70,iv n71,iv n72,Row.av ew.cells r8,Row.av eA.cells r10,v63,vzo125,(.sl [] .nil),.bool bareo127]::.sl true true v63 2 (List.map eA.cells l64)::.sl true true vzo125 1 (List.map eu zoneo126)::.sl true true (.sl [] .nil) 1 (List.map eu ([]:List Int))::.map (.hm b26) (eM pK bK (put x80 true l69))::[]) hS130 cq) ?_
 rintro _ H131 ⟨vto134,todoo135,hc133,hS132,rfl⟩
 have hTu:∀ y∈todoo135,y∈univ a0:=fun y hy=>(hc133.2 y hy).elim (hTu y) id
 refine oN ?_
 refine aY ?_
 have hS136:Sep H131 (.obj (.ptr b1 0 0 0) [.ip (eE.cells a0) 0 false]::.obj (.ptr b29 0 0 0) [vto134]::.sl true false vto134 2 (List.map ed.cells todoo135)::.obj (.ptr b4 0 0 0) [iv n70,iv n71,iv n72,Row.av ew.cells r8,Row.av eA.cells r10,v63,vzo125,(.sl [] .nil),.bool bareo127]::.sl true true v63 2 (List.map eA.cells l64)::.sl true true vzo125 1 (List.map eu zoneo126)::.sl true true (.sl [] .nil) 1 (List.map eu ([]:List Int))::.map (.hm b26) (eM pK bK (put x80 true l69))::[]):=Sep.pick hS132 [0,1,2,3,4,5,6,7] 8 cG cG
 refine fU (H:=H131) (args:=[iv x80.elem,iv 1]) (p:=[]) (r:=[(.ptr b1 0 0 0),(.ptr b29 0 0 0)]) rfl rfl rfl rfl rfl rfl rfl (sw (x80.elem) 1 b1 a0 b29 vto134 todoo135 (.obj (.ptr b4 0 0 0) [iv n70,iv n71,iv n72,Row.av ew.cells r8,Row.av eA.cells r10,v63,vzo125,(.sl [] .nil),.bool bareo127]::.sl true true v63 2 (List.map eA.cells l64)::.sl true true vzo125 1 (List.map eu zoneo126)::.sl true true (.sl [] .nil) 1 (List.map eu ([]:List Int))::.map (.hm b26) (eM pK bK (put x80 true l69))::[]) hS136 cq) ?_
 rintro _ H137 ⟨vto140,todoo141,hc139,hS138,rfl⟩
 have hTu:∀ y∈todoo141,y∈univ a0:=fun y hy=>(hc139.2 y hy).elim (hTu y) id
 refine oN ?_
 refine wa [(2,(.ptr b1 0 0 0)),(3,(.ptr b4 0 0 0)),(4,.la 4 0),(5,.bool true),(6,(.hm b26)),(7,(.ptr b29 0 0 0)),(12,.fz 96 [] [(.ptr b1 0 0 0),(.ptr b29 0 0 0)])] H137 [(4,[iv 0,iv 0,iv 0,.sl [] .nil,.sl [] .nil,.sl [] .nil,.sl [] .nil,.sl [] .nil,.bool false])] ?_
 refine qe ?_
 have hS142:Sep H137 (.sl true true (.sl [] .nil) 1 (List.map eu ([]:List Int))::.sl true true v63 2 (List.map eA.cells l64)::.sl true true vzo125 1 (List.map eu zoneo126)::.sl true false vto140 2 (List.map ed.cells todoo141)::.obj (.ptr b29 0 0 0) [vto140]::.map (.hm b26) (eM pK bK (put x80 true l69))::.obj (.ptr b4 0 0 0) [iv n70,iv n71,iv n72,Row.av ew.cells r8,Row.av eA.cells r10,v63,vzo125,(.sl [] .nil),.bool bareo127]::.obj (.ptr b1 0 0 0) [.ip (eE.cells a0) 0 false]::[]):=Sep.pick hS138 [6,4,5,2,1,7,3,0] 8 cG cG
 refine ⟨_,?_,(v63),(l64),(vzo125),(zoneo126),(vto140),(todoo141),((put x80 true l69)),(n70),(n71),(n72),(bareo127),H137,rfl,dh,dg,dk,da,cy,cw,cw,cw,cS,hS142,rfl,rfl⟩
 first | omega | (simp only [List.length_append,List.length_cons,List.length_nil,List.length_take] at *; omega)
 refine az ?_
 refine wa [(2,(.ptr b1 0 0 0)),(3,(.ptr b4 0 0 0)),(4,.la 4 0),(5,.bool true),(6,(.hm b26)),(7,(.ptr b29 0 0 0)),(12,.fz 96 [] [(.ptr b1 0 0 0),(.ptr b29 0 0 0)]),(13,.la 13 0)] H112 [(4,[iv 0,iv 0,iv 0,.sl [] .nil,.sl [] .nil,.sl [] .nil,.sl [] .nil,.sl [] .nil,.bool false]),(13,(ed.cells x80))] ?_
 refine aj ?_
 refine au ?_
 refine bL ?_
 refine eg rfl (fun _=>fq (H:=H112) (i:=6) hS113 rfl rfl rfl rfl rfl) ?_
 refine eg rfl (fun _=>eU (H:=H112) (i:=6) (o:=4) (r:=Row.av eA.cells r10) hS113 rfl rfl rfl rfl) ?_
 refine oV ?_
 refine oC (t100 (Row.iV r10) (⟨(x80.elem),(x80.en)⟩:eA)) ?_
 rintro _ ⟨r144,hc143,rfl⟩
 cases r144
 refine oV ?_
 refine eg rfl (fun _=>fq (H:=H112) (i:=6) hS113 rfl rfl rfl rfl rfl) ?_
 refine eg rfl (fun _=>eU (H:=H112) (i:=6) (o:=5) (r:=v63) hS113 rfl rfl rfl rfl) ?_
 refine oV ?_
 refine Exists.elim (gx (H:=H112) (i:=1) (l:=l64) (enc:=eA.cells) hS113 rfl cP) (fun r145 hh=>And.elim (fun hl146 hf147=>?_) hh)
 have hln149:=congrArg List.length hl146
 have hz148:∀ m,freeze true { H112 with dO:=[] } (m+2) v63=some (eR.av eA.cells r145):=fun m=>hf147 [] _ (fun _=>rfl)
 refine ib (args:=[v63,.agg (ed.cells x80)]) (p:=[]) (r:=[]) (args':=[eR.av eA.cells r145,.agg (ed.cells x80)]) (R:=wW r145 (⟨(x80.elem),(x80.en)⟩:eA)) rfl rfl rfl rfl rfl (eJ (Sep.arg (i:=1) hS113 rfl) (eJ rfl fG)) rfl pt (gb (by show fx (freeze true { H112 with dO:=[] } 8) [v63,.agg (ed.cells x80)] = _; simp only [FZ,hz148]) (eJ (Sep.lF (i:=1) hS113 rfl) (eJ rfl fG))) (gb dt (eJ rfl (eJ rfl fG))) (fun h=>t100 r145 (⟨(x80.elem),(x80.en)⟩:eA)  h) ?_
 rintro _ ⟨r151,hc150,rfl⟩
 cases r151
 refine aw ?_
 refine wa [(2,(.ptr b1 0 0 0)),(3,(.ptr b4 0 0 0)),(4,.la 4 0),(5,.bool true),(6,(.hm b26)),(7,(.ptr b29 0 0 0)),(12,.fz 96 [] [(.ptr b1 0 0 0),(.ptr b29 0 0 0)]),(13,.la 13 0)] H112 [(4,[iv 0,iv 0,iv 0,.sl [] .nil,.sl [] .nil,.sl [] .nil,.sl [] .nil,.sl [] .nil,.bool false]),(13,(ed.cells x80))] ?_
 refine aG ?_
 refine eg rfl (fun _=>fD rfl rfl rfl (gD .i64 (3) (x80.en))) ?_
 refine aW ?_
 refine aa ?_
 refine eg rfl (fun _=>fq (H:=H112) (i:=6) hS113 rfl rfl rfl rfl rfl) ?_
 refine eg rfl (fun _=>eU (H:=H112) (i:=6) (o:=5) (r:=v63) hS113 rfl rfl rfl rfl) ?_
 refine oV ?_
 refine Exists.elim (gx (H:=H112) (i:=1) (l:=l64) (enc:=eA.cells) hS113 rfl cP) (fun r152 hh=>And.elim (fun hl153 hf154=>?_) hh)
 have hln156:=congrArg List.length hl153
 have hz155:∀ m,freeze true { H112 with dO:=[] } (m+2) v63=some (eR.av eA.cells r152):=fun m=>hf154 [] _ (fun _=>rfl)
 refine ib (args:=[v63,.agg [iv x80.elem,iv (IntKind.i64.wrap (3 - (x80.en)))]]) (p:=[]) (r:=[]) (args':=[eR.av eA.cells r152,.agg [iv x80.elem,iv (IntKind.i64.wrap (3 - (x80.en)))]]) (R:=wW r152 (⟨(x80.elem),(IntKind.i64.wrap (3 - (x80.en)))⟩:eA)) rfl rfl rfl rfl rfl (eJ (Sep.arg (i:=1) hS113 rfl) (eJ rfl fG)) rfl pt (gb (by show fx (freeze true { H112 with dO:=[] } 8) [v63,.agg [iv x80.elem,iv (IntKind.i64.wrap (3 - (x80.en)))]] = _; simp only [FZ,hz155]) (eJ (Sep.lF (i:=1) hS113 rfl) (eJ rfl fG))) (gb dt (eJ rfl (eJ rfl fG))) (fun h=>t100 r152 (⟨(x80.elem),(IntKind.i64.wrap (3 - (x80.en)))⟩:eA)  h) ?_
 rintro _ ⟨r158,hc157,rfl⟩
 cases r158
 refine aC ?_
 refine qg ?_
 refine eg rfl (fun _=>fq (H:=H112) (i:=6) hS113 rfl rfl rfl rfl rfl) ?_
 refine eg rfl (fun _=>eU (H:=H112) (i:=6) (o:=5) (r:=v63) hS113 rfl rfl rfl rfl) ?_
 iterate 2 refine oV ?_
 refine e7 (H:=H112) rfl (fX (H:=H112) (i:=1) (l:=l64) (enc:=eA.cells) [(⟨(x80.elem),(IntKind.i64.wrap (3 - (x80.en)))⟩:eA)] hS113 rfl rfl rfl rfl rfl rfl rfl rfl rfl (fun _=>rfl) (.inl rfl) cF (fun _=>rfl)) ?_
 rintro v159 H160 hS161
 refine eg rfl (fun _=>fq (H:=H160) (i:=6) hS161 rfl rfl rfl rfl rfl) ?_
 refine e7 (H:=H160) rfl (gC (H:=H160) (i:=6) (o:=5) (r:=v159) hS161 rfl rfl rfl rfl (iJ rfl rfl (Sep.cell (i:=1) hS161 rfl)) (eJ (Sep.cell (i:=1) hS161 rfl) fG) rfl) ?_
 rintro _ H162 ⟨rfl,hS163⟩
 refine oN ?_
 refine ⟨_,?_,(v159),((l64++[(⟨(x80.elem),(IntKind.i64.wrap (3 - (x80.en)))⟩:eA)])),(v65),(l66),(v86),((l68.take (((l68.length:Int) - 1).toNat))),((put x80 true l69)),(n70),(n71),(n72),(b73),H162,rfl,dh,dg,dk,da,cy,cw,cw,cw,cS,hS163,rfl,rfl⟩
 first | omega | (simp only [List.length_append,List.length_cons,List.length_nil,List.length_take] at *; omega)
 refine aw ?_
 refine ⟨_,?_,(v63),(l64),(v65),(l66),(v86),((l68.take (((l68.length:Int) - 1).toNat))),((put x80 true l69)),(n70),(n71),(n72),(b73),H112,rfl,dh,dg,dk,da,cy,cw,cw,cw,cS,hS113,rfl,rfl⟩
 first | omega | (simp only [List.length_append,List.length_cons,List.length_nil,List.length_take] at *; omega)
 refine aC ?_
 refine aI ?_
 have hS164:Sep H112 (.obj (.ptr b4 0 0 0) [iv n70,iv n71,iv n72,Row.av ew.cells r8,Row.av eA.cells r10,v63,v65,(.sl [] .nil),.bool b73]::.sl true true v63 2 (List.map eA.cells l64)::.sl true true v65 1 (List.map eu l66)::.sl true true (.sl [] .nil) 1 (List.map eu ([]:List Int))::.sl true false v86 2 (List.map ed.cells (l68.take (((l68.length:Int) - 1).toNat)))::.obj (.ptr b29 0 0 0) [v86]::.map (.hm b26) (eM pK bK (put x80 true l69))::.obj (.ptr b1 0 0 0) [.ip (eE.cells a0) 0 false]::[]):=Sep.pick hS113 [6,1,2,0,3,4,5,7] 8 cG cG
 refine fU (H:=H112) (args:=[(.ptr b4 0 0 0),iv x80.elem]) (p:=[]) (r:=[]) rfl rfl rfl rfl rfl rfl rfl (u6 b4 n70 n71 n72 r8 r10 v63 l64 v65 l66 (.sl [] .nil) ([]:List Int) b73 (x80.elem) (.sl true false v86 2 (List.map ed.cells (l68.take (((l68.length:Int) - 1).toNat)))::.obj (.ptr b29 0 0 0) [v86]::.map (.hm b26) (eM pK bK (put x80 true l69))::.obj (.ptr b1 0 0 0) [.ip (eE.cells a0) 0 false]::[]) hS164 cq) ?_
 rintro _ H165 ⟨r171,vzo168,zoneo169,bareo170,hc167,hS166,rfl⟩
 cases r171
 refine az ?_
 refine wa [(2,(.ptr b1 0 0 0)),(3,(.ptr b4 0 0 0)),(4,.la 4 0),(5,.bool true),(6,(.hm b26)),(7,(.ptr b29 0 0 0)),(12,.fz 96 [] [(.ptr b1 0 0 0),(.ptr b29 0 0 0)])] H165 [(4,[iv 0,iv 0,iv 0,.sl [] .nil,.sl [] .nil,.sl [] .nil,.sl [] .nil,.sl [] .nil,.bool false])] ?_
 refine qe ?_
 have hS172:Sep H165 (.sl true true (.sl [] .nil) 1 (List.map eu ([]:List Int))::.sl true true v63 2 (List.map eA.cells l64)::.sl true true vzo168 1 (List.map eu zoneo169)::.sl true false v86 2 (List.map ed.cells (l68.take (((l68.length:Int) - 1).toNat)))::.obj (.ptr b29 0 0 0) [v86]::.map (.hm b26) (eM pK bK (put x80 true l69))::.obj (.ptr b4 0 0 0) [iv n70,iv n71,iv n72,Row.av ew.cells r8,Row.av eA.cells r10,v63,vzo168,(.sl [] .nil),.bool bareo170]::.obj (.ptr b1 0 0 0) [.ip (eE.cells a0) 0 false]::[]):=Sep.pick hS166 [3,1,2,4,5,6,0,7] 8 cG cG
 refine ⟨_,?_,(v63),(l64),(vzo168),(zoneo169),(v86),((l68.take (((l68.length:Int) - 1).toNat))),((put x80 true l69)),(n70),(n71),(n72),(bareo170),H165,rfl,dh,dg,dk,da,cy,cw,cw,cw,cS,hS172,rfl,rfl⟩
 first | omega | (simp only [List.length_append,List.length_cons,List.length_nil,List.length_take] at *; omega)
 refine b8 ?_
 have hS173:Sep H165 (.obj (.ptr b1 0 0 0) [.ip (eE.cells a0) 0 false]::.obj (.ptr b29 0 0 0) [v86]::.sl true false v86 2 (List.map ed.cells (l68.take (((l68.length:Int) - 1).toNat)))::.obj (.ptr b4 0 0 0) [iv n70,iv n71,iv n72,Row.av ew.cells r8,Row.av eA.cells r10,v63,vzo168,(.sl [] .nil),.bool bareo170]::.sl true true v63 2 (List.map eA.cells l64)::.sl true true vzo168 1 (List.map eu zoneo169)::.sl true true (.sl [] .nil) 1 (List.map eu ([]:List Int))::.map (.hm b26) (eM pK bK (put x80 true l69))::[]):=Sep.pick hS166 [7,5,4,0,1,2,3,6] 8 cG cG
 refine fU (H:=H165) (args:=[iv x80.elem,iv 0]) (p:=[]) (r:=[(.ptr b1 0 0 0),(.ptr b29 0 0 0)]) rfl rfl rfl rfl rfl rfl rfl (sw (x80.elem) 0 b1 a0 b29 v86 (l68.take (((l68.length:Int) - 1).toNat)) (.obj (.ptr b4 0 0 0) [iv n70,iv n71,iv n72,Row.av ew.cells r8,Row.av eA.cells r10,v63,vzo168,(.sl [] .nil),.bool bareo170]::.sl true true v63 2 (List.map eA.cells l64)::.sl true true vzo168 1 (List.map eu zoneo169)::.sl true true (.sl [] .nil) 1 (List.map eu ([]:List Int))::.map (.hm b26) (eM pK bK (put x80 true l69))::[]) hS173 cq) ?_
 rintro _ H174 ⟨vto177,todoo178,hc176,hS175,rfl⟩
 have hTu:∀ y∈todoo178,y∈univ a0:=fun y hy=>(hc176.2 y hy).elim (hTu y) id
 refine oN ?_
 refine wa [(2,(.ptr b1 0 0 0)),(3,(.ptr b4 0 0 0)),(4,.la 4 0),(5,.bool true),(6,(.hm b26)),(7,(.ptr b29 0 0 0)),(12,.fz 96 [] [(.ptr b1 0 0 0),(.ptr b29 0 0 0)])] H174 [(4,[iv 0,iv 0,iv 0,.sl [] .nil,.sl [] .nil,.sl [] .nil,.sl [] .nil,.sl [] .nil,.bool false])] ?_
 refine qe ?_
 have hS179:Sep H174 (.sl true true (.sl [] .nil) 1 (List.map eu ([]:List Int))::.sl true true v63 2 (List.map eA.cells l64)::.sl true true vzo168 1 (List.map eu zoneo169)::.sl true false vto177 2 (List.map ed.cells todoo178)::.obj (.ptr b29 0 0 0) [vto177]::.map (.hm b26) (eM pK bK (put x80 true l69))::.obj (.ptr b4 0 0 0) [iv n70,iv n71,iv n72,Row.av ew.cells r8,Row.av eA.cells r10,v63,vzo168,(.sl [] .nil),.bool bareo170]::.obj (.ptr b1 0 0 0) [.ip (eE.cells a0) 0 false]::[]):=Sep.pick hS175 [6,4,5,2,1,7,3,0] 8 cG cG
 refine ⟨_,?_,(v63),(l64),(vzo168),(zoneo169),(vto177),(todoo178),((put x80 true l69)),(n70),(n71),(n72),(bareo170),H174,rfl,dh,dg,dk,da,cy,cw,cw,cw,cS,hS179,rfl,rfl⟩
 first | omega | (simp only [List.length_append,List.length_cons,List.length_nil,List.length_take] at *; omega)
 refine bk ?_
 refine aC ?_
 refine aI ?_
 have hS180:Sep H112 (.obj (.ptr b4 0 0 0) [iv n70,iv n71,iv n72,Row.av ew.cells r8,Row.av eA.cells r10,v63,v65,(.sl [] .nil),.bool b73]::.sl true true v63 2 (List.map eA.cells l64)::.sl true true v65 1 (List.map eu l66)::.sl true true (.sl [] .nil) 1 (List.map eu ([]:List Int))::.sl true false v86 2 (List.map ed.cells (l68.take (((l68.length:Int) - 1).toNat)))::.obj (.ptr b29 0 0 0) [v86]::.map (.hm b26) (eM pK bK (put x80 true l69))::.obj (.ptr b1 0 0 0) [.ip (eE.cells a0) 0 false]::[]):=Sep.pick hS113 [6,1,2,0,3,4,5,7] 8 cG cG
 refine fU (H:=H112) (args:=[(.ptr b4 0 0 0),iv x80.elem]) (p:=[]) (r:=[]) rfl rfl rfl rfl rfl rfl rfl (u6 b4 n70 n71 n72 r8 r10 v63 l64 v65 l66 (.sl [] .nil) ([]:List Int) b73 (x80.elem) (.sl true false v86 2 (List.map ed.cells (l68.take (((l68.length:Int) - 1).toNat)))::.obj (.ptr b29 0 0 0) [v86]::.map (.hm b26) (eM pK bK (put x80 true l69))::.obj (.ptr b1 0 0 0) [.ip (eE.cells a0) 0 false]::[]) hS180 cq) ?_
 rintro _ H181 ⟨r187,vzo184,zoneo185,bareo186,hc183,hS182,rfl⟩
 cases r187
 refine az ?_
 refine wa [(2,(.ptr b1 0 0 0)),(3,(.ptr b4 0 0 0)),(4,.la 4 0),(5,.bool true),(6,(.hm b26)),(7,(.ptr b29 0 0 0)),(12,.fz 96 [] [(.ptr b1 0 0 0),(.ptr b29 0 0 0)])] H181 [(4,[iv 0,iv 0,iv 0,.sl [] .nil,.sl [] .nil,.sl [] .nil,.sl [] .nil,.sl [] .nil,.bool false])] ?_
 refine qe ?_
 have hS188:Sep H181 (.sl true true (.sl [] .nil) 1 (List.map eu ([]:List Int))::.sl true true v63 2 (List.map eA.cells l64)::.sl true true vzo184 1 (List.map eu zoneo185)::.sl true false v86 2 (List.map ed.cells (l68.take (((l68.length:Int) - 1).toNat)))::.obj (.ptr b29 0 0 0) [v86]::.map (.hm b26) (eM pK bK (put x80 true l69))::.obj (.ptr b4 0 0 0) [iv n70,iv n71,iv n72,Row.av ew.cells r8,Row.av eA.cells r10,v63,vzo184,(.sl [] .nil),.bool bareo186]::.obj (.ptr b1 0 0 0) [.ip (eE.cells a0) 0 false]::[]):=Sep.pick hS182 [3,1,2,4,5,6,0,7] 8 cG cG
 refine ⟨_,?_,(v63),(l64),(vzo184),(zoneo185),(v86),((l68.take (((l68.length:Int) - 1).toNat))),((put x80 true l69)),(n70),(n71),(n72),(bareo186),H181,rfl,dh,dg,dk,da,cy,cw,cw,cw,cS,hS188,rfl,rfl⟩
 first | omega | (simp only [List.length_append,List.length_cons,List.length_nil,List.length_take] at *; omega)
 refine b8 ?_
 have hS189:Sep H181 (.obj (.ptr b1 0 0 0) [.ip (eE.cells a0) 0 false]::.obj (.ptr b29 0 0 0) [v86]::.sl true false v86 2 (List.map ed.cells (l68.take (((l68.length:Int) - 1).toNat)))::.obj (.ptr b4 0 0 0) [iv n70,iv n71,iv n72,Row.av ew.cells r8,Row.av eA.cells r10,v63,vzo184,(.sl [] .nil),.bool bareo186]::.sl true true v63 2 (List.map eA.cells l64)::.sl true true vzo184 1 (List.map eu zoneo185)::.sl true true (.sl [] .nil) 1 (List.map eu ([]:List Int))::.map (.hm b26) (eM pK bK (put x80 true l69))::[]):=Sep.pick hS182 [7,5,4,0,1,2,3,6] 8 cG cG
 refine fU (H:=H181) (args:=[iv x80.elem,iv 0]) (p:=[]) (r:=[(.ptr b1 0 0 0),(.ptr b29 0 0 0)]) rfl rfl rfl rfl rfl rfl rfl (sw (x80.elem) 0 b1 a0 b29 v86 (l68.take (((l68.length:Int) - 1).toNat)) (.obj (.ptr b4 0 0 0) [iv n70,iv n71,iv n72,Row.av ew.cells r8,Row.av eA.cells r10,v63,vzo184,(.sl [] .nil),.bool bareo186]::.sl true true v63 2 (List.map eA.cells l64)::.sl true true vzo184 1 (List.map eu zoneo185)::.sl true true (.sl [] .nil) 1 (List.map eu ([]:List Int))::.map (.hm b26) (eM pK bK (put x80 true l69))::[]) hS189 cq) ?_
 rintro _ H190 ⟨vto193,todoo194,hc192,hS191,rfl⟩
 have hTu:∀ y∈todoo194,y∈univ a0:=fun y hy=>(hc192.2 y hy).elim (hTu y) id
 refine oN ?_
 refine wa [(2,(.ptr b1 0 0 0)),(3,(.ptr b4 0 0 0)),(4,.la 4 0),(5,.bool true),(6,(.hm b26)),(7,(.ptr b29 0 0 0)),(12,.fz 96 [] [(.ptr b1 0 0 0),(.ptr b29 0 0 0)])] H190 [(4,[iv 0,iv 0,iv 0,.sl [] .nil,.sl [] .nil,.sl [] .nil,.sl [] .nil,.sl [] .nil,.bool false])] ?_
 refine qe ?_
 have hS195:Sep H190 (.sl true true (.sl [] .nil) 1 (List.map eu ([]:List Int))::.sl true true v63 2 (List.map eA.cells l64)::.sl true true vzo184 1 (List.map eu zoneo185)::.sl true false vto193 2 (List.map ed.cells todoo194)::.obj (.ptr b29 0 0 0) [vto193]::.map (.hm b26) (eM pK bK (put x80 true l69))::.obj (.ptr b4 0 0 0) [iv n70,iv n71,iv n72,Row.av ew.cells r8,Row.av eA.cells r10,v63,vzo184,(.sl [] .nil),.bool bareo186]::.obj (.ptr b1 0 0 0) [.ip (eE.cells a0) 0 false]::[]):=Sep.pick hS191 [6,4,5,2,1,7,3,0] 8 cG cG
 refine ⟨_,?_,(v63),(l64),(vzo184),(zoneo185),(vto193),(todoo194),((put x80 true l69)),(n70),(n71),(n72),(bareo186),H190,rfl,dh,dg,dk,da,cy,cw,cw,cw,cS,hS195,rfl,rfl⟩
 first | omega | (simp only [List.length_append,List.length_cons,List.length_nil,List.length_take] at *; omega)
 refine aS ?_
 refine eg rfl (fun _=>eU (H:=H112) (i:=7) (o:=0) (r:=.ip (eE.cells a0) 0 false) hS113 rfl rfl rfl rfl) ?_
 iterate 4 refine oV ?_
 refine oC (t101 a0 (x80.elem) (x80.en) (0)) ?_
 rintro _ ⟨r197,r198,hc196,rfl⟩
 cases r198
 refine bl ?_
 refine aa ?_
 refine bI ?_
 refine aw ?_
 refine ⟨_,?_,(v63),(l64),(v65),(l66),(v86),((l68.take (((l68.length:Int) - 1).toNat))),((put x80 true l69)),(n70),(n71),(n72),(b73),H112,rfl,dh,dg,dk,da,cy,cw,cw,cw,cS,hS113,rfl,rfl⟩
 first | omega | (simp only [List.length_append,List.length_cons,List.length_nil,List.length_take] at *; omega)
 refine bl ?_
 refine aG ?_
 have hS199:Sep H112 (.obj (.ptr b4 0 0 0) [iv n70,iv n71,iv n72,Row.av ew.cells r8,Row.av eA.cells r10,v63,v65,(.sl [] .nil),.bool b73]::.sl true true v63 2 (List.map eA.cells l64)::.sl true true v65 1 (List.map eu l66)::.sl true true (.sl [] .nil) 1 (List.map eu ([]:List Int))::.sl true false v86 2 (List.map ed.cells (l68.take (((l68.length:Int) - 1).toNat)))::.obj (.ptr b29 0 0 0) [v86]::.map (.hm b26) (eM pK bK (put x80 true l69))::.obj (.ptr b1 0 0 0) [.ip (eE.cells a0) 0 false]::[]):=Sep.pick hS113 [6,1,2,0,3,4,5,7] 8 cG cG
 refine fU (H:=H112) (args:=[(.ptr b4 0 0 0),iv x80.elem]) (p:=[]) (r:=[]) rfl rfl rfl rfl rfl rfl rfl (u6 b4 n70 n71 n72 r8 r10 v63 l64 v65 l66 (.sl [] .nil) ([]:List Int) b73 (x80.elem) (.sl true false v86 2 (List.map ed.cells (l68.take (((l68.length:Int) - 1).toNat)))::.obj (.ptr b29 0 0 0) [v86]::.map (.hm b26) (eM pK bK (put x80 true l69))::.obj (.ptr b1 0 0 0) [.ip (eE.cells a0) 0 false]::[]) hS199 cq) ?_
 rintro _ H200 ⟨r206,vzo203,zoneo204,bareo205,hc202,hS201,rfl⟩
 cases r206
 refine aw ?_
 have hS207:Sep H200 (.sl true true (.sl [] .nil) 1 (List.map eu ([]:List Int))::.sl true true v63 2 (List.map eA.cells l64)::.sl true true vzo203 1 (List.map eu zoneo204)::.sl true false v86 2 (List.map ed.cells (l68.take (((l68.length:Int) - 1).toNat)))::.obj (.ptr b29 0 0 0) [v86]::.map (.hm b26) (eM pK bK (put x80 true l69))::.obj (.ptr b4 0 0 0) [iv n70,iv n71,iv n72,Row.av ew.cells r8,Row.av eA.cells r10,v63,vzo203,(.sl [] .nil),.bool bareo205]::.obj (.ptr b1 0 0 0) [.ip (eE.cells a0) 0 false]::[]):=Sep.pick hS201 [3,1,2,4,5,6,0,7] 8 cG cG
 refine ⟨_,?_,(v63),(l64),(vzo203),(zoneo204),(v86),((l68.take (((l68.length:Int) - 1).toNat))),((put x80 true l69)),(n70),(n71),(n72),(bareo205),H200,rfl,dh,dg,dk,da,cy,cw,cw,cw,cS,hS207,rfl,rfl⟩
 first | omega | (simp only [List.length_append,List.length_cons,List.length_nil,List.length_take] at *; omega)
 refine oV ?_
 refine b8 ?_
 refine oV ?_
 have hS208:Sep H200 (.obj (.ptr b1 0 0 0) [.ip (eE.cells a0) 0 false]::.obj (.ptr b29 0 0 0) [v86]::.sl true false v86 2 (List.map ed.cells (l68.take (((l68.length:Int) - 1).toNat)))::.obj (.ptr b4 0 0 0) [iv n70,iv n71,iv n72,Row.av ew.cells r8,Row.av eA.cells r10,v63,vzo203,(.sl [] .nil),.bool bareo205]::.sl true true v63 2 (List.map eA.cells l64)::.sl true true vzo203 1 (List.map eu zoneo204)::.sl true true (.sl [] .nil) 1 (List.map eu ([]:List Int))::.map (.hm b26) (eM pK bK (put x80 true l69))::[]):=Sep.pick hS201 [7,5,4,0,1,2,3,6] 8 cG cG
 refine fU (H:=H200) (args:=[iv x80.elem,iv r197]) (p:=[]) (r:=[(.ptr b1 0 0 0),(.ptr b29 0 0 0)]) rfl rfl rfl rfl rfl rfl rfl (sw (x80.elem) r197 b1 a0 b29 v86 (l68.take (((l68.length:Int) - 1).toNat)) (.obj (.ptr b4 0 0 0) [iv n70,iv n71,iv n72,Row.av ew.cells r8,Row.av eA.cells r10,v63,vzo203,(.sl [] .nil),.bool bareo205]::.sl true true v63 2 (List.map eA.cells l64)::.sl true true vzo203 1 (List.map eu zoneo204)::.sl true true (.sl [] .nil) 1 (List.map eu ([]:List Int))::.map (.hm b26) (eM pK bK (put x80 true l69))::[]) hS208 cq) ?_
 rintro _ H209 ⟨vto212,todoo213,hc211,hS210,rfl⟩
 have hTu:∀ y∈todoo213,y∈univ a0:=fun y hy=>(hc211.2 y hy).elim (hTu y) id
 refine oN ?_
 have hS214:Sep H209 (.sl true true (.sl [] .nil) 1 (List.map eu ([]:List Int))::.sl true true v63 2 (List.map eA.cells l64)::.sl true true vzo203 1 (List.map eu zoneo204)::.sl true false vto212 2 (List.map ed.cells todoo213)::.obj (.ptr b29 0 0 0) [vto212]::.map (.hm b26) (eM pK bK (put x80 true l69))::.obj (.ptr b4 0 0 0) [iv n70,iv n71,iv n72,Row.av ew.cells r8,Row.av eA.cells r10,v63,vzo203,(.sl [] .nil),.bool bareo205]::.obj (.ptr b1 0 0 0) [.ip (eE.cells a0) 0 false]::[]):=Sep.pick hS210 [6,4,5,2,1,7,3,0] 8 cG cG
 refine ⟨_,?_,(v63),(l64),(vzo203),(zoneo204),(vto212),(todoo213),((put x80 true l69)),(n70),(n71),(n72),(bareo205),H209,rfl,dh,dg,dk,da,cy,cw,cw,cw,cS,hS214,rfl,rfl⟩
 first | omega | (simp only [List.length_append,List.length_cons,List.length_nil,List.length_take] at *; omega)
 refine aa ?_
 refine eg rfl (fun _=>eU (H:=H112) (i:=7) (o:=0) (r:=.ip (eE.cells a0) 0 false) hS113 rfl rfl rfl rfl) ?_
 refine oV ?_
 refine oC (t47 a0 x80) ?_
 rintro _ ⟨r216,hc215,rfl⟩
 have hR:=hc215
 refine ce ?_
 refine gV (r216) (0) (fun h217=>?_) (fun h217=>?_)
 refine bF ?_
 refine af ?_
 exact ⟨rfl,rfl⟩
 refine ba ?_
 refine aw ?_
 exact ⟨rfl,rfl⟩
 refine bB ?_
 refine bJ ?_
 refine ⟨_,?_,(v63),(l64),(v65),(l66),(v86),((l68.take (((l68.length:Int) - 1).toNat))),(l69),(n70),(n71),(n72),(b73),H90,rfl,dh,dg,dk,da,cy,cw,cw,cw,cS,hS91,rfl,rfl⟩
 first | omega | (simp only [List.length_append,List.length_cons,List.length_nil,List.length_take] at *; omega)
 refine aE ?_
 refine wa [(3,(.ptr b4 0 0 0)),(4,.la 4 0),(4,.la 4 0)] H74 [(4,[iv 0,iv 0,iv 0,.sl [] .nil,.sl [] .nil,.sl [] .nil,.sl [] .nil,.sl [] .nil,.bool false]),(4,[iv 0,iv 0,iv 0,.sl [] .nil,.sl [] .nil,.sl [] .nil,.sl [] .nil,.sl [] .nil,.bool false])] ?_
 refine aa ?_
 refine eg rfl (fun _=>eU (H:=H74) (i:=6) (o:=0) (r:=.agg [iv n70,iv n71,iv n72,Row.av ew.cells r8,Row.av eA.cells r10,v63,v65,(.sl [] .nil),.bool b73]) hS75 rfl rfl rfl rfl) ?_
 refine eg rfl (fun _=>sj rfl rfl rfl rfl (eJ rfl (eJ rfl (eJ rfl (eJ rfl (eJ rfl (eJ (Sep.cell (i:=1) hS75 rfl) (eJ (Sep.cell (i:=2) hS75 rfl) (eJ rfl (eJ rfl fG))))))))) rfl rfl) ?_
 refine ci ?_
 obtain ⟨r218,hl219,hf220⟩:=gQ (H:=H74) (i:=1) (l:=l64) (enc:=eA.cells) hS75 rfl cz
 have hlq:=hl219; have hln222:=congrArg List.length hl219
 have hz221:∀ m,freeze false { H74 with dO:=[(4,[iv n70,iv n71,iv n72,Row.av ew.cells r8,Row.av eA.cells r10,v63,v65,(.sl [] .nil),.bool b73])] } (m+2) v63=some (Row.av eA.cells r218):=fun m=>hf220 _ _ (fun _=>rfl)
 obtain ⟨r223,hl224,hf225⟩:=gQ (H:=H74) (i:=2) (l:=l66) (enc:=eu) hS75 rfl cz
 have hlq:=hl224; have hln227:=congrArg List.length hl224
 have hz226:∀ m,freeze false { H74 with dO:=[(4,[iv n70,iv n71,iv n72,Row.av ew.cells r8,Row.av eA.cells r10,v63,v65,(.sl [] .nil),.bool b73])] } (m+2) v65=some (Row.av eu r223):=fun m=>hf225 _ _ (fun _=>rfl)
 exact ⟨.agg [iv n70,iv n71,iv n72,Row.av ew.cells r8,Row.av eA.cells r10,v63,v65,(.sl [] .nil),.bool b73],(ia (vs:=[.agg [iv n70,iv n71,iv n72,Row.av ew.cells r8,Row.av eA.cells r10,v63,v65,(.sl [] .nil),.bool b73]]) rfl rfl),.agg [iv n70,iv n71,iv n72,Row.av ew.cells r8,Row.av eA.cells r10,Row.av eA.cells r218,Row.av eu r223,(.sl [] .nil),.bool b73],(show freeze false { H74 with dO:=[(4,[iv n70,iv n71,iv n72,Row.av ew.cells r8,Row.av eA.cells r10,v63,v65,(.sl [] .nil),.bool b73])] } 8 (.agg [iv n70,iv n71,iv n72,Row.av ew.cells r8,Row.av eA.cells r10,v63,v65,(.sl [] .nil),.bool b73])=some (.agg [iv n70,iv n71,iv n72,Row.av ew.cells r8,Row.av eA.cells r10,Row.av eA.cells r218,Row.av eu r223,(.sl [] .nil),.bool b73]) by simp only [FZ,hz221,hz226]),(⟨(n70),(n71),(n72),r8,r10,r218,r223,(⟨[],.nil,Nat.zero_le _,rfl,fun _=>rfl⟩:Row Int),(b73)⟩:eF),(by simp_all [Row.iV]),rfl⟩
 refine ab ?_
 refine aa ?_
 refine e7 (H:=H21) rfl (ic hS22) ?_
 rintro _ H229 ⟨b228,rfl,hS230⟩
 refine ab ?_
 refine aa ?_
 refine e7 (H:=H229) rfl (uY hS230 rfl rfl) ?_
 rintro _ H232 ⟨b231,rfl,hS233⟩
 refine oN ?_
 refine aa ?_
 refine eg rfl (fun _=>eU (H:=H232) (i:=3) (o:=0) (r:=.ip (eE.cells a0) 0 false) hS233 rfl rfl rfl rfl) ?_
 refine eg rfl (fun _=>eU (H:=H232) (i:=2) (o:=0) (r:=.agg [iv a1.from_,iv a1.to,iv a1.end_,Row.av ew.cells r8,Row.av eA.cells r10,.sl [] .nil,.sl [] .nil,.sl [] .nil,.bool false]) hS233 rfl rfl rfl rfl) ?_
 refine oC (t95 a0 (⟨(a1.from_),(a1.to),(a1.end_),r8,r10,(⟨[],.nil,Nat.zero_le _,rfl,fun _=>rfl⟩:Row eA),(⟨[],.nil,Nat.zero_le _,rfl,fun _=>rfl⟩:Row Int),(⟨[],.nil,Nat.zero_le _,rfl,fun _=>rfl⟩:Row Int),false⟩:eF) cq) ?_
 rintro _ ⟨r235,hc234,rfl⟩
 dsimp only at hc234
 refine ab ?_
 refine ak ?_
 have hL236:=r235.lk
 refine fA r235 ?_
 have hL237:=r235.lk
 refine g7 ((r235.l.length:Int)) (1) ?_
 refine aP ?_
 have hS238:=Sep.iF hS233 2
 refine iC (fun m244 e h=>∃ v239:AV,∃ l240:List ed,∃ n241:Int,∃ H242:bY,m244=(n241+1).toNat∧(-1≤n241)∧(n241<(r235.l.length:Int))∧((l240.length:Int)+n241+1≤r235.l.length)∧((∀ y∈(l240:List ed),y∈univ a0))∧Sep H242 (.sl true true v239 2 (List.map ed.cells l240)::.obj (.ptr b231 0 0 0) [v239]::.map (.hm b228) (eM pK bK [])::.obj (.ptr b4 0 0 0) [iv a1.from_,iv a1.to,iv a1.end_,Row.av ew.cells r8,Row.av eA.cells r10,.sl [] .nil,.sl [] .nil,.sl [] .nil,.bool false]::.obj (.ptr b1 0 0 0) [.ip (eE.cells a0) 0 false]::[])∧proj [2,3,4,5,6,7,8,9] e=[(2,(.ptr b1 0 0 0)),(3,(.ptr b4 0 0 0)),(4,.la 4 0),(5,.bool false),(6,(.hm b228)),(7,(.ptr b231 0 0 0)),(8,Row.av ed.cells r235),(9,iv n241)]∧{ h with dO:=eV [2,3,4,5,6,7,8,9] h.dO } = { H242 with dO:=[(4,[iv 0,iv 0,iv 0,.sl [] .nil,.sl [] .nil,.sl [] .nil,.sl [] .nil,.sl [] .nil,.bool false])] }) ?_ _ _ _ ⟨((.sl [] .nil)),(([]:List ed)),((r235.l.length:Int) - 1),H232,rfl,cw,cw,cw,dv,hS238,rfl,rfl⟩
 rintro m244 e h ⟨v239,l240,n241,H242,hmm244,hA1,hA2,hA3,hTu,hS243,he,hh⟩
 refine ff he hh ?_
 clear he hh
 refine ak ?_
 refine gV (n241) (0) (fun h245=>?_) (fun h245=>?_)
 refine aX ?_
 refine wa [(2,(.ptr b1 0 0 0)),(3,(.ptr b4 0 0 0)),(4,.la 4 0),(5,.bool false),(6,(.hm b228)),(7,(.ptr b231 0 0 0)),(8,Row.av ed.cells r235),(9,iv n241)] H242 [(4,[iv 0,iv 0,iv 0,.sl [] .nil,.sl [] .nil,.sl [] .nil,.sl [] .nil,.sl [] .nil,.bool false])] ?_
 refine aA ?_
 refine aN ?_
 refine eI rfl rfl (fun _=>eU (H:=H242) (i:=4) (o:=0) (r:=.ip (eE.cells a0) 0 false) hS243 rfl rfl rfl rfl) ?_
 iterate 2 refine rV ?_
 have hx246:(n241).toNat<r235.l.length:=by omega
 refine eI rfl rfl (fun _=>fE (n:=n241) (r:=r235) (enc:=ed.cells) rfl rfl rfl rfl rfl cB hx246 rfl) ?_
 generalize hqx247:r235.l[(n241).toNat]=x247
 refine rV ?_
 refine rC (t80 a0 x247) ?_
 rintro _ ⟨r249,r250,hc248,rfl⟩
 have hN:=hc248
 cases r250
 refine bc ?_
 refine qg ?_
 refine eg rfl (fun _=>eU (H:=H242) (i:=1) (o:=0) (r:=v239) hS243 rfl rfl rfl rfl) ?_
 iterate 2 refine oV ?_
 refine e7 (H:=H242) rfl (fX (H:=H242) (i:=0) (l:=l240) (enc:=ed.cells) [r249] hS243 rfl rfl rfl rfl rfl rfl rfl rfl rfl (fun _=>rfl) (.inl rfl) cF (fun _=>rfl)) ?_
 rintro v251 H252 hS253
 refine e7 (H:=H252) rfl (gC (H:=H252) (i:=1) (o:=0) (r:=v251) hS253 rfl rfl rfl rfl (iJ rfl rfl (Sep.cell (i:=0) hS253 rfl)) (eJ (Sep.cell (i:=0) hS253 rfl) fG) rfl) ?_
 rintro _ H254 ⟨rfl,hS255⟩
 refine oN ?_
 refine wa [(2,(.ptr b1 0 0 0)),(3,(.ptr b4 0 0 0)),(4,.la 4 0),(5,.bool false),(6,(.hm b228)),(7,(.ptr b231 0 0 0)),(8,Row.av ed.cells r235),(9,iv n241)] H254 [(4,[iv 0,iv 0,iv 0,.sl [] .nil,.sl [] .nil,.sl [] .nil,.sl [] .nil,.sl [] .nil,.bool false])] ?_
 refine aM ?_
 refine g7 (n241) (1) ?_
 refine ab ?_
 refine ⟨_,?_,(v251),((l240++[r249])),(n241 - 1),H254,rfl,cw,cw,cw,dR,hS255,rfl,rfl⟩
 omega
 refine bc ?_
 refine qg ?_
 refine eg rfl (fun _=>eU (H:=H242) (i:=1) (o:=0) (r:=v239) hS243 rfl rfl rfl rfl) ?_
 iterate 2 refine oV ?_
 refine e7 (H:=H242) rfl (fX (H:=H242) (i:=0) (l:=l240) (enc:=ed.cells) [r249] hS243 rfl rfl rfl rfl rfl rfl rfl rfl rfl (fun _=>rfl) (.inl rfl) cF (fun _=>rfl)) ?_
 rintro v256 H257 hS258
 refine e7 (H:=H257) rfl (gC (H:=H257) (i:=1) (o:=0) (r:=v256) hS258 rfl rfl rfl rfl (iJ rfl rfl (Sep.cell (i:=0) hS258 rfl)) (eJ (Sep.cell (i:=0) hS258 rfl) fG) rfl) ?_
 rintro _ H259 ⟨rfl,hS260⟩
 refine oN ?_
 refine wa [(2,(.ptr b1 0 0 0)),(3,(.ptr b4 0 0 0)),(4,.la 4 0),(5,.bool false),(6,(.hm b228)),(7,(.ptr b231 0 0 0)),(8,Row.av ed.cells r235),(9,iv n241)] H259 [(4,[iv 0,iv 0,iv 0,.sl [] .nil,.sl [] .nil,.sl [] .nil,.sl [] .nil,.sl [] .nil,.bool false])] ?_
 refine aM ?_
 refine g7 (n241) (1) ?_
 refine ab ?_
 refine ⟨_,?_,(v256),((l240++[r249])),(n241 - 1),H259,rfl,cw,cw,cw,dR,hS260,rfl,rfl⟩
 omega
 refine aE ?_
 refine wa [(2,(.ptr b1 0 0 0)),(3,(.ptr b4 0 0 0)),(4,.la 4 0),(5,.bool false),(6,(.hm b228)),(7,(.ptr b231 0 0 0))] H242 [(4,[iv 0,iv 0,iv 0,.sl [] .nil,.sl [] .nil,.sl [] .nil,.sl [] .nil,.sl [] .nil,.bool false])] ?_
 refine aa ?_
 refine eg rfl (fun _=>qn rfl rfl (qo rfl rfl)) ?_
 refine ab ?_
 refine cf ?_
 have hS261:=Sep.iF hS243 1
 have hS262:=Sep.iF hS261 2
 have hS263:=Sep.iF hS262 1
 have hS264:=Sep.pA (i:=3) hS263 rfl
 refine iC (fun m280 e h=>∃ v265:AV,∃ l266:List Int,∃ v267:AV,∃ l268:List eA,∃ v269:AV,∃ l270:List Int,∃ v271:AV,∃ l272:List ed,∃ l273:List (ed×Bool),∃ n274:Int,∃ n275:Int,∃ n276:Int,∃ b277:Bool,∃ H278:bY,m280=3*((univ a0).length - l273.length)+l272.length∧(l9 l273)∧(∀ k∈l273.map Prod.fst,k∈univ a0)∧(∀ y∈(l273:List (ed×Bool)),y.2=true)∧((∀ y∈(l272:List ed),y∈univ a0))∧(l272.length+3*((univ a0).length - l273.length)≤1000)∧(l268.length≤l273.length)∧(l266.length≤l273.length)∧(l270.length≤12)∧(l273.length≤(univ a0).length)∧Sep H278 (.sl true true v265 1 (List.map eu l266)::.sl true true v267 2 (List.map eA.cells l268)::.sl true true v269 1 (List.map eu l270)::.sl true false v271 2 (List.map ed.cells l272)::.obj (.ptr b231 0 0 0) [v271]::.map (.hm b228) (eM pK bK l273)::.obj (.ptr b4 0 0 0) [iv n274,iv n275,iv n276,Row.av ew.cells r8,Row.av eA.cells r10,v267,v269,v265,.bool b277]::.obj (.ptr b1 0 0 0) [.ip (eE.cells a0) 0 false]::[])∧proj [2,3,4,5,6,7,12] e=[(2,(.ptr b1 0 0 0)),(3,(.ptr b4 0 0 0)),(4,.la 4 0),(5,.bool false),(6,(.hm b228)),(7,(.ptr b231 0 0 0)),(12,.fz 96 [] [(.ptr b1 0 0 0),(.ptr b231 0 0 0)])]∧{ h with dO:=eV [2,3,4,5,6,7,12] h.dO } = { H278 with dO:=[(4,[iv 0,iv 0,iv 0,.sl [] .nil,.sl [] .nil,.sl [] .nil,.sl [] .nil,.sl [] .nil,.bool false])] }) ?_ _ _ _ ⟨((.sl [] .nil)),(([]:List Int)),((.sl [] .nil)),(([]:List eA)),((.sl [] .nil)),(([]:List Int)),(v239),(l240),([]),(a1.from_),(a1.to),(a1.end_),(false),H242,rfl,(by simp [l9]),dv,dv,da,cw,dv,dv,dv,dv,hS264,rfl,rfl⟩
 rintro m280 e h ⟨v265,l266,v267,l268,v269,l270,v271,l272,l273,n274,n275,n276,b277,H278,hmm280,hKd,hKu,hT,hTu,hB1,hB2,hB3,hB4,hB5,hS279,he,hh⟩
 refine ff he hh ?_
 clear he hh
 refine bL ?_
 refine eg rfl (fun _=>eU (H:=H278) (i:=4) (o:=0) (r:=v271) hS279 rfl rfl rfl rfl) ?_
 refine eg rfl (fun _=>jb (H:=H278) (i:=3) (l:=l272) (enc:=ed.cells) hS279 rfl rfl rfl rfl rfl rfl rfl) ?_
 refine fW ((l272.length:Int)) (0) (fun h281=>?_) (fun h281=>?_)
 refine aX ?_
 refine wa [(2,(.ptr b1 0 0 0)),(3,(.ptr b4 0 0 0)),(4,.la 4 0),(5,.bool false),(6,(.hm b228)),(7,(.ptr b231 0 0 0)),(12,.fz 96 [] [(.ptr b1 0 0 0),(.ptr b231 0 0 0)])] H278 [(4,[iv 0,iv 0,iv 0,.sl [] .nil,.sl [] .nil,.sl [] .nil,.sl [] .nil,.sl [] .nil,.bool false])] ?_
 refine qb ?_
 refine aa ?_
 iterate 2 refine eg rfl (fun _=>eU (H:=H278) (i:=4) (o:=0) (r:=v271) hS279 rfl rfl rfl rfl) ?_
 refine eg rfl (fun _=>jb (H:=H278) (i:=3) (l:=l272) (enc:=ed.cells) hS279 rfl rfl rfl rfl rfl rfl rfl) ?_
 refine g7 ((l272.length:Int)) (1) ?_
 have hk282:((((l272.length:Int) - 1).toNat:Nat):Int)=(l272.length:Int) - 1:=Int.toNat_of_nonneg cA
 have hx283:((l272.length:Int) - 1).toNat<l272.length:=by first | omega | (simp<;>omega) | (simp_all; omega)
 obtain ⟨x284,hqx284⟩:∃ x,l272[((l272.length:Int) - 1).toNat]=x:=⟨_,rfl⟩
 have hinx284:x284∈l272:=by rw [← hqx284]; exact List.getElem_mem _
 have hmx284:=hTu x284 hinx284
 refine nu rfl (je (H:=H278) (i:=3) (m:=((l272.length:Int) - 1).toNat) (cs:=ed.cells x284) hS279 rfl rfl rfl rfl rfl rfl (congrArg (AV.int .i64) hk282.symm) (g9 hx283 hqx284)) ?_
 rintro a285 ⟨ha286,hea287⟩
 refine eg rfl (fun _=>kB (H:=H278) (i:=3) (m:=((l272.length:Int) - 1).toNat) (o:=0) (r:=.agg (ed.cells x284)) (cs:=ed.cells x284) hS279 rfl (g9 hx283 hqx284) hea287 rfl rfl ha286) ?_
 refine ah ?_
 refine aa ?_
 iterate 2 refine eg rfl (fun _=>eU (H:=H278) (i:=4) (o:=0) (r:=v271) hS279 rfl rfl rfl rfl) ?_
 refine eg rfl (fun _=>jb (H:=H278) (i:=3) (l:=l272) (enc:=ed.cells) hS279 rfl rfl rfl rfl rfl rfl rfl) ?_
 refine g7 ((l272.length:Int)) (1) ?_
 have hk288:((((l272.length:Int) - 1).toNat:Nat):Int)=(l272.length:Int) - 1:=Int.toNat_of_nonneg cA
 have hx289:((l272.length:Int) - 1).toNat≤l272.length:=by first | omega | (simp<;>omega) | (simp_all; omega)
 have hTl:(l272.take (((l272.length:Int) - 1).toNat)).length+1=l272.length:=by rw [List.length_take]; omega
 have hTu:∀ y∈l272.take (((l272.length:Int) - 1).toNat),y∈univ a0:=fun y hy=>hTu y (List.mem_of_mem_take hy)
 refine e7 (H:=H278) rfl (nW (H:=H278) (i:=3) (k:=((l272.length:Int) - 1).toNat) hS279 rfl rfl rfl rfl rfl rfl (congrArg (AV.int .i64) hk288.symm) hx289) ?_
 rintro v290 H291 ⟨hc292,hS293⟩
 refine e7 (H:=H291) rfl (gC (H:=H291) (i:=4) (o:=0) (r:=v290) hS293 rfl rfl rfl rfl (iJ rfl rfl (Sep.cell (i:=3) hS293 rfl)) (eJ (Sep.cell (i:=3) hS293 rfl) fG) rfl) ?_
 rintro _ H294 ⟨rfl,hS295⟩
 refine oN ?_
 refine bL ?_
 refine eg rfl (fun _=>eU (H:=H294) (i:=6) (o:=0) (r:=.agg [iv n274,iv n275,iv n276,Row.av ew.cells r8,Row.av eA.cells r10,v267,v269,v265,.bool b277]) hS295 rfl rfl rfl rfl) ?_
 iterate 2 refine oV ?_
 refine Exists.elim (gx (H:=H294) (i:=1) (l:=l268) (enc:=eA.cells) hS295 rfl cP) (fun r296 hh=>And.elim (fun hl297 hf298=>?_) hh)
 have hln300:=congrArg List.length hl297
 have hz299:∀ m,freeze true { H294 with dO:=[] } (m+2) v267=some (eR.av eA.cells r296):=fun m=>hf298 [] _ (fun _=>rfl)
 refine Exists.elim (gx (H:=H294) (i:=2) (l:=l270) (enc:=eu) hS295 rfl cP) (fun r301 hh=>And.elim (fun hl302 hf303=>?_) hh)
 have hln305:=congrArg List.length hl302
 have hz304:∀ m,freeze true { H294 with dO:=[] } (m+2) v269=some (eR.av eu r301):=fun m=>hf303 [] _ (fun _=>rfl)
 refine Exists.elim (gx (H:=H294) (i:=0) (l:=l266) (enc:=eu) hS295 rfl cP) (fun r306 hh=>And.elim (fun hl307 hf308=>?_) hh)
 have hln310:=congrArg List.length hl307
 have hz309:∀ m,freeze true { H294 with dO:=[] } (m+2) v265=some (eR.av eu r306):=fun m=>hf308 [] _ (fun _=>rfl)
 refine ib (args:=[.agg [iv n274,iv n275,iv n276,Row.av ew.cells r8,Row.av eA.cells r10,v267,v269,v265,.bool b277],iv x284.elem]) (p:=[]) (r:=[]) (args':=[.agg [iv n274,iv n275,iv n276,Row.av ew.cells r8,Row.av eA.cells r10,eR.av eA.cells r296,eR.av eu r301,eR.av eu r306,.bool b277],iv x284.elem]) (R:=JM (⟨(n274),(n275),(n276),(Row.iV r8),(Row.iV r10),r296,r301,r306,(b277)⟩:lj) (x284.elem)) rfl rfl rfl rfl rfl rfl rfl xr (gb (by show fx (freeze true { H294 with dO:=[] } 8) [.agg [iv n274,iv n275,iv n276,Row.av ew.cells r8,Row.av eA.cells r10,v267,v269,v265,.bool b277],iv x284.elem] = _; simp only [FZ,hz299,hz304,hz309]) (eJ (FI (eJ rfl (eJ rfl (eJ rfl (eJ rfl (eJ rfl (eJ (Sep.cell (i:=1) hS295 rfl) (eJ (Sep.cell (i:=2) hS295 rfl) (eJ (Sep.cell (i:=0) hS295 rfl) (eJ rfl fG)))))))))) (eJ rfl fG))) (gb dt (eJ rfl (eJ rfl fG))) (fun h=>t97 (⟨(n274),(n275),(n276),(Row.iV r8),(Row.iV r10),r296,r301,r306,(b277)⟩:lj) (x284.elem)  h) ?_
 rintro _ ⟨r312,hc311,rfl⟩
 cases r312
 iterate 3 refine oV ?_
 refine ix (H:=H294) (i:=5) (ek:=pK) (ev:=bK) (l:=l273) x284 rfl rfl hS295 rfl rfl rfl rfl rfl rfl rfl rfl gB (fun y313 h314=>?_) (fun h315=>?_)
 cases y313
 exact absurd (hT _ (jt h314)) dv
 refine bJ ?_
 refine ⟨_,?_,(v265),(l266),(v267),(l268),(v269),(l270),(v290),((l272.take (((l272.length:Int) - 1).toNat))),(l273),(n274),(n275),(n276),(b277),H294,rfl,dh,dg,dk,da,cy,cw,cw,cw,cS,hS295,rfl,rfl⟩
 first | omega | (simp only [List.length_append,List.length_cons,List.length_nil,List.length_take] at *; omega)
 refine aw ?_
 refine wa [(2,(.ptr b1 0 0 0)),(3,(.ptr b4 0 0 0)),(4,.la 4 0),(5,.bool false),(6,(.hm b228)),(7,(.ptr b231 0 0 0)),(12,.fz 96 [] [(.ptr b1 0 0 0),(.ptr b231 0 0 0)]),(13,.la 13 0)] H294 [(4,[iv 0,iv 0,iv 0,.sl [] .nil,.sl [] .nil,.sl [] .nil,.sl [] .nil,.sl [] .nil,.bool false]),(13,(ed.cells x284))] ?_
 refine ae ?_
 have hPl:(put x284 true l273).length=l273.length+1:=by rw [uk cC]; simp
 have hKd:l9 (put x284 true l273):=xg hKd cC
 have hKu:∀ k∈(put x284 true l273).map Prod.fst,k∈univ a0:=uU hKu cC
 have hPle:(put x284 true l273).length≤(univ a0).length:=by rw [← List.length_map Prod.fst]; exact qZ hKd hKu
 have hT:∀ y∈(put x284 true l273),y.2=true:=pI (P:=fun y:Bool=>y=true) hT rfl
 refine e7 (H:=H294) rfl (iR (H:=H294) (i:=5) (ek:=pK) (ev:=bK) (l:=l273) x284 true hS295 rfl rfl rfl rfl rfl rfl gB) ?_
 rintro _ H316 ⟨rfl,hS317⟩
 refine oN ?_
 refine bL ?_
 refine eg rfl (fun _=>eU (H:=H316) (i:=7) (o:=0) (r:=.ip (eE.cells a0) 0 false) hS317 rfl rfl rfl rfl) ?_
 refine oV ?_
 refine oC (t47 a0 x284) ?_
 rintro _ ⟨r319,hc318,rfl⟩
 have hR:=hc318
 refine ce ?_
 refine gV (r319) (0) (fun h320=>?_) (fun h320=>?_)
 refine bF ?_
 refine qT ?_
 refine bL ?_
 refine eg rfl (fun _=>fq (H:=H316) (i:=6) hS317 rfl rfl rfl rfl rfl) ?_
 refine eg rfl (fun _=>eU (H:=H316) (i:=6) (o:=7) (r:=v265) hS317 rfl rfl rfl rfl) ?_
 refine oV ?_
 refine Exists.elim (gx (H:=H316) (i:=0) (l:=l266) (enc:=eu) hS317 rfl cP) (fun r321 hh=>And.elim (fun hl322 hf323=>?_) hh)
 have hln325:=congrArg List.length hl322
 have hz324:∀ m,freeze true { H316 with dO:=[] } (m+2) v265=some (eR.av eu r321):=fun m=>hf323 [] _ (fun _=>rfl)
 refine ib (args:=[v265,iv r319]) (p:=[]) (r:=[]) (args':=[eR.av eu r321,iv r319]) (R:=JB r321 (r319)) rfl rfl rfl rfl rfl (eJ (Sep.arg (i:=0) hS317 rfl) (eJ rfl fG)) rfl xi (gb (by show fx (freeze true { H316 with dO:=[] } 8) [v265,iv r319] = _; simp only [FZ,hz324]) (eJ (Sep.lF (i:=0) hS317 rfl) (eJ rfl fG))) (gb dt (eJ rfl (eJ rfl fG))) (fun h=>t98 r321 (r319)  h) ?_
 rintro _ ⟨r327,hc326,rfl⟩
 cases r327
 refine aC ?_
 refine qg ?_
 refine eg rfl (fun _=>fq (H:=H316) (i:=6) hS317 rfl rfl rfl rfl rfl) ?_
 refine eg rfl (fun _=>eU (H:=H316) (i:=6) (o:=7) (r:=v265) hS317 rfl rfl rfl rfl) ?_
 iterate 2 refine oV ?_
 refine e7 (H:=H316) rfl (fX (H:=H316) (i:=0) (l:=l266) (enc:=eu) [(r319)] hS317 rfl rfl rfl rfl rfl rfl rfl rfl rfl (fun _=>rfl) (.inl rfl) cF (fun _=>rfl)) ?_
 rintro v328 H329 hS330
 refine eg rfl (fun _=>fq (H:=H329) (i:=6) hS330 rfl rfl rfl rfl rfl) ?_
 refine e7 (H:=H329) rfl (gC (H:=H329) (i:=6) (o:=7) (r:=v328) hS330 rfl rfl rfl rfl (iJ rfl rfl (Sep.cell (i:=0) hS330 rfl)) (eJ (Sep.cell (i:=0) hS330 rfl) fG) rfl) ?_
 rintro _ H331 ⟨rfl,hS332⟩
 refine oN ?_
 refine wa [(2,(.ptr b1 0 0 0)),(3,(.ptr b4 0 0 0)),(4,.la 4 0),(5,.bool false),(6,(.hm b228)),(7,(.ptr b231 0 0 0)),(12,.fz 96 [] [(.ptr b1 0 0 0),(.ptr b231 0 0 0)])] H331 [(4,[iv 0,iv 0,iv 0,.sl [] .nil,.sl [] .nil,.sl [] .nil,.sl [] .nil,.sl [] .nil,.bool false])] ?_
 refine qe ?_
 refine ⟨_,?_,(v328),((l266++[(r319)])),(v267),(l268),(v269),(l270),(v290),((l272.take (((l272.length:Int) - 1).toNat))),((put x284 true l273)),(n274),(n275),(n276),(b277),H331,rfl,dh,dg,dk,da,cy,cw,cw,cw,cS,hS332,rfl,rfl⟩
 first | omega | (simp only [List.length_append,List.length_cons,List.length_nil,List.length_take] at *; omega)
 refine aw ?_
 refine wa [(2,(.ptr b1 0 0 0)),(3,(.ptr b4 0 0 0)),(4,.la 4 0),(5,.bool false),(6,(.hm b228)),(7,(.ptr b231 0 0 0)),(12,.fz 96 [] [(.ptr b1 0 0 0),(.ptr b231 0 0 0)])] H316 [(4,[iv 0,iv 0,iv 0,.sl [] .nil,.sl [] .nil,.sl [] .nil,.sl [] .nil,.sl [] .nil,.bool false])] ?_
 refine qe ?_
 refine ⟨_,?_,(v265),(l266),(v267),(l268),(v269),(l270),(v290),((l272.take (((l272.length:Int) - 1).toNat))),((put x284 true l273)),(n274),(n275),(n276),(b277),H316,rfl,dh,dg,dk,da,cy,cw,cw,cw,cS,hS317,rfl,rfl⟩
 first | omega | (simp only [List.length_append,List.length_cons,List.length_nil,List.length_take] at *; omega)
 refine ba ?_
 refine aw ?_
 refine wa [(2,(.ptr b1 0 0 0)),(3,(.ptr b4 0 0 0)),(4,.la 4 0),(5,.bool false),(6,(.hm b228)),(7,(.ptr b231 0 0 0)),(12,.fz 96 [] [(.ptr b1 0 0 0),(.ptr b231 0 0 0)]),(13,.la 13 0)] H316 [(4,[iv 0,iv 0,iv 0,.sl [] .nil,.sl [] .nil,.sl [] .nil,.sl [] .nil,.sl [] .nil,.bool false]),(13,(ed.cells x284))] ?_
 refine aa ?_
 refine eg rfl (fun _=>eU (H:=H316) (i:=7) (o:=0) (r:=.ip (eE.cells a0) 0 false) hS317 rfl rfl rfl rfl) ?_
 iterate 2 refine oV ?_
 refine oC (t46 a0 (x284.elem)) ?_
 rintro _ ⟨r334,hc333,rfl⟩
 have hK:=hc333
 refine bP ?_
 refine fj (r334) (4) (fun h335=>?_) (fun h335=>?_)
 refine aC ?_
 refine qg ?_
 refine eg rfl (fun _=>fq (H:=H316) (i:=6) hS317 rfl rfl rfl rfl rfl) ?_
 refine e7 (H:=H316) rfl (gC (H:=H316) (i:=6) (o:=8) (r:=.bool true) hS317 rfl rfl rfl rfl rfl rfl rfl) ?_
 rintro _ H336 ⟨rfl,hS337⟩
 refine oN ?_
 refine ⟨_,?_,(v265),(l266),(v267),(l268),(v269),(l270),(v290),((l272.take (((l272.length:Int) - 1).toNat))),((put x284 true l273)),(n274),(n275),(n276),(true),H336,rfl,dh,dg,dk,da,cy,cw,cw,cw,cS,hS337,rfl,rfl⟩
 first | omega | (simp only [List.length_append,List.length_cons,List.length_nil,List.length_take] at *; omega)
 refine aS ?_
 refine fj (r334) (2) (fun h338=>?_) (fun h338=>?_)
 refine aC ?_
 refine aI ?_
 refine fj (x284.en) (0) (fun h339=>?_) (fun h339=>?_)
 refine ay ?_
 refine aI ?_
 have hS340:Sep H316 (.obj (.ptr b4 0 0 0) [iv n274,iv n275,iv n276,Row.av ew.cells r8,Row.av eA.cells r10,v267,v269,v265,.bool b277]::.sl true true v267 2 (List.map eA.cells l268)::.sl true true v269 1 (List.map eu l270)::.sl true true v265 1 (List.map eu l266)::.sl true false v290 2 (List.map ed.cells (l272.take (((l272.length:Int) - 1).toNat)))::.obj (.ptr b231 0 0 0) [v290]::.map (.hm b228) (eM pK bK (put x284 true l273))::.obj (.ptr b1 0 0 0) [.ip (eE.cells a0) 0 false]::[]):=Sep.pick hS317 [6,1,2,0,3,4,5,7] 8 cG cG
 refine fU (H:=H316) (args:=[(.ptr b4 0 0 0),iv x284.elem]) (p:=[]) (r:=[]) rfl rfl rfl rfl rfl rfl rfl (u6 b4 n274 n275 n276 r8 r10 v267 l268 v269 l270 v265 l266 b277 (x284.elem) (.sl true false v290 2 (List.map ed.cells (l272.take (((l272.length:Int) - 1).toNat)))::.obj (.ptr b231 0 0 0) [v290]::.map (.hm b228) (eM pK bK (put x284 true l273))::.obj (.ptr b1 0 0 0) [.ip (eE.cells a0) 0 false]::[]) hS340 cq) ?_
 rintro _ H341 ⟨r347,vzo344,zoneo345,bareo346,hc343,hS342,rfl⟩
 cases r347
 refine az ?_
 refine wa [(2,(.ptr b1 0 0 0)),(3,(.ptr b4 0 0 0)),(4,.la 4 0),(5,.bool false),(6,(.hm b228)),(7,(.ptr b231 0 0 0)),(12,.fz 96 [] [(.ptr b1 0 0 0),(.ptr b231 0 0 0)])] H341 [(4,[iv 0,iv 0,iv 0,.sl [] .nil,.sl [] .nil,.sl [] .nil,.sl [] .nil,.sl [] .nil,.bool false])] ?_
 refine qe ?_
 have hS348:Sep H341 (.sl true true v265 1 (List.map eu l266)::.sl true true v267 2 (List.map eA.cells l268)::.sl true true vzo344 1 (List.map eu zoneo345)::.sl true false v290 2 (List.map ed.cells (l272.take (((l272.length:Int) - 1).toNat)))::.obj (.ptr b231 0 0 0) [v290]::.map (.hm b228) (eM pK bK (put x284 true l273))::.obj (.ptr b4 0 0 0) [iv n274,iv n275,iv n276,Row.av ew.cells r8,Row.av eA.cells r10,v267,vzo344,v265,.bool bareo346]::.obj (.ptr b1 0 0 0) [.ip (eE.cells a0) 0 false]::[]):=Sep.pick hS342 [3,1,2,4,5,6,0,7] 8 cG cG
 refine ⟨_,?_,(v265),(l266),(v267),(l268),(vzo344),(zoneo345),(v290),((l272.take (((l272.length:Int) - 1).toNat))),((put x284 true l273)),(n274),(n275),(n276),(bareo346),H341,rfl,dh,dg,dk,da,cy,cw,cw,cw,cS,hS348,rfl,rfl⟩
 first | omega | (simp only [List.length_append,List.length_cons,List.length_nil,List.length_take] at *; omega)
 refine ay ?_
 refine aF ?_
 have hS349:Sep H341 (.obj (.ptr b1 0 0 0) [.ip (eE.cells a0) 0 false]::.obj (.ptr b231 0 0 0) [v290]::.sl true false v290 2 (List.map ed.cells (l272.take (((l272.length:Int) - 1).toNat)))::.obj (.ptr b4 0 0 0) [iv n274,iv n275,iv n276,Row.av ew.cells r8,Row.av eA.cells r10,v267,vzo344,v265,.bool bareo346]::.sl true true v267 2 (List.map eA.cells l268)::.sl true true vzo344 1 (List.map eu zoneo345)::.sl true true v265 1 (List.map eu l266)::.map (.hm b228) (eM pK bK (put x284 true l273))::[]):=Sep.pick hS342 [7,5,4,0,1,2,3,6] 8 cG cG
 refine fU (H:=H341) (args:=[iv x284.elem,iv 2]) (p:=[]) (r:=[(.ptr b1 0 0 0),(.ptr b231 0 0 0)]) rfl rfl rfl rfl rfl rfl rfl (sw (x284.elem) 2 b1 a0 b231 v290 (l272.take (((l272.length:Int) - 1).toNat)) (.obj (.ptr b4 0 0 0) [iv n274,iv n275,iv n276,Row.av ew.cells r8,Row.av eA.cells r10,v267,vzo344,v265,.bool bareo346]::.sl true true v267 2 (List.map eA.cells l268)::.sl true true vzo344 1 (List.map eu zoneo345)::.sl true true v265 1 (List.map eu l266)::.map (.hm b228) (eM pK bK (put x284 true l273))::[]) hS349 cq) ?_
 rintro _ H350 ⟨vto353,todoo354,hc352,hS351,rfl⟩
 have hTu:∀ y∈todoo354,y∈univ a0:=fun y hy=>(hc352.2 y hy).elim (hTu y) id
 refine oN ?_
 refine aY ?_
 have hS355:Sep H350 (.obj (.ptr b1 0 0 0) [.ip (eE.cells a0) 0 false]::.obj (.ptr b231 0 0 0) [vto353]::.sl true false vto353 2 (List.map ed.cells todoo354)::.obj (.ptr b4 0 0 0) [iv n274,iv n275,iv n276,Row.av ew.cells r8,Row.av eA.cells r10,v267,vzo344,v265,.bool bareo346]::.sl true true v267 2 (List.map eA.cells l268)::.sl true true vzo344 1 (List.map eu zoneo345)::.sl true true v265 1 (List.map eu l266)::.map (.hm b228) (eM pK bK (put x284 true l273))::[]):=Sep.pick hS351 [0,1,2,3,4,5,6,7] 8 cG cG
 refine fU (H:=H350) (args:=[iv x284.elem,iv 1]) (p:=[]) (r:=[(.ptr b1 0 0 0),(.ptr b231 0 0 0)]) rfl rfl rfl rfl rfl rfl rfl (sw (x284.elem) 1 b1 a0 b231 vto353 todoo354 (.obj (.ptr b4 0 0 0) [iv n274,iv n275,iv n276,Row.av ew.cells r8,Row.av eA.cells r10,v267,vzo344,v265,.bool bareo346]::.sl true true v267 2 (List.map eA.cells l268)::.sl true true vzo344 1 (List.map eu zoneo345)::.sl true true v265 1 (List.map eu l266)::.map (.hm b228) (eM pK bK (put x284 true l273))::[]) hS355 cq) ?_
 rintro _ H356 ⟨vto359,todoo360,hc358,hS357,rfl⟩
 have hTu:∀ y∈todoo360,y∈univ a0:=fun y hy=>(hc358.2 y hy).elim (hTu y) id
 refine oN ?_
 refine wa [(2,(.ptr b1 0 0 0)),(3,(.ptr b4 0 0 0)),(4,.la 4 0),(5,.bool false),(6,(.hm b228)),(7,(.ptr b231 0 0 0)),(12,.fz 96 [] [(.ptr b1 0 0 0),(.ptr b231 0 0 0)])] H356 [(4,[iv 0,iv 0,iv 0,.sl [] .nil,.sl [] .nil,.sl [] .nil,.sl [] .nil,.sl [] .nil,.bool false])] ?_
 refine qe ?_
 have hS361:Sep H356 (.sl true true v265 1 (List.map eu l266)::.sl true true v267 2 (List.map eA.cells l268)::.sl true true vzo344 1 (List.map eu zoneo345)::.sl true false vto359 2 (List.map ed.cells todoo360)::.obj (.ptr b231 0 0 0) [vto359]::.map (.hm b228) (eM pK bK (put x284 true l273))::.obj (.ptr b4 0 0 0) [iv n274,iv n275,iv n276,Row.av ew.cells r8,Row.av eA.cells r10,v267,vzo344,v265,.bool bareo346]::.obj (.ptr b1 0 0 0) [.ip (eE.cells a0) 0 false]::[]):=Sep.pick hS357 [6,4,5,2,1,7,3,0] 8 cG cG
 refine ⟨_,?_,(v265),(l266),(v267),(l268),(vzo344),(zoneo345),(vto359),(todoo360),((put x284 true l273)),(n274),(n275),(n276),(bareo346),H356,rfl,dh,dg,dk,da,cy,cw,cw,cw,cS,hS361,rfl,rfl⟩
 first | omega | (simp only [List.length_append,List.length_cons,List.length_nil,List.length_take] at *; omega)
 refine az ?_
 refine wa [(2,(.ptr b1 0 0 0)),(3,(.ptr b4 0 0 0)),(4,.la 4 0),(5,.bool false),(6,(.hm b228)),(7,(.ptr b231 0 0 0)),(12,.fz 96 [] [(.ptr b1 0 0 0),(.ptr b231 0 0 0)]),(13,.la 13 0)] H316 [(4,[iv 0,iv 0,iv 0,.sl [] .nil,.sl [] .nil,.sl [] .nil,.sl [] .nil,.sl [] .nil,.bool false]),(13,(ed.cells x284))] ?_
 refine aj ?_
 refine au ?_
 refine bL ?_
 refine eg rfl (fun _=>fq (H:=H316) (i:=6) hS317 rfl rfl rfl rfl rfl) ?_
 refine eg rfl (fun _=>eU (H:=H316) (i:=6) (o:=4) (r:=Row.av eA.cells r10) hS317 rfl rfl rfl rfl) ?_
 refine oV ?_
 refine oC (t100 (Row.iV r10) (⟨(x284.elem),(x284.en)⟩:eA)) ?_
 rintro _ ⟨r363,hc362,rfl⟩
 cases r363
 refine oV ?_
 refine eg rfl (fun _=>fq (H:=H316) (i:=6) hS317 rfl rfl rfl rfl rfl) ?_
 refine eg rfl (fun _=>eU (H:=H316) (i:=6) (o:=5) (r:=v267) hS317 rfl rfl rfl rfl) ?_
 refine oV ?_
 refine Exists.elim (gx (H:=H316) (i:=1) (l:=l268) (enc:=eA.cells) hS317 rfl cP) (fun r364 hh=>And.elim (fun hl365 hf366=>?_) hh)
 have hln368:=congrArg List.length hl365
 have hz367:∀ m,freeze true { H316 with dO:=[] } (m+2) v267=some (eR.av eA.cells r364):=fun m=>hf366 [] _ (fun _=>rfl)
 refine ib (args:=[v267,.agg (ed.cells x284)]) (p:=[]) (r:=[]) (args':=[eR.av eA.cells r364,.agg (ed.cells x284)]) (R:=wW r364 (⟨(x284.elem),(x284.en)⟩:eA)) rfl rfl rfl rfl rfl (eJ (Sep.arg (i:=1) hS317 rfl) (eJ rfl fG)) rfl pt (gb (by show fx (freeze true { H316 with dO:=[] } 8) [v267,.agg (ed.cells x284)] = _; simp only [FZ,hz367]) (eJ (Sep.lF (i:=1) hS317 rfl) (eJ rfl fG))) (gb dt (eJ rfl (eJ rfl fG))) (fun h=>t100 r364 (⟨(x284.elem),(x284.en)⟩:eA)  h) ?_
 rintro _ ⟨r370,hc369,rfl⟩
 cases r370
 refine aw ?_
 refine wa [(2,(.ptr b1 0 0 0)),(3,(.ptr b4 0 0 0)),(4,.la 4 0),(5,.bool false),(6,(.hm b228)),(7,(.ptr b231 0 0 0)),(12,.fz 96 [] [(.ptr b1 0 0 0),(.ptr b231 0 0 0)]),(13,.la 13 0)] H316 [(4,[iv 0,iv 0,iv 0,.sl [] .nil,.sl [] .nil,.sl [] .nil,.sl [] .nil,.sl [] .nil,.bool false]),(13,(ed.cells x284))] ?_
 refine aG ?_
 refine eg rfl (fun _=>fD rfl rfl rfl (gD .i64 (3) (x284.en))) ?_
 refine aW ?_
 refine aa ?_
 refine eg rfl (fun _=>fq (H:=H316) (i:=6) hS317 rfl rfl rfl rfl rfl) ?_
 refine eg rfl (fun _=>eU (H:=H316) (i:=6) (o:=5) (r:=v267) hS317 rfl rfl rfl rfl) ?_
 refine oV ?_
 refine Exists.elim (gx (H:=H316) (i:=1) (l:=l268) (enc:=eA.cells) hS317 rfl cP) (fun r371 hh=>And.elim (fun hl372 hf373=>?_) hh)
 have hln375:=congrArg List.length hl372
 have hz374:∀ m,freeze true { H316 with dO:=[] } (m+2) v267=some (eR.av eA.cells r371):=fun m=>hf373 [] _ (fun _=>rfl)
 refine ib (args:=[v267,.agg [iv x284.elem,iv (IntKind.i64.wrap (3 - (x284.en)))]]) (p:=[]) (r:=[]) (args':=[eR.av eA.cells r371,.agg [iv x284.elem,iv (IntKind.i64.wrap (3 - (x284.en)))]]) (R:=wW r371 (⟨(x284.elem),(IntKind.i64.wrap (3 - (x284.en)))⟩:eA)) rfl rfl rfl rfl rfl (eJ (Sep.arg (i:=1) hS317 rfl) (eJ rfl fG)) rfl pt (gb (by show fx (freeze true { H316 with dO:=[] } 8) [v267,.agg [iv x284.elem,iv (IntKind.i64.wrap (3 - (x284.en)))]] = _; simp only [FZ,hz374]) (eJ (Sep.lF (i:=1) hS317 rfl) (eJ rfl fG))) (gb dt (eJ rfl (eJ rfl fG))) (fun h=>t100 r371 (⟨(x284.elem),(IntKind.i64.wrap (3 - (x284.en)))⟩:eA)  h) ?_
 rintro _ ⟨r377,hc376,rfl⟩
 cases r377
 refine aC ?_
 refine qg ?_
 refine eg rfl (fun _=>fq (H:=H316) (i:=6) hS317 rfl rfl rfl rfl rfl) ?_
 refine eg rfl (fun _=>eU (H:=H316) (i:=6) (o:=5) (r:=v267) hS317 rfl rfl rfl rfl) ?_
 iterate 2 refine oV ?_
 refine e7 (H:=H316) rfl (fX (H:=H316) (i:=1) (l:=l268) (enc:=eA.cells) [(⟨(x284.elem),(IntKind.i64.wrap (3 - (x284.en)))⟩:eA)] hS317 rfl rfl rfl rfl rfl rfl rfl rfl rfl (fun _=>rfl) (.inl rfl) cF (fun _=>rfl)) ?_
 rintro v378 H379 hS380
 refine eg rfl (fun _=>fq (H:=H379) (i:=6) hS380 rfl rfl rfl rfl rfl) ?_
 refine e7 (H:=H379) rfl (gC (H:=H379) (i:=6) (o:=5) (r:=v378) hS380 rfl rfl rfl rfl (iJ rfl rfl (Sep.cell (i:=1) hS380 rfl)) (eJ (Sep.cell (i:=1) hS380 rfl) fG) rfl) ?_
 rintro _ H381 ⟨rfl,hS382⟩
 refine oN ?_
 refine ⟨_,?_,(v265),(l266),(v378),((l268++[(⟨(x284.elem),(IntKind.i64.wrap (3 - (x284.en)))⟩:eA)])),(v269),(l270),(v290),((l272.take (((l272.length:Int) - 1).toNat))),((put x284 true l273)),(n274),(n275),(n276),(b277),H381,rfl,dh,dg,dk,da,cy,cw,cw,cw,cS,hS382,rfl,rfl⟩
 first | omega | (simp only [List.length_append,List.length_cons,List.length_nil,List.length_take] at *; omega)
 refine aw ?_
 refine ⟨_,?_,(v265),(l266),(v267),(l268),(v269),(l270),(v290),((l272.take (((l272.length:Int) - 1).toNat))),((put x284 true l273)),(n274),(n275),(n276),(b277),H316,rfl,dh,dg,dk,da,cy,cw,cw,cw,cS,hS317,rfl,rfl⟩
 first | omega | (simp only [List.length_append,List.length_cons,List.length_nil,List.length_take] at *; omega)
 refine aC ?_
 refine aI ?_
 have hS383:Sep H316 (.obj (.ptr b4 0 0 0) [iv n274,iv n275,iv n276,Row.av ew.cells r8,Row.av eA.cells r10,v267,v269,v265,.bool b277]::.sl true true v267 2 (List.map eA.cells l268)::.sl true true v269 1 (List.map eu l270)::.sl true true v265 1 (List.map eu l266)::.sl true false v290 2 (List.map ed.cells (l272.take (((l272.length:Int) - 1).toNat)))::.obj (.ptr b231 0 0 0) [v290]::.map (.hm b228) (eM pK bK (put x284 true l273))::.obj (.ptr b1 0 0 0) [.ip (eE.cells a0) 0 false]::[]):=Sep.pick hS317 [6,1,2,0,3,4,5,7] 8 cG cG
 refine fU (H:=H316) (args:=[(.ptr b4 0 0 0),iv x284.elem]) (p:=[]) (r:=[]) rfl rfl rfl rfl rfl rfl rfl (u6 b4 n274 n275 n276 r8 r10 v267 l268 v269 l270 v265 l266 b277 (x284.elem) (.sl true false v290 2 (List.map ed.cells (l272.take (((l272.length:Int) - 1).toNat)))::.obj (.ptr b231 0 0 0) [v290]::.map (.hm b228) (eM pK bK (put x284 true l273))::.obj (.ptr b1 0 0 0) [.ip (eE.cells a0) 0 false]::[]) hS383 cq) ?_
 rintro _ H384 ⟨r390,vzo387,zoneo388,bareo389,hc386,hS385,rfl⟩
 cases r390
 refine az ?_
 refine wa [(2,(.ptr b1 0 0 0)),(3,(.ptr b4 0 0 0)),(4,.la 4 0),(5,.bool false),(6,(.hm b228)),(7,(.ptr b231 0 0 0)),(12,.fz 96 [] [(.ptr b1 0 0 0),(.ptr b231 0 0 0)])] H384 [(4,[iv 0,iv 0,iv 0,.sl [] .nil,.sl [] .nil,.sl [] .nil,.sl [] .nil,.sl [] .nil,.bool false])] ?_
 refine qe ?_
 have hS391:Sep H384 (.sl true true v265 1 (List.map eu l266)::.sl true true v267 2 (List.map eA.cells l268)::.sl true true vzo387 1 (List.map eu zoneo388)::.sl true false v290 2 (List.map ed.cells (l272.take (((l272.length:Int) - 1).toNat)))::.obj (.ptr b231 0 0 0) [v290]::.map (.hm b228) (eM pK bK (put x284 true l273))::.obj (.ptr b4 0 0 0) [iv n274,iv n275,iv n276,Row.av ew.cells r8,Row.av eA.cells r10,v267,vzo387,v265,.bool bareo389]::.obj (.ptr b1 0 0 0) [.ip (eE.cells a0) 0 false]::[]):=Sep.pick hS385 [3,1,2,4,5,6,0,7] 8 cG cG
 refine ⟨_,?_,(v265),(l266),(v267),(l268),(vzo387),(zoneo388),(v290),((l272.take (((l272.length:Int) - 1).toNat))),((put x284 true l273)),(n274),(n275),(n276),(bareo389),H384,rfl,dh,dg,dk,da,cy,cw,cw,cw,cS,hS391,rfl,rfl⟩
 first | omega | (simp only [List.length_append,List.length_cons,List.length_nil,List.length_take] at *; omega)
 refine b8 ?_
 have hS392:Sep H384 (.obj (.ptr b1 0 0 0) [.ip (eE.cells a0) 0 false]::.obj (.ptr b231 0 0 0) [v290]::.sl true false v290 2 (List.map ed.cells (l272.take (((l272.length:Int) - 1).toNat)))::.obj (.ptr b4 0 0 0) [iv n274,iv n275,iv n276,Row.av ew.cells r8,Row.av eA.cells r10,v267,vzo387,v265,.bool bareo389]::.sl true true v267 2 (List.map eA.cells l268)::.sl true true vzo387 1 (List.map eu zoneo388)::.sl true true v265 1 (List.map eu l266)::.map (.hm b228) (eM pK bK (put x284 true l273))::[]):=Sep.pick hS385 [7,5,4,0,1,2,3,6] 8 cG cG
 refine fU (H:=H384) (args:=[iv x284.elem,iv 0]) (p:=[]) (r:=[(.ptr b1 0 0 0),(.ptr b231 0 0 0)]) rfl rfl rfl rfl rfl rfl rfl (sw (x284.elem) 0 b1 a0 b231 v290 (l272.take (((l272.length:Int) - 1).toNat)) (.obj (.ptr b4 0 0 0) [iv n274,iv n275,iv n276,Row.av ew.cells r8,Row.av eA.cells r10,v267,vzo387,v265,.bool bareo389]::.sl true true v267 2 (List.map eA.cells l268)::.sl true true vzo387 1 (List.map eu zoneo388)::.sl true true v265 1 (List.map eu l266)::.map (.hm b228) (eM pK bK (put x284 true l273))::[]) hS392 cq) ?_
 rintro _ H393 ⟨vto396,todoo397,hc395,hS394,rfl⟩
 have hTu:∀ y∈todoo397,y∈univ a0:=fun y hy=>(hc395.2 y hy).elim (hTu y) id
 refine oN ?_
 refine wa [(2,(.ptr b1 0 0 0)),(3,(.ptr b4 0 0 0)),(4,.la 4 0),(5,.bool false),(6,(.hm b228)),(7,(.ptr b231 0 0 0)),(12,.fz 96 [] [(.ptr b1 0 0 0),(.ptr b231 0 0 0)])] H393 [(4,[iv 0,iv 0,iv 0,.sl [] .nil,.sl [] .nil,.sl [] .nil,.sl [] .nil,.sl [] .nil,.bool false])] ?_
 refine qe ?_
 have hS398:Sep H393 (.sl true true v265 1 (List.map eu l266)::.sl true true v267 2 (List.map eA.cells l268)::.sl true true vzo387 1 (List.map eu zoneo388)::.sl true false vto396 2 (List.map ed.cells todoo397)::.obj (.ptr b231 0 0 0) [vto396]::.map (.hm b228) (eM pK bK (put x284 true l273))::.obj (.ptr b4 0 0 0) [iv n274,iv n275,iv n276,Row.av ew.cells r8,Row.av eA.cells r10,v267,vzo387,v265,.bool bareo389]::.obj (.ptr b1 0 0 0) [.ip (eE.cells a0) 0 false]::[]):=Sep.pick hS394 [6,4,5,2,1,7,3,0] 8 cG cG
 refine ⟨_,?_,(v265),(l266),(v267),(l268),(vzo387),(zoneo388),(vto396),(todoo397),((put x284 true l273)),(n274),(n275),(n276),(bareo389),H393,rfl,dh,dg,dk,da,cy,cw,cw,cw,cS,hS398,rfl,rfl⟩
 first | omega | (simp only [List.length_append,List.length_cons,List.length_nil,List.length_take] at *; omega)
 refine bk ?_
 refine aC ?_
 refine aI ?_
 have hS399:Sep H316 (.obj (.ptr b4 0 0 0) [iv n274,iv n275,iv n276,Row.av ew.cells r8,Row.av eA.cells r10,v267,v269,v265,.bool b277]::.sl true true v267 2 (List.map eA.cells l268)::.sl true true v269 1 (List.map eu l270)::.sl true true v265 1 (List.map eu l266)::.sl true false v290 2 (List.map ed.cells (l272.take (((l272.length:Int) - 1).toNat)))::.obj (.ptr b231 0 0 0) [v290]::.map (.hm b228) (eM pK bK (put x284 true l273))::.obj (.ptr b1 0 0 0) [.ip (eE.cells a0) 0 false]::[]):=Sep.pick hS317 [6,1,2,0,3,4,5,7] 8 cG cG
 refine fU (H:=H316) (args:=[(.ptr b4 0 0 0),iv x284.elem]) (p:=[]) (r:=[]) rfl rfl rfl rfl rfl rfl rfl (u6 b4 n274 n275 n276 r8 r10 v267 l268 v269 l270 v265 l266 b277 (x284.elem) (.sl true false v290 2 (List.map ed.cells (l272.take (((l272.length:Int) - 1).toNat)))::.obj (.ptr b231 0 0 0) [v290]::.map (.hm b228) (eM pK bK (put x284 true l273))::.obj (.ptr b1 0 0 0) [.ip (eE.cells a0) 0 false]::[]) hS399 cq) ?_
 rintro _ H400 ⟨r406,vzo403,zoneo404,bareo405,hc402,hS401,rfl⟩
 cases r406
 refine az ?_
 refine wa [(2,(.ptr b1 0 0 0)),(3,(.ptr b4 0 0 0)),(4,.la 4 0),(5,.bool false),(6,(.hm b228)),(7,(.ptr b231 0 0 0)),(12,.fz 96 [] [(.ptr b1 0 0 0),(.ptr b231 0 0 0)])] H400 [(4,[iv 0,iv 0,iv 0,.sl [] .nil,.sl [] .nil,.sl [] .nil,.sl [] .nil,.sl [] .nil,.bool false])] ?_
 refine qe ?_
 have hS407:Sep H400 (.sl true true v265 1 (List.map eu l266)::.sl true true v267 2 (List.map eA.cells l268)::.sl true true vzo403 1 (List.map eu zoneo404)::.sl true false v290 2 (List.map ed.cells (l272.take (((l272.length:Int) - 1).toNat)))::.obj (.ptr b231 0 0 0) [v290]::.map (.hm b228) (eM pK bK (put x284 true l273))::.obj (.ptr b4 0 0 0) [iv n274,iv n275,iv n276,Row.av ew.cells r8,Row.av eA.cells r10,v267,vzo403,v265,.bool bareo405]::.obj (.ptr b1 0 0 0) [.ip (eE.cells a0) 0 false]::[]):=Sep.pick hS401 [3,1,2,4,5,6,0,7] 8 cG cG
 refine ⟨_,?_,(v265),(l266),(v267),(l268),(vzo403),(zoneo404),(v290),((l272.take (((l272.length:Int) - 1).toNat))),((put x284 true l273)),(n274),(n275),(n276),(bareo405),H400,rfl,dh,dg,dk,da,cy,cw,cw,cw,cS,hS407,rfl,rfl⟩
 first | omega | (simp only [List.length_append,List.length_cons,List.length_nil,List.length_take] at *; omega)
 refine b8 ?_
 have hS408:Sep H400 (.obj (.ptr b1 0 0 0) [.ip (eE.cells a0) 0 false]::.obj (.ptr b231 0 0 0) [v290]::.sl true false v290 2 (List.map ed.cells (l272.take (((l272.length:Int) - 1).toNat)))::.obj (.ptr b4 0 0 0) [iv n274,iv n275,iv n276,Row.av ew.cells r8,Row.av eA.cells r10,v267,vzo403,v265,.bool bareo405]::.sl true true v267 2 (List.map eA.cells l268)::.sl true true vzo403 1 (List.map eu zoneo404)::.sl true true v265 1 (List.map eu l266)::.map (.hm b228) (eM pK bK (put x284 true l273))::[]):=Sep.pick hS401 [7,5,4,0,1,2,3,6] 8 cG cG
 refine fU (H:=H400) (args:=[iv x284.elem,iv 0]) (p:=[]) (r:=[(.ptr b1 0 0 0),(.ptr b231 0 0 0)]) rfl rfl rfl rfl rfl rfl rfl (sw (x284.elem) 0 b1 a0 b231 v290 (l272.take (((l272.length:Int) - 1).toNat)) (.obj (.ptr b4 0 0 0) [iv n274,iv n275,iv n276,Row.av ew.cells r8,Row.av eA.cells r10,v267,vzo403,v265,.bool bareo405]::.sl true true v267 2 (List.map eA.cells l268)::.sl true true vzo403 1 (List.map eu zoneo404)::.sl true true v265 1 (List.map eu l266)::.map (.hm b228) (eM pK bK (put x284 true l273))::[]) hS408 cq) ?_
 rintro _ H409 ⟨vto412,todoo413,hc411,hS410,rfl⟩
 have hTu:∀ y∈todoo413,y∈univ a0:=fun y hy=>(hc411.2 y hy).elim (hTu y) id
 refine oN ?_
 refine wa [(2,(.ptr b1 0 0 0)),(3,(.ptr b4 0 0 0)),(4,.la 4 0),(5,.bool false),(6,(.hm b228)),(7,(.ptr b231 0 0 0)),(12,.fz 96 [] [(.ptr b1 0 0 0),(.ptr b231 0 0 0)])] H409 [(4,[iv 0,iv 0,iv 0,.sl [] .nil,.sl [] .nil,.sl [] .nil,.sl [] .nil,.sl [] .nil,.bool false])] ?_
 refine qe ?_
 have hS414:Sep H409 (.sl true true v265 1 (List.map eu l266)::.sl true true v267 2 (List.map eA.cells l268)::.sl true true vzo403 1 (List.map eu zoneo404)::.sl true false vto412 2 (List.map ed.cells todoo413)::.obj (.ptr b231 0 0 0) [vto412]::.map (.hm b228) (eM pK bK (put x284 true l273))::.obj (.ptr b4 0 0 0) [iv n274,iv n275,iv n276,Row.av ew.cells r8,Row.av eA.cells r10,v267,vzo403,v265,.bool bareo405]::.obj (.ptr b1 0 0 0) [.ip (eE.cells a0) 0 false]::[]):=Sep.pick hS410 [6,4,5,2,1,7,3,0] 8 cG cG
 refine ⟨_,?_,(v265),(l266),(v267),(l268),(vzo403),(zoneo404),(vto412),(todoo413),((put x284 true l273)),(n274),(n275),(n276),(bareo405),H409,rfl,dh,dg,dk,da,cy,cw,cw,cw,cS,hS414,rfl,rfl⟩
 first | omega | (simp only [List.length_append,List.length_cons,List.length_nil,List.length_take] at *; omega)
 refine aS ?_
 refine eg rfl (fun _=>eU (H:=H316) (i:=7) (o:=0) (r:=.ip (eE.cells a0) 0 false) hS317 rfl rfl rfl rfl) ?_
 iterate 4 refine oV ?_
 refine oC (t101 a0 (x284.elem) (x284.en) (0)) ?_
 rintro _ ⟨r416,r417,hc415,rfl⟩
 cases r417
 refine bl ?_
 refine aa ?_
 refine bI ?_
 refine aw ?_
 refine ⟨_,?_,(v265),(l266),(v267),(l268),(v269),(l270),(v290),((l272.take (((l272.length:Int) - 1).toNat))),((put x284 true l273)),(n274),(n275),(n276),(b277),H316,rfl,dh,dg,dk,da,cy,cw,cw,cw,cS,hS317,rfl,rfl⟩
 first | omega | (simp only [List.length_append,List.length_cons,List.length_nil,List.length_take] at *; omega)
 refine bl ?_
 refine aG ?_
 have hS418:Sep H316 (.obj (.ptr b4 0 0 0) [iv n274,iv n275,iv n276,Row.av ew.cells r8,Row.av eA.cells r10,v267,v269,v265,.bool b277]::.sl true true v267 2 (List.map eA.cells l268)::.sl true true v269 1 (List.map eu l270)::.sl true true v265 1 (List.map eu l266)::.sl true false v290 2 (List.map ed.cells (l272.take (((l272.length:Int) - 1).toNat)))::.obj (.ptr b231 0 0 0) [v290]::.map (.hm b228) (eM pK bK (put x284 true l273))::.obj (.ptr b1 0 0 0) [.ip (eE.cells a0) 0 false]::[]):=Sep.pick hS317 [6,1,2,0,3,4,5,7] 8 cG cG
 refine fU (H:=H316) (args:=[(.ptr b4 0 0 0),iv x284.elem]) (p:=[]) (r:=[]) rfl rfl rfl rfl rfl rfl rfl (u6 b4 n274 n275 n276 r8 r10 v267 l268 v269 l270 v265 l266 b277 (x284.elem) (.sl true false v290 2 (List.map ed.cells (l272.take (((l272.length:Int) - 1).toNat)))::.obj (.ptr b231 0 0 0) [v290]::.map (.hm b228) (eM pK bK (put x284 true l273))::.obj (.ptr b1 0 0 0) [.ip (eE.cells a0) 0 false]::[]) hS418 cq) ?_
 rintro _ H419 ⟨r425,vzo422,zoneo423,bareo424,hc421,hS420,rfl⟩
 cases r425
 refine aw ?_
 have hS426:Sep H419 (.sl true true v265 1 (List.map eu l266)::.sl true true v267 2 (List.map eA.cells l268)::.sl true true vzo422 1 (List.map eu zoneo423)::.sl true false v290 2 (List.map ed.cells (l272.take (((l272.length:Int) - 1).toNat)))::.obj (.ptr b231 0 0 0) [v290]::.map (.hm b228) (eM pK bK (put x284 true l273))::.obj (.ptr b4 0 0 0) [iv n274,iv n275,iv n276,Row.av ew.cells r8,Row.av eA.cells r10,v267,vzo422,v265,.bool bareo424]::.obj (.ptr b1 0 0 0) [.ip (eE.cells a0) 0 false]::[]):=Sep.pick hS420 [3,1,2,4,5,6,0,7] 8 cG cG
 refine ⟨_,?_,(v265),(l266),(v267),(l268),(vzo422),(zoneo423),(v290),((l272.take (((l272.length:Int) - 1).toNat))),((put x284 true l273)),(n274),(n275),(n276),(bareo424),H419,rfl,dh,dg,dk,da,cy,cw,cw,cw,cS,hS426,rfl,rfl⟩
 first | omega | (simp only [List.length_append,List.length_cons,List.length_nil,List.length_take] at *; omega)
 refine oV ?_
 refine b8 ?_
 refine oV ?_
 have hS427:Sep H419 (.obj (.ptr b1 0 0 0) [.ip (eE.cells a0) 0 false]::.obj (.ptr b231 0 0 0) [v290]::.sl true false v290 2 (List.map ed.cells (l272.take (((l272.length:Int) - 1).toNat)))::.obj (.ptr b4 0 0 0) [iv n274,iv n275,iv n276,Row.av ew.cells r8,Row.av eA.cells r10,v267,vzo422,v265,.bool bareo424]::.sl true true v267 2 (List.map eA.cells l268)::.sl true true vzo422 1 (List.map eu zoneo423)::.sl true true v265 1 (List.map eu l266)::.map (.hm b228) (eM pK bK (put x284 true l273))::[]):=Sep.pick hS420 [7,5,4,0,1,2,3,6] 8 cG cG
 refine fU (H:=H419) (args:=[iv x284.elem,iv r416]) (p:=[]) (r:=[(.ptr b1 0 0 0),(.ptr b231 0 0 0)]) rfl rfl rfl rfl rfl rfl rfl (sw (x284.elem) r416 b1 a0 b231 v290 (l272.take (((l272.length:Int) - 1).toNat)) (.obj (.ptr b4 0 0 0) [iv n274,iv n275,iv n276,Row.av ew.cells r8,Row.av eA.cells r10,v267,vzo422,v265,.bool bareo424]::.sl true true v267 2 (List.map eA.cells l268)::.sl true true vzo422 1 (List.map eu zoneo423)::.sl true true v265 1 (List.map eu l266)::.map (.hm b228) (eM pK bK (put x284 true l273))::[]) hS427 cq) ?_
 rintro _ H428 ⟨vto431,todoo432,hc430,hS429,rfl⟩
 have hTu:∀ y∈todoo432,y∈univ a0:=fun y hy=>(hc430.2 y hy).elim (hTu y) id
 refine oN ?_
 have hS433:Sep H428 (.sl true true v265 1 (List.map eu l266)::.sl true true v267 2 (List.map eA.cells l268)::.sl true true vzo422 1 (List.map eu zoneo423)::.sl true false vto431 2 (List.map ed.cells todoo432)::.obj (.ptr b231 0 0 0) [vto431]::.map (.hm b228) (eM pK bK (put x284 true l273))::.obj (.ptr b4 0 0 0) [iv n274,iv n275,iv n276,Row.av ew.cells r8,Row.av eA.cells r10,v267,vzo422,v265,.bool bareo424]::.obj (.ptr b1 0 0 0) [.ip (eE.cells a0) 0 false]::[]):=Sep.pick hS429 [6,4,5,2,1,7,3,0] 8 cG cG
 refine ⟨_,?_,(v265),(l266),(v267),(l268),(vzo422),(zoneo423),(vto431),(todoo432),((put x284 true l273)),(n274),(n275),(n276),(bareo424),H428,rfl,dh,dg,dk,da,cy,cw,cw,cw,cS,hS433,rfl,rfl⟩
 first | omega | (simp only [List.length_append,List.length_cons,List.length_nil,List.length_take] at *; omega)
 refine bB ?_
 refine bJ ?_
 refine ⟨_,?_,(v265),(l266),(v267),(l268),(v269),(l270),(v290),((l272.take (((l272.length:Int) - 1).toNat))),(l273),(n274),(n275),(n276),(b277),H294,rfl,dh,dg,dk,da,cy,cw,cw,cw,cS,hS295,rfl,rfl⟩
 first | omega | (simp only [List.length_append,List.length_cons,List.length_nil,List.length_take] at *; omega)
 refine aE ?_
 refine wa [(3,(.ptr b4 0 0 0)),(4,.la 4 0),(4,.la 4 0)] H278 [(4,[iv 0,iv 0,iv 0,.sl [] .nil,.sl [] .nil,.sl [] .nil,.sl [] .nil,.sl [] .nil,.bool false]),(4,[iv 0,iv 0,iv 0,.sl [] .nil,.sl [] .nil,.sl [] .nil,.sl [] .nil,.sl [] .nil,.bool false])] ?_
 refine aa ?_
 refine eg rfl (fun _=>eU (H:=H278) (i:=6) (o:=0) (r:=.agg [iv n274,iv n275,iv n276,Row.av ew.cells r8,Row.av eA.cells r10,v267,v269,v265,.bool b277]) hS279 rfl rfl rfl rfl) ?_
 refine eg rfl (fun _=>sj rfl rfl rfl rfl (eJ rfl (eJ rfl (eJ rfl (eJ rfl (eJ rfl (eJ (Sep.cell (i:=1) hS279 rfl) (eJ (Sep.cell (i:=2) hS279 rfl) (eJ (Sep.cell (i:=0) hS279 rfl) (eJ rfl fG))))))))) rfl rfl) ?_
 refine ci ?_
 obtain ⟨r434,hl435,hf436⟩:=gQ (H:=H278) (i:=1) (l:=l268) (enc:=eA.cells) hS279 rfl cz
 have hlq:=hl435; have hln438:=congrArg List.length hl435
 have hz437:∀ m,freeze false { H278 with dO:=[(4,[iv n274,iv n275,iv n276,Row.av ew.cells r8,Row.av eA.cells r10,v267,v269,v265,.bool b277])] } (m+2) v267=some (Row.av eA.cells r434):=fun m=>hf436 _ _ (fun _=>rfl)
 obtain ⟨r439,hl440,hf441⟩:=gQ (H:=H278) (i:=2) (l:=l270) (enc:=eu) hS279 rfl cz
 have hlq:=hl440; have hln443:=congrArg List.length hl440
 have hz442:∀ m,freeze false { H278 with dO:=[(4,[iv n274,iv n275,iv n276,Row.av ew.cells r8,Row.av eA.cells r10,v267,v269,v265,.bool b277])] } (m+2) v269=some (Row.av eu r439):=fun m=>hf441 _ _ (fun _=>rfl)
 obtain ⟨r444,hl445,hf446⟩:=gQ (H:=H278) (i:=0) (l:=l266) (enc:=eu) hS279 rfl cz
 have hlq:=hl445; have hln448:=congrArg List.length hl445
 have hz447:∀ m,freeze false { H278 with dO:=[(4,[iv n274,iv n275,iv n276,Row.av ew.cells r8,Row.av eA.cells r10,v267,v269,v265,.bool b277])] } (m+2) v265=some (Row.av eu r444):=fun m=>hf446 _ _ (fun _=>rfl)
 exact ⟨.agg [iv n274,iv n275,iv n276,Row.av ew.cells r8,Row.av eA.cells r10,v267,v269,v265,.bool b277],(ia (vs:=[.agg [iv n274,iv n275,iv n276,Row.av ew.cells r8,Row.av eA.cells r10,v267,v269,v265,.bool b277]]) rfl rfl),.agg [iv n274,iv n275,iv n276,Row.av ew.cells r8,Row.av eA.cells r10,Row.av eA.cells r434,Row.av eu r439,Row.av eu r444,.bool b277],(show freeze false { H278 with dO:=[(4,[iv n274,iv n275,iv n276,Row.av ew.cells r8,Row.av eA.cells r10,v267,v269,v265,.bool b277])] } 8 (.agg [iv n274,iv n275,iv n276,Row.av ew.cells r8,Row.av eA.cells r10,v267,v269,v265,.bool b277])=some (.agg [iv n274,iv n275,iv n276,Row.av ew.cells r8,Row.av eA.cells r10,Row.av eA.cells r434,Row.av eu r439,Row.av eu r444,.bool b277]) by simp only [FZ,hz437,hz442,hz447]),(⟨(n274),(n275),(n276),r8,r10,r434,r439,r444,(b277)⟩:eF),(by simp_all [Row.iV]),rfl⟩
theorem Ri:eG.get 25=some Dj:=by kernel_rfl
theorem JJ:ei 25=none:=by kernel_rfl
def Xm (_a0:eb) (v:AV):Prop:=∃ r0:gp,∃ r1:Int,((r1=0→(∀ r∈(r0.roads.l:List eF),0<r.steps.l.length∧r.steps.l.length≤12∧r.gU.l.length≤12)∧r0.roads.l.length≤64))∧v=.eP [.agg (gp.cells r0),iv r1]
theorem t25 (a0:eb) (q1:iY a0) (h:bY):∃ v,eH cfg eG.get ei false 25 [.agg (eb.cells a0)] h v h∧Xm a0 v:=by
 refine eW JJ Ri rfl rfl ?_
 refine ae ?_
 refine ce ?_
 refine oC (t51 a0 cq) ?_
 rintro _ (⟨r2,hc1,rfl⟩ | ⟨r3,hc1,rfl⟩)
 have hFw:=hc1.EE; have hFs:=hc1.EE.signals; have hFl:=hc1.len
 refine bl ?_
 refine bL ?_
 refine bv ?_
 refine w0 [(2,.la 2 0),(2,.la 2 0),(4,.ip (eE.cells r2) 0 false)] [(2,[.sl [] .nil,.sl [] .nil,.sl [] .nil,.sl [] .nil,iv 0,iv 0,iv 0,iv 0,.bool false,.sl [] .nil]),(2,[.sl [] .nil,.sl [] .nil,.sl [] .nil,.sl [] .nil,iv 0,iv 0,iv 0,iv 0,.bool false,.sl [] .nil])] ?_
 refine aj ?_
 refine fU (H:=bY.empty) (args:=[.ip (eE.cells r2) 0 false]) (p:=[]) (r:=[]) rfl rfl rfl rfl rfl rfl rfl (Wi r2 ([]) gg cq) ?_
 rintro _ H5 ⟨ov8,ol9,eo10,hc7,hS6,rfl⟩
 have hR:=hc7.1
 have hI:=hc7.2
 refine bl ?_
 refine ak ?_
 refine gK (eo10) (0) (fun h11=>?_) (fun h11=>?_)
 refine ay ?_
 refine bM ?_
 exact xF (.eP [.agg [.sl [] .nil,.sl [] .nil,.sl [] .nil,.sl [] .nil,iv 0,iv 0,iv 0,iv 0,.bool false,.sl [] .nil],iv eo10]) ⟨(⟨(⟨(⟨[],.nil,Nat.zero_le _,rfl,fun _=>rfl⟩:Row e8),(⟨[],.nil,Nat.zero_le _,rfl,fun _=>rfl⟩:Row fo),(⟨[],.nil,Nat.zero_le _,rfl,fun _=>rfl⟩:Row fe),(⟨[],.nil,Nat.zero_le _,rfl,fun _=>rfl⟩:Row eZ),(0),(0),(0),(0),false⟩:eb),(⟨[],.nil,Nat.zero_le _,rfl,fun _=>rfl⟩:Row eF)⟩:gp),(eo10),cX,rfl⟩
 refine az ?_
 refine wa [(2,.la 2 0),(4,.ip (eE.cells r2) 0 false),(6,ov8)] H5 [(2,[.sl [] .nil,.sl [] .nil,.sl [] .nil,.sl [] .nil,iv 0,iv 0,iv 0,iv 0,.bool false,.sl [] .nil])] ?_ (Eq.trans (b:=[(2,.la 2 0),(4,.ip (eE.cells r2) 0 false),(6,eB 6 ov8)]) rfl dK)
 refine ak ?_
 refine eg rfl (fun _=>jb (H:=H5) (i:=0) (l:=ol9) (enc:=eF.cells) hS6 rfl rfl rfl rfl rfl rfl rfl) ?_
 refine aP ?_
 refine eN (ol9.length) (fun k12 e h=>∃ v13:AV,∃ l14:List eF,∃ H15:bY,((∀ r∈(l14:List eF),0<r.steps.l.length∧r.steps.l.length≤12∧r.gU.l.length≤12))∧(l14.length≤64∧(l14.length:Int)=(ol9.length:Int))∧Sep H15 (.sl true true v13 9 (List.map eF.cells l14)::[])∧proj [2,4,6,27,28] e=[(2,.la 2 0),(4,.ip (eE.cells r2) 0 false),(6,v13),(27,iv (ol9.length:Int)),(28,iv (k12:Int))]∧{ h with dO:=eV [2,4,6,27,28] h.dO } = { H15 with dO:=[(2,[.sl [] .nil,.sl [] .nil,.sl [] .nil,.sl [] .nil,iv 0,iv 0,iv 0,iv 0,.bool false,.sl [] .nil])] }) ?_ (k0:=0) cB ⟨(ov8),(ol9),H5,(by exact hR),cB,hS6,(Eq.trans (b:=[(2,.la 2 0),(4,.ip (eE.cells r2) 0 false),(6,eB 6 ov8),(27,iv (ol9.length:Int)),(28,iv 0)]) rfl dK),rfl⟩
 rintro k12 e h hkk12 ⟨v13,l14,H15,hR,hI,hS16,he,hh⟩
 refine ff he hh ?_
 clear he hh
 refine aa ?_
 refine fg ((k12:Int)) ((ol9.length:Int)) (fun h17=>?_) (fun h17=>?_)
 refine ao ?_
 refine wa [(2,.la 2 0),(4,.ip (eE.cells r2) 0 false),(6,v13),(27,iv (ol9.length:Int)),(28,iv (k12:Int))] H15 [(2,[.sl [] .nil,.sl [] .nil,.sl [] .nil,.sl [] .nil,iv 0,iv 0,iv 0,iv 0,.bool false,.sl [] .nil])] ?_ (Eq.trans (b:=[(2,.la 2 0),(4,.ip (eE.cells r2) 0 false),(6,eB 6 v13),(27,iv (ol9.length:Int)),(28,iv (k12:Int))]) rfl dC)
 refine bS ?_
 refine qg ?_
 iterate 5 refine oV ?_
 have hx18:k12<l14.length:=by first | omega | (simp<;>omega) | (simp_all; omega)
 obtain ⟨x19,hqx19⟩:∃ x,l14[k12]=x:=⟨_,rfl⟩
 have hinx19:x19∈l14:=by rw [← hqx19]; exact List.getElem_mem _
 have hsx19:=hR x19 hinx19
 refine nu rfl (je (H:=H15) (i:=0) (m:=k12) (cs:=eF.cells x19) hS16 rfl rfl rfl rfl rfl rfl rfl (g9 hx18 hqx19)) ?_
 rintro a20 ⟨ha21,hea22⟩
 refine eg rfl (fun _=>kB (H:=H15) (i:=0) (m:=k12) (o:=0) (r:=.agg (eF.cells x19)) (cs:=eF.cells x19) hS16 rfl (g9 hx18 hqx19) hea22 rfl rfl ha21) ?_
 refine oC (t53 r2 x19 cq cq cq cq) ?_
 rintro _ ⟨r24,hc23,rfl⟩
 have hC53:=hc23
 have hx25:k12<l14.length:=by first | omega | (simp<;>omega) | (simp_all; omega)
 refine nu rfl (je (H:=H15) (i:=0) (m:=k12) (cs:=eF.cells x19) hS16 rfl rfl rfl rfl rfl rfl rfl (g9 hx25 hqx19)) ?_
 rintro a26 ⟨ha27,hea28⟩
 refine e7 (H:=H15) rfl (pD (H:=H15) (i:=0) (m:=k12) (o:=0) x19 r24 hS16 rfl hx25 hqx19 hea28 rfl ha27 rfl rfl rfl rfl) ?_
 rintro _ H29 ⟨rfl,hS30⟩
 refine oN ?_
 refine wa [(2,.la 2 0),(4,.ip (eE.cells r2) 0 false),(6,v13),(27,iv (ol9.length:Int)),(28,iv (k12:Int))] H29 [(2,[.sl [] .nil,.sl [] .nil,.sl [] .nil,.sl [] .nil,iv 0,iv 0,iv 0,iv 0,.bool false,.sl [] .nil])] ?_ (Eq.trans (b:=[(2,.la 2 0),(4,.ip (eE.cells r2) 0 false),(6,eB 6 v13),(27,iv (ol9.length:Int)),(28,iv (k12:Int))]) rfl dB)
 refine qg ?_
 refine fu ((k12:Int)) (1) ?_
 refine ab ?_
 exact ⟨by omega,(v13),((l14.set k12 r24)),H29,(by exact yw hR (by rw [hC53.1,hC53.2]; assumption)),d6,hS30,(Eq.trans (b:=[(2,.la 2 0),(4,.ip (eE.cells r2) 0 false),(6,eB 6 v13),(27,iv (ol9.length:Int)),(28,iv ((k12:Int)+1))]) rfl dB),rfl⟩
 refine am ?_
 refine wa [(2,.la 2 0),(2,.la 2 0),(4,.ip (eE.cells r2) 0 false),(6,v13)] H15 [(2,[.sl [] .nil,.sl [] .nil,.sl [] .nil,.sl [] .nil,iv 0,iv 0,iv 0,iv 0,.bool false,.sl [] .nil]),(2,[.sl [] .nil,.sl [] .nil,.sl [] .nil,.sl [] .nil,iv 0,iv 0,iv 0,iv 0,.bool false,.sl [] .nil])] ?_ (Eq.trans (b:=[(2,.la 2 0),(2,.la 2 0),(4,.ip (eE.cells r2) 0 false),(6,eB 6 v13)]) rfl dC)
 refine aj ?_
 refine oC (t54 r2 cq) ?_
 rintro _ ⟨r32,hc31,rfl⟩
 refine oV ?_
 rcases Sep.NW (i:=0) hS16 rfl with ⟨rfl,hx35⟩ | ⟨rfl,hx35⟩ | ⟨b33,g34,rfl⟩
 refine bz ?_
 exact xF (.eP [.agg [Row.av e8.cells r32.elems,Row.av fo.cells r32.eT,Row.av fe.cells r32.signals,Row.av eZ.cells r32.lines,iv r32.top,iv r32.gd,iv r32.fQ,iv r32.ga,.bool r32.gT,(.sl [] .nil)],iv 0]) ⟨(⟨r32,(⟨[],.nil,Nat.zero_le _,rfl,fun _=>rfl⟩:Row eF)⟩:gp),(0),cX,rfl⟩
 refine bz ?_
 obtain ⟨r36,hl37,hf38⟩:=gQ (H:=H15) (i:=0) (l:=l14) (enc:=eF.cells) hS16 rfl cz
 have hlq:=hl37; have hln40:=congrArg List.length hl37
 have hz39:∀ m,freeze false { H15 with dO:=[(2,[Row.av e8.cells r32.elems,Row.av fo.cells r32.eT,Row.av fe.cells r32.signals,Row.av eZ.cells r32.lines,iv r32.top,iv r32.gd,iv r32.fQ,iv r32.ga,.bool r32.gT,(.sl [] (.exact 0))])] } (m+2) (.sl [] (.exact 0))=some (Row.av eF.cells r36):=fun m=>hf38 _ _ (fun _=>by simp only [eF.cells,fx,kE,kP,lT,kD,lK])
 exact ⟨.eP [.agg [Row.av e8.cells r32.elems,Row.av fo.cells r32.eT,Row.av fe.cells r32.signals,Row.av eZ.cells r32.lines,iv r32.top,iv r32.gd,iv r32.fQ,iv r32.ga,.bool r32.gT,(.sl [] (.exact 0))],iv 0],rfl,.eP [.agg [Row.av e8.cells r32.elems,Row.av fo.cells r32.eT,Row.av fe.cells r32.signals,Row.av eZ.cells r32.lines,iv r32.top,iv r32.gd,iv r32.fQ,iv r32.ga,.bool r32.gT,Row.av eF.cells r36],iv 0],(show freeze false { H15 with dO:=[(2,[Row.av e8.cells r32.elems,Row.av fo.cells r32.eT,Row.av fe.cells r32.signals,Row.av eZ.cells r32.lines,iv r32.top,iv r32.gd,iv r32.fQ,iv r32.ga,.bool r32.gT,(.sl [] (.exact 0))])] } 8 (.eP [.agg [Row.av e8.cells r32.elems,Row.av fo.cells r32.eT,Row.av fe.cells r32.signals,Row.av eZ.cells r32.lines,iv r32.top,iv r32.gd,iv r32.fQ,iv r32.ga,.bool r32.gT,(.sl [] (.exact 0))],iv 0])=some (.eP [.agg [Row.av e8.cells r32.elems,Row.av fo.cells r32.eT,Row.av fe.cells r32.signals,Row.av eZ.cells r32.lines,iv r32.top,iv r32.gd,iv r32.fQ,iv r32.ga,.bool r32.gT,Row.av eF.cells r36],iv 0]) by simp only [FZ,hz39]),(⟨r32,r36⟩:gp),(0),cX,rfl⟩
 refine bz ?_
 obtain ⟨r41,hl42,hf43⟩:=gQ (H:=H15) (i:=0) (l:=l14) (enc:=eF.cells) hS16 rfl cz
 have hlq:=hl42; have hln45:=congrArg List.length hl42
 have hz44:∀ m,freeze false { H15 with dO:=[(2,[Row.av e8.cells r32.elems,Row.av fo.cells r32.eT,Row.av fe.cells r32.signals,Row.av eZ.cells r32.lines,iv r32.top,iv r32.gd,iv r32.fQ,iv r32.ga,.bool r32.gT,(.hs b33 g34 0 (List.map eF.cells l14).length)])] } (m+2) (.hs b33 g34 0 (List.map eF.cells l14).length)=some (Row.av eF.cells r41):=fun m=>hf43 _ _ (fun _=>by simp only [eF.cells,fx,kE,kP,lT,kD,lK])
 exact ⟨.eP [.agg [Row.av e8.cells r32.elems,Row.av fo.cells r32.eT,Row.av fe.cells r32.signals,Row.av eZ.cells r32.lines,iv r32.top,iv r32.gd,iv r32.fQ,iv r32.ga,.bool r32.gT,(.hs b33 g34 0 (List.map eF.cells l14).length)],iv 0],rfl,.eP [.agg [Row.av e8.cells r32.elems,Row.av fo.cells r32.eT,Row.av fe.cells r32.signals,Row.av eZ.cells r32.lines,iv r32.top,iv r32.gd,iv r32.fQ,iv r32.ga,.bool r32.gT,Row.av eF.cells r41],iv 0],(show freeze false { H15 with dO:=[(2,[Row.av e8.cells r32.elems,Row.av fo.cells r32.eT,Row.av fe.cells r32.signals,Row.av eZ.cells r32.lines,iv r32.top,iv r32.gd,iv r32.fQ,iv r32.ga,.bool r32.gT,(.hs b33 g34 0 (List.map eF.cells l14).length)])] } 8 (.eP [.agg [Row.av e8.cells r32.elems,Row.av fo.cells r32.eT,Row.av fe.cells r32.signals,Row.av eZ.cells r32.lines,iv r32.top,iv r32.gd,iv r32.fQ,iv r32.ga,.bool r32.gT,(.hs b33 g34 0 (List.map eF.cells l14).length)],iv 0])=some (.eP [.agg [Row.av e8.cells r32.elems,Row.av fo.cells r32.eT,Row.av fe.cells r32.signals,Row.av eZ.cells r32.lines,iv r32.top,iv r32.gd,iv r32.fQ,iv r32.ga,.bool r32.gT,Row.av eF.cells r41],iv 0]) by simp only [FZ,hz44]),(⟨r32,r41⟩:gp),(0),cX,rfl⟩
 refine bl ?_
 refine ak ?_
 refine gK (r3) (0) (fun h46=>?_) (fun h46=>?_)
 refine ay ?_
 refine bM ?_
 exact xF (.eP [.agg [.sl [] .nil,.sl [] .nil,.sl [] .nil,.sl [] .nil,iv 0,iv 0,iv 0,iv 0,.bool false,.sl [] .nil],iv r3]) ⟨(⟨(⟨(⟨[],.nil,Nat.zero_le _,rfl,fun _=>rfl⟩:Row e8),(⟨[],.nil,Nat.zero_le _,rfl,fun _=>rfl⟩:Row fo),(⟨[],.nil,Nat.zero_le _,rfl,fun _=>rfl⟩:Row fe),(⟨[],.nil,Nat.zero_le _,rfl,fun _=>rfl⟩:Row eZ),(0),(0),(0),(0),false⟩:eb),(⟨[],.nil,Nat.zero_le _,rfl,fun _=>rfl⟩:Row eF)⟩:gp),(r3),cX,rfl⟩
 refine az ?_
 refine w0 [(2,.la 2 0),(2,.la 2 0),(4,.fS)] [(2,[.sl [] .nil,.sl [] .nil,.sl [] .nil,.sl [] .nil,iv 0,iv 0,iv 0,iv 0,.bool false,.sl [] .nil]),(2,[.sl [] .nil,.sl [] .nil,.sl [] .nil,.sl [] .nil,iv 0,iv 0,iv 0,iv 0,.bool false,.sl [] .nil])] ?_
 refine aj ?_
 exfalso; omega
theorem SW:eG.get 9=some Lu:=by kernel_rfl
theorem LZ:ei 9=none:=by kernel_rfl
def P9 (_a0:eb) (v:AV):Prop:=∃ r0:gp,∃ r1:Bool,((r1=true→(∀ r∈(r0.roads.l:List eF),0<r.steps.l.length∧r.steps.l.length≤12∧r.gU.l.length≤12)∧r0.roads.l.length≤64))∧v=.eP [.agg (gp.cells r0),.bool r1]
theorem t9 (a0:eb)  (h:bY):∃ v,eH cfg eG.get ei false 9 [.agg (eb.cells a0)] h v h∧P9 a0 v:=by
 refine eW LZ SW rfl rfl ?_
 refine bm ?_
 refine ak ?_
 refine oC (t24 a0) ?_
 rintro _ ⟨r2,hc1,rfl⟩
 cases r2
 clear hc1
 refine bR ?_
 exact xF (.eP [.agg [.sl [] .nil,.sl [] .nil,.sl [] .nil,.sl [] .nil,iv 0,iv 0,iv 0,iv 0,.bool false,.sl [] .nil],.bool false]) ⟨(⟨(⟨(⟨[],.nil,Nat.zero_le _,rfl,fun _=>rfl⟩:Row e8),(⟨[],.nil,Nat.zero_le _,rfl,fun _=>rfl⟩:Row fo),(⟨[],.nil,Nat.zero_le _,rfl,fun _=>rfl⟩:Row fe),(⟨[],.nil,Nat.zero_le _,rfl,fun _=>rfl⟩:Row eZ),(0),(0),(0),(0),false⟩:eb),(⟨[],.nil,Nat.zero_le _,rfl,fun _=>rfl⟩:Row eF)⟩:gp),false,dP,rfl⟩
 have hc1t:=hc1 rfl
 refine aw ?_
 refine w0 [(1,.la 1 0),(2,.la 2 0),(2,.la 2 0)] [(1,(eb.cells a0)),(2,[.sl [] .nil,.sl [] .nil,.sl [] .nil,.sl [] .nil,iv 0,iv 0,iv 0,iv 0,.bool false,.sl [] .nil]),(2,[.sl [] .nil,.sl [] .nil,.sl [] .nil,.sl [] .nil,iv 0,iv 0,iv 0,iv 0,.bool false,.sl [] .nil])] ?_
 refine aj ?_
 refine oC (t25 a0 cq) ?_
 rintro _ ⟨r4,r5,hc3,rfl⟩
 refine au ?_
 refine ae ?_
 refine fj (r5) (0) (fun h6=>?_) (fun h6=>?_)
 refine aV ?_
 exact xF (.eP [.agg (gp.cells r4),.bool true]) ⟨r4,true,dP,rfl⟩
 refine aV ?_
 exact xF (.eP [.agg (gp.cells r4),.bool false]) ⟨r4,false,dP,rfl⟩
theorem Se:eG.get 34=some BR:=by kernel_rfl
theorem K2:ei 34=none:=by kernel_rfl
def V1 (_a0:eS) (v:AV):Prop:=∃ r0:Bool,(True)∧v=.bool r0
theorem t34 (a0:eS)  (h:bY):∃ v,eH cfg eG.get ei false 34 [.agg (eS.cells a0)] h v h∧V1 a0 v:=by
 refine eW K2 Se rfl rfl ?_
 refine aj ?_
 refine bX ?_
 have hL1:=a0.fy.lk
 refine fA a0.fy ?_
 refine fW ((a0.fy.l.length:Int)) (10) (fun h2=>?_) (fun h2=>?_)
 refine bk ?_
 refine ai ?_
 exact xA (.bool false) ⟨false,trivial,rfl⟩
 iterate 3 refine oV ?_
 have hL3:=a0.runs.lk
 refine fA a0.runs ?_
 refine fW ((a0.runs.l.length:Int)) (12) (fun h4=>?_) (fun h4=>?_)
 refine ai ?_
 exact xA (.bool false) ⟨false,trivial,rfl⟩
 refine aw ?_
 refine w0 [(1,.la 1 0)] [(1,(eS.cells a0))] ?_
 refine aI ?_
 have hL5:=a0.runs.lk
 refine fA a0.runs ?_
 refine aP ?_
 have hNk6:=a0.runs.lk
 refine eN (a0.runs.l.length) (fun k6 e h=>proj [1,18,19,20] e=[(1,.la 1 0),(18,Row.av gj.cells a0.runs),(19,iv (a0.runs.l.length:Int)),(20,iv (k6:Int))]∧{ h with dO:=eV [1,18,19,20] h.dO } = { bY.empty with dO:=[(1,(eS.cells a0))] }) ?_ (k0:=0) cB ⟨rfl,rfl⟩
 rintro k6 e h hkk6 ⟨he,hh⟩
 refine ff he hh ?_
 clear he hh
 refine aa ?_
 refine fg ((k6:Int)) ((a0.runs.l.length:Int)) (fun h7=>?_) (fun h7=>?_)
 refine ao ?_
 refine w0 [(1,.la 1 0),(18,Row.av gj.cells a0.runs),(19,iv (a0.runs.l.length:Int)),(20,iv (k6:Int))] [(1,(eS.cells a0))] ?_
 refine bg ?_
 have hx8:k6<a0.runs.l.length:=by omega
 refine gL k6 a0.runs hx8 ?_
 generalize hqx9:a0.runs.l[k6]=x9
 refine cg ?_
 have hL10:=x9.fK.lk
 refine fA x9.fK ?_
 refine fW ((x9.fK.l.length:Int)) (20) (fun h11=>?_) (fun h11=>?_)
 refine bk ?_
 refine ai ?_
 exact xA (.bool false) ⟨false,trivial,rfl⟩
 iterate 4 refine oV ?_
 refine fW ((x9.name.l.length:Int)) (100) (fun h12=>?_) (fun h12=>?_)
 refine ai ?_
 exact xA (.bool false) ⟨false,trivial,rfl⟩
 refine aw ?_
 refine w0 [(1,.la 1 0),(18,Row.av gj.cells a0.runs),(19,iv (a0.runs.l.length:Int)),(20,iv (k6:Int))] [(1,(eS.cells a0))] ?_
 refine qg ?_
 refine fu ((k6:Int)) (1) ?_
 refine ab ?_
 exact ⟨by omega,rfl,rfl⟩
 refine am ?_
 refine w0 [(1,.la 1 0)] [(1,(eS.cells a0))] ?_
 refine aI ?_
 have hL13:=a0.fy.lk
 refine fA a0.fy ?_
 refine aP ?_
 have hNk14:=a0.fy.lk
 refine eN (a0.fy.l.length) (fun k14 e h=>proj [36,37,38] e=[(36,Row.av fM.cells a0.fy),(37,iv (a0.fy.l.length:Int)),(38,iv (k14:Int))]∧{ h with dO:=eV [36,37,38] h.dO } = { bY.empty with dO:=[] }) ?_ (k0:=0) cB ⟨rfl,rfl⟩
 rintro k14 e h hkk14 ⟨he,hh⟩
 refine ff he hh ?_
 clear he hh
 refine aa ?_
 refine fg ((k14:Int)) ((a0.fy.l.length:Int)) (fun h15=>?_) (fun h15=>?_)
 refine ao ?_
 refine w0 [(36,Row.av fM.cells a0.fy),(37,iv (a0.fy.l.length:Int)),(38,iv (k14:Int))] [] ?_
 refine bg ?_
 have hx16:k14<a0.fy.l.length:=by omega
 refine gL k14 a0.fy hx16 ?_
 generalize hqx17:a0.fy.l[k14]=x17
 refine aW ?_
 refine aF ?_
 refine fW ((x17.name.l.length:Int)) (100) (fun h18=>?_) (fun h18=>?_)
 refine be ?_
 exact xA (.bool false) ⟨false,trivial,rfl⟩
 refine az ?_
 refine w0 [(36,Row.av fM.cells a0.fy),(37,iv (a0.fy.l.length:Int)),(38,iv (k14:Int))] [] ?_
 refine qg ?_
 refine fu ((k14:Int)) (1) ?_
 refine ab ?_
 exact ⟨by omega,rfl,rfl⟩
 refine am ?_
 refine w0 [] [] ?_
 refine a6 ?_
 exact xA (.bool true) ⟨true,trivial,rfl⟩
theorem Lg:eG.get 257=some zf:=by kernel_rfl
theorem Ij:ei 257=none:=by kernel_rfl
def SR (_a0:Int) (_a1:Int) (_a2:Int) (v:AV):Prop:=∃ r0:Bool,(True)∧v=.bool r0
theorem t257 (a0:Int) (a1:Int) (a2:Int)  (h:bY):∃ v,eH cfg eG.get ei false 257 [iv a0,iv a1,iv a2] h v h∧SR a0 a1 a2 v:=by
 refine eW Ij Lg rfl rfl ?_
 refine aQ ?_
 refine ae ?_
 refine gV (a0) (a1) (fun h1=>?_) (fun h1=>?_)
 iterate 3 refine oV ?_
 refine o3 (a0) (a2) (fun h2=>?_) (fun h2=>?_)
 refine aV ?_
 exact xA (.bool true) ⟨true,trivial,rfl⟩
 refine aV ?_
 exact xA (.bool false) ⟨false,trivial,rfl⟩
 refine bB ?_
 refine aV ?_
 exact xA (.bool false) ⟨false,trivial,rfl⟩
theorem JU:eG.get 202=some y6:=by kernel_rfl
theorem HV:ei 202=none:=by kernel_rfl
def T6 (_a0:fM) (v:AV):Prop:=∃ r0:Bool,(True)∧v=.bool r0
theorem t202 (a0:fM)  (h:bY):∃ v,eH cfg eG.get ei false 202 [.agg (fM.cells a0)] h v h∧T6 a0 v:=by
 refine eW HV JU rfl rfl ?_
 refine aU ?_
 refine ae ?_
 refine oC (t74 a0.name) ?_
 rintro _ ⟨r2,hc1,rfl⟩
 cases r2
 refine bB ?_
 refine aq ?_
 refine ci ?_
 exact xA (.bool false) ⟨false,trivial,rfl⟩
 iterate 3 refine oV ?_
 refine oC (t257 (a0.len) (1) (4000)) ?_
 rintro _ ⟨r4,hc3,rfl⟩
 cases r4
 refine aq ?_
 refine ci ?_
 exact xA (.bool false) ⟨false,trivial,rfl⟩
 iterate 4 refine oV ?_
 refine oC (t257 (a0.top) (1) (60)) ?_
 rintro _ ⟨r6,hc5,rfl⟩
 cases r6
 refine ap ?_
 refine ci ?_
 exact xA (.bool false) ⟨false,trivial,rfl⟩
 iterate 4 refine oV ?_
 refine oC (t257 (a0.acc) (1) (10)) ?_
 rintro _ ⟨r8,hc7,rfl⟩
 cases r8
 refine bI ?_
 refine aV ?_
 exact xA (.bool false) ⟨false,trivial,rfl⟩
 iterate 4 refine oV ?_
 refine oC (t257 (a0.gd) (1) (10)) ?_
 rintro _ ⟨r10,hc9,rfl⟩
 cases r10
 refine aV ?_
 exact xA (.bool false) ⟨false,trivial,rfl⟩
 refine aV ?_
 exact xA (.bool true) ⟨true,trivial,rfl⟩
theorem J4:eG.get 203=some zA:=by kernel_rfl
theorem H0:ei 203=none:=by kernel_rfl
def Uc (_a0:Row fM) (_a1:jd) (v:AV):Prop:=∃ r0:Int,(True)∧v=iv r0
theorem t203 (a0:Row fM) (a1:jd)  (h:bY):∃ v,eH cfg eG.get ei false 203 [Row.av fM.cells a0,.str (a1.l)] h v h∧Uc a0 a1 v:=by
 refine eW H0 J4 rfl rfl ?_
 refine aO ?_
 have hL1:=a0.lk
 refine fA a0 ?_
 refine aP ?_
 have hNk2:=a0.lk
 refine eN (a0.l.length) (fun k2 e h=>proj [1,7,8,9] e=[(1,.str (a1.l)),(7,Row.av fM.cells a0),(8,iv (a0.l.length:Int)),(9,iv (k2:Int))]∧{ h with dO:=eV [1,7,8,9] h.dO } = { bY.empty with dO:=[] }) ?_ (k0:=0) cB ⟨rfl,rfl⟩
 rintro k2 e h hkk2 ⟨he,hh⟩
 refine ff he hh ?_
 clear he hh
 refine aa ?_
 refine fg ((k2:Int)) ((a0.l.length:Int)) (fun h3=>?_) (fun h3=>?_)
 refine ao ?_
 refine w0 [(1,.str (a1.l)),(7,Row.av fM.cells a0),(8,iv (a0.l.length:Int)),(9,iv (k2:Int))] [] ?_
 refine bE ?_
 have hx4:k2<a0.l.length:=by omega
 refine gL k2 a0 hx4 ?_
 generalize hqx5:a0.l[k2]=x5
 refine bF ?_
 refine aF ?_
 refine jA rfl (fun _=>rI rfl rfl) (fun h6=>?_) (fun h6=>?_)
 refine bW ?_
 exact xA (iv (k2:Int)) ⟨((k2:Int)),trivial,rfl⟩
 refine az ?_
 refine w0 [(1,.str (a1.l)),(7,Row.av fM.cells a0),(8,iv (a0.l.length:Int)),(9,iv (k2:Int))] [] ?_
 refine qg ?_
 refine fu ((k2:Int)) (1) ?_
 refine ab ?_
 exact ⟨by omega,rfl,rfl⟩
 refine am ?_
 refine w0 [] [] ?_
 refine a6 ?_
 exact xA (iv (-1)) ⟨(-1),trivial,rfl⟩
end Go.Sx
