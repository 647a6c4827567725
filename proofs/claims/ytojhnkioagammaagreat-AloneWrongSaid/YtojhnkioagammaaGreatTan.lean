/- Proves what some functions of the program answer, by walking through them. -/
import Derived.KernelRfl
import Derived.Test.YtojhnkioagammaaGreatTai
import Derived.Test.YtojhnkioagammaaGreatTak
import Derived.Test.YtojhnkioagammaaGreatTal
import Derived.Test.YtojhnkioagammaaGreatTam
set_option linter.all false
set_option maxRecDepth 100000
set_option maxHeartbeats 0
namespace Go.Sx
open Go Go.Proofs
theorem Uo:FT 31=some GI:=by kernel_rfl
theorem QY:aT 31=none:=by kernel_rfl
def P31 (_a0:fk) (_a1:fP) (v:AV):Prop:=∃ r0:fP,(r0.steps.l = _a1.steps.l∧r0.jJ.l = _a1.jJ.l)∧v=.agg (fP.cells r0)
theorem t31 (a0:fk) (a1:fP) (q1:jb a0.p) (q2:a0.next.length≤240) (q3:a1.steps.l.length≤12) (q4:a1.jJ.l.length≤1000) (h:ah):∃ v,fj cfg FT aT false 31 [.ip (fk.cells a0) 0 false,.agg (fP.cells a1)] h v h∧P31 a0 a1 v:=by
 refine fS QY Uo rfl rfl ?_
 have q5:(univ a0).length≤241:=by simp only [univ,List.length_cons,List.length_map]; omega
 refine aa ?_
 refine gd (H:=ah.empty) rfl (iz gI rfl rfl rfl rfl rfl) ?_
 rintro _ H2 ⟨b1,rfl,hS3⟩
 refine gd (H:=H2) rfl (iz hS3 rfl rfl rfl rfl rfl) ?_
 rintro _ H5 ⟨b4,rfl,hS6⟩
 refine ab ?_
 refine pD ?_
 refine aK ?_
 refine kj 0 hS6 ?_
 refine lR 0 hS6 (Row.av fy.cells a1.steps) ?_
 refine rC (t75 (Row.j6 a1.steps) cG) ?_
 rintro _ ⟨r8,hc7,rfl⟩
 have hC93:=congrArg List.length hc7; try simp only [Row.j6] at hC93
 refine kj 0 hS6 ?_
 refine lR 0 hS6 (Row.av gi.cells a1.jJ) ?_
 refine rC (t76 (Row.j6 a1.jJ) cG) ?_
 rintro _ ⟨r10,hc9,rfl⟩
 have hC94:=congrArg List.length hc9; try simp only [Row.j6] at hC94
 refine kj 0 hS6 ?_
 refine YJ 0 hS6 (Row.av fy.cells r8) fun H11 hS12=>?_
 refine kj 0 hS12 ?_
 refine YJ 0 hS12 (Row.av gi.cells r10) fun H13 hS14=>?_
 refine rN ?_
 refine aa ?_
 refine iN 0 hS14 ?_
 refine yq 0 hS14 (.sl [] .nil) fun H15 hS16=>?_
 refine iN 0 hS16 ?_
 refine yq 0 hS16 (.sl [] .nil) fun H17 hS18=>?_
 refine iN 0 hS18 ?_
 refine yq 0 hS18 (.sl [] .nil) fun H19 hS20=>?_
 refine iN 0 hS20 ?_
 refine yq 0 hS20 (.bool false) fun H21 hS22=>?_
 refine oN ?_
 refine aa ?_
 refine ix 1 hS22 (.ip (fk.cells a0) 0 false) ?_
 refine oC (t32 a0 cG) ?_
 rintro _ ⟨r24,hc23,rfl⟩
 have hPl:=hc23.2.2.2.2.2
 refine aw ?_
 refine aa ?_
 refine gd (H:=H21) rfl (iH hS22) ?_
 rintro _ H26 ⟨b25,rfl,hS27⟩
 refine ab ?_
 refine aa ?_
 refine gd (H:=H26) rfl (uM hS27 rfl rfl) ?_
 rintro _ H29 ⟨b28,rfl,hS30⟩
 refine oN ?_
 refine aa ?_
 refine ix 3 hS30 (.ip (fk.cells a0) 0 false) ?_
 refine ix 2 hS30 (.agg [iv a1.from_,iv a1.to,iv a1.end_,Row.av fy.cells r8,Row.av gi.cells r10,.sl [] .nil,.sl [] .nil,.sl [] .nil,.bool false]) ?_
 refine oC (t77 a0 (⟨(a1.from_),(a1.to),(a1.end_),r8,r10,(⟨[],.nil,Nat.zero_le _,rfl,fun _=>rfl⟩:Row gi),(⟨[],.nil,Nat.zero_le _,rfl,fun _=>rfl⟩:Row Int),(⟨[],.nil,Nat.zero_le _,rfl,fun _=>rfl⟩:Row Int),false⟩:fP) cG) ?_
 rintro _ ⟨r32,hc31,rfl⟩
 dsimp only at hc31
 refine ak ?_
 have hL33:=r32.lk
 refine gG r32 ?_
 have hL34:=r32.lk
 refine lY ((r32.l.length:Int)) (1) ?_
 refine aC ?_
 have hS35:=Sep.iF hS30 2
 refine lD (fun m41 e h=>∃ v36:AV,∃ l37:List bY,∃ n38:Int,∃ H39:ah,m41=(n38+1).toNat∧(-1≤n38)∧(n38<(r32.l.length:Int))∧((l37.length:Int)+n38+1≤r32.l.length)∧((∀ y∈(l37:List bY),y∈univ a0))∧Sep H39 (.sl true true v36 2 (List.map bY.cells l37)::.obj (.ptr b28 0 0 0) [v36]::.map (.hm b25) (gn pK bK [])::.obj (.ptr b4 0 0 0) [iv a1.from_,iv a1.to,iv a1.end_,Row.av fy.cells r8,Row.av gi.cells r10,.sl [] .nil,.sl [] .nil,.sl [] .nil,.bool false]::.obj (.ptr b1 0 0 0) [.ip (fk.cells a0) 0 false]::[])∧proj [2,3,4,5,6,7,8,9] e=[(2,(.ptr b1 0 0 0)),(3,(.ptr b4 0 0 0)),(4,.la 4 0),(5,.bool r24.gO),(6,(.hm b25)),(7,(.ptr b28 0 0 0)),(8,Row.av bY.cells r32),(9,iv n38)]∧{ h with aq:=fU [2,3,4,5,6,7,8,9] h.aq } = { H39 with aq:=[(4,[iv 0,iv 0,iv 0,.sl [] .nil,.sl [] .nil,.sl [] .nil,.sl [] .nil,.sl [] .nil,.bool false])] }) ?_ _ _ _ ⟨((.sl [] .nil)),(([]:List bY)),((r32.l.length:Int) - 1),H29,rfl,cM,cM,cM,ef,hS35,rfl,rfl⟩
 rintro m41 e h ⟨v36,l37,n38,H39,hmm41,hA1,hA2,hA3,hTu,hS40,he,hh⟩
 refine gm he hh ?_
 clear he hh
 refine bh ?_
 refine jg (n38) (0) (fun h42=>?_) (fun h42=>?_)
 refine aG ?_
 refine aK ?_
 refine lR 4 hS40 (.ip (fk.cells a0) 0 false) ?_
 iterate 2 refine rV ?_
 have hx43:(n38).toNat<r32.l.length:=by omega
 refine ga rfl rfl (fun _=>gN (n:=n38) (r:=r32) (enc:=bY.cells) rfl rfl rfl rfl rfl cO hx43 rfl) ?_
 generalize hqx44:r32.l[(n38).toNat]=x44
 refine rV ?_
 refine rC (t78 a0 x44) ?_
 rintro _ ⟨r46,r47,hc45,rfl⟩
 have hN:=hc45
 cases r47
 refine br ?_
 refine qg ?_
 refine ix 1 hS40 v36 ?_
 iterate 2 refine oV ?_
 refine wM 0 [r46] hS40 fun v48 H49 hS50=>?_
 refine gd (H:=H49) rfl (iG (H:=H49) (i:=1) (o:=0) (r:=v48) hS50 rfl rfl rfl rfl (jq rfl rfl (Sep.cell (i:=0) hS50 rfl)) (fD (Sep.cell (i:=0) hS50 rfl) gJ) rfl) ?_
 rintro _ H51 ⟨rfl,hS52⟩
 refine oN ?_
 refine aL ?_
 refine lY (n38) (1) ?_
 refine ab ?_
 refine ⟨_,?_,(v48),((l37++[r46])),(n38 - 1),H51,rfl,cM,cM,cM,(by exact qH hTu (wC cP)),hS52,rfl,rfl⟩
 omega
 refine br ?_
 refine qg ?_
 refine ix 1 hS40 v36 ?_
 iterate 2 refine oV ?_
 refine wM 0 [r46] hS40 fun v53 H54 hS55=>?_
 refine gd (H:=H54) rfl (iG (H:=H54) (i:=1) (o:=0) (r:=v53) hS55 rfl rfl rfl rfl (jq rfl rfl (Sep.cell (i:=0) hS55 rfl)) (fD (Sep.cell (i:=0) hS55 rfl) gJ) rfl) ?_
 rintro _ H56 ⟨rfl,hS57⟩
 refine oN ?_
 refine aL ?_
 refine lY (n38) (1) ?_
 refine ab ?_
 refine ⟨_,?_,(v53),((l37++[r46])),(n38 - 1),H56,rfl,cM,cM,cM,(by exact qH hTu (wC cP)),hS57,rfl,rfl⟩
 omega
 refine aF ?_
 refine aa ?_
 refine fq rfl (fun _=>pf rfl rfl (ph rfl rfl)) ?_
 refine ab ?_
 refine qq ?_
 refine ql ?_
 refine ba ?_
 have hS58:=Sep.iF hS40 2
 have hS59:=Sep.iF hS58 1
 have hS60:=Sep.iF hS59 1
 have hS61:=Sep.ni (i:=3) hS60 rfl
 refine lD (fun m77 e h=>∃ v62:AV,∃ l63:List Int,∃ v64:AV,∃ l65:List Int,∃ v66:AV,∃ l67:List gi,∃ v68:AV,∃ l69:List bY,∃ l70:List (bY×Bool),∃ n71:Int,∃ n72:Int,∃ n73:Int,∃ b74:Bool,∃ H75:ah,m77=3*((univ a0).length - l70.length)+l69.length∧(sI l70)∧(∀ k∈l70.map Prod.fst,k∈univ a0)∧(∀ y∈(l70:List (bY×Bool)),y.2=true)∧((∀ y∈(l69:List bY),y∈univ a0))∧(l69.length+3*((univ a0).length - l70.length)≤1000)∧(l67.length≤l70.length)∧(l63.length≤l70.length)∧(l65.length≤12)∧(l70.length≤(univ a0).length)∧Sep H75 (.sl true true v62 1 (List.map fu l63)::.sl true true v64 1 (List.map fu l65)::.sl true true v66 2 (List.map gi.cells l67)::.sl true false v68 2 (List.map bY.cells l69)::.obj (.ptr b28 0 0 0) [v68]::.map (.hm b25) (gn pK bK l70)::.obj (.ptr b4 0 0 0) [iv n71,iv n72,iv n73,Row.av fy.cells r8,Row.av gi.cells r10,v66,v64,v62,.bool b74]::.obj (.ptr b1 0 0 0) [.ip (fk.cells a0) 0 false]::[])∧proj [2,3,4,5,6,7,12] e=[(2,(.ptr b1 0 0 0)),(3,(.ptr b4 0 0 0)),(4,.la 4 0),(5,.bool r24.gO),(6,(.hm b25)),(7,(.ptr b28 0 0 0)),(12,.gL 79 [] [(.ptr b1 0 0 0),(.ptr b28 0 0 0)])]∧{ h with aq:=fU [2,3,4,5,6,7,12] h.aq } = { H75 with aq:=[(4,[iv 0,iv 0,iv 0,.sl [] .nil,.sl [] .nil,.sl [] .nil,.sl [] .nil,.sl [] .nil,.bool false])] }) ?_ _ _ _ ⟨((.sl [] .nil)),(([]:List Int)),((.sl [] .nil)),(([]:List Int)),((.sl [] .nil)),(([]:List gi)),(v36),(l37),([]),(a1.from_),(a1.to),(a1.end_),(false),H39,rfl,(by simp [sI]),ef,ef,dZ,cM,ef,ef,ef,ef,hS61,rfl,rfl⟩
 rintro m77 e h ⟨v62,l63,v64,l65,v66,l67,v68,l69,l70,n71,n72,n73,b74,H75,hmm77,hKd,hKu,hT,hTu,hB1,hB2,hB3,hB4,hB5,hS76,he,hh⟩
 refine gm he hh ?_
 clear he hh
 refine ck ?_
 refine ix 4 hS76 v68 ?_
 refine fq rfl (fun _=>jT (H:=H75) (i:=3) (l:=l69) (enc:=bY.cells) hS76 rfl rfl rfl rfl rfl rfl rfl) ?_
 refine g9 ((l69.length:Int)) (0) (fun h78=>?_) (fun h78=>?_)
 refine b8 ?_
 refine qb ?_
 refine aa ?_
 iterate 2 refine ix 4 hS76 v68 ?_
 refine fq rfl (fun _=>jT (H:=H75) (i:=3) (l:=l69) (enc:=bY.cells) hS76 rfl rfl rfl rfl rfl rfl rfl) ?_
 refine lY ((l69.length:Int)) (1) ?_
 have hk79:((((l69.length:Int) - 1).toNat:Nat):Int)=(l69.length:Int) - 1:=Int.toNat_of_nonneg cL
 have hx80:((l69.length:Int) - 1).toNat<l69.length:=by first | omega | (simp<;>omega) | (simp_all; omega)
 obtain ⟨x81,hqx81⟩:∃ x,l69[((l69.length:Int) - 1).toNat]=x:=⟨_,rfl⟩
 have hinx81:x81∈l69:=by rw [← hqx81]; exact List.getElem_mem _
 have hmx81:=hTu x81 hinx81
 refine kz rfl (ji (H:=H75) (i:=3) (m:=((l69.length:Int) - 1).toNat) (cs:=bY.cells x81) hS76 rfl rfl rfl rfl rfl rfl (congrArg (AV.int .i64) hk79.symm) (iq hx80 hqx81)) ?_
 rintro a82 ⟨ha83,hea84⟩
 refine fq rfl (fun _=>ko (H:=H75) (i:=3) (m:=((l69.length:Int) - 1).toNat) (o:=0) (r:=.agg (bY.cells x81)) (cs:=bY.cells x81) hS76 rfl (iq hx80 hqx81) hea84 rfl rfl ha83) ?_
 refine aw ?_
 refine aa ?_
 iterate 2 refine ix 4 hS76 v68 ?_
 refine fq rfl (fun _=>jT (H:=H75) (i:=3) (l:=l69) (enc:=bY.cells) hS76 rfl rfl rfl rfl rfl rfl rfl) ?_
 refine lY ((l69.length:Int)) (1) ?_
 have hk85:((((l69.length:Int) - 1).toNat:Nat):Int)=(l69.length:Int) - 1:=Int.toNat_of_nonneg cL
 have hx86:((l69.length:Int) - 1).toNat≤l69.length:=by first | omega | (simp<;>omega) | (simp_all; omega)
 have hTl:(l69.take (((l69.length:Int) - 1).toNat)).length+1=l69.length:=by rw [List.length_take]; omega
 have hTu:∀ y∈l69.take (((l69.length:Int) - 1).toNat),y∈univ a0:=fun y hy=>hTu y (List.mem_of_mem_take hy)
 refine gd (H:=H75) rfl (th (H:=H75) (i:=3) (k:=((l69.length:Int) - 1).toNat) hS76 rfl rfl rfl rfl rfl rfl (congrArg (AV.int .i64) hk85.symm) hx86) ?_
 rintro v87 H88 ⟨hc89,hS90⟩
 refine gd (H:=H88) rfl (iG (H:=H88) (i:=4) (o:=0) (r:=v87) hS90 rfl rfl rfl rfl (jq rfl rfl (Sep.cell (i:=3) hS90 rfl)) (fD (Sep.cell (i:=3) hS90 rfl) gJ) rfl) ?_
 rintro _ H91 ⟨rfl,hS92⟩
 refine oN ?_
 refine ck ?_
 refine ix 6 hS92 (.agg [iv n71,iv n72,iv n73,Row.av fy.cells r8,Row.av gi.cells r10,v66,v64,v62,.bool b74]) ?_
 iterate 2 refine oV ?_
 refine Exists.elim (jv (H:=H91) (i:=2) (l:=l67) (enc:=gi.cells) hS92 rfl db) (fun r93 hh=>And.elim (fun hl94 hf95=>?_) hh)
 have hln97:=congrArg List.length hl94
 have hz96:∀ m,freeze true { H91 with aq:=[] } (m+2) v66=some (fE.av gi.cells r93):=fun m=>hf95 [] _ (fun _=>rfl)
 refine Exists.elim (jv (H:=H91) (i:=1) (l:=l65) (enc:=fu) hS92 rfl db) (fun r98 hh=>And.elim (fun hl99 hf100=>?_) hh)
 have hln102:=congrArg List.length hl99
 have hz101:∀ m,freeze true { H91 with aq:=[] } (m+2) v64=some (fE.av fu r98):=fun m=>hf100 [] _ (fun _=>rfl)
 refine Exists.elim (jv (H:=H91) (i:=0) (l:=l63) (enc:=fu) hS92 rfl db) (fun r103 hh=>And.elim (fun hl104 hf105=>?_) hh)
 have hln107:=congrArg List.length hl104
 have hz106:∀ m,freeze true { H91 with aq:=[] } (m+2) v62=some (fE.av fu r103):=fun m=>hf105 [] _ (fun _=>rfl)
 refine kE (args:=[.agg [iv n71,iv n72,iv n73,Row.av fy.cells r8,Row.av gi.cells r10,v66,v64,v62,.bool b74],iv x81.elem]) (p:=[]) (r:=[]) (args':=[.agg [iv n71,iv n72,iv n73,Row.av fy.cells r8,Row.av gi.cells r10,fE.av gi.cells r93,fE.av fu r98,fE.av fu r103,.bool b74],iv x81.elem]) (R:=Yv (⟨(n71),(n72),(n73),(Row.j6 r8),(Row.j6 r10),r93,r98,r103,(b74)⟩:pv) (x81.elem)) rfl rfl rfl rfl rfl rfl rfl ED (iR (by show gr (freeze true { H91 with aq:=[] } 8) [.agg [iv n71,iv n72,iv n73,Row.av fy.cells r8,Row.av gi.cells r10,v66,v64,v62,.bool b74],iv x81.elem] = _; simp only [FZ,hz96,hz101,hz106]) (fD (X8 (fD rfl (fD rfl (fD rfl (fD rfl (fD rfl (fD (Sep.cell (i:=2) hS92 rfl) (fD (Sep.cell (i:=1) hS92 rfl) (fD (Sep.cell (i:=0) hS92 rfl) (fD rfl gJ)))))))))) (fD rfl gJ))) (iR dN (fD rfl (fD rfl gJ))) (fun h=>t80 (⟨(n71),(n72),(n73),(Row.j6 r8),(Row.j6 r10),r93,r98,r103,(b74)⟩:pv) (x81.elem)  h) ?_
 rintro _ ⟨r109,hc108,rfl⟩
 cases r109
 iterate 3 refine oV ?_
 refine jG (H:=H91) (i:=5) (ek:=pK) (ev:=bK) (l:=l70) x81 rfl rfl hS92 rfl rfl rfl rfl rfl rfl rfl rfl ja (fun y110 h111=>?_) (fun h112=>?_)
 cases y110
 exact absurd (hT _ (kU h111)) ef
 refine a7 ?_
 refine qe ?_
 refine ⟨_,?_,(v62),(l63),(v64),(l65),(v66),(l67),(v87),((l69.take (((l69.length:Int) - 1).toNat))),(l70),(n71),(n72),(n73),(b74),H91,rfl,d6,d5,d8,dZ,cT,cM,cM,cM,dy,hS92,rfl,rfl⟩
 first | omega | (simp only [List.length_append,List.length_cons,List.length_nil,List.length_take] at *; omega)
 refine oV ?_
 refine bE ?_
 have hPl:(put x81 true l70).length=l70.length+1:=by rw [B7 cP]; simp
 have hKd:sI (put x81 true l70):=HT hKd cP
 have hKu:∀ k∈(put x81 true l70).map Prod.fst,k∈univ a0:=FR hKu cP
 have hPle:(put x81 true l70).length≤(univ a0).length:=by rw [← List.length_map Prod.fst]; exact yo hKd hKu
 have hT:∀ y∈(put x81 true l70),y.2=true:=qu (P:=fun y:Bool=>y=true) hT rfl
 refine gd (H:=H91) rfl (jS (H:=H91) (i:=5) (ek:=pK) (ev:=bK) (l:=l70) x81 true hS92 rfl rfl rfl rfl rfl rfl ja) ?_
 rintro _ H113 ⟨rfl,hS114⟩
 refine oN ?_
 refine wE (fun E Z=>(E=[(2,(.ptr b1 0 0 0)),(3,(.ptr b4 0 0 0)),(4,.la 4 0),(5,.bool r24.gO),(6,(.hm b25)),(7,(.ptr b28 0 0 0)),(12,.gL 79 [] [(.ptr b1 0 0 0),(.ptr b28 0 0 0)]),(13,.la 13 0)]∧Z = { H113 with aq:=[(4,[iv 0,iv 0,iv 0,.sl [] .nil,.sl [] .nil,.sl [] .nil,.sl [] .nil,.sl [] .nil,.bool false]),(13,(bY.cells x81))] })) ?_ ?_
 rintro _ _ ⟨rfl,rfl⟩
 refine aa ?_
 refine ix 7 hS114 (.ip (fk.cells a0) 0 false) ?_
 iterate 2 refine oV ?_
 refine oC (t82 a0 (x81.elem)) ?_
 rintro _ ⟨r116,hc115,rfl⟩
 have hK:=hc115
 refine cD ?_
 refine gA (r116) (4) (fun h117=>?_) (fun h117=>?_)
 refine a7 ?_
 refine qg ?_
 refine iN 6 hS114 ?_
 refine yq 6 hS114 (.bool true) fun H118 hS119=>?_
 refine oN ?_
 refine ⟨_,?_,(v62),(l63),(v64),(l65),(v66),(l67),(v87),((l69.take (((l69.length:Int) - 1).toNat))),((put x81 true l70)),(n71),(n72),(n73),(true),H118,rfl,d6,d5,d8,dZ,cT,cM,cM,cM,dy,hS119,rfl,rfl⟩
 first | omega | (simp only [List.length_append,List.length_cons,List.length_nil,List.length_take] at *; omega)
 refine bf ?_
 refine gA (r116) (2) (fun h120=>?_) (fun h120=>?_)
 refine a7 ?_
 refine aW ?_
 refine gA (x81.en) (0) (fun h121=>?_) (fun h121=>?_)
 refine aA ?_
 refine aW ?_
 have hS122:=Sep.pick hS114 [6,2,1,0,3,4,5,7] 8 cK cK
 refine gC (H:=H113) (args:=[(.ptr b4 0 0 0),iv x81.elem]) (p:=[]) (r:=[]) rfl rfl rfl rfl rfl rfl rfl (K9 b4 n71 n72 n73 r8 r10 v66 l67 v64 l65 v62 l63 b74 (x81.elem) (.sl true false v87 2 (List.map bY.cells (l69.take (((l69.length:Int) - 1).toNat)))::.obj (.ptr b28 0 0 0) [v87]::.map (.hm b25) (gn pK bK (put x81 true l70))::.obj (.ptr b1 0 0 0) [.ip (fk.cells a0) 0 false]::[]) hS122 cG) ?_
 rintro _ H123 ⟨r129,vzo126,zoneo127,bareo128,hc125,hS124,rfl⟩
 cases r129
 refine az ?_
 refine qe ?_
 have hS130:=Sep.pick hS124 [3,2,1,4,5,6,0,7] 8 cK cK
 refine ⟨_,?_,(v62),(l63),(vzo126),(zoneo127),(v66),(l67),(v87),((l69.take (((l69.length:Int) - 1).toNat))),((put x81 true l70)),(n71),(n72),(n73),(bareo128),H123,rfl,d6,d5,d8,dZ,cT,cM,cM,cM,dy,hS130,rfl,rfl⟩
 first | omega | (simp only [List.length_append,List.length_cons,List.length_nil,List.length_take] at *; omega)
 refine aA ?_
 refine aB ?_
 have hS131:=Sep.pick hS124 [7,5,4,0,1,2,3,6] 8 cK cK
 refine gC (H:=H123) (args:=[iv x81.elem,iv 2]) (p:=[]) (r:=[(.ptr b1 0 0 0),(.ptr b28 0 0 0)]) rfl rfl rfl rfl rfl rfl rfl (FD (x81.elem) 2 b1 a0 b28 v87 (l69.take (((l69.length:Int) - 1).toNat)) (.obj (.ptr b4 0 0 0) [iv n71,iv n72,iv n73,Row.av fy.cells r8,Row.av gi.cells r10,v66,vzo126,v62,.bool bareo128]::.sl true true v66 2 (List.map gi.cells l67)::.sl true true vzo126 1 (List.map fu zoneo127)::.sl true true v62 1 (List.map fu l63)::.map (.hm b25) (gn pK bK (put x81 true l70))::[]) hS131 cG) ?_
 rintro _ H132 ⟨vto135,todoo136,hc134,hS133,rfl⟩
 have hTu:∀ y∈todoo136,y∈univ a0:=fun y hy=>(hc134.2 y hy).elim (hTu y) id
 refine oN ?_
 refine a8 ?_
 have hS137:=Sep.pick hS133 [0,1,2,3,4,5,6,7] 8 cK cK
 refine gC (H:=H132) (args:=[iv x81.elem,iv 1]) (p:=[]) (r:=[(.ptr b1 0 0 0),(.ptr b28 0 0 0)]) rfl rfl rfl rfl rfl rfl rfl (FD (x81.elem) 1 b1 a0 b28 vto135 todoo136 (.obj (.ptr b4 0 0 0) [iv n71,iv n72,iv n73,Row.av fy.cells r8,Row.av gi.cells r10,v66,vzo126,v62,.bool bareo128]::.sl true true v66 2 (List.map gi.cells l67)::.sl true true vzo126 1 (List.map fu zoneo127)::.sl true true v62 1 (List.map fu l63)::.map (.hm b25) (gn pK bK (put x81 true l70))::[]) hS137 cG) ?_
 rintro _ H138 ⟨vto141,todoo142,hc140,hS139,rfl⟩
 have hTu:∀ y∈todoo142,y∈univ a0:=fun y hy=>(hc140.2 y hy).elim (hTu y) id
 refine oN ?_
 refine qe ?_
 have hS143:=Sep.pick hS139 [6,5,4,2,1,7,3,0] 8 cK cK
 refine ⟨_,?_,(v62),(l63),(vzo126),(zoneo127),(v66),(l67),(vto141),(todoo142),((put x81 true l70)),(n71),(n72),(n73),(bareo128),H138,rfl,d6,d5,d8,dZ,cT,cM,cM,cM,dy,hS143,rfl,rfl⟩
 first | omega | (simp only [List.length_append,List.length_cons,List.length_nil,List.length_take] at *; omega)
 refine az ?_
 refine ai ?_
 refine cy ?_
 refine iN 6 hS114 ?_
 refine ix 6 hS114 (Row.av gi.cells r10) ?_
 refine oV ?_
 refine oC (t84 (Row.j6 r10) (⟨(x81.elem),(x81.en)⟩:gi)) ?_
 rintro _ ⟨r145,hc144,rfl⟩
 cases r145
 refine oV ?_
 refine iN 6 hS114 ?_
 refine ix 6 hS114 v66 ?_
 refine oV ?_
 refine Exists.elim (jv (H:=H113) (i:=2) (l:=l67) (enc:=gi.cells) hS114 rfl db) (fun r146 hh=>And.elim (fun hl147 hf148=>?_) hh)
 have hln150:=congrArg List.length hl147
 have hz149:∀ m,freeze true { H113 with aq:=[] } (m+2) v66=some (fE.av gi.cells r146):=fun m=>hf148 [] _ (fun _=>rfl)
 refine kE (args:=[v66,.agg (bY.cells x81)]) (p:=[]) (r:=[]) (args':=[fE.av gi.cells r146,.agg (bY.cells x81)]) (R:=Pq r146 (⟨(x81.elem),(x81.en)⟩:gi)) rfl rfl rfl rfl rfl (fD (Sep.arg (i:=2) hS114 rfl) (fD rfl gJ)) rfl Ao (iR (by show gr (freeze true { H113 with aq:=[] } 8) [v66,.agg (bY.cells x81)] = _; simp only [FZ,hz149]) (fD (Sep.pL (i:=2) hS114 rfl) (fD rfl gJ))) (iR dN (fD rfl (fD rfl gJ))) (fun h=>t84 r146 (⟨(x81.elem),(x81.en)⟩:gi)  h) ?_
 rintro _ ⟨r152,hc151,rfl⟩
 cases r152
 refine ay ?_
 refine be ?_
 refine fq rfl (fun _=>gY rfl rfl rfl (nb .i64 (3) (x81.en))) ?_
 refine aX ?_
 refine aa ?_
 refine iN 6 hS114 ?_
 refine ix 6 hS114 v66 ?_
 refine oV ?_
 refine Exists.elim (jv (H:=H113) (i:=2) (l:=l67) (enc:=gi.cells) hS114 rfl db) (fun r153 hh=>And.elim (fun hl154 hf155=>?_) hh)
 have hln157:=congrArg List.length hl154
 have hz156:∀ m,freeze true { H113 with aq:=[] } (m+2) v66=some (fE.av gi.cells r153):=fun m=>hf155 [] _ (fun _=>rfl)
 refine kE (args:=[v66,.agg [iv x81.elem,iv (IntKind.i64.wrap (3 - (x81.en)))]]) (p:=[]) (r:=[]) (args':=[fE.av gi.cells r153,.agg [iv x81.elem,iv (IntKind.i64.wrap (3 - (x81.en)))]]) (R:=Pq r153 (⟨(x81.elem),(IntKind.i64.wrap (3 - (x81.en)))⟩:gi)) rfl rfl rfl rfl rfl (fD (Sep.arg (i:=2) hS114 rfl) (fD rfl gJ)) rfl Ao (iR (by show gr (freeze true { H113 with aq:=[] } 8) [v66,.agg [iv x81.elem,iv (IntKind.i64.wrap (3 - (x81.en)))]] = _; simp only [FZ,hz156]) (fD (Sep.pL (i:=2) hS114 rfl) (fD rfl gJ))) (iR dN (fD rfl (fD rfl gJ))) (fun h=>t84 r153 (⟨(x81.elem),(IntKind.i64.wrap (3 - (x81.en)))⟩:gi)  h) ?_
 rintro _ ⟨r159,hc158,rfl⟩
 cases r159
 refine a7 ?_
 refine qg ?_
 refine iN 6 hS114 ?_
 refine ix 6 hS114 v66 ?_
 iterate 2 refine oV ?_
 refine wM 2 [(⟨(x81.elem),(IntKind.i64.wrap (3 - (x81.en)))⟩:gi)] hS114 fun v160 H161 hS162=>?_
 refine iN 6 hS162 ?_
 refine gd (H:=H161) rfl (iG (H:=H161) (i:=6) (o:=5) (r:=v160) hS162 rfl rfl rfl rfl (jq rfl rfl (Sep.cell (i:=2) hS162 rfl)) (fD (Sep.cell (i:=2) hS162 rfl) gJ) rfl) ?_
 rintro _ H163 ⟨rfl,hS164⟩
 refine oN ?_
 refine ⟨_,?_,(v62),(l63),(v64),(l65),(v160),((l67++[(⟨(x81.elem),(IntKind.i64.wrap (3 - (x81.en)))⟩:gi)])),(v87),((l69.take (((l69.length:Int) - 1).toNat))),((put x81 true l70)),(n71),(n72),(n73),(b74),H163,rfl,d6,d5,d8,dZ,cT,cM,cM,cM,dy,hS164,rfl,rfl⟩
 first | omega | (simp only [List.length_append,List.length_cons,List.length_nil,List.length_take] at *; omega)
 refine ay ?_
 refine ⟨_,?_,(v62),(l63),(v64),(l65),(v66),(l67),(v87),((l69.take (((l69.length:Int) - 1).toNat))),((put x81 true l70)),(n71),(n72),(n73),(b74),H113,rfl,d6,d5,d8,dZ,cT,cM,cM,cM,dy,hS114,rfl,rfl⟩
 first | omega | (simp only [List.length_append,List.length_cons,List.length_nil,List.length_take] at *; omega)
 refine a7 ?_
 refine aW ?_
 have hS165:=Sep.pick hS114 [6,2,1,0,3,4,5,7] 8 cK cK
 refine gC (H:=H113) (args:=[(.ptr b4 0 0 0),iv x81.elem]) (p:=[]) (r:=[]) rfl rfl rfl rfl rfl rfl rfl (K9 b4 n71 n72 n73 r8 r10 v66 l67 v64 l65 v62 l63 b74 (x81.elem) (.sl true false v87 2 (List.map bY.cells (l69.take (((l69.length:Int) - 1).toNat)))::.obj (.ptr b28 0 0 0) [v87]::.map (.hm b25) (gn pK bK (put x81 true l70))::.obj (.ptr b1 0 0 0) [.ip (fk.cells a0) 0 false]::[]) hS165 cG) ?_
 rintro _ H166 ⟨r172,vzo169,zoneo170,bareo171,hc168,hS167,rfl⟩
 cases r172
 refine az ?_
 refine qe ?_
 have hS173:=Sep.pick hS167 [3,2,1,4,5,6,0,7] 8 cK cK
 refine ⟨_,?_,(v62),(l63),(vzo169),(zoneo170),(v66),(l67),(v87),((l69.take (((l69.length:Int) - 1).toNat))),((put x81 true l70)),(n71),(n72),(n73),(bareo171),H166,rfl,d6,d5,d8,dZ,cT,cM,cM,cM,dy,hS173,rfl,rfl⟩
 first | omega | (simp only [List.length_append,List.length_cons,List.length_nil,List.length_take] at *; omega)
 refine aA ?_
 refine a8 ?_
 have hS174:=Sep.pick hS167 [7,5,4,0,1,2,3,6] 8 cK cK
 refine gC (H:=H166) (args:=[iv x81.elem,iv 0]) (p:=[]) (r:=[(.ptr b1 0 0 0),(.ptr b28 0 0 0)]) rfl rfl rfl rfl rfl rfl rfl (FD (x81.elem) 0 b1 a0 b28 v87 (l69.take (((l69.length:Int) - 1).toNat)) (.obj (.ptr b4 0 0 0) [iv n71,iv n72,iv n73,Row.av fy.cells r8,Row.av gi.cells r10,v66,vzo169,v62,.bool bareo171]::.sl true true v66 2 (List.map gi.cells l67)::.sl true true vzo169 1 (List.map fu zoneo170)::.sl true true v62 1 (List.map fu l63)::.map (.hm b25) (gn pK bK (put x81 true l70))::[]) hS174 cG) ?_
 rintro _ H175 ⟨vto178,todoo179,hc177,hS176,rfl⟩
 have hTu:∀ y∈todoo179,y∈univ a0:=fun y hy=>(hc177.2 y hy).elim (hTu y) id
 refine oN ?_
 refine qe ?_
 have hS180:=Sep.pick hS176 [6,5,4,2,1,7,3,0] 8 cK cK
 refine ⟨_,?_,(v62),(l63),(vzo169),(zoneo170),(v66),(l67),(vto178),(todoo179),((put x81 true l70)),(n71),(n72),(n73),(bareo171),H175,rfl,d6,d5,d8,dZ,cT,cM,cM,cM,dy,hS180,rfl,rfl⟩
 first | omega | (simp only [List.length_append,List.length_cons,List.length_nil,List.length_take] at *; omega)
 refine bm ?_
 refine a7 ?_
 refine aW ?_
 have hS181:=Sep.pick hS114 [6,2,1,0,3,4,5,7] 8 cK cK
 refine gC (H:=H113) (args:=[(.ptr b4 0 0 0),iv x81.elem]) (p:=[]) (r:=[]) rfl rfl rfl rfl rfl rfl rfl (K9 b4 n71 n72 n73 r8 r10 v66 l67 v64 l65 v62 l63 b74 (x81.elem) (.sl true false v87 2 (List.map bY.cells (l69.take (((l69.length:Int) - 1).toNat)))::.obj (.ptr b28 0 0 0) [v87]::.map (.hm b25) (gn pK bK (put x81 true l70))::.obj (.ptr b1 0 0 0) [.ip (fk.cells a0) 0 false]::[]) hS181 cG) ?_
 rintro _ H182 ⟨r188,vzo185,zoneo186,bareo187,hc184,hS183,rfl⟩
 cases r188
 refine az ?_
 refine qe ?_
 have hS189:=Sep.pick hS183 [3,2,1,4,5,6,0,7] 8 cK cK
 refine ⟨_,?_,(v62),(l63),(vzo185),(zoneo186),(v66),(l67),(v87),((l69.take (((l69.length:Int) - 1).toNat))),((put x81 true l70)),(n71),(n72),(n73),(bareo187),H182,rfl,d6,d5,d8,dZ,cT,cM,cM,cM,dy,hS189,rfl,rfl⟩
 first | omega | (simp only [List.length_append,List.length_cons,List.length_nil,List.length_take] at *; omega)
 refine aA ?_
 refine a8 ?_
 have hS190:=Sep.pick hS183 [7,5,4,0,1,2,3,6] 8 cK cK
 refine gC (H:=H182) (args:=[iv x81.elem,iv 0]) (p:=[]) (r:=[(.ptr b1 0 0 0),(.ptr b28 0 0 0)]) rfl rfl rfl rfl rfl rfl rfl (FD (x81.elem) 0 b1 a0 b28 v87 (l69.take (((l69.length:Int) - 1).toNat)) (.obj (.ptr b4 0 0 0) [iv n71,iv n72,iv n73,Row.av fy.cells r8,Row.av gi.cells r10,v66,vzo185,v62,.bool bareo187]::.sl true true v66 2 (List.map gi.cells l67)::.sl true true vzo185 1 (List.map fu zoneo186)::.sl true true v62 1 (List.map fu l63)::.map (.hm b25) (gn pK bK (put x81 true l70))::[]) hS190 cG) ?_
 rintro _ H191 ⟨vto194,todoo195,hc193,hS192,rfl⟩
 have hTu:∀ y∈todoo195,y∈univ a0:=fun y hy=>(hc193.2 y hy).elim (hTu y) id
 refine oN ?_
 refine qe ?_
 have hS196:=Sep.pick hS192 [6,5,4,2,1,7,3,0] 8 cK cK
 refine ⟨_,?_,(v62),(l63),(vzo185),(zoneo186),(v66),(l67),(vto194),(todoo195),((put x81 true l70)),(n71),(n72),(n73),(bareo187),H191,rfl,d6,d5,d8,dZ,cT,cM,cM,cM,dy,hS196,rfl,rfl⟩
 first | omega | (simp only [List.length_append,List.length_cons,List.length_nil,List.length_take] at *; omega)
 refine bf ?_
 refine ix 7 hS114 (.ip (fk.cells a0) 0 false) ?_
 iterate 4 refine oV ?_
 refine oC (t85 a0 (x81.elem) (x81.en) (0)) ?_
 rintro _ ⟨r198,r199,hc197,rfl⟩
 cases r199
 iterate 4 refine oV ?_
 refine bP ?_
 refine bD ?_
 refine ay ?_
 refine ⟨_,?_,(v62),(l63),(v64),(l65),(v66),(l67),(v87),((l69.take (((l69.length:Int) - 1).toNat))),((put x81 true l70)),(n71),(n72),(n73),(b74),H113,rfl,d6,d5,d8,dZ,cT,cM,cM,cM,dy,hS114,rfl,rfl⟩
 first | omega | (simp only [List.length_append,List.length_cons,List.length_nil,List.length_take] at *; omega)
 refine oV ?_
 refine bM ?_
 refine be ?_
 have hS200:=Sep.pick hS114 [6,2,1,0,3,4,5,7] 8 cK cK
 refine gC (H:=H113) (args:=[(.ptr b4 0 0 0),iv x81.elem]) (p:=[]) (r:=[]) rfl rfl rfl rfl rfl rfl rfl (K9 b4 n71 n72 n73 r8 r10 v66 l67 v64 l65 v62 l63 b74 (x81.elem) (.sl true false v87 2 (List.map bY.cells (l69.take (((l69.length:Int) - 1).toNat)))::.obj (.ptr b28 0 0 0) [v87]::.map (.hm b25) (gn pK bK (put x81 true l70))::.obj (.ptr b1 0 0 0) [.ip (fk.cells a0) 0 false]::[]) hS200 cG) ?_
 rintro _ H201 ⟨r207,vzo204,zoneo205,bareo206,hc203,hS202,rfl⟩
 cases r207
 refine ay ?_
 have hS208:=Sep.pick hS202 [3,2,1,4,5,6,0,7] 8 cK cK
 refine ⟨_,?_,(v62),(l63),(vzo204),(zoneo205),(v66),(l67),(v87),((l69.take (((l69.length:Int) - 1).toNat))),((put x81 true l70)),(n71),(n72),(n73),(bareo206),H201,rfl,d6,d5,d8,dZ,cT,cM,cM,cM,dy,hS208,rfl,rfl⟩
 first | omega | (simp only [List.length_append,List.length_cons,List.length_nil,List.length_take] at *; omega)
 refine a7 ?_
 refine cC ?_
 have hS209:=Sep.pick hS202 [7,5,4,0,1,2,3,6] 8 cK cK
 refine gC (H:=H201) (args:=[iv x81.elem,iv r198]) (p:=[]) (r:=[(.ptr b1 0 0 0),(.ptr b28 0 0 0)]) rfl rfl rfl rfl rfl rfl rfl (FD (x81.elem) r198 b1 a0 b28 v87 (l69.take (((l69.length:Int) - 1).toNat)) (.obj (.ptr b4 0 0 0) [iv n71,iv n72,iv n73,Row.av fy.cells r8,Row.av gi.cells r10,v66,vzo204,v62,.bool bareo206]::.sl true true v66 2 (List.map gi.cells l67)::.sl true true vzo204 1 (List.map fu zoneo205)::.sl true true v62 1 (List.map fu l63)::.map (.hm b25) (gn pK bK (put x81 true l70))::[]) hS209 cG) ?_
 rintro _ H210 ⟨vto213,todoo214,hc212,hS211,rfl⟩
 have hTu:∀ y∈todoo214,y∈univ a0:=fun y hy=>(hc212.2 y hy).elim (hTu y) id
 refine oN ?_
 have hS215:=Sep.pick hS211 [6,5,4,2,1,7,3,0] 8 cK cK
 refine ⟨_,?_,(v62),(l63),(vzo204),(zoneo205),(v66),(l67),(vto213),(todoo214),((put x81 true l70)),(n71),(n72),(n73),(bareo206),H210,rfl,d6,d5,d8,dZ,cT,cM,cM,cM,dy,hS215,rfl,rfl⟩
 first | omega | (simp only [List.length_append,List.length_cons,List.length_nil,List.length_take] at *; omega)
 refine aa ?_
 refine ix 7 hS114 (.ip (fk.cells a0) 0 false) ?_
 refine oV ?_
 refine oC (t81 a0 x81) ?_
 rintro _ ⟨r217,hc216,rfl⟩
 have hR:=hc216
 refine bP ?_
 refine jg (r217) (0) (fun h218=>?_) (fun h218=>?_)
 refine oV ?_
 refine ik (b:=r24.gO) rfl (fun _=>rfl) (fun h219=>?_) (fun h219=>?_)
 refine bA ?_
 exact ⟨rfl,rfl⟩
 refine oV ?_
 refine a7 ?_
 refine ck ?_
 refine iN 6 hS114 ?_
 refine ix 6 hS114 v62 ?_
 refine oV ?_
 refine Exists.elim (jv (H:=H113) (i:=0) (l:=l63) (enc:=fu) hS114 rfl db) (fun r220 hh=>And.elim (fun hl221 hf222=>?_) hh)
 have hln224:=congrArg List.length hl221
 have hz223:∀ m,freeze true { H113 with aq:=[] } (m+2) v62=some (fE.av fu r220):=fun m=>hf222 [] _ (fun _=>rfl)
 refine kE (args:=[v62,iv r217]) (p:=[]) (r:=[]) (args':=[fE.av fu r220,iv r217]) (R:=N7 r220 (r217)) rfl rfl rfl rfl rfl (fD (Sep.arg (i:=0) hS114 rfl) (fD rfl gJ)) rfl zJ (iR (by show gr (freeze true { H113 with aq:=[] } 8) [v62,iv r217] = _; simp only [FZ,hz223]) (fD (Sep.pL (i:=0) hS114 rfl) (fD rfl gJ))) (iR dN (fD rfl (fD rfl gJ))) (fun h=>t64 r220 (r217)  h) ?_
 rintro _ ⟨r226,hc225,rfl⟩
 cases r226
 refine a7 ?_
 refine qg ?_
 refine iN 6 hS114 ?_
 refine ix 6 hS114 v62 ?_
 iterate 2 refine oV ?_
 refine wM 0 [(r217)] hS114 fun v227 H228 hS229=>?_
 refine iN 6 hS229 ?_
 refine gd (H:=H228) rfl (iG (H:=H228) (i:=6) (o:=7) (r:=v227) hS229 rfl rfl rfl rfl (jq rfl rfl (Sep.cell (i:=0) hS229 rfl)) (fD (Sep.cell (i:=0) hS229 rfl) gJ) rfl) ?_
 rintro _ H230 ⟨rfl,hS231⟩
 refine oN ?_
 refine qe ?_
 refine ⟨_,?_,(v227),((l63++[(r217)])),(v64),(l65),(v66),(l67),(v87),((l69.take (((l69.length:Int) - 1).toNat))),((put x81 true l70)),(n71),(n72),(n73),(b74),H230,rfl,d6,d5,d8,dZ,cT,cM,cM,cM,dy,hS231,rfl,rfl⟩
 first | omega | (simp only [List.length_append,List.length_cons,List.length_nil,List.length_take] at *; omega)
 refine ay ?_
 refine qe ?_
 refine ⟨_,?_,(v62),(l63),(v64),(l65),(v66),(l67),(v87),((l69.take (((l69.length:Int) - 1).toNat))),((put x81 true l70)),(n71),(n72),(n73),(b74),H113,rfl,d6,d5,d8,dZ,cT,cM,cM,cM,dy,hS114,rfl,rfl⟩
 first | omega | (simp only [List.length_append,List.length_cons,List.length_nil,List.length_take] at *; omega)
 refine bg ?_
 refine ay ?_
 exact ⟨rfl,rfl⟩
 refine bD ?_
 refine a7 ?_
 refine qe ?_
 refine ⟨_,?_,(v62),(l63),(v64),(l65),(v66),(l67),(v87),((l69.take (((l69.length:Int) - 1).toNat))),(l70),(n71),(n72),(n73),(b74),H91,rfl,d6,d5,d8,dZ,cT,cM,cM,cM,dy,hS92,rfl,rfl⟩
 first | omega | (simp only [List.length_append,List.length_cons,List.length_nil,List.length_take] at *; omega)
 refine aF ?_
 refine aa ?_
 refine ix 6 hS76 (.agg [iv n71,iv n72,iv n73,Row.av fy.cells r8,Row.av gi.cells r10,v66,v64,v62,.bool b74]) ?_
 refine fq rfl (fun _=>wH rfl rfl rfl rfl (fD rfl (fD rfl (fD rfl (fD rfl (fD rfl (fD (Sep.cell (i:=2) hS76 rfl) (fD (Sep.cell (i:=1) hS76 rfl) (fD (Sep.cell (i:=0) hS76 rfl) (fD rfl gJ))))))))) rfl rfl) ?_
 refine oN ?_
 refine qr ?_
 obtain ⟨r232,hl233,hf234⟩:=gZ (H:=H75) (i:=2) (l:=l67) (enc:=gi.cells) hS76 rfl cH
 have hlq:=hl233; have hln236:=congrArg List.length hl233
 have hz235:∀ m,freeze false { H75 with aq:=[(4,[iv n71,iv n72,iv n73,Row.av fy.cells r8,Row.av gi.cells r10,v66,v64,v62,.bool b74])] } (m+2) v66=some (Row.av gi.cells r232):=fun m=>hf234 _ _ (fun _=>rfl)
 obtain ⟨r237,hl238,hf239⟩:=gZ (H:=H75) (i:=1) (l:=l65) (enc:=fu) hS76 rfl cH
 have hlq:=hl238; have hln241:=congrArg List.length hl238
 have hz240:∀ m,freeze false { H75 with aq:=[(4,[iv n71,iv n72,iv n73,Row.av fy.cells r8,Row.av gi.cells r10,v66,v64,v62,.bool b74])] } (m+2) v64=some (Row.av fu r237):=fun m=>hf239 _ _ (fun _=>rfl)
 obtain ⟨r242,hl243,hf244⟩:=gZ (H:=H75) (i:=0) (l:=l63) (enc:=fu) hS76 rfl cH
 have hlq:=hl243; have hln246:=congrArg List.length hl243
 have hz245:∀ m,freeze false { H75 with aq:=[(4,[iv n71,iv n72,iv n73,Row.av fy.cells r8,Row.av gi.cells r10,v66,v64,v62,.bool b74])] } (m+2) v62=some (Row.av fu r242):=fun m=>hf244 _ _ (fun _=>rfl)
 exact ⟨.agg [iv n71,iv n72,iv n73,Row.av fy.cells r8,Row.av gi.cells r10,v66,v64,v62,.bool b74],(iB (vs:=[.agg [iv n71,iv n72,iv n73,Row.av fy.cells r8,Row.av gi.cells r10,v66,v64,v62,.bool b74]]) rfl rfl),.agg [iv n71,iv n72,iv n73,Row.av fy.cells r8,Row.av gi.cells r10,Row.av gi.cells r232,Row.av fu r237,Row.av fu r242,.bool b74],(show freeze false { H75 with aq:=[(4,[iv n71,iv n72,iv n73,Row.av fy.cells r8,Row.av gi.cells r10,v66,v64,v62,.bool b74])] } 8 (.agg [iv n71,iv n72,iv n73,Row.av fy.cells r8,Row.av gi.cells r10,v66,v64,v62,.bool b74])=some (.agg [iv n71,iv n72,iv n73,Row.av fy.cells r8,Row.av gi.cells r10,Row.av gi.cells r232,Row.av fu r237,Row.av fu r242,.bool b74]) by simp only [FZ,hz235,hz240,hz245]),(⟨(n71),(n72),(n73),r8,r10,r232,r237,r242,(b74)⟩:fP),(by simp_all [Row.j6]),rfl⟩
theorem Wf:FT 13=some Gt:=by kernel_rfl
theorem Ru:aT 13=none:=by kernel_rfl
def ZS (_a0:fh) (v:AV):Prop:=∃ r0:gb,∃ r1:Int,((r1=0→((∀ r∈(r0.roads.l:List fP),0<r.steps.l.length∧r.steps.l.length≤12∧r.jJ.l.length≤12)∧r0.roads.l.length≤64)∧(r0.fo = _a0.canon∧∃ n:fk,mW n _a0∧rs 24 [.agg (fh.cells _a0)]=.fz [.ip (fk.cells n) 0 false,iv 0])))∧v=.fz [.agg (gb.cells r0),iv r1]
theorem NP (a0:fh) (q1:jb a0) (h:ah):∃ v,fj cfg FT aT false 13 [.agg (fh.cells a0)] h v h∧ZS a0 v:=by
 refine fS Ru Wf rfl rfl ?_
 refine ae ?_
 refine bP ?_
 refine oC (t24 a0 cG) ?_
 rintro _ (⟨r2,⟨hc1,hc1r⟩,rfl⟩ | ⟨r3,⟨hc1,hc1r⟩,rfl⟩)
 have hFw:=hc1.yA; have hFs:=hc1.yA.signals; have hFl:=hc1.len; have hNe:=hc1; have hNr:=hc1r
 refine bj ?_
 refine ay ?_
 refine ai ?_
 refine gC (H:=ah.empty) (args:=[.ip (fk.cells r2) 0 false]) (p:=[]) (r:=[]) rfl rfl rfl rfl rfl rfl rfl (s52 r2 ([]) gI cG) ?_
 rintro _ H5 ⟨ov8,ol9,eo10,hc7,hS6,rfl⟩
 have hR:=hc7.1
 have hI:=hc7.2
 refine bj ?_
 refine iJ (eo10) (0) (fun h11=>?_) (fun h11=>?_)
 refine aA ?_
 refine aa ?_
 refine bo ?_
 exact xF (.fz [.agg [.sl [] .nil,.sl [] .nil,.sl [] .nil,.sl [] .nil,iv 0,iv 0,iv 0,iv 0,.bool false,.sl [] .nil],iv eo10]) ⟨(⟨(⟨(⟨[],.nil,Nat.zero_le _,rfl,fun _=>rfl⟩:Row gf),(⟨[],.nil,Nat.zero_le _,rfl,fun _=>rfl⟩:Row gj),(⟨[],.nil,Nat.zero_le _,rfl,fun _=>rfl⟩:Row gg),(⟨[],.nil,Nat.zero_le _,rfl,fun _=>rfl⟩:Row fY),(0),(0),(0),(0),false⟩:fh),(⟨[],.nil,Nat.zero_le _,rfl,fun _=>rfl⟩:Row fP)⟩:gb),(eo10),dc,rfl⟩
 refine az ?_
 refine wa [(2,.la 2 0),(4,.ip (fk.cells r2) 0 false),(6,ov8)] H5 [(2,[.sl [] .nil,.sl [] .nil,.sl [] .nil,.sl [] .nil,iv 0,iv 0,iv 0,iv 0,.bool false,.sl [] .nil])] ?_ (Eq.trans (b:=[(2,.la 2 0),(4,.ip (fk.cells r2) 0 false),(6,fi 6 ov8)]) rfl eE)
 refine bh ?_
 refine fq rfl (fun _=>jT (i:=0) hS6 rfl rfl rfl rfl rfl rfl rfl) ?_
 refine aC ?_
 refine fC (ol9.length) (fun je e h=>∃ v13:AV,∃ l14:List fP,∃ H15:ah,((∀ r∈(l14:List fP),0<r.steps.l.length∧r.steps.l.length≤12∧r.jJ.l.length≤12))∧(l14.length≤64∧(l14.length:Int)=(ol9.length:Int))∧Sep H15 (.sl true true v13 9 (List.map fP.cells l14)::[])∧proj [2,4,6,27,28] e=[(2,.la 2 0),(4,.ip (fk.cells r2) 0 false),(6,v13),(27,iv (ol9.length:Int)),(28,iv (je:Int))]∧{ h with aq:=fU [2,4,6,27,28] h.aq } = { H15 with aq:=[(2,[.sl [] .nil,.sl [] .nil,.sl [] .nil,.sl [] .nil,iv 0,iv 0,iv 0,iv 0,.bool false,.sl [] .nil])] }) ?_ (k0:=0) cO ⟨(ov8),(ol9),H5,(by exact hR),cO,hS6,(Eq.trans (b:=[(2,.la 2 0),(4,.ip (fk.cells r2) 0 false),(6,fi 6 ov8),(27,iv (ol9.length:Int)),(28,iv 0)]) rfl eE),rfl⟩
 rintro je e h hkk12 ⟨v13,l14,H15,hR,hI,hS16,he,hh⟩
 refine gm he hh ?_
 clear he hh
 refine aa ?_
 refine gl ((je:Int)) ((ol9.length:Int)) (fun h17=>?_) (fun h17=>?_)
 refine aM ?_
 refine wa [(2,.la 2 0),(4,.ip (fk.cells r2) 0 false),(6,v13),(27,iv (ol9.length:Int)),(28,iv (je:Int))] H15 [(2,[.sl [] .nil,.sl [] .nil,.sl [] .nil,.sl [] .nil,iv 0,iv 0,iv 0,iv 0,.bool false,.sl [] .nil])] ?_ (Eq.trans (b:=[(2,.la 2 0),(4,.ip (fk.cells r2) 0 false),(6,fi 6 v13),(27,iv (ol9.length:Int)),(28,iv (je:Int))]) rfl eq)
 refine ba ?_
 refine aQ ?_
 refine cC ?_
 refine oV ?_
 have hx18:je<l14.length:=by first | omega | (simp<;>omega) | (simp_all; omega)
 obtain ⟨x19,hqx19⟩:∃ x,l14[je]=x:=⟨_,rfl⟩
 have hinx19:x19∈l14:=by rw [← hqx19]; exact List.getElem_mem _
 have hsx19:=hR x19 hinx19
 refine kz rfl (ji (i:=0) (m:=je) (cs:=fP.cells x19) hS16 rfl rfl rfl rfl rfl rfl rfl (iq hx18 hqx19)) ?_
 rintro a20 ⟨ha21,hea22⟩
 refine fq rfl (fun _=>ko (i:=0) (m:=je) (o:=0) (r:=.agg (fP.cells x19)) (cs:=fP.cells x19) hS16 rfl (iq hx18 hqx19) hea22 rfl rfl ha21) ?_
 refine oC (t31 r2 x19 cG cG cG cG) ?_
 rintro _ ⟨r24,hc23,rfl⟩
 have hC53:=hc23
 have hx25:je<l14.length:=by first | omega | (simp<;>omega) | (simp_all; omega)
 refine kz rfl (ji (i:=0) (m:=je) (cs:=fP.cells x19) hS16 rfl rfl rfl rfl rfl rfl rfl (iq hx25 hqx19)) ?_
 rintro a26 ⟨ha27,hea28⟩
 refine gd rfl (od (i:=0) (m:=je) (o:=0) x19 r24 hS16 rfl hx25 hqx19 hea28 rfl ha27 rfl rfl rfl rfl) ?_
 rintro _ H29 ⟨rfl,hS30⟩
 refine oN ?_
 refine wa [(2,.la 2 0),(4,.ip (fk.cells r2) 0 false),(6,v13),(27,iv (ol9.length:Int)),(28,iv (je:Int))] H29 [(2,[.sl [] .nil,.sl [] .nil,.sl [] .nil,.sl [] .nil,iv 0,iv 0,iv 0,iv 0,.bool false,.sl [] .nil])] ?_ (Eq.trans (b:=[(2,.la 2 0),(4,.ip (fk.cells r2) 0 false),(6,fi 6 v13),(27,iv (ol9.length:Int)),(28,iv (je:Int))]) rfl eg)
 refine qg ?_
 refine gy ((je:Int)) (1) ?_
 refine ab ?_
 exact ⟨by omega,(v13),((l14.set je r24)),H29,(by exact yh hR (by rw [hC53.1,hC53.2]; assumption)),fc,hS30,(Eq.trans (b:=[(2,.la 2 0),(4,.ip (fk.cells r2) 0 false),(6,fi 6 v13),(27,iv (ol9.length:Int)),(28,iv ((je:Int)+1))]) rfl eg),rfl⟩
 refine aj ?_
 refine wa [(2,.la 2 0),(2,.la 2 0),(4,.ip (fk.cells r2) 0 false),(6,v13)] H15 [(2,[.sl [] .nil,.sl [] .nil,.sl [] .nil,.sl [] .nil,iv 0,iv 0,iv 0,iv 0,.bool false,.sl [] .nil]),(2,[.sl [] .nil,.sl [] .nil,.sl [] .nil,.sl [] .nil,iv 0,iv 0,iv 0,iv 0,.bool false,.sl [] .nil])] ?_ (Eq.trans (b:=[(2,.la 2 0),(2,.la 2 0),(4,.ip (fk.cells r2) 0 false),(6,fi 6 v13)]) rfl eq)
 refine ai ?_
 refine oC (t32 r2 cG) ?_
 rintro _ ⟨r32,hc31,rfl⟩
 have hPl:=hc31.2.2.2.2.2
 refine oV ?_
 rcases Sep.vD (i:=0) hS16 rfl with ⟨rfl,hx35⟩ | ⟨rfl,hx35⟩ | ⟨b33,AZ,rfl⟩
 refine bk ?_
 exact xF (.fz [.agg [Row.av gf.cells r32.elems,Row.av gj.cells r32.fQ,Row.av gg.cells r32.signals,Row.av fY.cells r32.lines,iv r32.top,iv r32.gE,iv r32.gv,iv r32.gz,.bool r32.gO,(.sl [] .nil)],iv 0]) ⟨(⟨r32,(⟨[],.nil,Nat.zero_le _,rfl,fun _=>rfl⟩:Row fP)⟩:gb),(0),dc,rfl⟩
 refine bk ?_
 obtain ⟨r36,hl37,hf38⟩:=gZ (H:=H15) (i:=0) (l:=l14) (enc:=fP.cells) hS16 rfl cH
 have hlq:=hl37; have hln40:=congrArg List.length hl37
 have hz39:∀ m,freeze false { H15 with aq:=[(2,[Row.av gf.cells r32.elems,Row.av gj.cells r32.fQ,Row.av gg.cells r32.signals,Row.av fY.cells r32.lines,iv r32.top,iv r32.gE,iv r32.gv,iv r32.gz,.bool r32.gO,(.sl [] (.exact 0))])] } (m+2) (.sl [] (.exact 0))=some (Row.av fP.cells r36):=fun m=>hf38 _ _ (fun _=>by simp only [fP.cells,gr,jC,ju,jK,jH,j1])
 exact ⟨.fz [.agg [Row.av gf.cells r32.elems,Row.av gj.cells r32.fQ,Row.av gg.cells r32.signals,Row.av fY.cells r32.lines,iv r32.top,iv r32.gE,iv r32.gv,iv r32.gz,.bool r32.gO,(.sl [] (.exact 0))],iv 0],rfl,.fz [.agg [Row.av gf.cells r32.elems,Row.av gj.cells r32.fQ,Row.av gg.cells r32.signals,Row.av fY.cells r32.lines,iv r32.top,iv r32.gE,iv r32.gv,iv r32.gz,.bool r32.gO,Row.av fP.cells r36],iv 0],(show freeze false { H15 with aq:=[(2,[Row.av gf.cells r32.elems,Row.av gj.cells r32.fQ,Row.av gg.cells r32.signals,Row.av fY.cells r32.lines,iv r32.top,iv r32.gE,iv r32.gv,iv r32.gz,.bool r32.gO,(.sl [] (.exact 0))])] } 8 (.fz [.agg [Row.av gf.cells r32.elems,Row.av gj.cells r32.fQ,Row.av gg.cells r32.signals,Row.av fY.cells r32.lines,iv r32.top,iv r32.gE,iv r32.gv,iv r32.gz,.bool r32.gO,(.sl [] (.exact 0))],iv 0])=some (.fz [.agg [Row.av gf.cells r32.elems,Row.av gj.cells r32.fQ,Row.av gg.cells r32.signals,Row.av fY.cells r32.lines,iv r32.top,iv r32.gE,iv r32.gv,iv r32.gz,.bool r32.gO,Row.av fP.cells r36],iv 0]) by simp only [FZ,hz39]),(⟨r32,r36⟩:gb),(0),dc,rfl⟩
 refine bk ?_
 obtain ⟨r41,hl42,hf43⟩:=gZ (H:=H15) (i:=0) (l:=l14) (enc:=fP.cells) hS16 rfl cH
 have hlq:=hl42; have hln45:=congrArg List.length hl42
 have hz44:∀ m,freeze false { H15 with aq:=[(2,[Row.av gf.cells r32.elems,Row.av gj.cells r32.fQ,Row.av gg.cells r32.signals,Row.av fY.cells r32.lines,iv r32.top,iv r32.gE,iv r32.gv,iv r32.gz,.bool r32.gO,(.hs b33 AZ 0 (List.map fP.cells l14).length)])] } (m+2) (.hs b33 AZ 0 (List.map fP.cells l14).length)=some (Row.av fP.cells r41):=fun m=>hf43 _ _ (fun _=>by simp only [fP.cells,gr,jC,ju,jK,jH,j1])
 exact ⟨.fz [.agg [Row.av gf.cells r32.elems,Row.av gj.cells r32.fQ,Row.av gg.cells r32.signals,Row.av fY.cells r32.lines,iv r32.top,iv r32.gE,iv r32.gv,iv r32.gz,.bool r32.gO,(.hs b33 AZ 0 (List.map fP.cells l14).length)],iv 0],rfl,.fz [.agg [Row.av gf.cells r32.elems,Row.av gj.cells r32.fQ,Row.av gg.cells r32.signals,Row.av fY.cells r32.lines,iv r32.top,iv r32.gE,iv r32.gv,iv r32.gz,.bool r32.gO,Row.av fP.cells r41],iv 0],(show freeze false { H15 with aq:=[(2,[Row.av gf.cells r32.elems,Row.av gj.cells r32.fQ,Row.av gg.cells r32.signals,Row.av fY.cells r32.lines,iv r32.top,iv r32.gE,iv r32.gv,iv r32.gz,.bool r32.gO,(.hs b33 AZ 0 (List.map fP.cells l14).length)])] } 8 (.fz [.agg [Row.av gf.cells r32.elems,Row.av gj.cells r32.fQ,Row.av gg.cells r32.signals,Row.av fY.cells r32.lines,iv r32.top,iv r32.gE,iv r32.gv,iv r32.gz,.bool r32.gO,(.hs b33 AZ 0 (List.map fP.cells l14).length)],iv 0])=some (.fz [.agg [Row.av gf.cells r32.elems,Row.av gj.cells r32.fQ,Row.av gg.cells r32.signals,Row.av fY.cells r32.lines,iv r32.top,iv r32.gE,iv r32.gv,iv r32.gz,.bool r32.gO,Row.av fP.cells r41],iv 0]) by simp only [FZ,hz44]),(⟨r32,r41⟩:gb),(0),dc,rfl⟩
 refine bj ?_
 refine iJ (r3) (0) (fun h46=>?_) (fun h46=>?_)
 refine aA ?_
 refine aa ?_
 refine bo ?_
 exact xF (.fz [.agg [.sl [] .nil,.sl [] .nil,.sl [] .nil,.sl [] .nil,iv 0,iv 0,iv 0,iv 0,.bool false,.sl [] .nil],iv r3]) ⟨(⟨(⟨(⟨[],.nil,Nat.zero_le _,rfl,fun _=>rfl⟩:Row gf),(⟨[],.nil,Nat.zero_le _,rfl,fun _=>rfl⟩:Row gj),(⟨[],.nil,Nat.zero_le _,rfl,fun _=>rfl⟩:Row gg),(⟨[],.nil,Nat.zero_le _,rfl,fun _=>rfl⟩:Row fY),(0),(0),(0),(0),false⟩:fh),(⟨[],.nil,Nat.zero_le _,rfl,fun _=>rfl⟩:Row fP)⟩:gb),(r3),dc,rfl⟩
 refine az ?_
 refine ai ?_
 exfalso; omega
def P13 (_a0:fh) (v:AV):Prop:=∃ r0:gb,∃ r1:Int,(((r1=0→((∀ r∈(r0.roads.l:List fP),0<r.steps.l.length∧r.steps.l.length≤12∧r.jJ.l.length≤12)∧r0.roads.l.length≤64)∧(r0.fo = _a0.canon∧∃ n:fk,mW n _a0∧rs 24 [.agg (fh.cells _a0)]=.fz [.ip (fk.cells n) 0 false,iv 0])))∧rs 13 [.agg (fh.cells _a0)]=.fz [.agg (gb.cells r0),iv r1])∧v=.fz [.agg (gb.cells r0),iv r1]
theorem t13 (a0:fh) (q1:jb a0) (h:ah):∃ v,fj cfg FT aT false 13 [.agg (fh.cells a0)] h v h∧P13 a0 v:=by
 obtain ⟨v,hc,hP,hr⟩:=kg mQ (NP a0 q1) h
 obtain ⟨r0,r1,hp,rfl⟩:=hP
 exact ⟨_,hc,r0,r1,⟨hp,hr⟩,rfl⟩
theorem acw (a0:fh) (q1:jb a0) {V:AV} (hV:rs 13 [.agg (fh.cells a0)]=V) (h:ah):∃ v,fj cfg FT aT false 13 [.agg (fh.cells a0)] h v h∧v=V:=by
 obtain ⟨v,hc,hP,hr⟩:=kg mQ (NP a0 q1) h
 exact ⟨v,hc,hr.symm.trans hV⟩
theorem PY:FT 111=some D5:=by kernel_rfl
theorem MQ:aT 111=none:=by kernel_rfl
def aaP (_a0:fk) (v:AV):Prop:=∃ r0:Int,(r0=(_a0.p.elems.l.length:Int))∧v=iv r0
theorem t111 (a0:fk)  (h:ah):∃ v,fj cfg FT aT false 111 [.ip (fk.cells a0) 0 false] h v h∧aaP a0 v:=by
 refine fS MQ PY rfl rfl ?_
 refine cm ?_
 iterate 3 refine oV ?_
 have hL1:=a0.p.elems.lk
 refine gG a0.p.elems ?_
 refine af ?_
 exact xA (iv (a0.p.elems.l.length:Int)) ⟨((a0.p.elems.l.length:Int)),eR,rfl⟩
theorem OY:FT 236=some Dx:=by kernel_rfl
theorem LN:aT 236=none:=by kernel_rfl
def ZV (_a0:Row gf) (v:AV):Prop:=((True)∧v=.bool true)
theorem t236 (a0:Row gf)  (h:ah):∃ v,fj cfg FT aT false 236 [Row.av gf.cells a0,Row.av gf.cells a0] h v h∧ZV a0 v:=by
 refine fS LN OY rfl rfl ?_
 refine aY ?_
 have hL1:=a0.lk
 refine gG a0 ?_
 refine oV ?_
 have hL2:=a0.lk
 refine gG a0 ?_
 refine iJ ((a0.l.length:Int)) ((a0.l.length:Int)) (fun h3=>?_) (fun h3=>?_)
 refine aZ ?_
 exact False.elim c8
 refine cz ?_
 have hL4:=a0.lk
 refine gG a0 ?_
 refine aC ?_
 have hNk5:=a0.lk
 refine fC (a0.l.length) (fun k5 e h=>proj [0,1,12,13] e=[(0,Row.av gf.cells a0),(1,Row.av gf.cells a0),(12,iv (a0.l.length:Int)),(13,iv (k5:Int))]∧{ h with aq:=fU [0,1,12,13] h.aq } = { ah.empty with aq:=[] }) ?_ (k0:=0) cO ⟨rfl,rfl⟩
 rintro k5 e h hkk5 ⟨he,hh⟩
 refine gm he hh ?_
 clear he hh
 refine aa ?_
 refine gl ((k5:Int)) ((a0.l.length:Int)) (fun h6=>?_) (fun h6=>?_)
 refine bL ?_
 refine a6 ?_
 have hx7:k5<a0.l.length:=by omega
 refine lO k5 a0 hx7 ?_
 generalize hqx8:a0.l[k5]=x8
 iterate 3 refine rV ?_
 have hx9:k5<a0.l.length:=by omega
 refine lO k5 a0 hx9 ?_
 rw [hqx8]
 refine rV ?_
 refine ga rfl rfl (fun _=>qC rfl rfl rfl rfl (oa rfl)) ?_
 refine bH ?_
 refine qg ?_
 refine gy ((k5:Int)) (1) ?_
 refine ab ?_
 exact ⟨by omega,rfl,rfl⟩
 refine aN ?_
 refine xA (.bool true) ⟨trivial,rfl⟩
theorem Pn:FT 237=some DK:=by kernel_rfl
theorem MW:aT 237=none:=by kernel_rfl
def aa1 (_a0:Row gj) (v:AV):Prop:=((True)∧v=.bool true)
theorem t237 (a0:Row gj)  (h:ah):∃ v,fj cfg FT aT false 237 [Row.av gj.cells a0,Row.av gj.cells a0] h v h∧aa1 a0 v:=by
 refine fS MW Pn rfl rfl ?_
 refine aY ?_
 have hL1:=a0.lk
 refine gG a0 ?_
 refine oV ?_
 have hL2:=a0.lk
 refine gG a0 ?_
 refine iJ ((a0.l.length:Int)) ((a0.l.length:Int)) (fun h3=>?_) (fun h3=>?_)
 refine aZ ?_
 exact False.elim c8
 refine cz ?_
 have hL4:=a0.lk
 refine gG a0 ?_
 refine aC ?_
 have hNk5:=a0.lk
 refine fC (a0.l.length) (fun k5 e h=>proj [0,1,12,13] e=[(0,Row.av gj.cells a0),(1,Row.av gj.cells a0),(12,iv (a0.l.length:Int)),(13,iv (k5:Int))]∧{ h with aq:=fU [0,1,12,13] h.aq } = { ah.empty with aq:=[] }) ?_ (k0:=0) cO ⟨rfl,rfl⟩
 rintro k5 e h hkk5 ⟨he,hh⟩
 refine gm he hh ?_
 clear he hh
 refine aa ?_
 refine gl ((k5:Int)) ((a0.l.length:Int)) (fun h6=>?_) (fun h6=>?_)
 refine bL ?_
 refine a6 ?_
 have hx7:k5<a0.l.length:=by omega
 refine lO k5 a0 hx7 ?_
 generalize hqx8:a0.l[k5]=x8
 iterate 3 refine rV ?_
 have hx9:k5<a0.l.length:=by omega
 refine lO k5 a0 hx9 ?_
 rw [hqx8]
 refine rV ?_
 refine ga rfl rfl (fun _=>qC rfl rfl rfl rfl (oa rfl)) ?_
 refine bH ?_
 refine qg ?_
 refine gy ((k5:Int)) (1) ?_
 refine ab ?_
 exact ⟨by omega,rfl,rfl⟩
 refine aN ?_
 refine xA (.bool true) ⟨trivial,rfl⟩
theorem Qj:FT 238=some DI:=by kernel_rfl
theorem Mz:aT 238=none:=by kernel_rfl
def Y0 (_a0:Row gg) (v:AV):Prop:=((True)∧v=.bool true)
theorem t238 (a0:Row gg)  (h:ah):∃ v,fj cfg FT aT false 238 [Row.av gg.cells a0,Row.av gg.cells a0] h v h∧Y0 a0 v:=by
 refine fS Mz Qj rfl rfl ?_
 refine aY ?_
 have hL1:=a0.lk
 refine gG a0 ?_
 refine oV ?_
 have hL2:=a0.lk
 refine gG a0 ?_
 refine iJ ((a0.l.length:Int)) ((a0.l.length:Int)) (fun h3=>?_) (fun h3=>?_)
 refine aZ ?_
 exact False.elim c8
 refine cz ?_
 have hL4:=a0.lk
 refine gG a0 ?_
 refine aC ?_
 have hNk5:=a0.lk
 refine fC (a0.l.length) (fun k5 e h=>proj [0,1,12,13] e=[(0,Row.av gg.cells a0),(1,Row.av gg.cells a0),(12,iv (a0.l.length:Int)),(13,iv (k5:Int))]∧{ h with aq:=fU [0,1,12,13] h.aq } = { ah.empty with aq:=[] }) ?_ (k0:=0) cO ⟨rfl,rfl⟩
 rintro k5 e h hkk5 ⟨he,hh⟩
 refine gm he hh ?_
 clear he hh
 refine aa ?_
 refine gl ((k5:Int)) ((a0.l.length:Int)) (fun h6=>?_) (fun h6=>?_)
 refine bL ?_
 refine a6 ?_
 have hx7:k5<a0.l.length:=by omega
 refine lO k5 a0 hx7 ?_
 generalize hqx8:a0.l[k5]=x8
 iterate 3 refine rV ?_
 have hx9:k5<a0.l.length:=by omega
 refine lO k5 a0 hx9 ?_
 rw [hqx8]
 refine rV ?_
 refine ga rfl rfl (fun _=>qC rfl rfl rfl rfl (oa rfl)) ?_
 refine bH ?_
 refine qg ?_
 refine gy ((k5:Int)) (1) ?_
 refine ab ?_
 exact ⟨by omega,rfl,rfl⟩
 refine aN ?_
 refine xA (.bool true) ⟨trivial,rfl⟩
theorem Qn:FT 241=some Cr:=by kernel_rfl
theorem L7:aT 241=none:=by kernel_rfl
def ZG (_a0:Row Int) (v:AV):Prop:=((True)∧v=.bool true)
theorem t241 (a0:Row Int)  (h:ah):∃ v,fj cfg FT aT false 241 [Row.av fu a0,Row.av fu a0] h v h∧ZG a0 v:=by
 refine fS L7 Qn rfl rfl ?_
 refine aY ?_
 have hL1:=a0.lk
 refine gG a0 ?_
 refine oV ?_
 have hL2:=a0.lk
 refine gG a0 ?_
 refine iJ ((a0.l.length:Int)) ((a0.l.length:Int)) (fun h3=>?_) (fun h3=>?_)
 refine aZ ?_
 exact False.elim c8
 refine cz ?_
 have hL4:=a0.lk
 refine gG a0 ?_
 refine aC ?_
 have hNk5:=a0.lk
 refine fC (a0.l.length) (fun k5 e h=>proj [0,1,12,13] e=[(0,Row.av fu a0),(1,Row.av fu a0),(12,iv (a0.l.length:Int)),(13,iv (k5:Int))]∧{ h with aq:=fU [0,1,12,13] h.aq } = { ah.empty with aq:=[] }) ?_ (k0:=0) cO ⟨rfl,rfl⟩
 rintro k5 e h hkk5 ⟨he,hh⟩
 refine gm he hh ?_
 clear he hh
 refine aa ?_
 refine gl ((k5:Int)) ((a0.l.length:Int)) (fun h6=>?_) (fun h6=>?_)
 refine bL ?_
 refine a6 ?_
 have hx7:k5<a0.l.length:=by omega
 refine lO k5 a0 hx7 ?_
 generalize hqx8:a0.l[k5]=x8
 iterate 3 refine rV ?_
 have hx9:k5<a0.l.length:=by omega
 refine lO k5 a0 hx9 ?_
 rw [hqx8]
 refine rV ?_
 refine ym (x8) (x8) (fun h11=>?_) (fun h11=>?_)
 refine rN ?_
 refine ac ?_
 exact False.elim c8
 refine bH ?_
 refine qg ?_
 refine gy ((k5:Int)) (1) ?_
 refine ab ?_
 exact ⟨by omega,rfl,rfl⟩
 refine aN ?_
 refine xA (.bool true) ⟨trivial,rfl⟩
theorem PK:FT 240=some CG:=by kernel_rfl
theorem LJ:aT 240=none:=by kernel_rfl
theorem aae {H:ah} (x:fY) (F:List gH) (hS:Sep H (F)) :∃ v H',fj cfg FT aT true 240 [.agg (fY.cells x),.agg (fY.cells x)] { H with aq:=[] } v H'∧((True)∧Sep H' (F)∧v=.bool true):=by
 refine gB LJ PK rfl ?_
 refine bJ ?_
 refine be ?_
 refine lJ rfl (fun _=>qo rfl rfl) (fun h1=>?_) (fun h1=>?_)
 iterate 5 refine oV ?_
 refine oC (t241 x.elems) ?_
 rintro _ (⟨hc2,rfl⟩)
 refine aS ?_
 have hS3:=Sep.pick hS [] 0 cK cK
 exact ⟨.bool true,rfl,trivial,Sep.aq hS3 _,rfl⟩
 refine bi ?_
 refine aS ?_
 exact False.elim c8
theorem Re:FT 239=some Cd:=by kernel_rfl
theorem M3:aT 239=none:=by kernel_rfl
theorem GL {H:ah} (l:Row fY) (F:List gH) (hS:Sep H (F)) :∃ v H',fj cfg FT aT true 239 [Row.av fY.cells l,Row.av fY.cells l,.gL 240 [] []] { H with aq:=[] } v H'∧((True)∧Sep H' (F)∧v=.bool true):=by
 refine gB M3 Re rfl ?_
 refine aY ?_
 have hL1:=l.lk
 refine gG l ?_
 refine oV ?_
 have hL2:=l.lk
 refine gG l ?_
 refine iJ ((l.l.length:Int)) ((l.l.length:Int)) (fun h3=>?_) (fun h3=>?_)
 refine aZ ?_
 exact False.elim c8
 refine cz ?_
 have hL4:=l.lk
 refine gG l ?_
 refine aC ?_
 have hNk5:=l.lk
 refine fC (l.l.length) (fun k5 e h=>∃ H6:ah,Sep H6 (F)∧proj [1,2,15,16,17] e=[(1,Row.av fY.cells l),(2,.gL 240 [] []),(15,Row.av fY.cells l),(16,iv (l.l.length:Int)),(17,iv (k5:Int))]∧{ h with aq:=fU [1,2,15,16,17] h.aq } = { H6 with aq:=[] }) ?_ (k0:=0) cO ⟨H,hS,rfl,rfl⟩
 rintro k5 e h hkk5 ⟨H6,hS7,he,hh⟩
 refine gm he hh ?_
 clear he hh
 refine aa ?_
 refine gl ((k5:Int)) ((l.l.length:Int)) (fun h8=>?_) (fun h8=>?_)
 refine bU ?_
 have hx9:k5<l.l.length:=by omega
 refine iU k5 l hx9 ?_
 generalize hqx10:l.l[k5]=x10
 refine bM ?_
 refine ae ?_
 have hx11:k5<l.l.length:=by omega
 refine iU k5 l hx11 ?_
 rw [hqx10]
 refine aX ?_
 refine aB ?_
 refine gC (H:=H6) (args:=[.agg (fY.cells x10),.agg (fY.cells x10)]) (p:=[]) (r:=[]) rfl rfl rfl rfl rfl rfl rfl (aae x10 (F) hS7) ?_
 rintro _ H14 ⟨hc16,hS15,rfl⟩
 refine bW ?_
 refine gy ((k5:Int)) (1) ?_
 refine ab ?_
 exact ⟨by omega,H14,hS15,rfl,rfl⟩
 refine aN ?_
 have hS17:=Sep.pick hS7 [] 0 cK cK
 exact ⟨.bool true,rfl,trivial,Sep.aq hS17 _,rfl⟩
theorem Oe:FT 196=some Cf:=by kernel_rfl
theorem L8:aT 196=none:=by kernel_rfl
def ZE (_a0:fh) (v:AV):Prop:=((True)∧v=.bool true)
theorem t196 (a0:fh)  (h:ah):∃ v,fj cfg FT aT false 196 [.agg (fh.cells a0),.agg (fh.cells a0)] h v h∧ZE a0 v:=by
 refine fS L8 Oe rfl rfl ?_
 refine bJ ?_
 refine be ?_
 refine oC (t236 a0.elems) ?_
 rintro _ (⟨hc1,rfl⟩)
 iterate 5 refine oV ?_
 refine oC (t237 a0.fQ) ?_
 rintro _ (⟨hc2,rfl⟩)
 iterate 6 refine oV ?_
 refine oC (t238 a0.signals) ?_
 rintro _ (⟨hc3,rfl⟩)
 iterate 6 refine oV ?_
 refine gC (H:=ah.empty) (args:=[Row.av fY.cells a0.lines,Row.av fY.cells a0.lines,.gL 240 [] []]) (p:=[]) (r:=[]) rfl rfl rfl rfl rfl rfl rfl (GL a0.lines ([]) gI) ?_
 rintro _ H5 ⟨hc7,hS6,rfl⟩
 iterate 6 refine oV ?_
 refine gA (a0.top) (a0.top) (fun h8=>?_) (fun h8=>?_)
 iterate 6 refine oV ?_
 refine gA (a0.gE) (a0.gE) (fun h9=>?_) (fun h9=>?_)
 iterate 6 refine oV ?_
 refine gA (a0.gv) (a0.gv) (fun h10=>?_) (fun h10=>?_)
 iterate 6 refine oV ?_
 refine gA (a0.gz) (a0.gz) (fun h11=>?_) (fun h11=>?_)
 iterate 3 refine oV ?_
 refine ik (b:=a0.gO) rfl (fun _=>rfl) (fun h12=>?_) (fun h12=>?_)
 refine oV ?_
 refine ik (b:=a0.gO) rfl (fun _=>rfl) (fun h13=>?_) (fun h13=>?_)
 refine bk ?_
 refine xA (.bool true) ⟨trivial,rfl⟩
 refine bk ?_
 exact False.elim c8
 refine oV ?_
 refine ik (b:=a0.gO) rfl (fun _=>rfl) (fun h14=>?_) (fun h14=>?_)
 refine bk ?_
 exact False.elim c8
 refine bk ?_
 refine xA (.bool true) ⟨trivial,rfl⟩
 refine cB ?_
 refine aS ?_
 exact False.elim c8
 refine ap ?_
 refine aS ?_
 exact False.elim c8
 refine ao ?_
 refine aS ?_
 exact False.elim c8
 refine cB ?_
 refine ao ?_
 refine aS ?_
 exact False.elim c8
theorem Pl:FT 242=some C0:=by kernel_rfl
theorem Ni:aT 242=none:=by kernel_rfl
def acS (_a0:Row fy) (v:AV):Prop:=((True)∧v=.bool true)
theorem t242 (a0:Row fy)  (h:ah):∃ v,fj cfg FT aT false 242 [Row.av fy.cells a0,Row.av fy.cells a0] h v h∧acS a0 v:=by
 refine fS Ni Pl rfl rfl ?_
 refine aY ?_
 have hL1:=a0.lk
 refine gG a0 ?_
 refine oV ?_
 have hL2:=a0.lk
 refine gG a0 ?_
 refine iJ ((a0.l.length:Int)) ((a0.l.length:Int)) (fun h3=>?_) (fun h3=>?_)
 refine aZ ?_
 exact False.elim c8
 refine cz ?_
 have hL4:=a0.lk
 refine gG a0 ?_
 refine aC ?_
 have hNk5:=a0.lk
 refine fC (a0.l.length) (fun k5 e h=>proj [0,1,12,13] e=[(0,Row.av fy.cells a0),(1,Row.av fy.cells a0),(12,iv (a0.l.length:Int)),(13,iv (k5:Int))]∧{ h with aq:=fU [0,1,12,13] h.aq } = { ah.empty with aq:=[] }) ?_ (k0:=0) cO ⟨rfl,rfl⟩
 rintro k5 e h hkk5 ⟨he,hh⟩
 refine gm he hh ?_
 clear he hh
 refine aa ?_
 refine gl ((k5:Int)) ((a0.l.length:Int)) (fun h6=>?_) (fun h6=>?_)
 refine bL ?_
 refine a6 ?_
 have hx7:k5<a0.l.length:=by omega
 refine lO k5 a0 hx7 ?_
 generalize hqx8:a0.l[k5]=x8
 iterate 3 refine rV ?_
 have hx9:k5<a0.l.length:=by omega
 refine lO k5 a0 hx9 ?_
 rw [hqx8]
 refine rV ?_
 refine ga rfl rfl (fun _=>qC rfl rfl rfl rfl (oa rfl)) ?_
 refine bH ?_
 refine qg ?_
 refine gy ((k5:Int)) (1) ?_
 refine ab ?_
 exact ⟨by omega,rfl,rfl⟩
 refine aN ?_
 refine xA (.bool true) ⟨trivial,rfl⟩
theorem Pj:FT 243=some CH:=by kernel_rfl
theorem LD:aT 243=none:=by kernel_rfl
def aaS (_a0:Row gi) (v:AV):Prop:=((True)∧v=.bool true)
theorem t243 (a0:Row gi)  (h:ah):∃ v,fj cfg FT aT false 243 [Row.av gi.cells a0,Row.av gi.cells a0] h v h∧aaS a0 v:=by
 refine fS LD Pj rfl rfl ?_
 refine aY ?_
 have hL1:=a0.lk
 refine gG a0 ?_
 refine oV ?_
 have hL2:=a0.lk
 refine gG a0 ?_
 refine iJ ((a0.l.length:Int)) ((a0.l.length:Int)) (fun h3=>?_) (fun h3=>?_)
 refine aZ ?_
 exact False.elim c8
 refine cz ?_
 have hL4:=a0.lk
 refine gG a0 ?_
 refine aC ?_
 have hNk5:=a0.lk
 refine fC (a0.l.length) (fun k5 e h=>proj [0,1,12,13] e=[(0,Row.av gi.cells a0),(1,Row.av gi.cells a0),(12,iv (a0.l.length:Int)),(13,iv (k5:Int))]∧{ h with aq:=fU [0,1,12,13] h.aq } = { ah.empty with aq:=[] }) ?_ (k0:=0) cO ⟨rfl,rfl⟩
 rintro k5 e h hkk5 ⟨he,hh⟩
 refine gm he hh ?_
 clear he hh
 refine aa ?_
 refine gl ((k5:Int)) ((a0.l.length:Int)) (fun h6=>?_) (fun h6=>?_)
 refine bL ?_
 refine a6 ?_
 have hx7:k5<a0.l.length:=by omega
 refine lO k5 a0 hx7 ?_
 generalize hqx8:a0.l[k5]=x8
 iterate 3 refine rV ?_
 have hx9:k5<a0.l.length:=by omega
 refine lO k5 a0 hx9 ?_
 rw [hqx8]
 refine rV ?_
 refine ga rfl rfl (fun _=>qC rfl rfl rfl rfl (oa rfl)) ?_
 refine bH ?_
 refine qg ?_
 refine gy ((k5:Int)) (1) ?_
 refine ab ?_
 exact ⟨by omega,rfl,rfl⟩
 refine aN ?_
 refine xA (.bool true) ⟨trivial,rfl⟩
theorem Qm:FT 198=some DJ:=by kernel_rfl
theorem L1:aT 198=none:=by kernel_rfl
def abC (_a0:fP) (v:AV):Prop:=((True)∧v=.bool true)
theorem t198 (a0:fP)  (h:ah):∃ v,fj cfg FT aT false 198 [.agg (fP.cells a0),.agg (fP.cells a0)] h v h∧abC a0 v:=by
 refine fS L1 Qm rfl rfl ?_
 refine bJ ?_
 refine be ?_
 refine gA (a0.from_) (a0.from_) (fun h1=>?_) (fun h1=>?_)
 iterate 5 refine oV ?_
 refine gA (a0.to) (a0.to) (fun h2=>?_) (fun h2=>?_)
 iterate 6 refine oV ?_
 refine gA (a0.end_) (a0.end_) (fun h3=>?_) (fun h3=>?_)
 iterate 6 refine oV ?_
 refine oC (t242 a0.steps) ?_
 rintro _ (⟨hc4,rfl⟩)
 iterate 6 refine oV ?_
 refine oC (t243 a0.jJ) ?_
 rintro _ (⟨hc5,rfl⟩)
 iterate 6 refine oV ?_
 refine oC (t243 a0.guards) ?_
 rintro _ (⟨hc6,rfl⟩)
 iterate 6 refine oV ?_
 refine oC (t241 a0.nT) ?_
 rintro _ (⟨hc7,rfl⟩)
 iterate 6 refine oV ?_
 refine oC (t241 a0.holds) ?_
 rintro _ (⟨hc8,rfl⟩)
 iterate 3 refine oV ?_
 refine ik (b:=a0.bare) rfl (fun _=>rfl) (fun h9=>?_) (fun h9=>?_)
 refine oV ?_
 refine ik (b:=a0.bare) rfl (fun _=>rfl) (fun h10=>?_) (fun h10=>?_)
 refine bk ?_
 refine xA (.bool true) ⟨trivial,rfl⟩
 refine bk ?_
 exact False.elim c8
 refine oV ?_
 refine ik (b:=a0.bare) rfl (fun _=>rfl) (fun h11=>?_) (fun h11=>?_)
 refine bk ?_
 exact False.elim c8
 refine bk ?_
 refine xA (.bool true) ⟨trivial,rfl⟩
 refine ao ?_
 refine ao ?_
 refine aS ?_
 exact False.elim c8
 refine cB ?_
 refine ao ?_
 refine ao ?_
 refine aS ?_
 exact False.elim c8
 refine bi ?_
 refine cB ?_
 refine ao ?_
 refine ao ?_
 refine aS ?_
 exact False.elim c8
theorem PQ:FT 197=some DX:=by kernel_rfl
theorem LO:aT 197=none:=by kernel_rfl
theorem IK {H:ah} (l:Row fP) (F:List gH) (hS:Sep H (F)) :∃ v H',fj cfg FT aT true 197 [Row.av fP.cells l,Row.av fP.cells l,.gL 198 [] []] { H with aq:=[] } v H'∧((True)∧Sep H' (F)∧v=.bool true):=by
 refine gB LO PQ rfl ?_
 refine aY ?_
 have hL1:=l.lk
 refine gG l ?_
 refine oV ?_
 have hL2:=l.lk
 refine gG l ?_
 refine iJ ((l.l.length:Int)) ((l.l.length:Int)) (fun h3=>?_) (fun h3=>?_)
 refine aZ ?_
 exact False.elim c8
 refine cz ?_
 have hL4:=l.lk
 refine gG l ?_
 refine aC ?_
 have hNk5:=l.lk
 refine fC (l.l.length) (fun k5 e h=>proj [1,2,15,16,17] e=[(1,Row.av fP.cells l),(2,.gL 198 [] []),(15,Row.av fP.cells l),(16,iv (l.l.length:Int)),(17,iv (k5:Int))]∧{ h with aq:=fU [1,2,15,16,17] h.aq } = { H with aq:=[] }) ?_ (k0:=0) cO ⟨rfl,rfl⟩
 rintro k5 e h hkk5 ⟨he,hh⟩
 refine gm he hh ?_
 clear he hh
 refine aa ?_
 refine gl ((k5:Int)) ((l.l.length:Int)) (fun h6=>?_) (fun h6=>?_)
 refine bU ?_
 have hx7:k5<l.l.length:=by omega
 refine iU k5 l hx7 ?_
 generalize hqx8:l.l[k5]=x8
 refine bM ?_
 refine ae ?_
 have hx9:k5<l.l.length:=by omega
 refine iU k5 l hx9 ?_
 rw [hqx8]
 refine aX ?_
 refine aB ?_
 refine oC (t198 x8) ?_
 rintro _ (⟨hc11,rfl⟩)
 refine bW ?_
 refine gy ((k5:Int)) (1) ?_
 refine ab ?_
 exact ⟨by omega,rfl,rfl⟩
 refine aN ?_
 have hS12:=Sep.pick hS [] 0 cK cK
 exact ⟨.bool true,rfl,trivial,Sep.aq hS12 _,rfl⟩
theorem Q6:FT 162=some CW:=by kernel_rfl
theorem Lp:aT 162=none:=by kernel_rfl
def aa9 (_a0:gb) (v:AV):Prop:=((True)∧v=.bool true)
theorem t162 (a0:gb)  (h:ah):∃ v,fj cfg FT aT false 162 [.agg (gb.cells a0),.agg (gb.cells a0)] h v h∧aa9 a0 v:=by
 refine fS Lp Q6 rfl rfl ?_
 refine bJ ?_
 refine be ?_
 refine oC (t196 a0.fo) ?_
 rintro _ (⟨hc1,rfl⟩)
 iterate 5 refine oV ?_
 refine gC (H:=ah.empty) (args:=[Row.av fP.cells a0.roads,Row.av fP.cells a0.roads,.gL 198 [] []]) (p:=[]) (r:=[]) rfl rfl rfl rfl rfl rfl rfl (IK a0.roads ([]) gI) ?_
 rintro _ H3 ⟨hc5,hS4,rfl⟩
 refine aS ?_
 refine xA (.bool true) ⟨trivial,rfl⟩
theorem QP:FT 163=some Dy:=by kernel_rfl
theorem Nc:aT 163=none:=by kernel_rfl
def YV (_a0:Int) (v:AV):Prop:=(∃ k:Int,(True)∧v=jX k)
theorem t163 (a0:Int)  (h:ah):∃ v,fj cfg FT aT false 163 [iv a0] h v h∧YV a0 v:=by
 refine fS Nc QP rfl rfl ?_
 refine aU ?_
 refine aB ?_
 refine gd (H:=ah.empty) rfl (iH gI) ?_
 rintro _ H2 ⟨b1,rfl,hS3⟩
 refine gd (H:=H2) rfl (iH hS3) ?_
 rintro _ H5 ⟨b4,rfl,hS6⟩
 refine gd (H:=H5) rfl (iH hS6) ?_
 rintro _ H8 ⟨b7,rfl,hS9⟩
 refine gd (H:=H8) rfl (iH hS9) ?_
 rintro _ H11 ⟨b10,rfl,hS12⟩
 refine oV ?_
 refine gd (H:=H11) rfl (iz (cs:=[iv ((if (if 40<a0 then 40 else a0) > 0 then (if 40<a0 then 40 else a0) else 0)),(.hm b1),(.hm b4),(.hm b7),(.hm b10)]) hS12 rfl rfl rfl rfl rfl) ?_
 rintro _ H14 ⟨b13,rfl,hS15⟩
 refine af ?_
 have hz16:∀ ls m,freeze false { H14 with aq:=ls } (m+3) (.hm b1)=some (.fm (gn iK pK []) false):=fun ls m=>lS (i:=4) hS15 rfl _ _ (fun _ hx=>by cases hx)
 have hz17:∀ ls m,freeze false { H14 with aq:=ls } (m+3) (.hm b4)=some (.fm (gn iK pK []) false):=fun ls m=>lS (i:=3) hS15 rfl _ _ (fun _ hx=>by cases hx)
 have hz18:∀ ls m,freeze false { H14 with aq:=ls } (m+3) (.hm b7)=some (.fm (gn iK pK []) false):=fun ls m=>lS (i:=2) hS15 rfl _ _ (fun _ hx=>by cases hx)
 have hz19:∀ ls m,freeze false { H14 with aq:=ls } (m+3) (.hm b10)=some (.fm (gn iK pK []) false):=fun ls m=>lS (i:=1) hS15 rfl _ _ (fun _ hx=>by cases hx)
 have hz20:∀ ls m,freeze false { H14 with aq:=ls } (m+4) (.ptr b13 0 0 0)=some (.ip [iv ((if (if 40<a0 then 40 else a0) > 0 then (if 40<a0 then 40 else a0) else 0)),.fm (gn iK pK []) false,.fm (gn iK pK []) false,.fm (gn iK pK []) false,.fm (gn iK pK []) false] 0 false):=fun ls m=>iS (i:=0) hS15 rfl _ _ (by simp only [FZ,hz16,hz17,hz18,hz19])
 have hff21:freeze false { H14 with aq:=[] } 8 (.ptr b13 0 0 0)=some (.ip [iv ((if (if 40<a0 then 40 else a0) > 0 then (if 40<a0 then 40 else a0) else 0)),.fm (gn iK pK []) false,.fm (gn iK pK []) false,.fm (gn iK pK []) false,.fm (gn iK pK []) false] 0 false):=by simp only [FZ,hz16,hz17,hz18,hz19,hz20]
 refine ⟨(.ptr b13 0 0 0),rfl,.ip [iv ((if (if 40<a0 then 40 else a0) > 0 then (if 40<a0 then 40 else a0) else 0)),.fm (gn iK pK []) false,.fm (gn iK pK []) false,.fm (gn iK pK []) false,.fm (gn iK pK []) false] 0 false,hff21,⟨(((if (if 40<a0 then 40 else a0) > 0 then (if 40<a0 then 40 else a0) else 0))),trivial,rfl⟩⟩
theorem RQ:FT 164=some Dp:=by kernel_rfl
theorem ME:aT 164=none:=by kernel_rfl
def aaZ (_a0:fk) (v:AV):Prop:=(∃ n0:fk,(n0 = _a0)∧v=jW n0)
theorem t164 (a0:fk)  (h:ah):∃ v,fj cfg FT aT false 164 [.ip (fk.cells a0) 0 false] h v h∧aaZ a0 v:=by
 refine fS ME RQ rfl rfl ?_
 refine aa ?_
 refine bP ?_
 refine gd (H:=ah.empty) rfl (iH gI) ?_
 rintro _ H2 ⟨b1,rfl,hS3⟩
 refine oV ?_
 refine gd (H:=H2) rfl (iz (cs:=[.ip (fk.cells a0) 0 false,(.hm b1)]) hS3 rfl rfl rfl rfl rfl) ?_
 rintro _ H5 ⟨b4,rfl,hS6⟩
 refine af ?_
 have hz7:∀ ls m,freeze false { H5 with aq:=ls } (m+3) (.hm b1)=some (.fm (gn pK bK []) false):=fun ls m=>lS (i:=1) hS6 rfl _ _ (fun _ hx=>by cases hx)
 have hz8:∀ ls m,freeze false { H5 with aq:=ls } (m+4) (.ptr b4 0 0 0)=some (jW a0):=fun ls m=>iS (i:=0) hS6 rfl _ _ (by simp only [FZ,hz7])
 have hff9:freeze false { H5 with aq:=[] } 8 (.ptr b4 0 0 0)=some (jW a0):=by simp only [FZ,hz7,hz8]
 refine ⟨(.ptr b4 0 0 0),rfl,jW a0,hff9,⟨a0,eR,rfl⟩⟩
theorem XG:FT 87=some Gp:=by kernel_rfl
theorem O3:aT 87=none:=by kernel_rfl
def Zu (_a0:gb) (v:AV):Prop:=(∃ c:gb,∃ lv:Row fZ,∃ ke:Int,∃ nn:fk,∃ sp:Row Int,(c = _a0∧lv.l.length = _a0.roads.l.length∧sp.l.length≤60∧∀ x∈lv.l,x.seen.l.length≤1000)∧v=.fz [kK c lv ke nn sp,iv 0])
theorem Zh (a0:gb) (q1:jb a0.fo) (q2:rs 13 [.agg (fh.cells a0.fo)]=.fz [.agg (gb.cells a0),iv 0]) (q3:∃ nx:fk,mW nx a0.fo∧rs 24 [.agg (fh.cells a0.fo)]=.fz [.ip (fk.cells nx) 0 false,iv 0]) (q4:a0.roads.l.length≤64) (h:ah):∃ v,fj cfg FT aT false 87 [.agg (gb.cells a0)] h v h∧Zu a0 v:=by
 refine fS O3 XG rfl rfl ?_
 obtain ⟨nx,hnk,hnx⟩:=q3; have hFw:=hnk.yA; have hFs:=hnk.yA.signals
 refine bJ ?_
 refine ae ?_
 refine oC (acw a0.fo cG q2) ?_
 rintro _ rfl
 refine cy ?_
 refine bA ?_
 refine aW ?_
 refine oC (t162 a0) ?_
 rintro _ (⟨hc2,rfl⟩)
 refine oV ?_
 refine bE ?_
 refine oC (Ew a0.fo cG hnx) ?_
 rintro _ rfl
 refine bj ?_
 refine ay ?_
 refine bV ?_
 have hL4:=a0.roads.lk
 refine yG a0.roads ?_
 refine gS (H:=ah.empty) rfl rfl (tn (m:=a0.roads.l.length) gI rfl rfl rfl rfl rfl cL cK) ?_
 rintro v5 H6 hS7
 have hS9:=Sep.Dl (enc:=fZ.cells) (z:=(⟨(0),(0),false,(⟨[],.nil,Nat.zero_le _,rfl,fun _=>rfl⟩:Row Bool)⟩:fZ)) hS7 rfl
 refine rV ?_
 refine rC (t111 nx) ?_
 rintro _ ⟨r11,hc10,rfl⟩
 iterate 2 refine rV ?_
 refine rC (t163 (r11)) ?_
 rintro _ (⟨r13,hc12,rfl⟩)
 refine rC (t164 nx) ?_
 rintro _ (⟨r15,hc14,rfl⟩)
 refine rC (t73 nx) ?_
 rintro _ ⟨r17,hc16,rfl⟩
 have hC91:=hc16
 have hk18:(((r17).toNat:Nat):Int)=r17:=Int.toNat_of_nonneg cL
 have hk19:(((r17).toNat:Nat):Int)=r17:=Int.toNat_of_nonneg cL
 refine gS (H:=H6) rfl rfl (tn (m:=(r17).toNat) hS9 rfl (congrArg (AV.int .i64) hk18.symm) (congrArg (AV.int .i64) hk19.symm) rfl rfl cL cK) ?_
 rintro v20 H21 hS22
 have hS24:=Sep.Dl (enc:=fu) (z:=(0)) hS22 rfl
 rcases Sep.vD (i:=1) hS24 rfl with ⟨rfl,hx27⟩ | ⟨rfl,hx27⟩ | ⟨b25,g26,rfl⟩
 rcases Sep.vD (i:=0) hS24 rfl with ⟨rfl,hx30⟩ | ⟨rfl,hx30⟩ | ⟨b28,g29,rfl⟩
 refine rV ?_
 refine gS (H:=H21) rfl rfl (iz (cs:=[Row.av gf.cells a0.fo.elems,Row.av gj.cells a0.fo.fQ,Row.av gg.cells a0.fo.signals,Row.av fY.cells a0.fo.lines,iv a0.fo.top,iv a0.fo.gE,iv a0.fo.gv,iv a0.fo.gz,.bool a0.fo.gO,Row.av fP.cells a0.roads,(.sl [] .nil),jX r13,jW r15,(.sl [] .nil)]) hS24 rfl rfl rfl rfl rfl) ?_
 rintro _ H32 ⟨b31,rfl,hS33⟩
 refine aJ ?_
 have hz34:∀ ls m,freeze false { H32 with aq:=ls } (m+4) (.ptr b31 0 0 0)=some (.ip [Row.av gf.cells a0.fo.elems,Row.av gj.cells a0.fo.fQ,Row.av gg.cells a0.fo.signals,Row.av fY.cells a0.fo.lines,iv a0.fo.top,iv a0.fo.gE,iv a0.fo.gv,iv a0.fo.gz,.bool a0.fo.gO,Row.av fP.cells a0.roads,(.sl [] .nil),jX r13,jW r15,(.sl [] .nil)] 0 false):=fun ls m=>iS (i:=0) hS33 rfl _ _ dN
 have hff35:freeze false { H32 with aq:=[(4,(gb.cells a0))] } 8 (.fz [(.ptr b31 0 0 0),iv 0])=some (.fz [.ip [Row.av gf.cells a0.fo.elems,Row.av gj.cells a0.fo.fQ,Row.av gg.cells a0.fo.signals,Row.av fY.cells a0.fo.lines,iv a0.fo.top,iv a0.fo.gE,iv a0.fo.gv,iv a0.fo.gz,.bool a0.fo.gO,Row.av fP.cells a0.roads,(.sl [] .nil),jX r13,jW r15,(.sl [] .nil)] 0 false,iv 0]):=by simp only [FZ,hz34]
 refine ⟨.fz [(.ptr b31 0 0 0),iv 0],rfl,.fz [.ip [Row.av gf.cells a0.fo.elems,Row.av gj.cells a0.fo.fQ,Row.av gg.cells a0.fo.signals,Row.av fY.cells a0.fo.lines,iv a0.fo.top,iv a0.fo.gE,iv a0.fo.gv,iv a0.fo.gz,.bool a0.fo.gO,Row.av fP.cells a0.roads,(.sl [] .nil),jX r13,jW r15,(.sl [] .nil)] 0 false,iv 0],hff35,⟨a0,(⟨[],.nil,Nat.zero_le _,rfl,fun _=>rfl⟩:Row fZ),(r13),r15,(⟨[],.nil,Nat.zero_le _,rfl,fun _=>rfl⟩:Row Int),c7,rfl⟩⟩
 refine rV ?_
 refine gS (H:=H21) rfl rfl (iz (cs:=[Row.av gf.cells a0.fo.elems,Row.av gj.cells a0.fo.fQ,Row.av gg.cells a0.fo.signals,Row.av fY.cells a0.fo.lines,iv a0.fo.top,iv a0.fo.gE,iv a0.fo.gv,iv a0.fo.gz,.bool a0.fo.gO,Row.av fP.cells a0.roads,(.sl [] .nil),jX r13,jW r15,(.sl [] (.exact 0))]) hS24 rfl rfl rfl rfl rfl) ?_
 rintro _ H37 ⟨b36,rfl,hS38⟩
 refine aJ ?_
 have hz39:∀ ls m,freeze false { H37 with aq:=ls } (m+4) (.ptr b36 0 0 0)=some (.ip [Row.av gf.cells a0.fo.elems,Row.av gj.cells a0.fo.fQ,Row.av gg.cells a0.fo.signals,Row.av fY.cells a0.fo.lines,iv a0.fo.top,iv a0.fo.gE,iv a0.fo.gv,iv a0.fo.gz,.bool a0.fo.gO,Row.av fP.cells a0.roads,(.sl [] .nil),jX r13,jW r15,.sl [] (.exact 0)] 0 false):=fun ls m=>iS (i:=0) hS38 rfl _ _ dN
 have hff40:freeze false { H37 with aq:=[(4,(gb.cells a0))] } 8 (.fz [(.ptr b36 0 0 0),iv 0])=some (.fz [.ip [Row.av gf.cells a0.fo.elems,Row.av gj.cells a0.fo.fQ,Row.av gg.cells a0.fo.signals,Row.av fY.cells a0.fo.lines,iv a0.fo.top,iv a0.fo.gE,iv a0.fo.gv,iv a0.fo.gz,.bool a0.fo.gO,Row.av fP.cells a0.roads,(.sl [] .nil),jX r13,jW r15,.sl [] (.exact 0)] 0 false,iv 0]):=by simp only [FZ,hz39]
 refine ⟨.fz [(.ptr b36 0 0 0),iv 0],rfl,.fz [.ip [Row.av gf.cells a0.fo.elems,Row.av gj.cells a0.fo.fQ,Row.av gg.cells a0.fo.signals,Row.av fY.cells a0.fo.lines,iv a0.fo.top,iv a0.fo.gE,iv a0.fo.gv,iv a0.fo.gz,.bool a0.fo.gO,Row.av fP.cells a0.roads,(.sl [] .nil),jX r13,jW r15,.sl [] (.exact 0)] 0 false,iv 0],hff40,⟨a0,(⟨[],.nil,Nat.zero_le _,rfl,fun _=>rfl⟩:Row fZ),(r13),r15,(⟨[],.exact 0,Nat.le_of_ble_eq_true rfl,rfl,gU⟩:Row Int),c7,rfl⟩⟩
 refine rV ?_
 refine gS (H:=H21) rfl rfl (iz (cs:=[Row.av gf.cells a0.fo.elems,Row.av gj.cells a0.fo.fQ,Row.av gg.cells a0.fo.signals,Row.av fY.cells a0.fo.lines,iv a0.fo.top,iv a0.fo.gE,iv a0.fo.gv,iv a0.fo.gz,.bool a0.fo.gO,Row.av fP.cells a0.roads,(.sl [] .nil),jX r13,jW r15,(.hs b28 g29 0 (List.map fu ((List.replicate ((r17).toNat) (0)))).length)]) hS24 rfl rfl rfl rfl rfl) ?_
 rintro _ H42 ⟨b41,rfl,hS43⟩
 refine aJ ?_
 obtain ⟨r44,hl45,hf46⟩:=gZ (H:=H42) (i:=1) (l:=(List.replicate ((r17).toNat) (0))) (enc:=fu) hS43 rfl cH
 have hlq:=hl45; have hln48:=congrArg List.length hl45
 have hz47:∀ ls m,freeze false { H42 with aq:=ls } (m+2) ((.hs b28 g29 0 (List.map fu ((List.replicate ((r17).toNat) (0)))).length))=some (Row.av fu r44):=fun ls m=>hf46 _ _ (fun _=>rfl)
 have hz49:∀ ls m,freeze false { H42 with aq:=ls } (m+4) (.ptr b41 0 0 0)=some (.ip [Row.av gf.cells a0.fo.elems,Row.av gj.cells a0.fo.fQ,Row.av gg.cells a0.fo.signals,Row.av fY.cells a0.fo.lines,iv a0.fo.top,iv a0.fo.gE,iv a0.fo.gv,iv a0.fo.gz,.bool a0.fo.gO,Row.av fP.cells a0.roads,(.sl [] .nil),jX r13,jW r15,Row.av fu r44] 0 false):=fun ls m=>iS (i:=0) hS43 rfl _ _ (by simp only [FZ,hz47])
 have hff50:freeze false { H42 with aq:=[(4,(gb.cells a0))] } 8 (.fz [(.ptr b41 0 0 0),iv 0])=some (.fz [.ip [Row.av gf.cells a0.fo.elems,Row.av gj.cells a0.fo.fQ,Row.av gg.cells a0.fo.signals,Row.av fY.cells a0.fo.lines,iv a0.fo.top,iv a0.fo.gE,iv a0.fo.gv,iv a0.fo.gz,.bool a0.fo.gO,Row.av fP.cells a0.roads,(.sl [] .nil),jX r13,jW r15,Row.av fu r44] 0 false,iv 0]):=by simp only [FZ,hz47,hz49]
 refine ⟨.fz [(.ptr b41 0 0 0),iv 0],rfl,.fz [.ip [Row.av gf.cells a0.fo.elems,Row.av gj.cells a0.fo.fQ,Row.av gg.cells a0.fo.signals,Row.av fY.cells a0.fo.lines,iv a0.fo.top,iv a0.fo.gE,iv a0.fo.gv,iv a0.fo.gz,.bool a0.fo.gO,Row.av fP.cells a0.roads,(.sl [] .nil),jX r13,jW r15,Row.av fu r44] 0 false,iv 0],hff50,⟨a0,(⟨[],.nil,Nat.zero_le _,rfl,fun _=>rfl⟩:Row fZ),(r13),r15,r44,c7,rfl⟩⟩
 rcases Sep.vD (i:=0) hS24 rfl with ⟨rfl,hx53⟩ | ⟨rfl,hx53⟩ | ⟨b51,g52,rfl⟩
 refine rV ?_
 refine gS (H:=H21) rfl rfl (iz (cs:=[Row.av gf.cells a0.fo.elems,Row.av gj.cells a0.fo.fQ,Row.av gg.cells a0.fo.signals,Row.av fY.cells a0.fo.lines,iv a0.fo.top,iv a0.fo.gE,iv a0.fo.gv,iv a0.fo.gz,.bool a0.fo.gO,Row.av fP.cells a0.roads,(.sl [] (.exact 0)),jX r13,jW r15,(.sl [] .nil)]) hS24 rfl rfl rfl rfl rfl) ?_
 rintro _ H55 ⟨b54,rfl,hS56⟩
 refine aJ ?_
 have hz57:∀ ls m,freeze false { H55 with aq:=ls } (m+4) (.ptr b54 0 0 0)=some (.ip [Row.av gf.cells a0.fo.elems,Row.av gj.cells a0.fo.fQ,Row.av gg.cells a0.fo.signals,Row.av fY.cells a0.fo.lines,iv a0.fo.top,iv a0.fo.gE,iv a0.fo.gv,iv a0.fo.gz,.bool a0.fo.gO,Row.av fP.cells a0.roads,.sl [] (.exact 0),jX r13,jW r15,(.sl [] .nil)] 0 false):=fun ls m=>iS (i:=0) hS56 rfl _ _ dN
 have hff58:freeze false { H55 with aq:=[(4,(gb.cells a0))] } 8 (.fz [(.ptr b54 0 0 0),iv 0])=some (.fz [.ip [Row.av gf.cells a0.fo.elems,Row.av gj.cells a0.fo.fQ,Row.av gg.cells a0.fo.signals,Row.av fY.cells a0.fo.lines,iv a0.fo.top,iv a0.fo.gE,iv a0.fo.gv,iv a0.fo.gz,.bool a0.fo.gO,Row.av fP.cells a0.roads,.sl [] (.exact 0),jX r13,jW r15,(.sl [] .nil)] 0 false,iv 0]):=by simp only [FZ,hz57]
 refine ⟨.fz [(.ptr b54 0 0 0),iv 0],rfl,.fz [.ip [Row.av gf.cells a0.fo.elems,Row.av gj.cells a0.fo.fQ,Row.av gg.cells a0.fo.signals,Row.av fY.cells a0.fo.lines,iv a0.fo.top,iv a0.fo.gE,iv a0.fo.gv,iv a0.fo.gz,.bool a0.fo.gO,Row.av fP.cells a0.roads,.sl [] (.exact 0),jX r13,jW r15,(.sl [] .nil)] 0 false,iv 0],hff58,⟨a0,(⟨[],.exact 0,Nat.le_of_ble_eq_true rfl,rfl,gU⟩:Row fZ),(r13),r15,(⟨[],.nil,Nat.zero_le _,rfl,fun _=>rfl⟩:Row Int),c7,rfl⟩⟩
 refine rV ?_
 refine gS (H:=H21) rfl rfl (iz (cs:=[Row.av gf.cells a0.fo.elems,Row.av gj.cells a0.fo.fQ,Row.av gg.cells a0.fo.signals,Row.av fY.cells a0.fo.lines,iv a0.fo.top,iv a0.fo.gE,iv a0.fo.gv,iv a0.fo.gz,.bool a0.fo.gO,Row.av fP.cells a0.roads,(.sl [] (.exact 0)),jX r13,jW r15,(.sl [] (.exact 0))]) hS24 rfl rfl rfl rfl rfl) ?_
 rintro _ H60 ⟨b59,rfl,hS61⟩
 refine aJ ?_
 have hz62:∀ ls m,freeze false { H60 with aq:=ls } (m+4) (.ptr b59 0 0 0)=some (.ip [Row.av gf.cells a0.fo.elems,Row.av gj.cells a0.fo.fQ,Row.av gg.cells a0.fo.signals,Row.av fY.cells a0.fo.lines,iv a0.fo.top,iv a0.fo.gE,iv a0.fo.gv,iv a0.fo.gz,.bool a0.fo.gO,Row.av fP.cells a0.roads,.sl [] (.exact 0),jX r13,jW r15,.sl [] (.exact 0)] 0 false):=fun ls m=>iS (i:=0) hS61 rfl _ _ dN
 have hff63:freeze false { H60 with aq:=[(4,(gb.cells a0))] } 8 (.fz [(.ptr b59 0 0 0),iv 0])=some (.fz [.ip [Row.av gf.cells a0.fo.elems,Row.av gj.cells a0.fo.fQ,Row.av gg.cells a0.fo.signals,Row.av fY.cells a0.fo.lines,iv a0.fo.top,iv a0.fo.gE,iv a0.fo.gv,iv a0.fo.gz,.bool a0.fo.gO,Row.av fP.cells a0.roads,.sl [] (.exact 0),jX r13,jW r15,.sl [] (.exact 0)] 0 false,iv 0]):=by simp only [FZ,hz62]
 refine ⟨.fz [(.ptr b59 0 0 0),iv 0],rfl,.fz [.ip [Row.av gf.cells a0.fo.elems,Row.av gj.cells a0.fo.fQ,Row.av gg.cells a0.fo.signals,Row.av fY.cells a0.fo.lines,iv a0.fo.top,iv a0.fo.gE,iv a0.fo.gv,iv a0.fo.gz,.bool a0.fo.gO,Row.av fP.cells a0.roads,.sl [] (.exact 0),jX r13,jW r15,.sl [] (.exact 0)] 0 false,iv 0],hff63,⟨a0,(⟨[],.exact 0,Nat.le_of_ble_eq_true rfl,rfl,gU⟩:Row fZ),(r13),r15,(⟨[],.exact 0,Nat.le_of_ble_eq_true rfl,rfl,gU⟩:Row Int),c7,rfl⟩⟩
 refine rV ?_
 refine gS (H:=H21) rfl rfl (iz (cs:=[Row.av gf.cells a0.fo.elems,Row.av gj.cells a0.fo.fQ,Row.av gg.cells a0.fo.signals,Row.av fY.cells a0.fo.lines,iv a0.fo.top,iv a0.fo.gE,iv a0.fo.gv,iv a0.fo.gz,.bool a0.fo.gO,Row.av fP.cells a0.roads,(.sl [] (.exact 0)),jX r13,jW r15,(.hs b51 g52 0 (List.map fu ((List.replicate ((r17).toNat) (0)))).length)]) hS24 rfl rfl rfl rfl rfl) ?_
 rintro _ H65 ⟨b64,rfl,hS66⟩
 refine aJ ?_
 obtain ⟨r67,hl68,hf69⟩:=gZ (H:=H65) (i:=1) (l:=(List.replicate ((r17).toNat) (0))) (enc:=fu) hS66 rfl cH
 have hlq:=hl68; have hln71:=congrArg List.length hl68
 have hz70:∀ ls m,freeze false { H65 with aq:=ls } (m+2) ((.hs b51 g52 0 (List.map fu ((List.replicate ((r17).toNat) (0)))).length))=some (Row.av fu r67):=fun ls m=>hf69 _ _ (fun _=>rfl)
 have hz72:∀ ls m,freeze false { H65 with aq:=ls } (m+4) (.ptr b64 0 0 0)=some (.ip [Row.av gf.cells a0.fo.elems,Row.av gj.cells a0.fo.fQ,Row.av gg.cells a0.fo.signals,Row.av fY.cells a0.fo.lines,iv a0.fo.top,iv a0.fo.gE,iv a0.fo.gv,iv a0.fo.gz,.bool a0.fo.gO,Row.av fP.cells a0.roads,.sl [] (.exact 0),jX r13,jW r15,Row.av fu r67] 0 false):=fun ls m=>iS (i:=0) hS66 rfl _ _ (by simp only [FZ,hz70])
 have hff73:freeze false { H65 with aq:=[(4,(gb.cells a0))] } 8 (.fz [(.ptr b64 0 0 0),iv 0])=some (.fz [.ip [Row.av gf.cells a0.fo.elems,Row.av gj.cells a0.fo.fQ,Row.av gg.cells a0.fo.signals,Row.av fY.cells a0.fo.lines,iv a0.fo.top,iv a0.fo.gE,iv a0.fo.gv,iv a0.fo.gz,.bool a0.fo.gO,Row.av fP.cells a0.roads,.sl [] (.exact 0),jX r13,jW r15,Row.av fu r67] 0 false,iv 0]):=by simp only [FZ,hz70,hz72]
 refine ⟨.fz [(.ptr b64 0 0 0),iv 0],rfl,.fz [.ip [Row.av gf.cells a0.fo.elems,Row.av gj.cells a0.fo.fQ,Row.av gg.cells a0.fo.signals,Row.av fY.cells a0.fo.lines,iv a0.fo.top,iv a0.fo.gE,iv a0.fo.gv,iv a0.fo.gz,.bool a0.fo.gO,Row.av fP.cells a0.roads,.sl [] (.exact 0),jX r13,jW r15,Row.av fu r67] 0 false,iv 0],hff73,⟨a0,(⟨[],.exact 0,Nat.le_of_ble_eq_true rfl,rfl,gU⟩:Row fZ),(r13),r15,r67,c7,rfl⟩⟩
 rcases Sep.vD (i:=0) hS24 rfl with ⟨rfl,hx76⟩ | ⟨rfl,hx76⟩ | ⟨b74,g75,rfl⟩
 refine rV ?_
 refine gS (H:=H21) rfl rfl (iz (cs:=[Row.av gf.cells a0.fo.elems,Row.av gj.cells a0.fo.fQ,Row.av gg.cells a0.fo.signals,Row.av fY.cells a0.fo.lines,iv a0.fo.top,iv a0.fo.gE,iv a0.fo.gv,iv a0.fo.gz,.bool a0.fo.gO,Row.av fP.cells a0.roads,(.hs b25 g26 0 (List.map fZ.cells ((List.replicate a0.roads.l.length (⟨(0),(0),false,(⟨[],.nil,Nat.zero_le _,rfl,fun _=>rfl⟩:Row Bool)⟩:fZ)))).length),jX r13,jW r15,(.sl [] .nil)]) hS24 rfl rfl rfl rfl rfl) ?_
 rintro _ H78 ⟨b77,rfl,hS79⟩
 refine aJ ?_
 obtain ⟨r80,hl81,hf82⟩:=gZ (H:=H78) (i:=2) (l:=(List.replicate a0.roads.l.length (⟨(0),(0),false,(⟨[],.nil,Nat.zero_le _,rfl,fun _=>rfl⟩:Row Bool)⟩:fZ))) (enc:=fZ.cells) hS79 rfl cH
 have hlq:=hl81; have hln84:=congrArg List.length hl81
 have hz83:∀ ls m,freeze false { H78 with aq:=ls } (m+2) ((.hs b25 g26 0 (List.map fZ.cells ((List.replicate a0.roads.l.length (⟨(0),(0),false,(⟨[],.nil,Nat.zero_le _,rfl,fun _=>rfl⟩:Row Bool)⟩:fZ)))).length))=some (Row.av fZ.cells r80):=fun ls m=>hf82 _ _ (fun _=>by simp only [fZ.cells,gr,jC,ju,jK,jH,j1])
 have hz85:∀ ls m,freeze false { H78 with aq:=ls } (m+4) (.ptr b77 0 0 0)=some (.ip [Row.av gf.cells a0.fo.elems,Row.av gj.cells a0.fo.fQ,Row.av gg.cells a0.fo.signals,Row.av fY.cells a0.fo.lines,iv a0.fo.top,iv a0.fo.gE,iv a0.fo.gv,iv a0.fo.gz,.bool a0.fo.gO,Row.av fP.cells a0.roads,Row.av fZ.cells r80,jX r13,jW r15,(.sl [] .nil)] 0 false):=fun ls m=>iS (i:=0) hS79 rfl _ _ (by simp only [FZ,hz83])
 have hff86:freeze false { H78 with aq:=[(4,(gb.cells a0))] } 8 (.fz [(.ptr b77 0 0 0),iv 0])=some (.fz [.ip [Row.av gf.cells a0.fo.elems,Row.av gj.cells a0.fo.fQ,Row.av gg.cells a0.fo.signals,Row.av fY.cells a0.fo.lines,iv a0.fo.top,iv a0.fo.gE,iv a0.fo.gv,iv a0.fo.gz,.bool a0.fo.gO,Row.av fP.cells a0.roads,Row.av fZ.cells r80,jX r13,jW r15,(.sl [] .nil)] 0 false,iv 0]):=by simp only [FZ,hz83,hz85]
 refine ⟨.fz [(.ptr b77 0 0 0),iv 0],rfl,.fz [.ip [Row.av gf.cells a0.fo.elems,Row.av gj.cells a0.fo.fQ,Row.av gg.cells a0.fo.signals,Row.av fY.cells a0.fo.lines,iv a0.fo.top,iv a0.fo.gE,iv a0.fo.gv,iv a0.fo.gz,.bool a0.fo.gO,Row.av fP.cells a0.roads,Row.av fZ.cells r80,jX r13,jW r15,(.sl [] .nil)] 0 false,iv 0],hff86,⟨a0,r80,(r13),r15,(⟨[],.nil,Nat.zero_le _,rfl,fun _=>rfl⟩:Row Int),c7,rfl⟩⟩
 refine rV ?_
 refine gS (H:=H21) rfl rfl (iz (cs:=[Row.av gf.cells a0.fo.elems,Row.av gj.cells a0.fo.fQ,Row.av gg.cells a0.fo.signals,Row.av fY.cells a0.fo.lines,iv a0.fo.top,iv a0.fo.gE,iv a0.fo.gv,iv a0.fo.gz,.bool a0.fo.gO,Row.av fP.cells a0.roads,(.hs b25 g26 0 (List.map fZ.cells ((List.replicate a0.roads.l.length (⟨(0),(0),false,(⟨[],.nil,Nat.zero_le _,rfl,fun _=>rfl⟩:Row Bool)⟩:fZ)))).length),jX r13,jW r15,(.sl [] (.exact 0))]) hS24 rfl rfl rfl rfl rfl) ?_
 rintro _ H88 ⟨b87,rfl,hS89⟩
 refine aJ ?_
 obtain ⟨r90,hl91,hf92⟩:=gZ (H:=H88) (i:=2) (l:=(List.replicate a0.roads.l.length (⟨(0),(0),false,(⟨[],.nil,Nat.zero_le _,rfl,fun _=>rfl⟩:Row Bool)⟩:fZ))) (enc:=fZ.cells) hS89 rfl cH
 have hlq:=hl91; have hln94:=congrArg List.length hl91
 have hz93:∀ ls m,freeze false { H88 with aq:=ls } (m+2) ((.hs b25 g26 0 (List.map fZ.cells ((List.replicate a0.roads.l.length (⟨(0),(0),false,(⟨[],.nil,Nat.zero_le _,rfl,fun _=>rfl⟩:Row Bool)⟩:fZ)))).length))=some (Row.av fZ.cells r90):=fun ls m=>hf92 _ _ (fun _=>by simp only [fZ.cells,gr,jC,ju,jK,jH,j1])
 have hz95:∀ ls m,freeze false { H88 with aq:=ls } (m+4) (.ptr b87 0 0 0)=some (.ip [Row.av gf.cells a0.fo.elems,Row.av gj.cells a0.fo.fQ,Row.av gg.cells a0.fo.signals,Row.av fY.cells a0.fo.lines,iv a0.fo.top,iv a0.fo.gE,iv a0.fo.gv,iv a0.fo.gz,.bool a0.fo.gO,Row.av fP.cells a0.roads,Row.av fZ.cells r90,jX r13,jW r15,.sl [] (.exact 0)] 0 false):=fun ls m=>iS (i:=0) hS89 rfl _ _ (by simp only [FZ,hz93])
 have hff96:freeze false { H88 with aq:=[(4,(gb.cells a0))] } 8 (.fz [(.ptr b87 0 0 0),iv 0])=some (.fz [.ip [Row.av gf.cells a0.fo.elems,Row.av gj.cells a0.fo.fQ,Row.av gg.cells a0.fo.signals,Row.av fY.cells a0.fo.lines,iv a0.fo.top,iv a0.fo.gE,iv a0.fo.gv,iv a0.fo.gz,.bool a0.fo.gO,Row.av fP.cells a0.roads,Row.av fZ.cells r90,jX r13,jW r15,.sl [] (.exact 0)] 0 false,iv 0]):=by simp only [FZ,hz93,hz95]
 refine ⟨.fz [(.ptr b87 0 0 0),iv 0],rfl,.fz [.ip [Row.av gf.cells a0.fo.elems,Row.av gj.cells a0.fo.fQ,Row.av gg.cells a0.fo.signals,Row.av fY.cells a0.fo.lines,iv a0.fo.top,iv a0.fo.gE,iv a0.fo.gv,iv a0.fo.gz,.bool a0.fo.gO,Row.av fP.cells a0.roads,Row.av fZ.cells r90,jX r13,jW r15,.sl [] (.exact 0)] 0 false,iv 0],hff96,⟨a0,r90,(r13),r15,(⟨[],.exact 0,Nat.le_of_ble_eq_true rfl,rfl,gU⟩:Row Int),c7,rfl⟩⟩
 refine rV ?_
 refine gS (H:=H21) rfl rfl (iz (cs:=[Row.av gf.cells a0.fo.elems,Row.av gj.cells a0.fo.fQ,Row.av gg.cells a0.fo.signals,Row.av fY.cells a0.fo.lines,iv a0.fo.top,iv a0.fo.gE,iv a0.fo.gv,iv a0.fo.gz,.bool a0.fo.gO,Row.av fP.cells a0.roads,(.hs b25 g26 0 (List.map fZ.cells ((List.replicate a0.roads.l.length (⟨(0),(0),false,(⟨[],.nil,Nat.zero_le _,rfl,fun _=>rfl⟩:Row Bool)⟩:fZ)))).length),jX r13,jW r15,(.hs b74 g75 0 (List.map fu ((List.replicate ((r17).toNat) (0)))).length)]) hS24 rfl rfl rfl rfl rfl) ?_
 rintro _ H98 ⟨b97,rfl,hS99⟩
 refine aJ ?_
 obtain ⟨r100,hl101,hf102⟩:=gZ (H:=H98) (i:=2) (l:=(List.replicate a0.roads.l.length (⟨(0),(0),false,(⟨[],.nil,Nat.zero_le _,rfl,fun _=>rfl⟩:Row Bool)⟩:fZ))) (enc:=fZ.cells) hS99 rfl cH
 have hlq:=hl101; have hln104:=congrArg List.length hl101
 have hz103:∀ ls m,freeze false { H98 with aq:=ls } (m+2) ((.hs b25 g26 0 (List.map fZ.cells ((List.replicate a0.roads.l.length (⟨(0),(0),false,(⟨[],.nil,Nat.zero_le _,rfl,fun _=>rfl⟩:Row Bool)⟩:fZ)))).length))=some (Row.av fZ.cells r100):=fun ls m=>hf102 _ _ (fun _=>by simp only [fZ.cells,gr,jC,ju,jK,jH,j1])
 obtain ⟨r105,hl106,hf107⟩:=gZ (H:=H98) (i:=1) (l:=(List.replicate ((r17).toNat) (0))) (enc:=fu) hS99 rfl cH
 have hlq:=hl106; have hln109:=congrArg List.length hl106
 have hz108:∀ ls m,freeze false { H98 with aq:=ls } (m+2) ((.hs b74 g75 0 (List.map fu ((List.replicate ((r17).toNat) (0)))).length))=some (Row.av fu r105):=fun ls m=>hf107 _ _ (fun _=>rfl)
 have hz110:∀ ls m,freeze false { H98 with aq:=ls } (m+4) (.ptr b97 0 0 0)=some (kK a0 r100 r13 r15 r105):=fun ls m=>iS (i:=0) hS99 rfl _ _ (by simp only [FZ,hz103,hz108])
 have hff111:freeze false { H98 with aq:=[(4,(gb.cells a0))] } 8 (.fz [(.ptr b97 0 0 0),iv 0])=some (.fz [kK a0 r100 r13 r15 r105,iv 0]):=by simp only [FZ,hz103,hz108,hz110]
 refine ⟨.fz [(.ptr b97 0 0 0),iv 0],rfl,.fz [kK a0 r100 r13 r15 r105,iv 0],hff111,⟨a0,r100,(r13),r15,r105,c7,rfl⟩⟩
def P87 (_a0:gb) (v:AV):Prop:=(∃ c:gb,∃ lv:Row fZ,∃ ke:Int,∃ nn:fk,∃ sp:Row Int,((c = _a0∧lv.l.length = _a0.roads.l.length∧sp.l.length≤60∧∀ x∈lv.l,x.seen.l.length≤1000)∧rs 87 [.agg (gb.cells _a0)]=.fz [kK c lv ke nn sp,iv 0])∧v=.fz [kK c lv ke nn sp,iv 0])
theorem t87 (a0:gb) (q1:jb a0.fo) (q2:rs 13 [.agg (fh.cells a0.fo)]=.fz [.agg (gb.cells a0),iv 0]) (q3:∃ nx:fk,mW nx a0.fo∧rs 24 [.agg (fh.cells a0.fo)]=.fz [.ip (fk.cells nx) 0 false,iv 0]) (q4:a0.roads.l.length≤64) (h:ah):∃ v,fj cfg FT aT false 87 [.agg (gb.cells a0)] h v h∧P87 a0 v:=by
 obtain ⟨v,hc,hP,hr⟩:=kg mQ (Zh a0 q1 q2 q3 q4) h
 rcases hP with ⟨c,lv,ke,nn,sp,hp,rfl⟩
 ·exact ⟨_,hc,⟨c,lv,ke,nn,sp,⟨hp,hr⟩,rfl⟩⟩
theorem PC:FT 166=some DH:=by kernel_rfl
theorem Lv:aT 166=none:=by kernel_rfl
theorem abj {H:ah} (b:Nat) (tt:fX) (x:fX) (F:List gH) (hS:Sep H (.obj (.ptr b 0 0 0) (fX.cells tt)::F)) :∃ v H',fj cfg FT aT true 166 [.agg (fX.cells x),(.ptr b 0 0 0)] { H with aq:=[] } v H'∧(∃ r0:Bool,(((r0=true→x.name.l=tt.name.l)∧(r0=false→¬ (x.name.l=tt.name.l))))∧Sep H' (.obj (.ptr b 0 0 0) (fX.cells tt)::F)∧v=.bool r0):=by
 refine gB Lv PC rfl ?_
 refine aQ ?_
 refine ae ?_
 refine iN 0 hS ?_
 refine ix 0 hS (.str (tt.name.l)) ?_
 refine lJ rfl (fun _=>qo rfl rfl) (fun h1=>?_) (fun h1=>?_)
 refine af ?_
 have hS2:=Sep.pick hS [0] 1 cK cK
 exact ⟨.bool true,rfl,true,dJ,Sep.aq hS2 _,rfl⟩
 refine af ?_
 have hS3:=Sep.pick hS [0] 1 cK cK
 exact ⟨.bool false,rfl,false,dJ,Sep.aq hS3 _,rfl⟩
theorem Ny:FT 199=some D4:=by kernel_rfl
theorem M8:aT 199=none:=by kernel_rfl
theorem GW {H:ah} (l:fE fX) (b:Nat) (tt:fX) (F:List gH) (hS:Sep H (.obj (.ptr b 0 0 0) (fX.cells tt)::F)) :∃ v H',fj cfg FT aT true 199 [fE.av fX.cells l,.gL 166 [] [(.ptr b 0 0 0)]] { H with aq:=[] } v H'∧(∃ r0:Int,(((0≤r0→∃ x∈l.l,x.name.l=tt.name.l)∧(r0<0→∀ x∈l.l,¬ (x.name.l=tt.name.l))))∧Sep H' (.obj (.ptr b 0 0 0) (fX.cells tt)::F)∧v=iv r0):=by
 refine gB M8 Ny rfl ?_
 refine aY ?_
 have hL1:=l.lk
 refine fq rfl (fun _=>jn (r:=l) (enc:=fX.cells) rfl rfl rfl rfl rfl rfl) ?_
 refine aC ?_
 have hNk2:=l.lk
 refine fC (l.l.length) (fun k2 e h=>∃ H3:ah,(∀ (i:Nat) (h:i<l.l.length),i<k2→¬ ((l.l[i]).name.l=tt.name.l))∧Sep H3 (.obj (.ptr b 0 0 0) (fX.cells tt)::F)∧proj [0,1,7,8] e=[(0,fE.av fX.cells l),(1,.gL 166 [] [(.ptr b 0 0 0)]),(7,iv (l.l.length:Int)),(8,iv (k2:Int))]∧{ h with aq:=fU [0,1,7,8] h.aq } = { H3 with aq:=[] }) ?_ (k0:=0) cO ⟨H,eG,hS,rfl,rfl⟩
 rintro k2 e h hkk2 ⟨H3,hP,hS4,he,hh⟩
 refine gm he hh ?_
 clear he hh
 refine aa ?_
 refine gl ((k2:Int)) ((l.l.length:Int)) (fun h5=>?_) (fun h5=>?_)
 refine bL ?_
 refine aB ?_
 have hx6:k2<l.l.length:=by omega
 refine fq rfl (fun _=>jM (n:=k2) (r:=l) (enc:=fX.cells) rfl rfl rfl rfl rfl hx6 rfl) ?_
 generalize hqx7:l.l[k2]=x7
 have hinx7:x7∈l.l:=by rw [← hqx7]; exact List.getElem_mem _
 have hmx7:=True.intro
 refine oV ?_
 have hS8:=Sep.pick hS4 [0] 1 cK cK
 refine gC (H:=H3) (args:=[.agg (fX.cells x7)]) (p:=[]) (r:=[(.ptr b 0 0 0)]) rfl rfl rfl rfl rfl rfl rfl (abj b tt x7 (F) hS8) ?_
 rintro _ H9 ⟨r12,hc11,hS10,rfl⟩
 have hB:=hc11
 cases r12
 refine bN ?_
 refine gy ((k2:Int)) (1) ?_
 refine ab ?_
 exact ⟨by omega,H9,(by exact ur (P:=fun x:fX=>¬ (x.name.l=tt.name.l)) cP hP (hB.2 rfl)),hS10,rfl,rfl⟩
 refine aH ?_
 have hS13:=Sep.pick hS10 [0] 1 cK cK
 exact ⟨iv (k2:Int),rfl,((k2:Int)),dk,Sep.aq hS13 _,rfl⟩
 refine aN ?_
 have hS14:=Sep.pick hS4 [0] 1 cK cK
 exact ⟨iv (-1),rfl,(-1),dk,Sep.aq hS14 _,rfl⟩
theorem Oz:FT 165=some Es:=by kernel_rfl
theorem Mh:aT 165=none:=by kernel_rfl
theorem GX {H:ah} (l:fE fX) (b:Nat) (tt:fX) (F:List gH) (hS:Sep H (.obj (.ptr b 0 0 0) (fX.cells tt)::F)) :∃ v H',fj cfg FT aT true 165 [fE.av fX.cells l,.gL 166 [] [(.ptr b 0 0 0)]] { H with aq:=[] } v H'∧(∃ r0:Bool,(((r0=true→∃ x∈l.l,x.name.l=tt.name.l)∧(r0=false→∀ x∈l.l,¬ (x.name.l=tt.name.l))))∧Sep H' (.obj (.ptr b 0 0 0) (fX.cells tt)::F)∧v=.bool r0):=by
 refine gB Mh Oz rfl ?_
 refine cm ?_
 have hS1:=Sep.pick hS [0] 1 cK cK
 refine gC (H:=H) (args:=[fE.av fX.cells l,.gL 166 [] [(.ptr b 0 0 0)]]) (p:=[]) (r:=[]) rfl rfl rfl rfl rfl rfl rfl (GW l b tt (F) hS1) ?_
 rintro _ H2 ⟨r5,hc4,hS3,rfl⟩
 have hIx:=hc4
 refine jg (r5) (0) (fun h6=>?_) (fun h6=>?_)
 refine af ?_
 have hS7:=Sep.pick hS3 [0] 1 cK cK
 exact ⟨.bool true,rfl,true,dv,Sep.aq hS7 _,rfl⟩
 refine af ?_
 have hS8:=Sep.pick hS3 [0] 1 cK cK
 exact ⟨.bool false,rfl,false,dv,Sep.aq hS8 _,rfl⟩
def fE.take {α:Type} (r:fE α) (k:Nat):fE α:=⟨r.l.take k,r.c,by have:=r.ok; rw [List.length_take]; omega,fun h=>by rw [r.nl h]; simp⟩
theorem Fm {α:Type} {enc : α→List AV} {X:Ctx} {e:Env} {d:Option Nat} {t el n k:Nat} {x y:Operand} {ti te:TI} {h:ah} {r:fE α} {kd:IntKind} (hT:X.C.T t=some ti) (hk:ti.kind=.slice el) (hE:X.C.T el=some te) (hx:fM e x=r.av enc) (hy:fM e y=.int kd (k:Int)) (hn:te.size=n) (hkl:k≤r.l.length) (henc:∀ x,(enc x).length=n) :
  gD (.slice t x none (some y) none) X e h d=some ((r.take k).av enc,h):=by
 have hai:mC (.int kd (k:Int))=some k:=rfl
 have h0:Nat.ble 0 k=true:=Nat.ble_eq.mpr (Nat.zero_le _)
 have h1:Nat.ble k (r.l.map enc).length=true:=Nat.ble_eq.mpr (by simpa using hkl)
 have h2:kP n (r.l.map enc)=true:=by
  cases r.l with
  | nil=>rfl
  | cons a l=>simp only [List.map_cons,kP,henc]; exact Nat.beq_refl n
 have h3:mi 0 r.c=r.c:=by cases r.c<;>rfl
 simp only [gD,mE,ml,hT,hk,hE,hx,hy,fE.av,slice,p9,kJ,bound,hai,mR,hn,h1,h2,h0,Bool.true_and,Bool.and_true,List.drop_zero,Nat.sub_zero,mb,h3,iw,fE.take,List.map_take]
theorem VK:FT 88=some HX:=by kernel_rfl
theorem QF:aT 88=none:=by kernel_rfl
def P88 (_a0:Row fK) (_a1:fE fX) (v:AV):Prop:=∃ r0:Int,(r0=0)∧v=iv r0
theorem t88 (a0:Row fK) (a1:fE fX) (q1:∀ t∈a1.l,rs 121 [.str t.name.l]=.bool true∧0≤t.fV∧t.fV<(a0.l.length:Int)) (q2:∀ (i j:Nat) (h:j<a1.l.length) (hij:i<j),(a1.l[i]).name.l≠(a1.l[j]).name.l) (q3:a1.l.length≤8) (h:ah):∃ v,fj cfg FT aT false 88 [Row.av fK.cells a0,fE.av fX.cells a1] h v h∧P88 a0 a1 v:=by
 refine fS QF VK rfl rfl ?_
 refine aY ?_
 have hL1:=a1.lk
 refine fq rfl (fun _=>jn (r:=a1) (enc:=fX.cells) rfl rfl rfl rfl rfl rfl) ?_
 refine g9 ((a1.l.length:Int)) (8) (fun h2=>?_) (fun h2=>?_)
 refine aZ ?_
 exact xA (iv 3) ⟨(3),eM,rfl⟩
 refine az ?_
 refine aY ?_
 have hL3:=a1.lk
 refine fq rfl (fun _=>jn (r:=a1) (enc:=fX.cells) rfl rfl rfl rfl rfl rfl) ?_
 refine aC ?_
 have hNk4:=a1.lk
 refine fC (a1.l.length) (fun k4 e h=>∃ n5:Int,∃ H6:ah,(n5=0)∧Sep H6 ([])∧proj [0,1,5,11,12,13] e=[(0,Row.av fK.cells a0),(1,fE.av fX.cells a1),(5,iv n5),(11,fE.av fX.cells a1),(12,iv (a1.l.length:Int)),(13,iv (k4:Int))]∧{ h with aq:=fU [0,1,5,11,12,13] h.aq } = { H6 with aq:=[] }) ?_ (k0:=0) cO ⟨(0),ah.empty,eR,gI,rfl,rfl⟩
 rintro k4 e h hkk4 ⟨n5,H6,hE0,hS7,he,hh⟩
 refine gm he hh ?_
 clear he hh
 refine aa ?_
 refine gl ((k4:Int)) ((a1.l.length:Int)) (fun h8=>?_) (fun h8=>?_)
 refine bU ?_
 have hx9:k4<a1.l.length:=by omega
 refine fq rfl (fun _=>jM (n:=k4) (r:=a1) (enc:=fX.cells) rfl rfl rfl rfl rfl hx9 rfl) ?_
 generalize hqx10:a1.l[k4]=x10
 have hinx10:x10∈a1.l:=by rw [← hqx10]; exact List.getElem_mem _
 have hsx10:=q1 x10 hinx10
 refine oV ?_
 refine gd (H:=H6) rfl (uM hS7 rfl rfl) ?_
 rintro _ H12 ⟨b11,rfl,hS13⟩
 refine oV ?_
 refine yq 0 hS13 (.agg (fX.cells x10)) fun H14 hS15=>?_
 refine oN ?_
 refine ck ?_
 refine iN 0 hS15 ?_
 refine ix 0 hS15 (.str (x10.name.l)) ?_
 refine oC (Ud x10.name  hsx10.1) ?_
 rintro _ rfl
 iterate 2 refine oV ?_
 refine iN 0 hS15 ?_
 refine ix 0 hS15 (iv x10.fV) ?_
 refine gl (x10.fV) (0) (fun h17=>?_) (fun h17=>?_)
 refine cB ?_
 refine au ?_
 exact xA (iv 1) ⟨(1),eM,rfl⟩
 iterate 2 refine oV ?_
 refine iN 0 hS15 ?_
 refine ix 0 hS15 (iv x10.fV) ?_
 refine oV ?_
 have hL18:=a0.lk
 refine gG a0 ?_
 refine jg (x10.fV) ((a0.l.length:Int)) (fun h19=>?_) (fun h19=>?_)
 refine au ?_
 exact xA (iv 1) ⟨(1),eM,rfl⟩
 refine oV ?_
 refine bE ?_
 have hx20:k4≤a1.l.length:=by omega
 refine fq rfl (fun _=>Fm (k:=k4) (r:=a1) (enc:=fX.cells) (n:=5) rfl rfl rfl rfl rfl rfl hx20 (fun _=>rfl)) ?_
 refine fq rfl (fun _=>pf rfl rfl (ph rfl rfl)) ?_
 have hS21:=Sep.pick hS15 [0] 1 cK cK
 refine gC (H:=H14) (args:=[fE.av fX.cells (fE.take a1 k4),.gL 166 [] [(.ptr b11 0 0 0)]]) (p:=[]) (r:=[]) rfl rfl rfl rfl rfl rfl rfl (GX (fE.take a1 k4) b11 x10 ([]) hS21) ?_
 rintro _ H22 ⟨r25,hc24,hS23,rfl⟩
 have hCt:=hc24
 cases r25
 refine bN ?_
 refine gy ((k4:Int)) (1) ?_
 refine ab ?_
 have hS26:=Sep.pick hS23 [] 1 cK cK
 exact ⟨by omega,(n5),H22,eU,hS26,rfl,rfl⟩
 refine aA ?_
 refine aL ?_
 refine bO ?_
 refine gy ((k4:Int)) (1) ?_
 refine ab ?_
 have hS27:=Sep.pick hS23 [] 1 cK cK
 exact ⟨by omega,(4),H22,eU,hS27,rfl,rfl⟩
 refine aj ?_
 refine bG ?_
 exact xA (iv n5) ⟨(n5),eM,rfl⟩
theorem Tj:FT 89=some Ih:=by kernel_rfl
theorem PO:aT 89=none:=by kernel_rfl
def P89 (_a0:fk) (v:AV):Prop:=∃ cs:List AV,True∧v=.ip cs 0 false
theorem t89 (a0:fk) (q1:a0.p.elems.l.length≤40) (h:ah):∃ v,fj cfg FT aT false 89 [.ip (fk.cells a0) 0 false] h v h∧P89 a0 v:=by
 refine fS PO Tj rfl rfl ?_
 refine qq (qg (oV ?_))
 refine oN (qq (qg (oV ?_)))
 refine oV ?_
 refine gd (H:=ah.empty) rfl (iz gI rfl rfl rfl rfl rfl) ?_
 rintro _ H2 ⟨b1,rfl,hS3⟩
 refine oV ?_
 refine oN (qs (qq (qg (oV ?_))))
 refine oC (t111 a0) ?_
 rintro _ ⟨r5,hc4,rfl⟩
 refine oV ?_
 refine oN (qb ?_)
 refine fC ((r5).toNat) (fun k6 e h=>∃ (cs:List AV) (H:ah),cs.length=265∧pU cs∧Sep H [.obj (.ptr b1 0 0 0) cs]∧proj [0,3,9,10] e=[(0,.ip (fk.cells a0) 0 false),(3,(.ptr b1 0 0 0)),(9,iv r5),(10,iv (k6:Int))]∧{ h with aq:=fU [0,3,9,10] h.aq } = { H with aq:=[] }) ?_ (k0:=0) cO ⟨_,H2,rfl,?_,hS3,rfl,rfl⟩
 ·rintro k6 e h hkk6 ⟨cs,H,hcl,hcf,hS,he,hh⟩
  refine gm he hh ?_
  clear he hh
  refine qq (qg ?_)
  refine gl ((k6:Int)) (r5) (fun h7=>?_) (fun h7=>?_)
  ·refine oN (qs (qT ?_))
   refine qk ?_
   refine qs (qb (qq (qg (oV ?_))))
   refine oV ?_
   refine oN (qq (qg (oV ?_)))
   refine oV ?_
   refine oC (t82 a0 ((k6:Int))) ?_
   rintro _ ⟨r9,hc8,rfl⟩
   refine gA (r9) (2) (fun h10=>?_) (fun h10=>?_)
   ·refine oN (qT ?_)
    refine qg (oV ?_)
    refine oV ?_
    refine fq rfl (fun _=>j3 (H:=H) (i:=0) (o:=0) hS rfl rfl) ?_
    refine fq rfl (fun _=>jz (H:=H) (i:=0) (o:=0) hS rfl rfl rfl rfl rfl) ?_
    have hk:k6<40:=by omega
    refine fq rfl (fun _=>NR (H:=H) (i:=0) (o:=0+1) (k:=k6) hS rfl rfl rfl rfl rfl rfl hk) ?_
    refine fq rfl (fun _=>jz (H:=H) (i:=0) (o:=0+1+k6*5) hS rfl rfl rfl rfl rfl) ?_
    obtain ⟨cs',hs1,hs2,hs3⟩:=FO (cs:=cs) (new:=[iv 1]) (o:=0+1+k6*5+0) (by rw [hcl]; simp only [List.length_cons,List.length_nil]; omega)
    refine gd (H:=H) rfl (iG (H:=H) (i:=0) (o:=0+1+k6*5+0) (r:=iv 1) hS rfl rfl rfl rfl rfl rfl hs1) ?_
    rintro _ H3 ⟨rfl,hS4⟩
    refine oN ?_
    refine qg ?_
    refine fq rfl (fun _=>gY rfl rfl rfl (vv ((k6:Int)) (1) cO cO)) ?_
    refine oV ?_
    refine oN ?_
    exact ⟨by omega,cs',H3,by rw [hs2,hcl],hs3 hcf (by intro c hc; simp at hc; subst hc; intro hp n; rfl),hS4,rfl,rfl⟩
   ·refine oN (qF ?_)
    refine qk ?_
    refine qg ?_
    refine fq rfl (fun _=>gY rfl rfl rfl (vv ((k6:Int)) (1) cO cO)) ?_
    refine oV ?_
    refine oN ?_
    exact ⟨by omega,cs,H,hcl,hcf,hS,rfl,rfl⟩
  ·refine oN (qs (qF ?_))
   refine qe ?_
   refine qq (qg (oV ?_))
   refine oV ?_
   refine oN (qr ?_)
   have hz11:freeze false { H with aq:=[] } 8 (.ptr b1 0 0 0)=some (.ip cs 0 false):=iS (i:=0) hS rfl [] 7 (hcf.frz _ 5)
   exact ⟨(.ptr b1 0 0 0),rfl,.ip cs 0 false,hz11,cs,trivial,rfl⟩
 ·exact pU.of rfl
theorem NX:FT 202=some CV:=by kernel_rfl
theorem Ng:aT 202=none:=by kernel_rfl
theorem acF {H:ah} (vs:AV) (l:List Int) (a:Int) (b:Int) (F:List gH) (hS:Sep H (.sl true false vs 1 (List.map fu l)::F)) (q1:b≤a+1) (q2:0≤a) (q3:a≤1000):∃ v H',fj cfg FT aT true 202 [vs,iv a,iv b] { H with aq:=[] } v H'∧((True)∧Sep H' (.sl true false vs 1 (List.map fu l)::F)∧v=.fz []):=by
 refine gB Ng NX rfl ?_
 refine ai ?_
 refine gy (a) (1) ?_
 refine aC ?_
 refine lD (fun m1 e h=>m1=0∧proj [0,1,2,6] e=[(0,vs),(1,iv a),(2,iv b),(6,iv (a+1))]∧{ h with aq:=fU [0,1,2,6] h.aq } = { H with aq:=[] }) ?_ _ _ _ ⟨rfl,(Eq.trans (b:=[(0,fi 0 vs),(1,iv a),(2,iv b),(6,iv (a+1))]) rfl eI),rfl⟩
 rintro m1 e h ⟨hmm1,he,hh⟩
 refine gm he hh ?_
 clear he hh
 refine aW ?_
 refine gl (a+1) (b) (fun h2=>?_) (fun h2=>?_)
 exfalso; omega
 refine aF ?_
 have hS3:=Sep.pick hS [0] 1 cK cK
 exact ⟨.fz [],rfl,trivial,Sep.aq hS3 _,rfl⟩
theorem PA:FT 170=some Cy:=by kernel_rfl
theorem LP:aT 170=none:=by kernel_rfl
theorem YO {H:ah} (vs:AV) (l:List Int) (a:Int) (b:Int) (c:Int) (F:List gH) (hS:Sep H (.sl true false vs 1 (List.map fu l)::F)) (q1:b≤a+1) (q2:0≤a) (q3:a≤1000) (q4:0≤b):∃ v H',fj cfg FT aT true 170 [vs,iv a,iv b,iv c] { H with aq:=[] } v H'∧((True)∧Sep H' (.sl true false vs 1 (List.map fu l)::F)∧v=.fz []):=by
 refine gB LP PA rfl ?_
 refine aU ?_
 refine aa ?_
 refine aC ?_
 refine lD (fun m1 e h=>m1=0∧proj [0,1,2,3,8,9] e=[(0,vs),(1,iv a),(2,iv b),(3,iv c),(8,.bool true),(9,.bool true)]∧{ h with aq:=fU [0,1,2,3,8,9] h.aq } = { H with aq:=[] }) ?_ _ _ _ ⟨rfl,(Eq.trans (b:=[(0,fi 0 vs),(1,iv a),(2,iv b),(3,iv c),(8,.bool true),(9,.bool true)]) rfl eI),rfl⟩
 rintro m1 e h ⟨hmm1,he,hh⟩
 refine gm he hh ?_
 clear he hh
 refine qb ?_
 refine ae ?_
 refine lY (b) (a) ?_
 refine ak ?_
 refine o5 (b - a) (12) (fun h2=>?_) (fun h2=>?_)
 refine aA ?_
 refine aB ?_
 have hS3:=Sep.pick hS [0] 1 cK cK
 refine gC (H:=H) (args:=[vs,iv a,iv b]) (p:=[]) (r:=[]) rfl rfl rfl rfl rfl (fD (Sep.arg (i:=0) hS rfl) (fD rfl (fD rfl gJ))) rfl (acF vs l a b (F) hS3 cG cG cG) ?_
 rintro _ H4 ⟨hc6,hS5,rfl⟩
 refine oN ?_
 refine qr ?_
 have hS7:=Sep.pick hS5 [0] 1 cK cK
 exact ⟨.fz [],rfl,trivial,Sep.aq hS7 _,rfl⟩
 exfalso; omega
theorem GS (k:Nat) (h:ah):jt cfg FT aT (k+8) false 171 [.int .u64 0] h=some (.int .i64 0,h):=by kernel_rfl
theorem aad (k:Nat) (h:ah):jt cfg FT aT (k+8) false 171 [.int .u64 1] h=some (.int .i64 1,h):=by kernel_rfl
def aa6 (_a0:Int) (v:AV):Prop:=∃ r0:Int,(0≤r0∧r0≤64)∧v=iv r0
theorem t171 (a0:Int) (q1:a0=0∨a0=1) (h:ah):∃ v,fj cfg FT aT false 171 [.int .u64 a0] h v h∧aa6 a0 v:=by
 rcases q1 with rfl | rfl
 ·exact ⟨iv 0,⟨8,fun k hk=>by obtain ⟨j,rfl⟩:=Nat.exists_eq_add_of_le' hk; exact GS j h⟩,0,by omega,rfl⟩
 ·exact ⟨iv 1,⟨8,fun k hk=>by obtain ⟨j,rfl⟩:=Nat.exists_eq_add_of_le' hk; exact aad j h⟩,1,by omega,rfl⟩
theorem SF:FT 96=some IQ:=by kernel_rfl
theorem Nu:aT 96=none:=by kernel_rfl
theorem u96 {H:ah} (vs:AV) (l:List Int) (F:List gH) (hS:Sep H (.sl true false vs 1 (List.map fu l)::F)) (q1:l.length≤1):∃ v H',fj cfg FT aT true 96 [vs] { H with aq:=[] } v H'∧((True)∧Sep H' (.sl true false vs 1 (List.map fu l)::F)∧v=.fz []):=by
 refine gB Nu SF rfl ?_
 refine ai ?_
 refine fq rfl (fun _=>jT (i:=0) hS rfl rfl rfl rfl rfl rfl rfl) ?_
 refine ab ?_
 refine a8 ?_
 refine fq rfl (fun _=>N4 rfl rfl rfl rfl cL cL) ?_
 refine oC (t171 ((l.length:Int)) cG) ?_
 rintro _ ⟨r2,hc1,rfl⟩
 have hS3:=Sep.pick hS [0] 1 cK cK
 refine gC (H:=H) (args:=[vs,iv 0,iv (l.length:Int),iv r2]) (p:=[]) (r:=[]) rfl rfl rfl rfl rfl (fD (Sep.arg (i:=0) hS rfl) (fD rfl (fD rfl (fD rfl gJ)))) rfl (YO vs l 0 ((l.length:Int)) r2 (F) hS3 cG cG cG cG) ?_
 rintro _ H4 ⟨hc6,hS5,rfl⟩
 refine oN ?_
 have hS7:=Sep.pick hS5 [0] 1 cK cK
 exact ⟨.fz [],rfl,trivial,Sep.aq hS7 _,rfl⟩
theorem Ve:FT 97=some GV:=by kernel_rfl
theorem Ov:aT 97=none:=by kernel_rfl
theorem u97 {H:ah} (vs:AV) (l:List Int) (F:List gH) (hS:Sep H (.sl true false vs 1 (List.map fu l)::F)) (q1:l.length≤1):∃ v H',fj cfg FT aT true 97 [vs] { H with aq:=[] } v H'∧(∃ vo:AV,(True)∧Sep H' (.sl true false vo 1 (List.map fu l)::F)∧v=vo):=by
 refine gB Ov Ve rfl ?_
 refine aY ?_
 refine fq rfl (fun _=>jT (i:=0) hS rfl rfl rfl rfl rfl rfl rfl) ?_
 refine gl ((l.length:Int)) (2) (fun h1=>?_) (fun h1=>?_)
 refine aH ?_
 have hS2:=Sep.pick hS [0] 1 cK cK
 exact ⟨vs,(iB (vs:=[vs]) rfl (fD (Sep.arg (i:=0) hS rfl) gJ)),vs,trivial,Sep.aq hS2 _,rfl⟩
 exfalso; omega
theorem Sp:FT 60=some IH:=by kernel_rfl
theorem QW:aT 60=none:=by kernel_rfl
def P60 (_a0:fk) (_a1:fJ) (v:AV):Prop:=∃ r0:Row Int,(r0.l=kR _a0.p _a1.gT.l)∧v=Row.av fu r0
theorem t60 (a0:fk) (a1:fJ) (q1:a1.gT.l.length≤1) (h:ah):∃ v,fj cfg FT aT false 60 [.ip (fk.cells a0) 0 false,.agg (fJ.cells a1)] h v h∧P60 a0 a1 v:=by
 refine fS QW Sp rfl rfl ?_
 refine aQ ?_
 refine aU ?_
 refine aW ?_
 have hL1:=a1.gT.lk
 refine gG a1.gT ?_
 refine aC ?_
 have hS2:=Sep.iF gI 1
 have hNk3:=a1.gT.lk
 refine fC (a1.gT.l.length) (fun k3 e h=>∃ v4:AV,∃ l5:List Int,∃ H6:ah,(l5=kR a0.p (a1.gT.l.take k3))∧(l5.length≤k3)∧Sep H6 (.sl true true v4 1 (List.map fu l5)::[])∧proj [0,5,9,10,11] e=[(0,.ip (fk.cells a0) 0 false),(5,v4),(9,Row.av bY.cells a1.gT),(10,iv (a1.gT.l.length:Int)),(11,iv (k3:Int))]∧{ h with aq:=fU [0,5,9,10,11] h.aq } = { H6 with aq:=[] }) ?_ (k0:=0) cO ⟨((.sl [] .nil)),(([]:List Int)),ah.empty,eR,ef,hS2,rfl,rfl⟩
 rintro k3 e h hkk3 ⟨v4,l5,H6,hI,hI2,hS7,he,hh⟩
 refine gm he hh ?_
 clear he hh
 refine aa ?_
 refine gl ((k3:Int)) ((a1.gT.l.length:Int)) (fun h8=>?_) (fun h8=>?_)
 refine aM ?_
 refine wa [(0,.ip (fk.cells a0) 0 false),(5,v4),(9,Row.av bY.cells a1.gT),(10,iv (a1.gT.l.length:Int)),(11,iv (k3:Int))] H6 [] ?_ (Eq.trans (b:=[(0,.ip (fk.cells a0) 0 false),(5,fi 5 v4),(9,Row.av bY.cells a1.gT),(10,iv (a1.gT.l.length:Int)),(11,iv (k3:Int))]) rfl cN)
 refine bZ ?_
 have hx9:k3<a1.gT.l.length:=by omega
 refine iU k3 a1.gT hx9 ?_
 generalize hqx10:a1.gT.l[k3]=x10
 refine aX ?_
 refine aB ?_
 refine oC (t82 a0 (x10.elem)) ?_
 rintro _ ⟨r12,hc11,rfl⟩
 have hK:=hc11
 refine iJ (r12) (4) (fun h13=>?_) (fun h13=>?_)
 refine aA ?_
 refine cC ?_
 refine gd rfl (ib (H:=H6) (i:=0) [(x10.elem)] hS7 rfl rfl rfl rfl rfl rfl rfl rfl rfl (fun _=>rfl) (.inl rfl) cS (fun _=>rfl)) ?_
 rintro v14 H15 hS16
 refine ab ?_
 refine wa [(0,.ip (fk.cells a0) 0 false),(5,v14),(9,Row.av bY.cells a1.gT),(10,iv (a1.gT.l.length:Int)),(11,iv (k3:Int))] H15 [] ?_ (Eq.trans (b:=[(0,.ip (fk.cells a0) 0 false),(5,fi 5 v14),(9,Row.av bY.cells a1.gT),(10,iv (a1.gT.l.length:Int)),(11,iv (k3:Int))]) rfl ez)
 refine qg ?_
 refine gy ((k3:Int)) (1) ?_
 refine ab ?_
 exact ⟨by omega,(v14),((l5++[(x10.elem)])),H15,eY,cM,hS16,(Eq.trans (b:=[(0,.ip (fk.cells a0) 0 false),(5,fi 5 v14),(9,Row.av bY.cells a1.gT),(10,iv (a1.gT.l.length:Int)),(11,iv ((k3:Int)+1))]) rfl ez),rfl⟩
 refine az ?_
 refine wa [(0,.ip (fk.cells a0) 0 false),(5,v4),(9,Row.av bY.cells a1.gT),(10,iv (a1.gT.l.length:Int)),(11,iv (k3:Int))] H6 [] ?_ (Eq.trans (b:=[(0,.ip (fk.cells a0) 0 false),(5,fi 5 v4),(9,Row.av bY.cells a1.gT),(10,iv (a1.gT.l.length:Int)),(11,iv (k3:Int))]) rfl cN)
 refine qg ?_
 refine gy ((k3:Int)) (1) ?_
 refine ab ?_
 exact ⟨by omega,(v4),(l5),H6,eY,cM,hS7,(Eq.trans (b:=[(0,.ip (fk.cells a0) 0 false),(5,fi 5 v4),(9,Row.av bY.cells a1.gT),(10,iv (a1.gT.l.length:Int)),(11,iv ((k3:Int)+1))]) rfl cN),rfl⟩
 refine aj ?_
 refine wa [(5,v4)] H6 [] ?_ (Eq.trans (b:=[(5,fi 5 v4)]) rfl cN)
 refine ai ?_
 have hS17:=Sep.ni (i:=0) hS7 rfl
 have hS18:=Sep.pick hS17 [0] 1 cK cK
 refine gC (H:=H6) (args:=[v4]) (p:=[]) (r:=[]) rfl rfl rfl rfl rfl (fD (Sep.arg (i:=0) hS17 rfl) gJ) rfl (u96 v4 l5 ([]) hS18 cG) ?_
 rintro _ H19 ⟨hc21,hS20,rfl⟩
 refine oN ?_
 refine ai ?_
 have hS22:=Sep.pick hS20 [0] 1 cK cK
 refine gC (H:=H19) (args:=[v4]) (p:=[]) (r:=[]) rfl rfl rfl rfl rfl (fD (Sep.arg (i:=0) hS20 rfl) gJ) rfl (u97 v4 l5 ([]) hS22 cG) ?_
 rintro vo26 H23 ⟨_,hc25,hS24,rfl⟩
 refine af ?_
 obtain ⟨r27,hl28,hf29⟩:=gZ (H:=H23) (i:=0) (l:=l5) (enc:=fu) hS24 rfl cH
 have hlq:=hl28; have hln31:=congrArg List.length hl28
 have hz30:∀ m,freeze false { H23 with aq:=[] } (m+2) vo26=some (Row.av fu r27):=fun m=>hf29 _ _ (fun _=>rfl)
 exact ⟨vo26,(iB (vs:=[vo26]) rfl (fD (Sep.arg (i:=0) hS24 rfl) gJ)),Row.av fu r27,(show freeze false { H23 with aq:=[] } 8 vo26=some (Row.av fu r27) by simp only [FZ,hz30]),r27,(by rw [List.take_of_length_le cO] at hI; first | (simp_all; done) | (rw [hI] at *; first | assumption | (simp_all; done))),rfl⟩
end Go.Sx
