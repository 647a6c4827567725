/- Proves what some functions of the program answer, by walking through them. -/
import Derived.Test.YtpelnddplemngaaGreatHag
import Derived.Test.YtpelnddplemngaaGreatHaj
import Derived.Test.YtpelnddplemngaaGreatHal
import Derived.Test.YtpelnddplemngaaGreatHam
import Derived.Test.YtpelnddplemngaaGreatHan
set_option linter.all false
set_option maxRecDepth 100000
set_option maxHeartbeats 0
namespace Go.Sx
open Go Go.Proofs
def P72 (_a0:iX) (_a1:ja) (v:AV):Prop:=∃ r0:ja,(r0.steps.l = _a1.steps.l/\r0.l8.l = _a1.l8.l/\r0.mB.l.length<=12/\(∀ x∈r0.mB.l,yZ x)/\r0.guards.l.length<=1000/\r0.holds.l.length<=1000)/\v=.agg (ja.ag r0)
def t72 (a0:iX) (a1:ja) (q1:lS a0.p) (q2:a0.next.length<=240) (q3:a1.steps.l.length<=12) (q4:a1.l8.l.length<=1000) (q6:∀ y∈univ a0,o7 a0.p.elems.l y.elem):Ct 72 [.ip (iX.ag a0) 0 false,.agg (ja.ag a1)] (P72 a0 a1):=by
 refine jf MW ?_
 have q5:(univ a0).length<=241:=by simp only [univ,List.length_cons,List.length_map]; omega
 refine bS ?_
 rintro _ H2 ⟨b1,rfl,hS3⟩
 refine jG (H:=H2) rfl (sr hS3 rfl rfl rfl rfl rfl) ?_
 rintro _ H5 ⟨b4,rfl,hS6⟩
 refine ab ?_
 refine sT ?_
 refine aV ?_
 refine rq 0 hS6 ?_
 refine sb 0 hS6 (jo a1.steps) ?_
 refine rC (t143 (Row.ny a1.steps) dw) ?_
 rintro _ ⟨r8,hc7,rfl⟩
 have hC93:=congrArg List.length hc7; try simp only [Row.ny] at hC93
 refine rq 0 hS6 ?_
 refine sb 0 hS6 (ke a1.l8) ?_
 refine rC (t144 (Row.ny a1.l8) dw) ?_
 rintro _ ⟨r10,hc9,rfl⟩
 have hC94:=congrArg List.length hc9; try simp only [Row.ny] at hC94
 refine rq 0 hS6 ?_
 refine rSt 0 hS6 (jo r8) λH11 hS12=>?_
 refine rq 0 hS12 ?_
 refine rSt 0 hS12 (ke r10) λH13 hS14=>?_
 refine rN ?_
 refine aa ?_
 refine nh 0 hS14 ?_
 refine Hc 0 hS14 iS λH15 hS16=>?_
 refine nh 0 hS16 ?_
 refine Hc 0 hS16 iS λH17 hS18=>?_
 refine nh 0 hS18 ?_
 refine Hc 0 hS18 iS λH19 hS20=>?_
 refine nh 0 hS20 ?_
 refine Hc 0 hS20 (.bool false) λH21 hS22=>?_
 refine oN ?_
 refine aa ?_
 refine lU 1 hS22 (.ip (iX.ag a0) 0 false) ?_
 refine oC (t73 a0 dw) ?_
 rintro _ ⟨r24,hc23,rfl⟩
 have hPl:=hc23.2.2.2.2.2
 refine oV ?_
 refine aW ?_
 refine jG (H:=H21) rfl (mc hS22) ?_
 rintro _ H26 ⟨b25,rfl,hS27⟩
 refine aW ?_
 refine jG (H:=H26) rfl (C1 hS27 rfl rfl) ?_
 rintro _ H29 ⟨b28,rfl,hS30⟩
 refine oN ?_
 refine aa ?_
 refine lU 3 hS30 (.ip (iX.ag a0) 0 false) ?_
 refine lU 2 hS30 (.agg [iv a1.from_,iv a1.to,iv a1.end_,jo r8,ke r10,iS,iS,iS,iR]) ?_
 refine oC (t145 a0 (⟨a1.from_,a1.to,a1.end_,r8,r10,(lD:Row jO),(lD:Row Int),(lD:Row Int),false⟩:ja) dw) ?_
 rintro _ ⟨r32,hc31,rfl⟩
 dsimp only at hc31
 refine az ?_
 have hL33:=r32.lk
 refine jK r32 ?_
 have hL34:=r32.lk
 refine nI ?_
 refine aL ?_
 have hS35:=Sep.mX hS30 2
 refine nS (λm41 e h=>∃ v36:AV,∃ l37:List iM,∃ n38:Int,∃ H39:aT,m41=(n38+1).toNat/\(-1<=n38)/\(n38<(r32.l.length:Int))/\((l37.length:Int)+n38+1<=r32.l.length)/\((∀ y∈(l37:List iM),y∈univ a0))/\Sep H39 (nZ iM.ag 2 v36 l37::j7 b28 [v36]::lW b25 pK bK []::j7 b4 [iv a1.from_,iv a1.to,iv a1.end_,jo r8,ke r10,iS,iS,iS,iR]::j7 b1 [.ip (iX.ag a0) 0 false]::[])/\At [2,3,4,5,6,7,8,9] [(je b1),(je b4),.la 4 0,.bool r24.kI,(.hm b25),(je b28),nm r32,iv n38] H39 [(4,[iv 0,iv 0,iv 0,iS,iS,iS,iS,iS,iR])] e h) ?_ _ _ _ ⟨iS,(([]:List iM)),((r32.l.length:Int) - 1),H29,rfl,dC,dC,dC,fg,hS35,atR⟩
 rintro m41 e h ⟨v36,l37,n38,H39,hmm41,hA1,hA2,hA3,hTu,hS40,hA⟩
 refine rA hA ?_
 refine aB ?_
 refine lP (λh42=>?_) (λh42=>?_)
 refine bX ?_
 refine wz [(je b1),(je b4),.la 4 0,.bool r24.kI,(.hm b25),(je b28),nm r32,iv n38] H39 [(4,[iv 0,iv 0,iv 0,iS,iS,iS,iS,iS,iR])] ?_
 refine aF ?_
 refine aV ?_
 refine sb 4 hS40 (.ip (iX.ag a0) 0 false) ?_
 refine aP ?_
 have hx43:(n38).toNat<r32.l.length:=by omega
 refine jh rfl rfl (λ_=>jA (n:=n38) (r:=r32) (enc:=iM.ag) rfl rfl rfl rfl rfl dD hx43 rfl) ?_
 generalize hqx44:r32.l[(n38).toNat]=x44
 refine rV ?_
 refine rC (t146 a0 x44) ?_
 rintro _ ⟨r46,r47,hc45,rfl⟩
 have hN:=hc45
 cases r47
 refine bw ?_
 refine qg ?_
 refine lU 1 hS40 v36 ?_
 refine aw ?_
 refine Gx 0 [r46] hS40 λv48 H49 hS50=>?_
 refine jG (H:=H49) rfl (mN (H:=H49) (i:=1) (o:=0) (r:=v48) hS50 rfl rfl rfl rfl (nW rfl rfl (Sep.cell (i:=0) hS50 rfl)) (jb (Sep.cell (i:=0) hS50 rfl) kg) rfl) ?_
 rintro _ H51 ⟨rfl,hS52⟩
 refine oN ?_
 refine wz [(je b1),(je b4),.la 4 0,.bool r24.kI,(.hm b25),(je b28),nm r32,iv n38] H51 [(4,[iv 0,iv 0,iv 0,iS,iS,iS,iS,iS,iR])] ?_
 refine aS ?_
 refine nI ?_
 refine ab ?_
 refine ⟨_,?_,v48,((l37++[r46])),(n38 - 1),H51,rfl,dC,dC,dC,(by exact qU hTu (uy dv)),hS52,atR⟩
 omega
 refine bw ?_
 refine qg ?_
 refine lU 1 hS40 v36 ?_
 refine aw ?_
 refine Gx 0 [r46] hS40 λv53 H54 hS55=>?_
 refine jG (H:=H54) rfl (mN (H:=H54) (i:=1) (o:=0) (r:=v53) hS55 rfl rfl rfl rfl (nW rfl rfl (Sep.cell (i:=0) hS55 rfl)) (jb (Sep.cell (i:=0) hS55 rfl) kg) rfl) ?_
 rintro _ H56 ⟨rfl,hS57⟩
 refine oN ?_
 refine wz [(je b1),(je b4),.la 4 0,.bool r24.kI,(.hm b25),(je b28),nm r32,iv n38] H56 [(4,[iv 0,iv 0,iv 0,iS,iS,iS,iS,iS,iR])] ?_
 refine aS ?_
 refine nI ?_
 refine ab ?_
 refine ⟨_,?_,v53,((l37++[r46])),(n38 - 1),H56,rfl,dC,dC,dC,(by exact qU hTu (uy dv)),hS57,atR⟩
 omega
 refine aM ?_
 refine wz [(je b1),(je b4),.la 4 0,.bool r24.kI,(.hm b25),(je b28)] H39 [(4,[iv 0,iv 0,iv 0,iS,iS,iS,iS,iS,iR])] ?_
 refine aa ?_
 refine iT rfl (λ_=>ua rfl rfl (tP rfl rfl)) ?_
 refine ab ?_
 refine qq ?_
 refine ql ?_
 refine aF ?_
 have hS58:=Sep.mX hS40 2
 have hS59:=Sep.mX hS58 1
 have hS60:=Sep.mX hS59 1
 have hS61:=Sep.wZ (i:=3) hS60 rfl
 refine nS (λm77 e h=>∃ v62:AV,∃ l63:List Int,∃ v64:AV,∃ l65:List Int,∃ v66:AV,∃ l67:List jO,∃ v68:AV,∃ l69:List iM,∃ l70:List (iM×Bool),∃ n71:Int,∃ n72:Int,∃ n73:Int,∃ b74:Bool,∃ H75:aT,m77=3*((univ a0).length - l70.length)+l69.length/\(wU l70)/\(∀ k∈l70.map Prod.fst,k∈univ a0)/\(∀ y∈(l70:List (iM×Bool)),y.2=true)/\((∀ y∈(l69:List iM),y∈univ a0))/\(l69.length+3*((univ a0).length - l70.length)<=1000)/\(l67.length<=l70.length)/\(l63.length<=l70.length)/\(l65.length<=12)/\(∀ x∈(l65:List Int),yZ x)/\(l70.length<=(univ a0).length)/\Sep H75 (qo v62 l63::qo v64 l65::nZ jO.ag 2 v66 l67::mT iM.ag 2 v68 l69::j7 b28 [v68]::lW b25 pK bK l70::j7 b4 [iv n71,iv n72,iv n73,jo r8,ke r10,v66,v64,v62,.bool b74]::j7 b1 [.ip (iX.ag a0) 0 false]::[])/\At [2,3,4,5,6,7,12] [(je b1),(je b4),.la 4 0,.bool r24.kI,(.hm b25),(je b28),.jQ 147 [] [(je b1),(je b28)]] H75 [(4,[iv 0,iv 0,iv 0,iS,iS,iS,iS,iS,iR])] e h) ?_ _ _ _ ⟨iS,(([]:List Int)),iS,(([]:List Int)),iS,(([]:List jO)),v36,l37,([]),a1.from_,a1.to,a1.end_,false,H39,rfl,(by simp [wU]),fg,fg,e9,dC,fg,fg,fg,fg,fg,hS61,atR⟩
 rintro m77 e h ⟨v62,l63,v64,l65,v66,l67,v68,l69,l70,n71,n72,n73,b74,H75,hmm77,hKd,hKu,hT,hTu,hB1,hB2,hB3,hB4,hZr,hB5,hS76,hA⟩
 refine rA hA ?_
 refine qs ?_
 refine aa ?_
 refine lU 4 hS76 v68 ?_
 refine iT rfl (λ_=>oT (H:=H75) (i:=3) (l:=l69) (enc:=iM.ag) hS76 rfl rfl rfl rfl rfl rfl rfl) ?_
 refine kn (λh78=>?_) (λh78=>?_)
 refine bX ?_
 refine wz [(je b1),(je b4),.la 4 0,.bool r24.kI,(.hm b25),(je b28),.jQ 147 [] [(je b1),(je b28)]] H75 [(4,[iv 0,iv 0,iv 0,iS,iS,iS,iS,iS,iR])] ?_
 refine qb ?_
 refine aa ?_
 refine cB ?_
 refine nI ?_
 have hk79:((((l69.length:Int) - 1).toNat:Nat):Int)=(l69.length:Int) - 1:=Int.toNat_of_nonneg dB
 have hx80:((l69.length:Int) - 1).toNat<l69.length:=by first | omega | (simp<;>omega) | (simp_all; omega)
 obtain ⟨x81,hqx81⟩:∃ x,l69[((l69.length:Int) - 1).toNat]=x:=⟨_,rfl⟩
 have hinx81:x81∈l69:=by rw [<- hqx81]; exact List.getElem_mem _
 have hmx81:=hTu x81 hinx81
 refine v8 rfl (nY (H:=H75) (i:=3) (m:=((l69.length:Int) - 1).toNat) (cs:=iM.ag x81) hS76 rfl rfl rfl rfl rfl rfl (congrArg (AV.int .i64) hk79.symm) (mn hx80 hqx81)) ?_
 rintro a82 ⟨ha83,hea84⟩
 refine iT rfl (λ_=>qJ (H:=H75) (i:=3) (m:=((l69.length:Int) - 1).toNat) (o:=0) (r:=.agg (iM.ag x81)) (cs:=iM.ag x81) hS76 rfl (mn hx80 hqx81) hea84 rfl rfl ha83) ?_
 refine oV ?_
 refine aW ?_
 refine cB ?_
 refine nI ?_
 have hk85:((((l69.length:Int) - 1).toNat:Nat):Int)=(l69.length:Int) - 1:=Int.toNat_of_nonneg dB
 have hx86:((l69.length:Int) - 1).toNat<=l69.length:=by first | omega | (simp<;>omega) | (simp_all; omega)
 have hTl:(l69.take (((l69.length:Int) - 1).toNat)).length+1=l69.length:=by rw [List.length_take]; omega
 have hTu:∀ y∈l69.take (((l69.length:Int) - 1).toNat),y∈univ a0:=λy hy=>hTu y (List.mem_of_mem_take hy)
 refine jG (H:=H75) rfl (w9 (H:=H75) (i:=3) (k:=((l69.length:Int) - 1).toNat) hS76 rfl rfl rfl rfl rfl rfl (congrArg (AV.int .i64) hk85.symm) hx86) ?_
 rintro v87 H88 ⟨hc89,hS90⟩
 refine jG (H:=H88) rfl (mN (H:=H88) (i:=4) (o:=0) (r:=v87) hS90 rfl rfl rfl rfl (nW rfl rfl (Sep.cell (i:=3) hS90 rfl)) (jb (Sep.cell (i:=3) hS90 rfl) kg) rfl) ?_
 rintro _ H91 ⟨rfl,hS92⟩
 refine oN ?_
 refine qs ?_
 refine aa ?_
 refine lU 6 hS92 (.agg [iv n71,iv n72,iv n73,jo r8,ke r10,v66,v64,v62,.bool b74]) ?_
 refine aw ?_
 refine oh hS92 2 λr93 hl94 hln97 hz96=>?_
 refine oh hS92 1 λr98 hl99 hln102 hz101=>?_
 refine oh hS92 0 λr103 hl104 hln107 hz106=>?_
 refine mV (args:=[.agg [iv n71,iv n72,iv n73,jo r8,ke r10,v66,v64,v62,.bool b74],iv x81.elem]) (p:=[]) (r:=[]) (args':=[.agg [iv n71,iv n72,iv n73,jo r8,ke r10,jm.av jO.ag r93,qj r98,qj r103,.bool b74],iv x81.elem]) (R:=Vo (⟨n71,n72,n73,(Row.ny r8),(Row.ny r10),r93,r98,r103,b74⟩:sN) x81.elem) rfl rfl rfl rfl rfl rfl rfl fp (lj (by show jJ (freeze true { H91 with iI:=[] } 8) [.agg [iv n71,iv n72,iv n73,jo r8,ke r10,v66,v64,v62,.bool b74],iv x81.elem] = _; simp only [FZ,hz96,hz101,hz106]) (jb (ach (jb rfl (jb rfl (jb rfl (jb rfl (jb rfl (jb (Sep.cell (i:=2) hS92 rfl) (jb (Sep.cell (i:=1) hS92 rfl) (jb (Sep.cell (i:=0) hS92 rfl) (jb rfl kg)))))))))) (jb rfl kg))) (lj fe (jb rfl (jb rfl kg))) (λh=>t148 (⟨n71,n72,n73,(Row.ny r8),(Row.ny r10),r93,r98,r103,b74⟩:sN) x81.elem  h) ?_
 rintro _ ⟨r109,hc108,rfl⟩
 cases r109
 refine aH ?_
 refine ma (H:=H91) (i:=5) (ek:=pK) (ev:=bK) (l:=l70) x81 rfl rfl hS92 rfl rfl rfl rfl rfl rfl rfl rfl lF (λy110 h111=>?_) (λh112=>?_)
 cases y110
 exact absurd (hT _ (nr h111)) fg
 refine cF ?_
 refine ⟨_,?_,v62,l63,v64,l65,v66,l67,v87,((l69.take (((l69.length:Int) - 1).toNat))),l70,n71,n72,n73,b74,H91,rfl,fi,fh,fk,e9,dI,dC,dC,dC,ff,eB,hS92,atR⟩
 first | omega | (simp only [List.length_append,List.length_cons,List.length_nil,List.length_take] at *; omega)
 refine ah ?_
 refine wz [(je b1),(je b4),.la 4 0,.bool r24.kI,(.hm b25),(je b28),.jQ 147 [] [(je b1),(je b28)],.la 13 0] H91 [(4,[iv 0,iv 0,iv 0,iS,iS,iS,iS,iS,iR]),(13,(iM.ag x81))] ?_
 refine ae ?_
 have hPl:(put x81 true l70).length=l70.length+1:=by rw [G9 dv]; simp
 have hKd:wU (put x81 true l70):=M7 hKd dv
 have hKu:∀ k∈(put x81 true l70).map Prod.fst,k∈univ a0:=Kc hKu dv
 have hPle:(put x81 true l70).length<=(univ a0).length:=by rw [<- List.length_map Prod.fst]; exact C3 hKd hKu
 have hT:∀ y∈(put x81 true l70),y.2=true:=ri (P:=λy:Bool=>y=true) hT rfl
 refine jG (H:=H91) rfl (nj (H:=H91) (i:=5) (ek:=pK) (ev:=bK) (l:=l70) x81 true hS92 rfl rfl rfl rfl rfl rfl lF) ?_
 rintro _ H113 ⟨rfl,hS114⟩
 refine oN ?_
 refine AR (λE Z=>(E=[(2,(je b1)),(3,(je b4)),(4,.la 4 0),(5,.bool r24.kI),(6,(.hm b25)),(7,(je b28)),(12,.jQ 147 [] [(je b1),(je b28)]),(13,.la 13 0)]/\Z = { H113 with iI:=[(4,[iv 0,iv 0,iv 0,iS,iS,iS,iS,iS,iR]),(13,(iM.ag x81))] })) ?_ ?_
 rintro _ _ ⟨rfl,rfl⟩
 refine aa ?_
 refine lU 7 hS114 (.ip (iX.ag a0) 0 false) ?_
 refine aw ?_
 refine oC (t138 a0 x81.elem) ?_
 rintro _ ⟨r116,hc115,rfl⟩
 have hK:=hc115
 refine cN ?_
 refine jz (λh117=>?_) (λh117=>?_)
 refine bc ?_
 refine qg ?_
 refine nh 6 hS114 ?_
 refine Hc 6 hS114 (.bool true) λH118 hS119=>?_
 refine oN ?_
 refine ⟨_,?_,v62,l63,v64,l65,v66,l67,v87,((l69.take (((l69.length:Int) - 1).toNat))),((put x81 true l70)),n71,n72,n73,true,H118,rfl,fi,fh,fk,e9,dI,dC,dC,dC,ff,eB,hS119,atR⟩
 first | omega | (simp only [List.length_append,List.length_cons,List.length_nil,List.length_take] at *; omega)
 refine bf ?_
 refine jz (λh120=>?_) (λh120=>?_)
 refine bc ?_
 refine aZ ?_
 refine jz (λh121=>?_) (λh121=>?_)
 refine aC ?_
 refine aZ ?_
 have hS122:=Sep.pick hS114 [6,2,1,0,3,4,5,7] 8 dA dA
 refine jV (H:=H113) (args:=[(je b4),iv x81.elem]) (p:=[]) (r:=[]) rfl rfl rfl rfl rfl rfl rfl (Th b4 n71 n72 n73 r8 r10 v66 l67 v64 l65 v62 l63 b74 x81.elem (mT iM.ag 2 v87 (l69.take (((l69.length:Int) - 1).toNat))::j7 b28 [v87]::lW b25 pK bK (put x81 true l70)::j7 b1 [.ip (iX.ag a0) 0 false]::[]) hS122 dw) ?_
 rintro _ H123 ⟨r129,vzo126,zoneo127,bareo128,hc125,hS124,rfl⟩
 have hZr:∀ x∈zoneo127,yZ x:=λx hx=>(hc125.2 x hx).elim (hZr x) (λe=>by rw [e]; exact (q6 _ dv).1)
 have hc125:=hc125.1
 cases r129
 refine aG ?_
 refine wz [(je b1),(je b4),.la 4 0,.bool r24.kI,(.hm b25),(je b28),.jQ 147 [] [(je b1),(je b28)]] H123 [(4,[iv 0,iv 0,iv 0,iS,iS,iS,iS,iS,iR])] ?_
 refine qe ?_
 have hS130:=Sep.pick hS124 [3,2,1,4,5,6,0,7] 8 dA dA
 refine ⟨_,?_,v62,l63,vzo126,zoneo127,v66,l67,v87,((l69.take (((l69.length:Int) - 1).toNat))),((put x81 true l70)),n71,n72,n73,bareo128,H123,rfl,fi,fh,fk,e9,dI,dC,dC,dC,ff,eB,hS130,atR⟩
 first | omega | (simp only [List.length_append,List.length_cons,List.length_nil,List.length_take] at *; omega)
 refine aC ?_
 refine aJ ?_
 have hS131:=Sep.pick hS124 [7,5,4,0,1,2,3,6] 8 dA dA
 refine jV (H:=H123) (args:=[iv x81.elem,iv 2]) (p:=[]) (r:=[(je b1),(je b28)]) rfl rfl rfl rfl rfl rfl rfl (Ks x81.elem 2 b1 a0 b28 v87 (l69.take (((l69.length:Int) - 1).toNat)) (j7 b4 [iv n71,iv n72,iv n73,jo r8,ke r10,v66,vzo126,v62,.bool bareo128]::nZ jO.ag 2 v66 l67::qo vzo126 zoneo127::qo v62 l63::lW b25 pK bK (put x81 true l70)::[]) hS131 dw) ?_
 rintro _ H132 ⟨vto135,todoo136,hc134,hS133,rfl⟩
 have hTu:∀ y∈todoo136,y∈univ a0:=λy hy=>(hc134.2 y hy).elim (hTu y) id
 refine oN ?_
 refine bv ?_
 have hS137:=Sep.pick hS133 [0,1,2,3,4,5,6,7] 8 dA dA
 refine jV (H:=H132) (args:=[iv x81.elem,iv 1]) (p:=[]) (r:=[(je b1),(je b28)]) rfl rfl rfl rfl rfl rfl rfl (Ks x81.elem 1 b1 a0 b28 vto135 todoo136 (j7 b4 [iv n71,iv n72,iv n73,jo r8,ke r10,v66,vzo126,v62,.bool bareo128]::nZ jO.ag 2 v66 l67::qo vzo126 zoneo127::qo v62 l63::lW b25 pK bK (put x81 true l70)::[]) hS137 dw) ?_
 rintro _ H138 ⟨vto141,todoo142,hc140,hS139,rfl⟩
 have hTu:∀ y∈todoo142,y∈univ a0:=λy hy=>(hc140.2 y hy).elim (hTu y) id
 refine oN ?_
 refine wz [(je b1),(je b4),.la 4 0,.bool r24.kI,(.hm b25),(je b28),.jQ 147 [] [(je b1),(je b28)]] H138 [(4,[iv 0,iv 0,iv 0,iS,iS,iS,iS,iS,iR])] ?_
 refine qe ?_
 have hS143:=Sep.pick hS139 [6,5,4,2,1,7,3,0] 8 dA dA
 refine ⟨_,?_,v62,l63,vzo126,zoneo127,v66,l67,vto141,todoo142,((put x81 true l70)),n71,n72,n73,bareo128,H138,rfl,fi,fh,fk,e9,dI,dC,dC,dC,ff,eB,hS143,atR⟩
 first | omega | (simp only [List.length_append,List.length_cons,List.length_nil,List.length_take] at *; omega)
 refine aG ?_
 refine wz [(je b1),(je b4),.la 4 0,.bool r24.kI,(.hm b25),(je b28),.jQ 147 [] [(je b1),(je b28)],.la 13 0] H113 [(4,[iv 0,iv 0,iv 0,iS,iS,iS,iS,iS,iR]),(13,(iM.ag x81))] ?_
 refine aa ?_
 refine cM ?_
 refine aA ?_
 refine aa ?_
 refine nh 6 hS114 ?_
 refine lU 6 hS114 (ke r10) ?_
 refine oV ?_
 refine oC (t150 (Row.ny r10) (⟨x81.elem,x81.en⟩:jO)) ?_
 rintro _ ⟨r145,hc144,rfl⟩
 cases r145
 refine oV ?_
 refine dl ?_
 refine oV ?_
 refine oh hS114 2 λr146 hl147 hln150 hz149=>?_
 refine mV (args:=[v66,.agg (iM.ag x81)]) (p:=[]) (r:=[]) (args':=[jm.av jO.ag r146,.agg (iM.ag x81)]) (R:=Mk r146 (⟨x81.elem,x81.en⟩:jO)) rfl rfl rfl rfl rfl (jb (Sep.arg (i:=2) hS114 rfl) (jb rfl kg)) rfl fp (lj (by show jJ (freeze true { H113 with iI:=[] } 8) [v66,.agg (iM.ag x81)] = _; simp only [FZ,hz149]) (jb (Sep.oX (i:=2) hS114 rfl) (jb rfl kg))) (lj fe (jb rfl (jb rfl kg))) (λh=>t150 r146 (⟨x81.elem,x81.en⟩:jO)  h) ?_
 rintro _ ⟨r152,hc151,rfl⟩
 cases r152
 refine ah ?_
 refine wz [(je b1),(je b4),.la 4 0,.bool r24.kI,(.hm b25),(je b28),.jQ 147 [] [(je b1),(je b28)],.la 13 0] H113 [(4,[iv 0,iv 0,iv 0,iS,iS,iS,iS,iS,iR]),(13,(iM.ag x81))] ?_
 refine bD ?_
 refine iT rfl (λ_=>j9 rfl rfl rfl (pW .i64 3 x81.en)) ?_
 refine aw ?_
 refine aW ?_
 refine dl ?_
 refine oV ?_
 refine oh hS114 2 λr153 hl154 hln157 hz156=>?_
 refine mV (args:=[v66,.agg [iv x81.elem,iv (IntKind.i64.wrap (3 - x81.en))]]) (p:=[]) (r:=[]) (args':=[jm.av jO.ag r153,.agg [iv x81.elem,iv (IntKind.i64.wrap (3 - x81.en))]]) (R:=Mk r153 (⟨x81.elem,(IntKind.i64.wrap (3 - x81.en))⟩:jO)) rfl rfl rfl rfl rfl (jb (Sep.arg (i:=2) hS114 rfl) (jb rfl kg)) rfl fp (lj (by show jJ (freeze true { H113 with iI:=[] } 8) [v66,.agg [iv x81.elem,iv (IntKind.i64.wrap (3 - x81.en))]] = _; simp only [FZ,hz156]) (jb (Sep.oX (i:=2) hS114 rfl) (jb rfl kg))) (lj fe (jb rfl (jb rfl kg))) (λh=>t150 r153 (⟨x81.elem,(IntKind.i64.wrap (3 - x81.en))⟩:jO)  h) ?_
 rintro _ ⟨r159,hc158,rfl⟩
 cases r159
 refine bc ?_
 refine qg ?_
 refine dl ?_
 refine aw ?_
 refine Gx 2 [(⟨x81.elem,(IntKind.i64.wrap (3 - x81.en))⟩:jO)] hS114 λv160 H161 hS162=>?_
 refine nh 6 hS162 ?_
 refine jG (H:=H161) rfl (mN (H:=H161) (i:=6) (o:=5) (r:=v160) hS162 rfl rfl rfl rfl (nW rfl rfl (Sep.cell (i:=2) hS162 rfl)) (jb (Sep.cell (i:=2) hS162 rfl) kg) rfl) ?_
 rintro _ H163 ⟨rfl,hS164⟩
 refine oN ?_
 refine ⟨_,?_,v62,l63,v64,l65,v160,((l67++[(⟨x81.elem,(IntKind.i64.wrap (3 - x81.en))⟩:jO)])),v87,((l69.take (((l69.length:Int) - 1).toNat))),((put x81 true l70)),n71,n72,n73,b74,H163,rfl,fi,fh,fk,e9,dI,dC,dC,dC,ff,eB,hS164,atR⟩
 first | omega | (simp only [List.length_append,List.length_cons,List.length_nil,List.length_take] at *; omega)
 refine ah ?_
 refine ⟨_,?_,v62,l63,v64,l65,v66,l67,v87,((l69.take (((l69.length:Int) - 1).toNat))),((put x81 true l70)),n71,n72,n73,b74,H113,rfl,fi,fh,fk,e9,dI,dC,dC,dC,ff,eB,hS114,atR⟩
 first | omega | (simp only [List.length_append,List.length_cons,List.length_nil,List.length_take] at *; omega)
 refine bc ?_
 refine aZ ?_
 have hS165:=Sep.pick hS114 [6,2,1,0,3,4,5,7] 8 dA dA
 refine jV (H:=H113) (args:=[(je b4),iv x81.elem]) (p:=[]) (r:=[]) rfl rfl rfl rfl rfl rfl rfl (Th b4 n71 n72 n73 r8 r10 v66 l67 v64 l65 v62 l63 b74 x81.elem (mT iM.ag 2 v87 (l69.take (((l69.length:Int) - 1).toNat))::j7 b28 [v87]::lW b25 pK bK (put x81 true l70)::j7 b1 [.ip (iX.ag a0) 0 false]::[]) hS165 dw) ?_
 rintro _ H166 ⟨r172,vzo169,zoneo170,bareo171,hc168,hS167,rfl⟩
 have hZr:∀ x∈zoneo170,yZ x:=λx hx=>(hc168.2 x hx).elim (hZr x) (λe=>by rw [e]; exact (q6 _ dv).1)
 have hc168:=hc168.1
 cases r172
 refine aG ?_
 refine wz [(je b1),(je b4),.la 4 0,.bool r24.kI,(.hm b25),(je b28),.jQ 147 [] [(je b1),(je b28)]] H166 [(4,[iv 0,iv 0,iv 0,iS,iS,iS,iS,iS,iR])] ?_
 refine qe ?_
 have hS173:=Sep.pick hS167 [3,2,1,4,5,6,0,7] 8 dA dA
 refine ⟨_,?_,v62,l63,vzo169,zoneo170,v66,l67,v87,((l69.take (((l69.length:Int) - 1).toNat))),((put x81 true l70)),n71,n72,n73,bareo171,H166,rfl,fi,fh,fk,e9,dI,dC,dC,dC,ff,eB,hS173,atR⟩
 first | omega | (simp only [List.length_append,List.length_cons,List.length_nil,List.length_take] at *; omega)
 refine aC ?_
 refine bv ?_
 have hS174:=Sep.pick hS167 [7,5,4,0,1,2,3,6] 8 dA dA
 refine jV (H:=H166) (args:=[iv x81.elem,iv 0]) (p:=[]) (r:=[(je b1),(je b28)]) rfl rfl rfl rfl rfl rfl rfl (Ks x81.elem 0 b1 a0 b28 v87 (l69.take (((l69.length:Int) - 1).toNat)) (j7 b4 [iv n71,iv n72,iv n73,jo r8,ke r10,v66,vzo169,v62,.bool bareo171]::nZ jO.ag 2 v66 l67::qo vzo169 zoneo170::qo v62 l63::lW b25 pK bK (put x81 true l70)::[]) hS174 dw) ?_
 rintro _ H175 ⟨vto178,todoo179,hc177,hS176,rfl⟩
 have hTu:∀ y∈todoo179,y∈univ a0:=λy hy=>(hc177.2 y hy).elim (hTu y) id
 refine oN ?_
 refine wz [(je b1),(je b4),.la 4 0,.bool r24.kI,(.hm b25),(je b28),.jQ 147 [] [(je b1),(je b28)]] H175 [(4,[iv 0,iv 0,iv 0,iS,iS,iS,iS,iS,iR])] ?_
 refine qe ?_
 have hS180:=Sep.pick hS176 [6,5,4,2,1,7,3,0] 8 dA dA
 refine ⟨_,?_,v62,l63,vzo169,zoneo170,v66,l67,vto178,todoo179,((put x81 true l70)),n71,n72,n73,bareo171,H175,rfl,fi,fh,fk,e9,dI,dC,dC,dC,ff,eB,hS180,atR⟩
 first | omega | (simp only [List.length_append,List.length_cons,List.length_nil,List.length_take] at *; omega)
 refine bl ?_
 refine bc ?_
 refine aZ ?_
 have hS181:=Sep.pick hS114 [6,2,1,0,3,4,5,7] 8 dA dA
 refine jV (H:=H113) (args:=[(je b4),iv x81.elem]) (p:=[]) (r:=[]) rfl rfl rfl rfl rfl rfl rfl (Th b4 n71 n72 n73 r8 r10 v66 l67 v64 l65 v62 l63 b74 x81.elem (mT iM.ag 2 v87 (l69.take (((l69.length:Int) - 1).toNat))::j7 b28 [v87]::lW b25 pK bK (put x81 true l70)::j7 b1 [.ip (iX.ag a0) 0 false]::[]) hS181 dw) ?_
 rintro _ H182 ⟨r188,vzo185,zoneo186,bareo187,hc184,hS183,rfl⟩
 have hZr:∀ x∈zoneo186,yZ x:=λx hx=>(hc184.2 x hx).elim (hZr x) (λe=>by rw [e]; exact (q6 _ dv).1)
 have hc184:=hc184.1
 cases r188
 refine aG ?_
 refine wz [(je b1),(je b4),.la 4 0,.bool r24.kI,(.hm b25),(je b28),.jQ 147 [] [(je b1),(je b28)]] H182 [(4,[iv 0,iv 0,iv 0,iS,iS,iS,iS,iS,iR])] ?_
 refine qe ?_
 have hS189:=Sep.pick hS183 [3,2,1,4,5,6,0,7] 8 dA dA
 refine ⟨_,?_,v62,l63,vzo185,zoneo186,v66,l67,v87,((l69.take (((l69.length:Int) - 1).toNat))),((put x81 true l70)),n71,n72,n73,bareo187,H182,rfl,fi,fh,fk,e9,dI,dC,dC,dC,ff,eB,hS189,atR⟩
 first | omega | (simp only [List.length_append,List.length_cons,List.length_nil,List.length_take] at *; omega)
 refine aC ?_
 refine bv ?_
 have hS190:=Sep.pick hS183 [7,5,4,0,1,2,3,6] 8 dA dA
 refine jV (H:=H182) (args:=[iv x81.elem,iv 0]) (p:=[]) (r:=[(je b1),(je b28)]) rfl rfl rfl rfl rfl rfl rfl (Ks x81.elem 0 b1 a0 b28 v87 (l69.take (((l69.length:Int) - 1).toNat)) (j7 b4 [iv n71,iv n72,iv n73,jo r8,ke r10,v66,vzo185,v62,.bool bareo187]::nZ jO.ag 2 v66 l67::qo vzo185 zoneo186::qo v62 l63::lW b25 pK bK (put x81 true l70)::[]) hS190 dw) ?_
 rintro _ H191 ⟨vto194,todoo195,hc193,hS192,rfl⟩
 have hTu:∀ y∈todoo195,y∈univ a0:=λy hy=>(hc193.2 y hy).elim (hTu y) id
 refine oN ?_
 refine wz [(je b1),(je b4),.la 4 0,.bool r24.kI,(.hm b25),(je b28),.jQ 147 [] [(je b1),(je b28)]] H191 [(4,[iv 0,iv 0,iv 0,iS,iS,iS,iS,iS,iR])] ?_
 refine qe ?_
 have hS196:=Sep.pick hS192 [6,5,4,2,1,7,3,0] 8 dA dA
 refine ⟨_,?_,v62,l63,vzo185,zoneo186,v66,l67,vto194,todoo195,((put x81 true l70)),n71,n72,n73,bareo187,H191,rfl,fi,fh,fk,e9,dI,dC,dC,dC,ff,eB,hS196,atR⟩
 first | omega | (simp only [List.length_append,List.length_cons,List.length_nil,List.length_take] at *; omega)
 refine bf ?_
 refine lU 7 hS114 (.ip (iX.ag a0) 0 false) ?_
 refine aO ?_
 refine oC (t151 a0 x81.elem x81.en 0) ?_
 rintro _ ⟨r198,r199,hc197,rfl⟩
 cases r199
 refine aO ?_
 refine aW ?_
 refine cf ?_
 refine ah ?_
 refine ⟨_,?_,v62,l63,v64,l65,v66,l67,v87,((l69.take (((l69.length:Int) - 1).toNat))),((put x81 true l70)),n71,n72,n73,b74,H113,rfl,fi,fh,fk,e9,dI,dC,dC,dC,ff,eB,hS114,atR⟩
 first | omega | (simp only [List.length_append,List.length_cons,List.length_nil,List.length_take] at *; omega)
 refine oV ?_
 refine bW ?_
 refine bD ?_
 have hS200:=Sep.pick hS114 [6,2,1,0,3,4,5,7] 8 dA dA
 refine jV (H:=H113) (args:=[(je b4),iv x81.elem]) (p:=[]) (r:=[]) rfl rfl rfl rfl rfl rfl rfl (Th b4 n71 n72 n73 r8 r10 v66 l67 v64 l65 v62 l63 b74 x81.elem (mT iM.ag 2 v87 (l69.take (((l69.length:Int) - 1).toNat))::j7 b28 [v87]::lW b25 pK bK (put x81 true l70)::j7 b1 [.ip (iX.ag a0) 0 false]::[]) hS200 dw) ?_
 rintro _ H201 ⟨r207,vzo204,zoneo205,bareo206,hc203,hS202,rfl⟩
 have hZr:∀ x∈zoneo205,yZ x:=λx hx=>(hc203.2 x hx).elim (hZr x) (λe=>by rw [e]; exact (q6 _ dv).1)
 have hc203:=hc203.1
 cases r207
 refine ah ?_
 have hS208:=Sep.pick hS202 [3,2,1,4,5,6,0,7] 8 dA dA
 refine ⟨_,?_,v62,l63,vzo204,zoneo205,v66,l67,v87,((l69.take (((l69.length:Int) - 1).toNat))),((put x81 true l70)),n71,n72,n73,bareo206,H201,rfl,fi,fh,fk,e9,dI,dC,dC,dC,ff,eB,hS208,atR⟩
 first | omega | (simp only [List.length_append,List.length_cons,List.length_nil,List.length_take] at *; omega)
 refine bc ?_
 refine qg ?_
 refine aO ?_
 have hS209:=Sep.pick hS202 [7,5,4,0,1,2,3,6] 8 dA dA
 refine jV (H:=H201) (args:=[iv x81.elem,iv r198]) (p:=[]) (r:=[(je b1),(je b28)]) rfl rfl rfl rfl rfl rfl rfl (Ks x81.elem r198 b1 a0 b28 v87 (l69.take (((l69.length:Int) - 1).toNat)) (j7 b4 [iv n71,iv n72,iv n73,jo r8,ke r10,v66,vzo204,v62,.bool bareo206]::nZ jO.ag 2 v66 l67::qo vzo204 zoneo205::qo v62 l63::lW b25 pK bK (put x81 true l70)::[]) hS209 dw) ?_
 rintro _ H210 ⟨vto213,todoo214,hc212,hS211,rfl⟩
 have hTu:∀ y∈todoo214,y∈univ a0:=λy hy=>(hc212.2 y hy).elim (hTu y) id
 refine oN ?_
 have hS215:=Sep.pick hS211 [6,5,4,2,1,7,3,0] 8 dA dA
 refine ⟨_,?_,v62,l63,vzo204,zoneo205,v66,l67,vto213,todoo214,((put x81 true l70)),n71,n72,n73,bareo206,H210,rfl,fi,fh,fk,e9,dI,dC,dC,dC,ff,eB,hS215,atR⟩
 first | omega | (simp only [List.length_append,List.length_cons,List.length_nil,List.length_take] at *; omega)
 refine aa ?_
 refine lU 7 hS114 (.ip (iX.ag a0) 0 false) ?_
 refine oV ?_
 refine oC (t139 a0 x81) ?_
 rintro _ ⟨r217,hc216,rfl⟩
 have hR:=hc216
 refine cV ?_
 refine lP (λh218=>?_) (λh218=>?_)
 refine oV ?_
 refine lY (b:=r24.kI) rfl (λ_=>rfl) (λh219=>?_) (λh219=>?_)
 refine ca ?_
 exact ⟨rfl,rfl⟩
 refine oV ?_
 refine bc ?_
 refine qs ?_
 refine aa ?_
 refine nh 6 hS114 ?_
 refine lU 6 hS114 v62 ?_
 refine oV ?_
 refine oh hS114 0 λr220 hl221 hln224 hz223=>?_
 refine mV (args:=[v62,iv r217]) (p:=[]) (r:=[]) (args':=[qj r220,iv r217]) (R:=Vx r220 r217) rfl rfl rfl rfl rfl (jb (Sep.arg (i:=0) hS114 rfl) (jb rfl kg)) rfl fp (lj (by show jJ (freeze true { H113 with iI:=[] } 8) [v62,iv r217] = _; simp only [FZ,hz223]) (jb (Sep.oX (i:=0) hS114 rfl) (jb rfl kg))) (lj fe (jb rfl (jb rfl kg))) (λh=>t69 r220 r217  h) ?_
 rintro _ ⟨r226,hc225,rfl⟩
 have hIn:=hc225
 cases r226
 refine bc ?_
 refine qg ?_
 refine nh 6 hS114 ?_
 refine lU 6 hS114 v62 ?_
 refine aw ?_
 refine Gx 0 [r217] hS114 λv227 H228 hS229=>?_
 refine nh 6 hS229 ?_
 refine jG (H:=H228) rfl (mN (H:=H228) (i:=6) (o:=7) (r:=v227) hS229 rfl rfl rfl rfl (nW rfl rfl (Sep.cell (i:=0) hS229 rfl)) (jb (Sep.cell (i:=0) hS229 rfl) kg) rfl) ?_
 rintro _ H230 ⟨rfl,hS231⟩
 refine oN ?_
 refine wz [(je b1),(je b4),.la 4 0,.bool r24.kI,(.hm b25),(je b28),.jQ 147 [] [(je b1),(je b28)]] H230 [(4,[iv 0,iv 0,iv 0,iS,iS,iS,iS,iS,iR])] ?_
 refine qe ?_
 refine ⟨_,?_,v227,((l63++[r217])),v64,l65,v66,l67,v87,((l69.take (((l69.length:Int) - 1).toNat))),((put x81 true l70)),n71,n72,n73,b74,H230,rfl,fi,fh,fk,e9,dI,dC,dC,dC,ff,eB,hS231,atR⟩
 first | omega | (simp only [List.length_append,List.length_cons,List.length_nil,List.length_take] at *; omega)
 refine ah ?_
 refine wz [(je b1),(je b4),.la 4 0,.bool r24.kI,(.hm b25),(je b28),.jQ 147 [] [(je b1),(je b28)]] H113 [(4,[iv 0,iv 0,iv 0,iS,iS,iS,iS,iS,iR])] ?_
 refine qe ?_
 refine ⟨_,?_,v62,l63,v64,l65,v66,l67,v87,((l69.take (((l69.length:Int) - 1).toNat))),((put x81 true l70)),n71,n72,n73,b74,H113,rfl,fi,fh,fk,e9,dI,dC,dC,dC,ff,eB,hS114,atR⟩
 first | omega | (simp only [List.length_append,List.length_cons,List.length_nil,List.length_take] at *; omega)
 refine bk ?_
 refine ah ?_
 exact ⟨rfl,rfl⟩
 refine bO ?_
 refine cF ?_
 refine ⟨_,?_,v62,l63,v64,l65,v66,l67,v87,((l69.take (((l69.length:Int) - 1).toNat))),l70,n71,n72,n73,b74,H91,rfl,fi,fh,fk,e9,dI,dC,dC,dC,ff,eB,hS92,atR⟩
 first | omega | (simp only [List.length_append,List.length_cons,List.length_nil,List.length_take] at *; omega)
 refine aM ?_
 refine wz [(je b4),.la 4 0,.la 4 0] H75 [(4,[iv 0,iv 0,iv 0,iS,iS,iS,iS,iS,iR]),(4,[iv 0,iv 0,iv 0,iS,iS,iS,iS,iS,iR])] ?_
 refine aa ?_
 refine lU 6 hS76 (.agg [iv n71,iv n72,iv n73,jo r8,ke r10,v66,v64,v62,.bool b74]) ?_
 refine iT rfl (λ_=>BS rfl rfl rfl rfl (jb rfl (jb rfl (jb rfl (jb rfl (jb rfl (jb (Sep.cell (i:=2) hS76 rfl) (jb (Sep.cell (i:=1) hS76 rfl) (jb (Sep.cell (i:=0) hS76 rfl) (jb rfl kg))))))))) rfl rfl) ?_
 refine oN ?_
 refine qr ?_
 obtain ⟨r232,hl233,hf234⟩:=mE (H:=H75) (i:=2) (l:=l67) (enc:=jO.ag) hS76 rfl dz
 have hlq:=hl233; have hln236:=congrArg List.length hl233
 have hz235:∀ m,freeze false { H75 with iI:=[(4,[iv n71,iv n72,iv n73,jo r8,ke r10,v66,v64,v62,.bool b74])] } (m+2) v66=some (ke r232):=λm=>hf234 _ _ (λ_=>rfl)
 obtain ⟨r237,hl238,hf239⟩:=mE (H:=H75) (i:=1) (l:=l65) (enc:=j4) hS76 rfl dz
 have hlq:=hl238; have hln241:=congrArg List.length hl238
 have hz240:∀ m,freeze false { H75 with iI:=[(4,[iv n71,iv n72,iv n73,jo r8,ke r10,v66,v64,v62,.bool b74])] } (m+2) v64=some (kr r237):=λm=>hf239 _ _ (λ_=>rfl)
 obtain ⟨r242,hl243,hf244⟩:=mE (H:=H75) (i:=0) (l:=l63) (enc:=j4) hS76 rfl dz
 have hlq:=hl243; have hln246:=congrArg List.length hl243
 have hz245:∀ m,freeze false { H75 with iI:=[(4,[iv n71,iv n72,iv n73,jo r8,ke r10,v66,v64,v62,.bool b74])] } (m+2) v62=some (kr r242):=λm=>hf244 _ _ (λ_=>rfl)
 exact ⟨.agg [iv n71,iv n72,iv n73,jo r8,ke r10,v66,v64,v62,.bool b74],(lN (vs:=[.agg [iv n71,iv n72,iv n73,jo r8,ke r10,v66,v64,v62,.bool b74]]) rfl rfl),.agg [iv n71,iv n72,iv n73,jo r8,ke r10,ke r232,kr r237,kr r242,.bool b74],(show freeze false { H75 with iI:=[(4,[iv n71,iv n72,iv n73,jo r8,ke r10,v66,v64,v62,.bool b74])] } 8 (.agg [iv n71,iv n72,iv n73,jo r8,ke r10,v66,v64,v62,.bool b74])=some (.agg [iv n71,iv n72,iv n73,jo r8,ke r10,ke r232,kr r237,kr r242,.bool b74]) by simp only [FZ,hz235,hz240,hz245]),(⟨n71,n72,n73,r8,r10,r232,r237,r242,b74⟩:ja),(by refine ⟨by simp_all [Row.ny],by simp_all [Row.ny],by dsimp only; omega,?_,by dsimp only; omega,by dsimp only; omega⟩; simp_all),rfl⟩
def afl (_a0:bG) (v:AV):Prop:=∃ r0:jY,∃ r1:Int,((r1=0->((∀ r∈(r0.roads.l:List ja),0<r.steps.l.length/\r.steps.l.length<=12/\r.l8.l.length<=12/\ow _a0.elems.l r)/\r0.roads.l.length<=64)/\(r0.ki = _a0.canon/\∃ n:iX,ou n _a0/\rs 29 [.agg (bG.ag _a0)]=.jl [.ip (iX.ag n) 0 false,iv 0])))/\v=.jl [.agg (jY.ag r0),iv r1]
def aeT (a0:bG) (q1:lS a0):Ct 35 [.agg (bG.ag a0)] (afl a0):=by
 refine jf MU ?_
 refine ae ?_
 refine cV ?_
 refine oC (t29 a0 dw) ?_
 rintro _ (⟨r2,⟨hc1,hc1r⟩,rfl⟩ | ⟨r3,⟨hc1,hc1r⟩,rfl⟩)
 have hFw:=hc1.Ed; have hFs:=hc1.Ed.signals; have hFl:=hc1.len; have hRg:=hc1.rg; have hNe:=hc1; have hNr:=hc1r
 refine cI ?_
 refine ah ?_
 refine wy [.la 2 0,.la 2 0,.ip (iX.ag r2) 0 false] [(2,[iS,iS,iS,iS,iv 0,iv 0,iv 0,iv 0,iR,iS]),(2,[iS,iS,iS,iS,iv 0,iv 0,iv 0,iv 0,iR,iS])] ?_
 refine ao ?_
 refine jV (H:=aT.empty) (args:=[.ip (iX.ag r2) 0 false]) (p:=[]) (r:=[]) rfl rfl rfl rfl rfl rfl rfl (s52 r2 ([]) kB dw dw) ?_
 rintro _ H5 ⟨ov8,ol9,eo10,hc7,hS6,rfl⟩
 have hR:=hc7.1
 rw [hNe.elems] at hR
 have hI:=hc7.2
 refine cI ?_
 refine lb (λh11=>?_) (λh11=>?_)
 refine aC ?_
 refine da ?_
 exact xG ⟨(⟨(⟨(lD:Row ko),(lD:Row kD),(lD:Row kb),(lD:Row jN),0,0,0,0,false⟩:bG),(lD:Row ja)⟩:jY),eo10,d5,rfl⟩
 refine aG ?_
 refine wz [.la 2 0,.ip (iX.ag r2) 0 false,ov8] H5 [(2,[iS,iS,iS,iS,iv 0,iv 0,iv 0,iv 0,iR,iS])] ?_ (jD hS6 [(6,0)])
 refine aB ?_
 refine iT rfl (λ_=>oT (H:=H5) (i:=0) (l:=ol9) (enc:=ja.ag) hS6 rfl rfl rfl rfl rfl rfl rfl) ?_
 refine aL ?_
 refine iW ol9.length (λmw e h=>∃ v13:AV,∃ l14:List ja,∃ H15:aT,((∀ r∈(l14:List ja),0<r.steps.l.length/\r.steps.l.length<=12/\r.l8.l.length<=12/\ow a0.elems.l r))/\(l14.length<=64/\(l14.length:Int)=(ol9.length:Int))/\Sep H15 (nZ ja.ag 9 v13 l14::[])/\At [2,4,6,27,28] [.la 2 0,.ip (iX.ag r2) 0 false,v13,iF ol9.length,iF mw] H15 [(2,[iS,iS,iS,iS,iv 0,iv 0,iv 0,iv 0,iR,iS])] e h) ?_ (k0:=0) dD ⟨ov8,ol9,H5,(by exact hR),dD,hS6,(jD hS6 [(6,0)])⟩
 rintro mw e h hkk12 ⟨v13,l14,H15,hR,hI,hS16,hA⟩
 refine aK ?_
 refine jk (λh17=>?_) (λh17=>?_)
 refine aq ?_
 refine wz [.la 2 0,.ip (iX.ag r2) 0 false,v13,iF ol9.length,iF mw] H15 [(2,[iS,iS,iS,iS,iv 0,iv 0,iv 0,iv 0,iR,iS])] ?_ (jD hS16 [(6,0)])
 refine aF ?_
 refine ae ?_
 refine dj ?_
 refine bR ?_
 have hx18:mw<l14.length:=by first | omega | (simp<;>omega) | (simp_all; omega)
 obtain ⟨x19,hqx19⟩:∃ x,l14[mw]=x:=⟨_,rfl⟩
 have hinx19:x19∈l14:=by rw [<- hqx19]; exact List.getElem_mem _
 have hsx19:=hR x19 hinx19; have hsG:=hsx19
 refine v8 rfl (nY (H:=H15) (i:=0) (m:=mw) (cs:=ja.ag x19) hS16 rfl rfl rfl rfl rfl rfl rfl (mn hx18 hqx19)) ?_
 rintro a20 ⟨ha21,hea22⟩
 refine iT rfl (λ_=>qJ (H:=H15) (i:=0) (m:=mw) (o:=0) (r:=.agg (ja.ag x19)) (cs:=ja.ag x19) hS16 rfl (mn hx18 hqx19) hea22 rfl rfl ha21) ?_
 refine oC (t72 r2 x19 dw dw dw dw dw) ?_
 rintro _ ⟨r24,hc23,rfl⟩
 have hC53:=hc23
 have hx25:mw<l14.length:=by first | omega | (simp<;>omega) | (simp_all; omega)
 refine v8 rfl (nY (H:=H15) (i:=0) (m:=mw) (cs:=ja.ag x19) hS16 rfl rfl rfl rfl rfl rfl rfl (mn hx25 hqx19)) ?_
 rintro a26 ⟨ha27,hea28⟩
 refine jG (H:=H15) rfl (wA (H:=H15) (i:=0) (m:=mw) (o:=0) x19 r24 hS16 rfl hx25 hqx19 hea28 rfl ha27 rfl rfl rfl rfl) ?_
 rintro _ H29 ⟨rfl,hS30⟩
 refine oN ?_
 refine wz [.la 2 0,.ip (iX.ag r2) 0 false,v13,iF ol9.length,iF mw] H29 [(2,[iS,iS,iS,iS,iv 0,iv 0,iv 0,iv 0,iR,iS])] ?_ (jD hS30 [(6,0)])
 refine qg ?_
 refine jq ?_
 refine ab ?_
 exact ⟨by omega,v13,((l14.set mw r24)),H29,(by exact GX hR (by rw [hC53.1,hC53.2.1]; exact ⟨hsG.1,hsG.2.1,hsG.2.2.1,MQ hC53.1 hsG.2.2.2 hC53.2.2⟩)),gd,hS30,(jD hS30 [(6,0)])⟩
 refine ap ?_
 refine wz [.la 2 0,.la 2 0,.ip (iX.ag r2) 0 false,v13] H15 [(2,[iS,iS,iS,iS,iv 0,iv 0,iv 0,iv 0,iR,iS]),(2,[iS,iS,iS,iS,iv 0,iv 0,iv 0,iv 0,iR,iS])] ?_ (jD hS16 [(6,0)])
 refine ao ?_
 refine oC (t73 r2 dw) ?_
 rintro _ ⟨r32,hc31,rfl⟩
 have hPl:=hc31.2.2.2.2.2
 refine oV ?_
 rcases Sep.aaH (i:=0) hS16 rfl with ⟨rfl,hx35⟩ | ⟨rfl,hx35⟩ | ⟨b33,g34,rfl⟩
 refine bU ?_
 exact xG ⟨(⟨r32,(lD:Row ja)⟩:jY),0,d5,rfl⟩
 refine bU ?_
 obtain ⟨r36,hl37,hf38⟩:=mE (H:=H15) (i:=0) (l:=l14) (enc:=ja.ag) hS16 rfl dz
 have hlq:=hl37; have hln40:=congrArg List.length hl37
 have hz39:∀ m,freeze false { H15 with iI:=[(2,[jI r32.elems,jS r32.jd,jP r32.signals,jH r32.lines,iv r32.top,iv r32.jT,iv r32.kq,iv r32.jX,.bool r32.kI,(.sl [] (.exact 0))])] } (m+2) (.sl [] (.exact 0))=some (ju r36):=λm=>hf38 _ _ (λ_=>by simp only [ja.ag,jJ,uO,ug,wR,uG,wQ])
 exact ⟨.jl [.agg [jI r32.elems,jS r32.jd,jP r32.signals,jH r32.lines,iv r32.top,iv r32.jT,iv r32.kq,iv r32.jX,.bool r32.kI,(.sl [] (.exact 0))],iv 0],rfl,.jl [.agg [jI r32.elems,jS r32.jd,jP r32.signals,jH r32.lines,iv r32.top,iv r32.jT,iv r32.kq,iv r32.jX,.bool r32.kI,ju r36],iv 0],(show freeze false { H15 with iI:=[(2,[jI r32.elems,jS r32.jd,jP r32.signals,jH r32.lines,iv r32.top,iv r32.jT,iv r32.kq,iv r32.jX,.bool r32.kI,(.sl [] (.exact 0))])] } 8 (.jl [.agg [jI r32.elems,jS r32.jd,jP r32.signals,jH r32.lines,iv r32.top,iv r32.jT,iv r32.kq,iv r32.jX,.bool r32.kI,(.sl [] (.exact 0))],iv 0])=some (.jl [.agg [jI r32.elems,jS r32.jd,jP r32.signals,jH r32.lines,iv r32.top,iv r32.jT,iv r32.kq,iv r32.jX,.bool r32.kI,ju r36],iv 0]) by simp only [FZ,hz39]),(⟨r32,r36⟩:jY),0,d5,rfl⟩
 refine bU ?_
 obtain ⟨r41,hl42,hf43⟩:=mE (H:=H15) (i:=0) (l:=l14) (enc:=ja.ag) hS16 rfl dz
 have hlq:=hl42; have hln45:=congrArg List.length hl42
 have hz44:∀ m,freeze false { H15 with iI:=[(2,[jI r32.elems,jS r32.jd,jP r32.signals,jH r32.lines,iv r32.top,iv r32.jT,iv r32.kq,iv r32.jX,.bool r32.kI,(.hs b33 g34 0 (List.map ja.ag l14).length)])] } (m+2) (.hs b33 g34 0 (List.map ja.ag l14).length)=some (ju r41):=λm=>hf43 _ _ (λ_=>by simp only [ja.ag,jJ,uO,ug,wR,uG,wQ])
 exact ⟨.jl [.agg [jI r32.elems,jS r32.jd,jP r32.signals,jH r32.lines,iv r32.top,iv r32.jT,iv r32.kq,iv r32.jX,.bool r32.kI,(.hs b33 g34 0 (List.map ja.ag l14).length)],iv 0],rfl,.jl [.agg [jI r32.elems,jS r32.jd,jP r32.signals,jH r32.lines,iv r32.top,iv r32.jT,iv r32.kq,iv r32.jX,.bool r32.kI,ju r41],iv 0],(show freeze false { H15 with iI:=[(2,[jI r32.elems,jS r32.jd,jP r32.signals,jH r32.lines,iv r32.top,iv r32.jT,iv r32.kq,iv r32.jX,.bool r32.kI,(.hs b33 g34 0 (List.map ja.ag l14).length)])] } 8 (.jl [.agg [jI r32.elems,jS r32.jd,jP r32.signals,jH r32.lines,iv r32.top,iv r32.jT,iv r32.kq,iv r32.jX,.bool r32.kI,(.hs b33 g34 0 (List.map ja.ag l14).length)],iv 0])=some (.jl [.agg [jI r32.elems,jS r32.jd,jP r32.signals,jH r32.lines,iv r32.top,iv r32.jT,iv r32.kq,iv r32.jX,.bool r32.kI,ju r41],iv 0]) by simp only [FZ,hz44]),(⟨r32,r41⟩:jY),0,d5,rfl⟩
 refine cI ?_
 refine lb (λh46=>?_) (λh46=>?_)
 refine aC ?_
 refine da ?_
 exact xG ⟨(⟨(⟨(lD:Row ko),(lD:Row kD),(lD:Row kb),(lD:Row jN),0,0,0,0,false⟩:bG),(lD:Row ja)⟩:jY),r3,d5,rfl⟩
 refine aG ?_
 refine wy [.la 2 0,.la 2 0,.ky] [(2,[iS,iS,iS,iS,iv 0,iv 0,iv 0,iv 0,iR,iS]),(2,[iS,iS,iS,iS,iv 0,iv 0,iv 0,iv 0,iR,iS])] ?_
 refine ao ?_
 exfalso; omega
def P35 (_a0:bG) (v:AV):Prop:=∃ r0:jY,∃ r1:Int,(((r1=0->((∀ r∈(r0.roads.l:List ja),0<r.steps.l.length/\r.steps.l.length<=12/\r.l8.l.length<=12/\ow _a0.elems.l r)/\r0.roads.l.length<=64)/\(r0.ki = _a0.canon/\∃ n:iX,ou n _a0/\rs 29 [.agg (bG.ag _a0)]=.jl [.ip (iX.ag n) 0 false,iv 0])))/\rs 35 [.agg (bG.ag _a0)]=.jl [.agg (jY.ag r0),iv r1])/\v=.jl [.agg (jY.ag r0),iv r1]
def t35 (a0:bG) (q1:lS a0) (h:aT):∃ v,ji cfg FT js false 35 [.agg (bG.ag a0)] h v h/\P35 a0 v:=by
 obtain ⟨v,hc,hP,hr⟩:=nX rD (aeT a0 q1) h
 obtain ⟨r0,r1,hp,rfl⟩:=hP
 exact ⟨_,hc,r0,r1,⟨hp,hr⟩,rfl⟩
def P12 (_a0:bG) (v:AV):Prop:=∃ r0:jY,∃ r1:Bool,((r1=true->lS _a0/\r0.roads.l.length<=64/\(r0.ki = _a0.canon/\∃ n:iX,ou n _a0/\rs 29 [.agg (bG.ag _a0)]=.jl [.ip (iX.ag n) 0 false,iv 0])/\rs 35 [.agg (bG.ag _a0)]=.jl [.agg (jY.ag r0),iv 0]/\rs 18 [.agg (bG.ag _a0)]=.bool true/\(∀ r∈(r0.roads.l:List ja),0<r.steps.l.length/\r.steps.l.length<=12/\r.l8.l.length<=12/\ow _a0.elems.l r)))/\v=.jl [.agg (jY.ag r0),.bool r1]
def t12 (a0:bG) (hJg:JG a0):Ct 12 [.agg (bG.ag a0)] (P12 a0):=by
 refine jf Nk ?_
 refine ae ?_
 refine az ?_
 refine oC (t18 a0 dw) ?_
 rintro _ ⟨r2,⟨hc1,hc1r⟩,rfl⟩
 have hFr:=hc1r
 cases r2
 clear hc1
 refine aE ?_
 exact xG ⟨(⟨(⟨(lD:Row ko),(lD:Row kD),(lD:Row kb),(lD:Row jN),0,0,0,0,false⟩:bG),(lD:Row ja)⟩:jY),false,eG,rfl⟩
 have hc1t:=hc1 rfl
 refine ah ?_
 refine ao ?_
 refine oC (t35 a0 dw) ?_
 rintro _ ⟨r4,r5,⟨hc3,hc3r⟩,rfl⟩
 have hBd:=hc3; have hBr:=hc3r
 refine aH ?_
 refine cP ?_
 refine jz (λh6=>?_) (λh6=>?_)
 refine a8 ?_
 exact xG ⟨r4,true,eG,rfl⟩
 refine a8 ?_
 exact xG ⟨r4,false,eG,rfl⟩
def P17 (_a0:iO) (v:AV):Prop:=∃ r0:Bool,((r0=true->_a0.iU.l.length<=10))/\v=.bool r0
def t17 (a0:iO) :Ct 17 [.agg (iO.ag a0)] (P17 a0):=by
 refine jf MH ?_
 refine aX ?_
 refine aZ ?_
 have hL1:=a0.iU.lk
 refine jK a0.iU ?_
 refine kn (λh2=>?_) (λh2=>?_)
 refine bl ?_
 refine ac ?_
 exact gM
 refine aH ?_
 have hL3:=a0.runs.lk
 refine jK a0.runs ?_
 refine kn (λh4=>?_) (λh4=>?_)
 refine ac ?_
 exact gM
 refine ah ?_
 refine aZ ?_
 have hL5:=a0.runs.lk
 refine jK a0.runs ?_
 refine aL ?_
 have hNk6:=a0.runs.lk
 refine iW a0.runs.l.length (λk6 e h=>At [1,18,19,20] [.la 1 0,jF a0.runs,iF a0.runs.l.length,iF k6] aT.empty [(1,(iO.ag a0))] e h) ?_ (k0:=0) dD atR
 rintro k6 e h hkk6 hA
 refine aK ?_
 refine jk (λh7=>?_) (λh7=>?_)
 refine c9 ?_
 have hx8:k6<a0.runs.l.length:=by omega
 refine kQ k6 a0.runs hx8 ?_
 generalize hqx9:a0.runs.l[k6]=x9
 refine cP ?_
 have hL10:=x9.iY.lk
 refine jK x9.iY ?_
 refine kn (λh11=>?_) (λh11=>?_)
 refine bl ?_
 refine ac ?_
 exact gM
 refine aO ?_
 refine kn (λh12=>?_) (λh12=>?_)
 refine ac ?_
 exact gM
 refine oV ?_
 refine bZ ?_
 refine jq ?_
 refine ab ?_
 exact gn
 refine ap ?_
 refine aZ ?_
 have hL13:=a0.iU.lk
 refine jK a0.iU ?_
 refine aL ?_
 have hNk14:=a0.iU.lk
 refine iW a0.iU.l.length (λkz e h=>At [36,37,38] [j6 a0.iU,iF a0.iU.l.length,iF kz] aT.empty [] e h) ?_ (k0:=0) dD atR
 rintro kz e h hkk14 hA
 refine aK ?_
 refine jk (λh15=>?_) (λh15=>?_)
 refine c9 ?_
 have hx16:kz<a0.iU.l.length:=by omega
 refine kQ kz a0.iU hx16 ?_
 generalize hqx17:a0.iU.l[kz]=x17
 refine bd ?_
 refine aJ ?_
 refine kn (λh18=>?_) (λh18=>?_)
 refine bh ?_
 exact gM
 refine bZ ?_
 refine jq ?_
 refine ab ?_
 exact gn
 refine cy ?_
 exact xB ⟨true,eU,rfl⟩
def af4 (_a0:Int) (_a1:Int) (_a2:Int) (v:AV):Prop:=∃ r0:Bool,((r0=true->_a1<=_a0/\_a0<=_a2))/\v=.bool r0
def t283 (a0:Int) (a1:Int) (a2:Int) :Ct 283 [iv a0,iv a1,iv a2] (af4 a0 a1 a2):=by
 refine jf JQ ?_
 refine cC ?_
 refine lP (λh1=>?_) (λh1=>?_)
 refine aH ?_
 refine sj (λh2=>?_) (λh2=>?_)
 refine a8 ?_
 exact gP
 refine a8 ?_
 exact gQ
 refine bO ?_
 refine a8 ?_
 exact gQ
def afc (_a0:jr) (v:AV):Prop:=∃ r0:Bool,((r0=true->wM _a0))/\v=.bool r0
def t209 (a0:jr) :Ct 209 [.agg (jr.ag a0)] (afc a0):=by
 refine jf HT ?_
 refine aX ?_
 refine ae ?_
 refine oC (t51 a0.name) ?_
 rintro _ ⟨r2,hc1,rfl⟩
 cases r2
 clear hc1
 refine bO ?_
 refine cf ?_
 refine aD ?_
 refine a8 ?_
 exact gT
 have hc1t:=hc1 rfl
 have hNm:=hc1t
 refine aH ?_
 refine oC (t283 a0.len 1 4000) ?_
 rintro _ ⟨r4,hc3,rfl⟩
 cases r4
 clear hc3
 refine cf ?_
 refine aD ?_
 refine a8 ?_
 exact gT
 have hc3t:=hc3 rfl
 refine aO ?_
 refine oC (t283 a0.top 1 60) ?_
 rintro _ ⟨r6,hc5,rfl⟩
 cases r6
 clear hc5
 refine aD ?_
 refine a8 ?_
 exact gT
 have hc5t:=hc5 rfl
 refine aO ?_
 refine oC (t283 a0.acc 1 10) ?_
 rintro _ ⟨r8,hc7,rfl⟩
 cases r8
 clear hc7
 refine cf ?_
 refine a8 ?_
 exact gT
 have hc7t:=hc7 rfl
 refine aO ?_
 refine oC (t283 a0.jT 1 10) ?_
 rintro _ ⟨r10,hc9,rfl⟩
 cases r10
 clear hc9
 refine a8 ?_
 exact gT
 have hc9t:=hc9 rfl
 refine a8 ?_
 exact xB ⟨true,ej,rfl⟩
def aik (_a0:Row jr) (_a1:ns) (v:AV):Prop:=∃ r0:Int,((∀ (j:Nat) (h:j < _a0.l.length),(j:Int)<r0->¬ (_a0.l[j]).name.l = _a1.l))/\v=iv r0
def t210 (a0:Row jr) (a1:ns) :Ct 210 [j6 a0,.str a1.l] (aik a0 a1):=by
 refine jf Jv ?_
 refine bC ?_
 have hL1:=a0.lk
 refine jK a0 ?_
 refine aL ?_
 have hNk2:=a0.lk
 refine iW a0.l.length (λk2 e h=>(∀ (j:Nat) (h:j<a0.l.length),j<k2->¬ (a0.l[j]).name.l=a1.l)/\At [1,7,8,9] [.str a1.l,j6 a0,iF a0.l.length,iF k2] aT.empty [] e h) ?_ (k0:=0) dD ⟨eA,atR⟩
 rintro k2 e h hkk2 ⟨hU,hA⟩
 refine aK ?_
 refine jk (λh3=>?_) (λh3=>?_)
 refine aq ?_
 refine bE ?_
 have hx4:k2<a0.l.length:=by omega
 refine kQ k2 a0 hx4 ?_
 generalize hqx5:a0.l[k2]=x5
 refine bW ?_
 refine aJ ?_
 refine om rfl (λ_=>uh rfl rfl) (λh6=>?_) (λh6=>?_)
 refine aN ?_
 exact xB ⟨((k2:Int)),gb,rfl⟩
 refine bZ ?_
 refine jq ?_
 refine ab ?_
 exact ⟨by omega,(by exact ml (P:=λx:jr=>¬ x.name.l=a1.l) dv hU dv),atR⟩
 refine cy ?_
 exact xB ⟨(-1),gb,rfl⟩
def afu (_a0:Row jr) (v:AV):Prop:=∃ r0:Int,((r0=0->BD _a0.l))/\v=iv r0
def t112 (a0:Row jr) :Ct 112 [j6 a0] (afu a0):=by
 refine jf HQ ?_
 refine bC ?_
 have hL1:=a0.lk
 refine jK a0 ?_
 refine kn (λh2=>?_) (λh2=>?_)
 refine bh ?_
 exact xB ⟨3,eJ,rfl⟩
 refine aG ?_
 refine wy [j6 a0] [] ?_
 refine aB ?_
 have hL3:=a0.lk
 refine jK a0 ?_
 refine aL ?_
 have hNk4:=a0.lk
 refine iW a0.l.length (λk4 e h=>(∀ (i:Nat) (h:i<a0.l.length),i<k4->wM (a0.l[i]))/\At [0,10,11,12] [j6 a0,j6 a0,iF a0.l.length,iF k4] aT.empty [] e h) ?_ (k0:=0) dD ⟨eA,atR⟩
 rintro k4 e h hkk4 ⟨hU,hA⟩
 refine aK ?_
 refine jk (λh5=>?_) (λh5=>?_)
 refine aq ?_
 refine wy [j6 a0,j6 a0,iF a0.l.length,iF k4] [] ?_
 refine bg ?_
 have hx6:k4<a0.l.length:=by omega
 refine kQ k4 a0 hx6 ?_
 generalize hqx7:a0.l[k4]=x7
 refine aw ?_
 refine cV ?_
 refine oC (t209 x7) ?_
 rintro _ ⟨r9,hc8,rfl⟩
 cases r9
 clear hc8
 refine ac ?_
 exact xB ⟨1,eJ,rfl⟩
 have hc8t:=hc8 rfl
 have hMk:=hc8t
 refine ah ?_
 refine wy [j6 a0,j6 a0,iF a0.l.length,iF k4] [] ?_
 refine qg ?_
 refine jq ?_
 refine ab ?_
 exact ⟨by omega,(by exact ml (P:=wM) dv hU hMk),atR⟩
 refine ap ?_
 refine wy [j6 a0] [] ?_
 refine aB ?_
 have hL10:=a0.lk
 refine jK a0 ?_
 refine aL ?_
 have hNk11:=a0.lk
 refine iW a0.l.length (λkM e h=>(∀ (i j:Nat) (h:j<a0.l.length) (hij:i<j),j<kM->¬ (a0.l[i]).name.l=(a0.l[j]).name.l)/\At [0,20,21,22] [j6 a0,j6 a0,iF a0.l.length,iF kM] aT.empty [] e h) ?_ (k0:=0) dD ⟨ga,atR⟩
 rintro kM e h hkk11 ⟨hNe,hA⟩
 refine aK ?_
 refine jk (λh12=>?_) (λh12=>?_)
 refine aq ?_
 refine wy [j6 a0,j6 a0,iF a0.l.length,iF kM] [] ?_
 refine bE ?_
 have hx13:kM<a0.l.length:=by omega
 refine kQ kM a0 hx13 ?_
 generalize hqx14:a0.l[kM]=x14
 refine bW ?_
 refine aJ ?_
 refine oC (t210 a0 x14.name) ?_
 rintro _ ⟨r16,hc15,rfl⟩
 have hFn:=hc15
 refine oV ?_
 refine lb (λh17=>?_) (λh17=>?_)
 refine bh ?_
 exact xB ⟨4,eJ,rfl⟩
 refine aG ?_
 refine wy [j6 a0,j6 a0,iF a0.l.length,iF kM] [] ?_
 refine qg ?_
 refine jq ?_
 refine ab ?_
 exact ⟨by omega,(by exact L5 dv hNe hFn dv),atR⟩
 refine ap ?_
 refine dm ?_
 exact xB ⟨0,eJ,rfl⟩
def P49 (_a0:bG) (_a1:Row jr) (v:AV):Prop:=∃ r0:Int,((r0=0->xv _a0 _a1.l))/\v=iv r0
def t49 (a0:bG) (a1:Row jr) :Ct 49 [.agg (bG.ag a0),j6 a1] (P49 a0 a1):=by
 refine jf Nf ?_
 refine ao ?_
 refine az ?_
 refine oC (t112 a1) ?_
 rintro _ ⟨r2,hc1,rfl⟩
 have hPl2:=hc1
 refine cV ?_
 refine lb (λh3=>?_) (λh3=>?_)
 refine aN ?_
 exact xB ⟨r2,eS,rfl⟩
 refine aG ?_
 refine aB ?_
 have hL4:=a1.lk
 refine jK a1 ?_
 refine aL ?_
 have hNk5:=a1.lk
 refine iW a1.l.length (λk5 e h=>(∀ (i:Nat) (h:i<a1.l.length),i<k5->(a1.l[i]).top<=a0.top/\a0.jT<=(a1.l[i]).jT)/\At [2,13,14,15] [.la 2 0,j6 a1,iF a1.l.length,iF k5] aT.empty [(2,(bG.ag a0))] e h) ?_ (k0:=0) dD ⟨eA,atR⟩
 rintro k5 e h hkk5 ⟨hU,hA⟩
 refine aK ?_
 refine jk (λh6=>?_) (λh6=>?_)
 refine c9 ?_
 have hx7:k5<a1.l.length:=by omega
 refine kQ k5 a1 hx7 ?_
 generalize hqx8:a1.l[k5]=x8
 refine bd ?_
 refine bD ?_
 refine kn (λh9=>?_) (λh9=>?_)
 refine bQ ?_
 refine ac ?_
 exact xB ⟨9,eS,rfl⟩
 refine bR ?_
 refine jk (λh10=>?_) (λh10=>?_)
 refine ac ?_
 exact xB ⟨9,eS,rfl⟩
 refine oV ?_
 refine bZ ?_
 refine jq ?_
 refine ab ?_
 exact ⟨by omega,(by exact ml (P:=λs:jr=>s.top<=a0.top/\a0.jT<=s.jT) dv hU dD),atR⟩
 refine cy ?_
 exact xB ⟨0,eS,rfl⟩
def P50 (_a0:Int) (_a1:Int) (_a2:Int) (v:AV):Prop:=∃ r0:Bool,((r0=true->_a1<=_a0/\_a0<=_a2))/\v=.bool r0
def t50 (a0:Int) (a1:Int) (a2:Int) :Ct 50 [iv a0,iv a1,iv a2] (P50 a0 a1 a2):=by
 refine jf MB ?_
 refine cC ?_
 refine lP (λh1=>?_) (λh1=>?_)
 refine aH ?_
 refine sj (λh2=>?_) (λh2=>?_)
 refine a8 ?_
 exact gP
 refine a8 ?_
 exact gQ
 refine bO ?_
 refine a8 ?_
 exact gQ
def P23 (_a0:bG) (_a1:Int) (v:AV):Prop:=∃ r0:Int,(r0=kN _a0 _a1)/\v=iv r0
def t23 (a0:bG) (a1:Int) :Ct 23 [.agg (bG.ag a0),iv a1] (P23 a0 a1):=by
 refine jf Mh ?_
 refine aX ?_
 refine ae ?_
 refine oC (t56 a0 a1) ?_
 rintro _ ⟨r2,hc1,rfl⟩
 refine af ?_
 exact xB ⟨r2,dv,rfl⟩
def P52 (_a0:bG) (_a1:Row jR) (v:AV):Prop:=∃ r0:Bool,((r0=true->DU _a0 _a1.l))/\v=.bool r0
def t52 (a0:bG) (a1:Row jR) :Ct 52 [.agg (bG.ag a0),mD a1] (P52 a0 a1):=by
 refine jf Ov ?_
 refine aX ?_
 refine bC ?_
 have hL1:=a1.lk
 refine jK a1 ?_
 refine aL ?_
 have hNk2:=a1.lk
 refine iW a1.l.length (λk2 e h=>∃ n3:Int,(n3=AU a1.l k2)/\(∀ (i:Nat) (h:i<a1.l.length),i<k2->zL a0 a1.l i (a1.l[i]))/\At [2,5,8,9,10] [.la 2 0,iv n3,mD a1,iF a1.l.length,iF k2] aT.empty [(2,(bG.ag a0))] e h) ?_ (k0:=0) dD ⟨0,fT,eA,atR⟩
 rintro k2 e h hkk2 ⟨n3,hAt,hU,hA⟩
 refine aK ?_
 refine jk (λh4=>?_) (λh4=>?_)
 refine aq ?_
 refine wy [.la 2 0,iv n3,mD a1,iF a1.l.length,iF k2] [(2,(bG.ag a0))] ?_
 refine bg ?_
 have hx5:k2<a1.l.length:=by omega
 refine kQ k2 a1 hx5 ?_
 generalize hqx6:a1.l[k2]=x6
 refine bd ?_
 refine bM ?_
 refine oC (t50 x6.at_ n3 2000) ?_
 rintro _ ⟨r8,hc7,rfl⟩
 cases r8
 clear hc7
 refine ac ?_
 exact iz
 have hc7t:=hc7 rfl
 refine ah ?_
 refine wy [.la 2 0,.la 7 0,mD a1,iF a1.l.length,iF k2] [(2,(bG.ag a0)),(7,(jR.ag x6))] ?_
 refine aa ?_
 refine cP ?_
 refine cN ?_
 refine jz (λh9=>?_) (λh9=>?_)
 refine bc ?_
 refine bD ?_
 have hL10:=a0.signals.lk
 refine jK a0.signals ?_
 have hL11:=a0.signals.lk
 refine nI ?_
 refine oC (t50 x6.to 0 ((a0.signals.l.length:Int) - 1)) ?_
 rintro _ ⟨r13,hc12,rfl⟩
 cases r13
 clear hc12
 refine ac ?_
 exact iz
 have hc12t:=hc12 rfl
 refine ah ?_
 refine cb ?_
 refine jq ?_
 refine ab ?_
 exact iA
 refine bf ?_
 refine jz (λh14=>?_) (λh14=>?_)
 refine bc ?_
 refine aJ ?_
 refine oC (t23 a0 x6.to) ?_
 rintro _ ⟨r16,hc15,rfl⟩
 have hK:=hc15
 refine lb (λh17=>?_) (λh17=>?_)
 refine bh ?_
 exact iz
 refine aG ?_
 refine cb ?_
 refine jq ?_
 refine ab ?_
 exact iA
 refine bf ?_
 refine jz (λh18=>?_) (λh18=>?_)
 refine bc ?_
 refine aJ ?_
 refine oC (t23 a0 x6.to) ?_
 rintro _ ⟨r20,hc19,rfl⟩
 have hK:=hc19
 refine lb (λh21=>?_) (λh21=>?_)
 refine bh ?_
 exact iz
 refine aG ?_
 refine cb ?_
 refine jq ?_
 refine ab ?_
 exact iA
 refine bf ?_
 refine af ?_
 exact iz
 refine ap ?_
 refine dm ?_
 exact xB ⟨true,eK,rfl⟩
def ahR (_a0:bG) (_a1:iO) (v:AV):Prop:=∃ r0:Int,((r0=0->vy _a1/\s8 _a0 _a1))/\v=iv r0
def Wa (a0:bG) (a1:iO) :Ct 19 [.agg (bG.ag a0),.agg (iO.ag a1)] (ahR a0 a1):=by
 refine jf Oq ?_
 have hqb:=a1.iU.ok
 simp only [rX] at hqb
 refine cg ?_
 refine aZ ?_
 have hL1:=a1.runs.lk
 refine jK a1.runs ?_
 refine kn (λh2=>?_) (λh2=>?_)
 refine bh ?_
 exact xB ⟨3,dT,rfl⟩
 refine aG ?_
 refine cU ?_
 have hL3:=a1.runs.lk
 refine cA ?_
 have hNk4:=a1.runs.lk
 refine iW a1.runs.l.length (λk4 e h=>(∀ (i:Nat) (h:i<a1.runs.l.length),i<k4->(a1.runs.l[i]).iY.l.length<=12)/\At [2,3,19,20,21] [.la 2 0,.la 3 0,jF a1.runs,iF a1.runs.l.length,iF k4] aT.empty [(2,(bG.ag a0)),(3,(iO.ag a1))] e h) ?_ (k0:=0) dD ⟨eA,atR⟩
 rintro k4 e h hkk4 ⟨hA,hA⟩
 refine rA hA ?_
 clear hA
 refine aa ?_
 refine jk (λh5=>?_) (λh5=>?_)
 refine aq ?_
 refine wy [.la 2 0,.la 3 0,jF a1.runs,iF a1.runs.l.length,iF k4] [(2,(bG.ag a0)),(3,(iO.ag a1))] ?_
 refine bg ?_
 have hx6:k4<a1.runs.l.length:=by omega
 refine kQ k4 a1.runs hx6 ?_
 generalize hqx7:a1.runs.l[k4]=x7
 refine cP ?_
 have hL8:=x7.iY.lk
 refine jK x7.iY ?_
 refine kn (λh9=>?_) (λh9=>?_)
 refine bh ?_
 exact xB ⟨3,dT,rfl⟩
 refine aG ?_
 refine wy [.la 2 0,.la 3 0,jF a1.runs,iF a1.runs.l.length,iF k4] [(2,(bG.ag a0)),(3,(iO.ag a1))] ?_
 refine qg ?_
 refine jq ?_
 refine ab ?_
 exact ⟨by omega,(by exact ml (P:=λr:jC=>r.iY.l.length<=12) dv hA dD),atR⟩
 refine ap ?_
 refine cU ?_
 refine oV ?_
 refine oC (t49 a0 a1.iU) ?_
 rintro _ ⟨r11,hc10,rfl⟩
 have hSo:=hc10
 refine cV ?_
 refine lb (λh12=>?_) (λh12=>?_)
 refine aN ?_
 exact xB ⟨r11,dT,rfl⟩
 refine aG ?_
 refine cU ?_
 refine oC (t50 a1.uu 0 86399) ?_
 rintro _ ⟨r14,hc13,rfl⟩
 cases r14
 clear hc13
 refine ac ?_
 exact gO
 have hc13t:=hc13 rfl
 refine ah ?_
 refine cU ?_
 have hL15:=a1.runs.lk
 refine cA ?_
 have hNk16:=a1.runs.lk
 refine iW a1.runs.l.length (λrk e h=>(∀ (i:Nat) (h:i<a1.runs.l.length),i<rk->xj a0 a1 (a1.runs.l[i]))/\At [2,3,42,43,44] [.la 2 0,.la 3 0,jF a1.runs,iF a1.runs.l.length,iF rk] aT.empty [(2,(bG.ag a0)),(3,(iO.ag a1))] e h) ?_ (k0:=0) dD ⟨eA,atR⟩
 rintro rk e h hkk16 ⟨hB,hA⟩
 refine rA hA ?_
 clear hA
 refine aa ?_
 refine jk (λh17=>?_) (λh17=>?_)
 refine aq ?_
 refine wy [.la 2 0,.la 3 0,jF a1.runs,iF a1.runs.l.length,iF rk] [(2,(bG.ag a0)),(3,(iO.ag a1))] ?_
 refine bg ?_
 have hx18:rk<a1.runs.l.length:=by omega
 refine kQ rk a1.runs hx18 ?_
 generalize hqx19:a1.runs.l[rk]=x19
 refine cP ?_
 refine oC (t51 x19.name) ?_
 rintro _ ⟨r21,hc20,rfl⟩
 cases r21
 clear hc20
 refine aw ?_
 refine cz ?_
 refine aw ?_
 refine cz ?_
 refine aU ?_
 refine bL ?_
 refine ac ?_
 exact gO
 have hc20t:=hc20 rfl
 have hNm:=hc20t
 refine cM ?_
 have hL22:=a1.iU.lk
 refine jK a1.iU ?_
 have hL23:=a1.iU.lk
 refine nI ?_
 refine oC (t50 x19.iU 0 ((a1.iU.l.length:Int) - 1)) ?_
 rintro _ ⟨r25,hc24,rfl⟩
 cases r25
 clear hc24
 refine aH ?_
 refine cz ?_
 refine aU ?_
 refine bL ?_
 refine ac ?_
 exact gO
 have hc24t:=hc24 rfl
 iterate 7 refine oV ?_
 have hL26:=a0.signals.lk
 refine jK a0.signals ?_
 have hL27:=a0.signals.lk
 refine nI ?_
 refine oC (t50 x19.from_ 0 ((a0.signals.l.length:Int) - 1)) ?_
 rintro _ ⟨r29,hc28,rfl⟩
 cases r29
 clear hc28
 refine oV ?_
 refine aU ?_
 refine bL ?_
 refine ac ?_
 exact gO
 have hc28t:=hc28 rfl
 refine bR ?_
 refine oC (t50 x19.left 0 4000) ?_
 rintro _ ⟨r31,hc30,rfl⟩
 cases r31
 clear hc30
 refine oV ?_
 refine bL ?_
 refine ac ?_
 exact gO
 have hc30t:=hc30 rfl
 refine cM ?_
 refine oC (t52 a0 x19.iY) ?_
 rintro _ ⟨r33,hc32,rfl⟩
 cases r33
 clear hc32
 refine bp ?_
 exact gO
 have hc32t:=hc32 rfl
 have hLg:=hc32t
 refine ca ?_
 refine wy [.la 2 0,.la 3 0,jF a1.runs,iF a1.runs.l.length,iF rk] [(2,(bG.ag a0)),(3,(iO.ag a1))] ?_
 refine qg ?_
 refine jq ?_
 refine ab ?_
 exact ⟨by omega,(by exact ml (P:=xj a0 a1) dv hB ⟨hNm,by omega,by omega,by omega,hLg⟩),atR⟩
 refine ap ?_
 refine wy [.la 3 0] [(3,(iO.ag a1))] ?_
 refine aZ ?_
 have hL34:=a1.runs.lk
 refine cA ?_
 have hNk35:=a1.runs.lk
 refine iW a1.runs.l.length (λm5 e h=>(∀ (i j:Nat) (h:j<a1.runs.l.length) (hij:i<j),j<m5->¬ (a1.runs.l[i]).name.l=(a1.runs.l[j]).name.l)/\At [3,87,88,89] [.la 3 0,jF a1.runs,iF a1.runs.l.length,iF m5] aT.empty [(3,(iO.ag a1))] e h) ?_ (k0:=0) dD ⟨ga,atR⟩
 rintro m5 e h hkk35 ⟨hNe,hA⟩
 refine rA hA ?_
 clear hA
 refine aa ?_
 refine jk (λh36=>?_) (λh36=>?_)
 refine aq ?_
 refine wy [.la 3 0,jF a1.runs,iF a1.runs.l.length,iF m5] [(3,(iO.ag a1))] ?_
 refine bE ?_
 have hx37:m5<a1.runs.l.length:=by omega
 refine kQ m5 a1.runs hx37 ?_
 generalize hqx38:a1.runs.l[m5]=x38
 refine bW ?_
 refine aJ ?_
 have hx39:m5<=a1.runs.l.length:=by omega
 refine iT rfl (λ_=>Aw (k:=m5) (r:=a1.runs) (enc:=jC.ag) (n:=5) rfl rfl rfl rfl rfl rfl hx39 (λ_=>rfl)) ?_
 have hL40:=(Row.take a1.runs m5).lk
 refine jK ((Row.take a1.runs m5)) ?_
 refine aL ?_
 have hNk41:=(Row.take a1.runs m5).lk
 refine iW ((Row.take a1.runs m5).l.length) (λwB e h=>(∀ y∈(a1.runs.l.take m5).take wB,∀ x,a1.runs.l[m5]?=some x->¬ y.name.l=x.name.l)/\At [3,11,87,88,89,97,98,99] [.la 3 0,.la 11 0,jF a1.runs,iF a1.runs.l.length,iF m5,jF (Row.take a1.runs m5),iv ((Row.take a1.runs m5).l.length:Int),iF wB] aT.empty [(3,(iO.ag a1)),(11,(jC.ag x38))] e h) ?_ (k0:=0) dD ⟨fg,atR⟩
 rintro wB e h hkk41 ⟨hN3,hA⟩
 refine rA hA ?_
 clear hA
 refine aa ?_
 refine jk (λh42=>?_) (λh42=>?_)
 refine aq ?_
 refine wy [.la 3 0,.la 11 0,jF a1.runs,iF a1.runs.l.length,iF m5,jF (Row.take a1.runs m5),iv ((Row.take a1.runs m5).l.length:Int),iF wB] [(3,(iO.ag a1)),(11,(jC.ag x38))] ?_
 refine bg ?_
 have hx43:wB<(Row.take a1.runs m5).l.length:=by omega
 refine kQ wB ((Row.take a1.runs m5)) hx43 ?_
 generalize hqx44:(Row.take a1.runs m5).l[wB]=x44
 refine bd ?_
 refine bD ?_
 refine om rfl (λ_=>uh rfl rfl) (λh45=>?_) (λh45=>?_)
 refine bh ?_
 exact xB ⟨4,dT,rfl⟩
 refine aG ?_
 refine wy [.la 3 0,.la 11 0,jF a1.runs,iF a1.runs.l.length,iF m5,jF (Row.take a1.runs m5),iv ((Row.take a1.runs m5).l.length:Int),iF wB] [(3,(iO.ag a1)),(11,(jC.ag x38))] ?_
 refine qg ?_
 refine jq ?_
 refine ab ?_
 exact ⟨by omega,(by exact OC dv dv hN3 dv),atR⟩
 refine ap ?_
 refine wy [.la 3 0,jF a1.runs,iF a1.runs.l.length,iF m5] [(3,(iO.ag a1))] ?_
 refine qg ?_
 refine jq ?_
 refine ab ?_
 exact ⟨by omega,(by exact Ni dv hNe hN3 dv),atR⟩
 refine ap ?_
 refine dm ?_
 exact xB ⟨0,dT,rfl⟩
def P19 (_a0:bG) (_a1:iO) (v:AV):Prop:=∃ r0:Int,(((r0=0->vy _a1/\s8 _a0 _a1))/\rs 19 [.agg (bG.ag _a0),.agg (iO.ag _a1)]=iv r0)/\v=iv r0
def t19 (a0:bG) (a1:iO)  (h:aT):∃ v,ji cfg FT js false 19 [.agg (bG.ag a0),.agg (iO.ag a1)] h v h/\P19 a0 a1 v:=by
 obtain ⟨v,hc,hP,hr⟩:=nX rD (Wa a0 a1) h
 obtain ⟨r0,hp,rfl⟩:=hP
 exact gv
def agj (a0:bG) (a1:iO)  {V:AV} (hV:rs 19 [.agg (bG.ag a0),.agg (iO.ag a1)]=V) (h:aT):∃ v,ji cfg FT js false 19 [.agg (bG.ag a0),.agg (iO.ag a1)] h v h/\v=V:=by
 obtain ⟨v,hc,hP,hr⟩:=nX rD (Wa a0 a1) h
 exact ⟨v,hc,hr.symm.trans hV⟩
def P20 (_a0:bG) (v:AV):Prop:=(∃ r0:iX,(ou r0 _a0/\lS _a0)/\v=.ip (iX.ag r0) 0 false)\/((True)/\v=.ky)
def t20 (a0:bG) (hJg:JG a0):Ct 20 [.agg (bG.ag a0)] (P20 a0):=by
 refine jf M0 ?_
 refine ao ?_
 refine az ?_
 refine oC (t18 a0 dw) ?_
 rintro _ ⟨r2,⟨hc1,hc1r⟩,rfl⟩
 have hFr:=hc1r
 cases r2
 clear hc1
 refine ac ?_
 refine xB (.inr (⟨zT,rfl⟩))
 have hc1t:=hc1 rfl
 refine ah ?_
 refine ao ?_
 refine oC (t29 a0 dw) ?_
 rintro _ (⟨r4,⟨hc3,hc3r⟩,rfl⟩ | ⟨r5,⟨hc3,hc3r⟩,rfl⟩)
 have hFw:=hc3.Ed; have hFs:=hc3.Ed.signals; have hFl:=hc3.len; have hRg:=hc3.rg; have hNe:=hc3; have hNr:=hc3r
 refine cI ?_
 refine ah ?_
 refine bJ ?_
 refine xG (.inl ⟨r4,(by first | assumption | exact ⟨by assumption,by assumption⟩),rfl⟩)
 refine cI ?_
 refine lb (λh6=>?_) (λh6=>?_)
 refine bh ?_
 refine xB (.inr (⟨zT,rfl⟩))
 refine aG ?_
 refine bJ ?_
 refine xB (.inr (⟨zT,rfl⟩))
def P5 (_a0:bG) (_a1:iO) (v:AV):Prop:=(∃ r0:jY,∃ r1:iX,(ou r1 _a0/\lS _a0/\vy _a1/\_a1.iU.l.length<=10/\(∀ r∈(r0.roads.l:List ja),0<r.steps.l.length/\r.steps.l.length<=12/\r.l8.l.length<=12/\ow _a0.elems.l r)/\r0.roads.l.length<=64/\(r0.ki = _a0.canon/\∃ n:iX,ou n _a0/\rs 29 [.agg (bG.ag _a0)]=.jl [.ip (iX.ag n) 0 false,iv 0])/\rs 35 [.agg (bG.ag _a0)]=.jl [.agg (jY.ag r0),iv 0]/\s8 _a0 _a1/\rs 19 [.agg (bG.ag _a0),.agg (iO.ag _a1)]=iv 0)/\v=.jl [.agg (jY.ag r0),.ip (iX.ag r1) 0 false,.bool true])\/(∃ r0:jY,∃ r1:AV,(True)/\v=.jl [.agg (jY.ag r0),r1,iR])
def t5 (a0:bG) (a1:iO) (hJg:JG a0):Ct 5 [.agg (bG.ag a0),.agg (iO.ag a1)] (P5 a0 a1):=by
 refine jf Vk ?_
 refine aa ?_
 refine cI ?_
 refine oC (t17 a1) ?_
 rintro _ ⟨r2,hc1,rfl⟩
 cases r2
 clear hc1
 refine cf ?_
 refine aU ?_
 refine bc ?_
 refine da ?_
 refine xG (.inr (⟨((⟨(⟨(lD:Row ko),(lD:Row kD),(lD:Row kb),(lD:Row jN),0,0,0,0,false⟩:bG),(lD:Row ja)⟩:jY)),.ky,zt⟩))
 have hc1t:=hc1 rfl
 have hF3:=hc1t
 refine aH ?_
 refine oC (t18 a0 dw) ?_
 rintro _ ⟨r4,⟨hc3,hc3r⟩,rfl⟩
 have hFr:=hc3r
 cases r4
 clear hc3
 refine oV ?_
 refine aU ?_
 refine bc ?_
 refine da ?_
 refine xG (.inr (⟨((⟨(⟨(lD:Row ko),(lD:Row kD),(lD:Row kb),(lD:Row jN),0,0,0,0,false⟩:bG),(lD:Row ja)⟩:jY)),.ky,zt⟩))
 have hc3t:=hc3 rfl
 refine bR ?_
 refine oC (t19 a0 a1) ?_
 rintro _ ⟨r6,⟨hc5,hc5r⟩,rfl⟩
 have hC35:=λhz=>(hc5 hz).1; have hDV:=λhz=>(hc5 hz).2; have hPre:=λ(hz : _=(0:Int))=>vy.LQ (hc5 hz).1; have hCk3:=hc5r
 refine lb (λh7=>?_) (λh7=>?_)
 refine bc ?_
 refine da ?_
 refine xG (.inr (⟨((⟨(⟨(lD:Row ko),(lD:Row kD),(lD:Row kb),(lD:Row jN),0,0,0,0,false⟩:bG),(lD:Row ja)⟩:jY)),.ky,zt⟩))
 refine ah ?_
 refine wy [.la 2 0,.la 4 0,.la 4 0] [(2,(bG.ag a0)),(4,[iS,iS,iS,iS,iv 0,iv 0,iv 0,iv 0,iR,iS]),(4,[iS,iS,iS,iS,iv 0,iv 0,iv 0,iv 0,iR,iS])] ?_
 refine ao ?_
 refine oC (t12 a0 dw) ?_
 rintro _ ⟨r9,r10,hc8,rfl⟩
 cases r10
 clear hc8
 refine bR ?_
 refine cV ?_
 refine oC (t20 a0 dw) ?_
 rintro _ (⟨r12,hc11,rfl⟩ | ⟨hc11,rfl⟩)
 have hN36:=hc11.1; have hP36:=hc11.2
 refine ab ?_
 refine ae ?_
 refine a7 ?_
 refine bI ?_
 refine xG (.inr (⟨r9,(.ip (iX.ag r12) 0 false),zt⟩))
 refine ab ?_
 refine ae ?_
 refine a7 ?_
 refine bI ?_
 refine xG (.inr (⟨r9,.ky,zt⟩))
 have hc8t:=hc8 rfl
 have hBt:=hc8t
 refine bR ?_
 refine cV ?_
 refine oC (t20 a0 dw) ?_
 rintro _ (⟨r14,hc13,rfl⟩ | ⟨hc13,rfl⟩)
 have hN36:=hc13.1; have hP36:=hc13.2
 refine aW ?_
 refine cM ?_
 refine bI ?_
 refine xG (.inl ⟨r9,r14,(by first | assumption | exact ⟨by assumption,by assumption,hC35 dD,hF3,hBt.2.2.2.2.2,hBt.2.1,hBt.2.2.1,hBt.2.2.2.1,hDV dD,hCk3.trans (congrArg (AV.int .i64) dD)⟩),rfl⟩)
 refine aW ?_
 refine cM ?_
 refine bI ?_
 refine xG (.inr (⟨r9,.ky,zt⟩))
def P53 (_a0:bG) (_a1:Int) (v:AV):Prop:=∃ r0:iM,∃ r1:Bool,((((r1=true->nk _a0.signals.l _a1=some r0)/\(r1=false->nk _a0.signals.l _a1=none))/\(r1=false->r0=⟨0,0⟩)))/\v=.jl [.agg (iM.ag r0),.bool r1]
def t53 (a0:bG) (a1:Int) :Ct 53 [.agg (bG.ag a0),iv a1] (P53 a0 a1):=by
 refine jf N1 ?_
 refine ae ?_
 refine az ?_
 refine jk (λh1=>?_) (λh1=>?_)
 refine bQ ?_
 refine aE ?_
 exact gN
 refine aO ?_
 have hL2:=a0.signals.lk
 refine jK a0.signals ?_
 refine lP (λh3=>?_) (λh3=>?_)
 refine aE ?_
 exact gN
 refine ah ?_
 refine wy [iv a1,.la 2 0,.la 4 0,.la 4 0] [(2,(bG.ag a0)),(4,[iv 0,iv 0]),(4,[iv 0,iv 0])] ?_
 refine aJ ?_
 have hx4:(a1).toNat<a0.signals.l.length:=by omega
 refine iT rfl (λ_=>jA (n:=a1) (r:=a0.signals) (enc:=kb.ag) rfl rfl rfl rfl rfl dD hx4 rfl) ?_
 generalize hqx5:a0.signals.l[(a1).toNat]=x5
 refine bI ?_
 exact xG ⟨x5.at_,true,d9,rfl⟩
def P27 (_a0:bG) (_a1:iO) (_a2:Int) (_a3:Int) (v:AV):Prop:=∃ r0:iM,∃ r1:Bool,(((r1=true->0<=_a2/\_a2<(_a1.runs.l.length:Int)/\0<=_a3)/\(r1=true->lx true (nk _a0.signals.l) (lI _a0.jd.l) _a1 _a2 _a3=some r0)/\(r1=false->lx true (nk _a0.signals.l) (lI _a0.jd.l) _a1 _a2 _a3=none)))/\v=.jl [.agg (iM.ag r0),.bool r1]
def t27 (a0:bG) (a1:iO) (a2:Int) (a3:Int) :Ct 27 [.agg (bG.ag a0),.agg (iO.ag a1),iv a2,iv a3] (P27 a0 a1 a2 a3):=by
 refine jf Nm ?_
 refine aJ ?_
 refine az ?_
 refine jk (λh1=>?_) (λh1=>?_)
 refine bQ ?_
 refine a7 ?_
 refine bV ?_
 refine aE ?_
 exact hZ
 refine aO ?_
 have hL2:=a1.runs.lk
 refine jK a1.runs ?_
 refine lP (λh3=>?_) (λh3=>?_)
 refine a7 ?_
 refine bV ?_
 refine aE ?_
 exact hZ
 refine aH ?_
 refine jk (λh4=>?_) (λh4=>?_)
 refine bV ?_
 refine aE ?_
 exact hZ
 refine cM ?_
 have hx5:(a2).toNat<a1.runs.l.length:=by omega
 refine iT rfl (λ_=>jA (n:=a2) (r:=a1.runs) (enc:=jC.ag) rfl rfl rfl rfl rfl dD hx5 rfl) ?_
 generalize hqx6:a1.runs.l[(a2).toNat]=x6
 refine aw ?_
 have hL7:=x6.iY.lk
 refine jK x6.iY ?_
 refine kn (λh8=>?_) (λh8=>?_)
 refine aE ?_
 exact hZ
 refine ah ?_
 refine wy [iv a2,iv a3,.la 4 0,.la 5 0,.la 8 0,.la 8 0] [(4,(bG.ag a0)),(5,(iO.ag a1)),(8,[iv 0,iv 0]),(8,[iv 0,iv 0])] ?_
 refine aJ ?_
 have hx9:(a2).toNat<a1.runs.l.length:=by omega
 refine iT rfl (λ_=>jA (n:=a2) (r:=a1.runs) (enc:=jC.ag) rfl rfl rfl rfl rfl dD hx9 rfl) ?_
 rw [hqx6]
 refine aw ?_
 refine az ?_
 refine jz (λh11=>?_) (λh11=>?_)
 refine aC ?_
 refine aJ ?_
 refine oC (t53 a0 x6.from_) ?_
 rintro _ ⟨r13,r14,hc12,rfl⟩
 have hA:=hc12.1; have hA0:=hc12.2
 cases r14
 refine bI ?_
 exact xG ⟨r13,false,dM,rfl⟩
 refine bI ?_
 exact xG ⟨r13,true,dM,rfl⟩
 refine aG ?_
 refine wy [iv a3,.la 4 0,.la 8 0,.la 8 0,.la 10 0] [(4,(bG.ag a0)),(8,[iv 0,iv 0]),(8,[iv 0,iv 0]),(10,(jC.ag x6))] ?_
 refine aJ ?_
 refine nI ?_
 have hx15:(a3 - 1).toNat<x6.iY.l.length:=by omega
 refine iT rfl (λ_=>jA (n:=a3 - 1) (r:=x6.iY) (enc:=jR.ag) rfl rfl rfl rfl rfl dD hx15 rfl) ?_
 generalize hqx16:x6.iY.l[(a3 - 1).toNat]=x16
 refine bd ?_
 refine aZ ?_
 refine cN ?_
 refine jz (λh17=>?_) (λh17=>?_)
 refine bc ?_
 refine aJ ?_
 refine oC (t53 a0 x16.to) ?_
 rintro _ ⟨r19,r20,hc18,rfl⟩
 have hA:=hc18.1; have hA0:=hc18.2
 cases r20
 refine bI ?_
 exact xG ⟨r19,false,dM,rfl⟩
 refine bI ?_
 exact xG ⟨r19,true,dM,rfl⟩
 refine bf ?_
 refine jz (λh21=>?_) (λh21=>?_)
 refine bc ?_
 refine bD ?_
 refine oC (t57 a0 (⟨x16.to,0⟩:iM)) ?_
 rintro _ ⟨r23,r24,hc22,rfl⟩
 have hN:=hc22
 cases r24
 refine di ?_
 refine oC (t57 a0 (⟨x16.to,1⟩:iM)) ?_
 rintro _ ⟨r26,r27,hc25,rfl⟩
 have hN:=hc25
 cases r27
 refine cJ ?_
 refine bk ?_
 refine ah ?_
 refine wy [.la 8 0,.la 8 0,.la 11 0,iR,iR] [(8,[iv 0,iv 0]),(8,[iv 0,iv 0]),(11,(jR.ag x16))] ?_
 refine aB ?_
 refine bk ?_
 refine ah ?_
 refine dq ?_
 refine bI ?_
 exact xG ⟨(⟨x16.to,(-1)⟩:iM),true,dM,rfl⟩
 refine cJ ?_
 refine bk ?_
 refine ah ?_
 refine wy [.la 8 0,.la 8 0,.la 11 0,iR,.bool true] [(8,[iv 0,iv 0]),(8,[iv 0,iv 0]),(11,(jR.ag x16))] ?_
 refine qs ?_
 refine bD ?_
 refine bc ?_
 refine ao ?_
 refine bI ?_
 exact xG ⟨(⟨x16.to,0⟩:iM),true,dM,rfl⟩
 refine di ?_
 refine oC (t57 a0 (⟨x16.to,1⟩:iM)) ?_
 rintro _ ⟨r29,r30,hc28,rfl⟩
 have hN:=hc28
 cases r30
 refine cJ ?_
 refine aH ?_
 refine bc ?_
 refine ao ?_
 refine bI ?_
 exact xG ⟨(⟨x16.to,1⟩:iM),true,dM,rfl⟩
 refine dg ?_
 refine ca ?_
 refine wy [.la 8 0,.la 8 0,.la 11 0,.bool true,.bool true] [(8,[iv 0,iv 0]),(8,[iv 0,iv 0]),(11,(jR.ag x16))] ?_
 refine bM ?_
 refine ca ?_
 refine dq ?_
 refine bI ?_
 exact xG ⟨(⟨x16.to,(-1)⟩:iM),true,dM,rfl⟩
 refine ah ?_
 refine wy [.la 8 0,.la 8 0] [(8,[iv 0,iv 0]),(8,[iv 0,iv 0])] ?_
 refine bu ?_
 exact hZ
def P10 (_a0:bG) (_a1:iO) (_a2:Int) (_a3:Int) (v:AV):Prop:=∃ r0:Int,(r0=yg (tj _a0.signals.l) _a1 _a2 _a3)/\v=iv r0
def t10 (a0:bG) (a1:iO) (a2:Int) (a3:Int) :Ct 10 [.agg (bG.ag a0),.agg (iO.ag a1),iv a2,iv a3] (P10 a0 a1 a2 a3):=by
 refine jf NU ?_
 refine cg ?_
 refine bD ?_
 refine oC (t27 a0 a1 a2 a3) ?_
 rintro _ ⟨r2,r3,hc1,rfl⟩
 have hG:=hc1
 cases r3
 refine cJ ?_
 refine ac ?_
 exact xB ⟨(-1),fX,rfl⟩
 have hG1:=hG.1 rfl
 refine cJ ?_
 refine ah ?_
 refine bu ?_
 exact xB ⟨r2.elem,fX,rfl⟩
def P25 (_a0:bG) (_a1:iO) (_a2:Int) (_a3:Int) (v:AV):Prop:=∃ r0:Int,(((0<=r0->0<=_a2/\_a2<(_a1.runs.l.length:Int)/\0<=_a3/\∀ h : _a2.toNat < _a1.runs.l.length,_a3<((_a1.runs.l[_a2.toNat]).iY.l.length:Int))/\r0=nz true (nk _a0.signals.l) (lI _a0.jd.l) (kN _a0) (λx=>(nP _a0.signals.l x).getD (-1)) _a1 _a2 _a3))/\v=iv r0
def t25 (a0:bG) (a1:iO) (a2:Int) (a3:Int) :Ct 25 [.agg (bG.ag a0),.agg (iO.ag a1),iv a2,iv a3] (P25 a0 a1 a2 a3):=by
 refine jf M8 ?_
 refine cg ?_
 refine bD ?_
 refine oC (t27 a0 a1 a2 a3) ?_
 rintro _ ⟨r2,r3,hc1,rfl⟩
 have hG:=hc1
 cases r3
 refine cJ ?_
 refine bV ?_
 refine cf ?_
 refine ac ?_
 exact hO
 have hG1:=hG.1 rfl
 refine cJ ?_
 refine cM ?_
 have hx4:(a2).toNat<a1.runs.l.length:=by omega
 refine iT rfl (λ_=>jA (n:=a2) (r:=a1.runs) (enc:=jC.ag) rfl rfl rfl rfl rfl dD hx4 rfl) ?_
 generalize hqx5:a1.runs.l[(a2).toNat]=x5
 refine aw ?_
 have hL6:=x5.iY.lk
 refine jK x5.iY ?_
 refine lP (λh7=>?_) (λh7=>?_)
 refine cf ?_
 refine ac ?_
 exact hO
 refine aO ?_
 refine jk (λh8=>?_) (λh8=>?_)
 refine ac ?_
 exact hO
 refine ah ?_
 refine wy [iv a2,iv a3,.la 4 0,.la 5 0,.la 9 0] [(4,(bG.ag a0)),(5,(iO.ag a1)),(9,(iM.ag r2))] ?_
 refine bM ?_
 have hx9:(a2).toNat<a1.runs.l.length:=by omega
 refine iT rfl (λ_=>jA (n:=a2) (r:=a1.runs) (enc:=jC.ag) rfl rfl rfl rfl rfl dD hx9 rfl) ?_
 rw [hqx5]
 refine aH ?_
 have hx11:(a3).toNat<x5.iY.l.length:=by omega
 refine iT rfl (λ_=>jA (n:=a3) (r:=x5.iY) (enc:=jR.ag) rfl rfl rfl rfl rfl dD hx11 rfl) ?_
 generalize hqx12:x5.iY.l[(a3).toNat]=x12
 refine oV ?_
 refine lY (b:=x12.Al) rfl (λ_=>rfl) (λh13=>?_) (λh13=>?_)
 refine aC ?_
 refine bM ?_
 refine oC (t23 a0 r2.elem) ?_
 rintro _ ⟨r15,hc14,rfl⟩
 have hK:=hc14
 refine lb (λh16=>?_) (λh16=>?_)
 refine bh ?_
 exact hO
 refine aG ?_
 refine wy [.la 4 0,.la 9 0] [(4,(bG.ag a0)),(9,(iM.ag r2))] ?_
 refine cm ?_
 refine iT rfl (λ_=>j9 rfl rfl rfl (pW .i64 1 r2.en)) ?_
 refine cq ?_
 refine wy [.la 4 0,.la 9 0] [(4,(bG.ag a0)),(9,[iv r2.elem,iv (IntKind.i64.wrap (1 - r2.en))])] ?_
 refine ae ?_
 refine oC (t55 a0 (⟨r2.elem,(IntKind.i64.wrap (1 - r2.en))⟩:iM)) ?_
 rintro _ ⟨r18,hc17,rfl⟩
 have hR:=hc17
 refine af ?_
 exact xB ⟨r18,dU,rfl⟩
 refine aG ?_
 refine wy [.la 4 0,.la 9 0] [(4,(bG.ag a0)),(9,(iM.ag r2))] ?_
 refine ae ?_
 refine oC (t55 a0 r2) ?_
 rintro _ ⟨r20,hc19,rfl⟩
 have hR:=hc19
 refine af ?_
 exact xB ⟨r20,dU,rfl⟩
def P26 (_a0:bG) (_a1:jr) (_a2:Int) (v:AV):Prop:=∃ r0:Bool,(r0=tL _a0 _a1 _a2)/\v=.bool r0
def t26 (a0:bG) (a1:jr) (a2:Int) :Ct 26 [.agg (bG.ag a0),.agg (jr.ag a1),iv a2] (P26 a0 a1 a2):=by
 refine jf Ox ?_
 refine cg ?_
 refine aZ ?_
 refine oC (t23 a0 a2) ?_
 rintro _ ⟨r2,hc1,rfl⟩
 have hK:=hc1
 refine cN ?_
 refine jz (λh3=>?_) (λh3=>?_)
 refine bc ?_
 refine cD ?_
 refine rC (t9 a0 a2) ?_
 rintro _ ⟨r5,hc4,rfl⟩
 have hLen:=hc4
 refine bT ?_
 refine jh rfl rfl (λ_=>j9 rfl rfl rfl (mu .i64 a1.len a0.kq)) ?_
 refine vQ (λh6=>?_) (λh6=>?_)
 refine aR ?_
 refine qr ?_
 exact xB ⟨true,gg,rfl⟩
 refine aR ?_
 refine qr ?_
 exact xB ⟨false,gg,rfl⟩
 refine bf ?_
 refine jz (λh7=>?_) (λh7=>?_)
 refine ac ?_
 exact xB ⟨true,gg,rfl⟩
 refine ah ?_
 refine aI ?_
 exact xB ⟨false,gg,rfl⟩
def P8 (_a0:bG) (_a1:Row ja) (_a2:iO) (_a3:Int) (_a4:Int) (v:AV):Prop:=∃ r0:Row Int,((r0.l.length<=_a1.l.length/\r0.l=lC _a0 _a1.l _a2 _a3 _a4))/\v=kr r0
def t8 (a0:bG) (a1:Row ja) (a2:iO) (a3:Int) (a4:Int) (q1:(∀ r∈a1.l,0<r.steps.l.length)) (q2:a1.l.length<=64) (q3:∀ r∈a2.runs.l,0<=r.iU/\r.iU<(a2.iU.l.length:Int)):Ct 8 [.agg (bG.ag a0),ju a1,.agg (iO.ag a2),iv a3,iv a4] (P8 a0 a1 a2 a3 a4):=by
 refine jf Xb ?_
 refine cg ?_
 refine bD ?_
 refine oC (t25 a0 a2 a3 a4) ?_
 rintro _ ⟨r2,hc1,rfl⟩
 have hC22:=hc1.1; have hF:=hc1.2
 refine az ?_
 refine jk (λh3=>?_) (λh3=>?_)
 refine bh ?_
 exact xG ⟨(lD:Row Int),fA,rfl⟩
 refine aG ?_
 refine aJ ?_
 have hx4:(a3).toNat<a2.runs.l.length:=by omega
 refine iT rfl (λ_=>jA (n:=a3) (r:=a2.runs) (enc:=jC.ag) rfl rfl rfl rfl rfl dD hx4 rfl) ?_
 generalize hqx5:a2.runs.l[(a3).toNat]=x5
 have hinx5:x5∈a2.runs.l:=by rw [<- hqx5]; exact List.getElem_mem _
 have hsx5:=q3 x5 hinx5; have hlx5:=(hC22 dD).2.2.2 dv; rw [hqx5] at hlx5
 refine aH ?_
 have hx6:(a4).toNat<x5.iY.l.length:=by omega
 refine iT rfl (λ_=>jA (n:=a4) (r:=x5.iY) (enc:=jR.ag) rfl rfl rfl rfl rfl dD hx6 rfl) ?_
 generalize hqx7:x5.iY.l[(a4).toNat]=x7
 refine bd ?_
 refine bC ?_
 have hL8:=a1.lk
 refine jK a1 ?_
 refine aL ?_
 have hS9:=Sep.mX kB 1
 have hNk10:=a1.lk
 refine iW a1.l.length (λld e h=>∃ v11:AV,∃ l12:List Int,∃ H13:aT,(l12.length<=0+ld)/\(l12=pR (o1 a0 a2 a3 a4) 0 (a1.l.take ld))/\Sep H13 (qo v11 l12::[])/\At [3,4,5,7,11,12,13,33,34,35] [iv a3,iv a4,.la 5 0,.la 7 0,iv r2,.la 12 0,v11,ju a1,iF a1.l.length,iF ld] H13 [(5,(bG.ag a0)),(7,(iO.ag a2)),(12,(jR.ag x7))] e h) ?_ (k0:=0) dD ⟨iS,(([]:List Int)),aT.empty,ew,fT,hS9,atR⟩
 rintro ld e h hkk10 ⟨v11,l12,H13,hl15,hX,hS14,hA⟩
 refine aK ?_
 refine jk (λh16=>?_) (λh16=>?_)
 refine aq ?_
 refine wz [iv a3,iv a4,.la 5 0,.la 7 0,iv r2,.la 12 0,v11,ju a1,iF a1.l.length,iF ld] H13 [(5,(bG.ag a0)),(7,(iO.ag a2)),(12,(jR.ag x7))] ?_ (jD hS14 [(13,0)])
 refine bE ?_
 have hx17:ld<a1.l.length:=by omega
 refine kQ ld a1 hx17 ?_
 generalize hqx18:a1.l[ld]=x18
 have hinx18:x18∈a1.l:=by rw [<- hqx18]; exact List.getElem_mem _
 have hsx18:=q1 x18 hinx18
 refine bW ?_
 refine bD ?_
 have hL19:=x18.steps.lk
 refine jK x18.steps ?_
 have hL20:=x18.steps.lk
 refine nI ?_
 have hx21:((x18.steps.l.length:Int) - 1).toNat<x18.steps.l.length:=by omega
 refine iT rfl (λ_=>jA (n:=(x18.steps.l.length:Int) - 1) (r:=x18.steps) (enc:=jg.ag) rfl rfl rfl rfl rfl dD hx21 rfl) ?_
 generalize hqx22:x18.steps.l[((x18.steps.l.length:Int) - 1).toNat]=x22
 refine bd ?_
 refine bM ?_
 refine lb (λh23=>?_) (λh23=>?_)
 refine bQ ?_
 refine a7 ?_
 refine cz ?_
 refine bV ?_
 refine a7 ?_
 refine cF ?_
 refine wz [iv a3,iv a4,.la 5 0,.la 7 0,iv r2,.la 12 0,v11,ju a1,iF a1.l.length,iF ld] H13 [(5,(bG.ag a0)),(7,(iO.ag a2)),(12,(jR.ag x7))] ?_ (jD hS14 [(13,0)])
 refine qg ?_
 refine jq ?_
 refine ab ?_
 exact iH
 refine bR ?_
 refine lb (λh24=>?_) (λh24=>?_)
 refine a7 ?_
 refine cz ?_
 refine bV ?_
 refine a7 ?_
 refine cF ?_
 refine wz [iv a3,iv a4,.la 5 0,.la 7 0,iv r2,.la 12 0,v11,ju a1,iF a1.l.length,iF ld] H13 [(5,(bG.ag a0)),(7,(iO.ag a2)),(12,(jR.ag x7))] ?_ (jD hS14 [(13,0)])
 refine qg ?_
 refine jq ?_
 refine ab ?_
 exact iH
 refine aO ?_
 refine jz (λh25=>?_) (λh25=>?_)
 refine bR ?_
 refine lb (λh26=>?_) (λh26=>?_)
 refine oV ?_
 refine bV ?_
 refine a7 ?_
 refine cF ?_
 refine wz [iv a3,iv a4,.la 5 0,.la 7 0,iv r2,.la 12 0,v11,ju a1,iF a1.l.length,iF ld] H13 [(5,(bG.ag a0)),(7,(iO.ag a2)),(12,(jR.ag x7))] ?_ (jD hS14 [(13,0)])
 refine qg ?_
 refine jq ?_
 refine ab ?_
 exact iH
 refine bR ?_
 refine lb (λh27=>?_) (λh27=>?_)
 refine aO ?_
 refine lb (λh28=>?_) (λh28=>?_)
 refine oV ?_
 refine a7 ?_
 refine cF ?_
 refine wz [iv a3,iv a4,.la 5 0,.la 7 0,iv r2,.la 12 0,v11,ju a1,iF a1.l.length,iF ld] H13 [(5,(bG.ag a0)),(7,(iO.ag a2)),(12,(jR.ag x7))] ?_ (jD hS14 [(13,0)])
 refine qg ?_
 refine jq ?_
 refine ab ?_
 exact iH
 refine aO ?_
 refine lY (b:=x18.bare) rfl (λ_=>rfl) (λh29=>?_) (λh29=>?_)
 refine cF ?_
 refine wz [iv a3,iv a4,.la 5 0,.la 7 0,iv r2,.la 12 0,v11,ju a1,iF a1.l.length,iF ld] H13 [(5,(bG.ag a0)),(7,(iO.ag a2)),(12,(jR.ag x7))] ?_ (jD hS14 [(13,0)])
 refine qg ?_
 refine jq ?_
 refine ab ?_
 exact iH
 refine ah ?_
 refine wz [iv a3,iv a4,.la 5 0,.la 7 0,iv r2,.la 12 0,v11,iF ld,.la 15 0,iv x22.elem,ju a1,iF a1.l.length,iF ld] H13 [(5,(bG.ag a0)),(7,(iO.ag a2)),(12,(jR.ag x7)),(15,(ja.ag x18))] ?_ (jD hS14 [(13,0)])
 refine ct ?_
 rintro _ ⟨r31,hc30,rfl⟩
 have hStn:=hc30
 refine rC (t24 (Row.ny x18.mB) r31) ?_
 rintro _ ⟨r33,hc32,rfl⟩
 have hIn:=hc32
 cases r33
 iterate 8 refine rV ?_
 have hx34:(a3).toNat<a2.runs.l.length:=by omega
 refine jh rfl rfl (λ_=>jA (n:=a3) (r:=a2.runs) (enc:=jC.ag) rfl rfl rfl rfl rfl dD hx34 rfl) ?_
 rw [hqx5]
 refine aP ?_
 have hx36:(x5.iU).toNat<a2.iU.l.length:=by omega
 refine jh rfl rfl (λ_=>jA (n:=x5.iU) (r:=a2.iU) (enc:=jr.ag) rfl rfl rfl rfl rfl dD hx36 rfl) ?_
 generalize hqx37:a2.iU.l[(x5.iU).toNat]=x37
 refine aP ?_
 refine rC (t26 a0 x37 x22.elem) ?_
 rintro _ ⟨r39,hc38,rfl⟩
 have hFt:=hc38
 cases r39
 refine bo ?_
 refine wz [iv a3,iv a4,.la 5 0,.la 7 0,iv r2,.la 12 0,v11,ju a1,iF a1.l.length,iF ld] H13 [(5,(bG.ag a0)),(7,(iO.ag a2)),(12,(jR.ag x7))] ?_ (jD hS14 [(13,0)])
 refine qg ?_
 refine jq ?_
 refine ab ?_
 exact iH
 refine bz ?_
 refine bv ?_
 refine jG rfl (lf (i:=0) [((ld:Int))] hS14 rfl rfl rfl rfl rfl rfl rfl rfl rfl (λ_=>rfl) (.inl rfl) dJ (λ_=>rfl)) ?_
 rintro v40 H41 hS42
 refine ab ?_
 refine wz [iv a3,iv a4,.la 5 0,.la 7 0,iv r2,.la 12 0,v40,ju a1,iF a1.l.length,iF ld] H41 [(5,(bG.ag a0)),(7,(iO.ag a2)),(12,(jR.ag x7))] ?_ (jD hS42 [(13,0)])
 refine qg ?_
 refine jq ?_
 refine ab ?_
 exact ⟨by omega,v40,((l12++[((ld:Int))])),H41,dB,dL,hS42,(jD hS42 [(13,0)])⟩
 refine dn ?_
 refine wz [iv a3,iv a4,.la 5 0,.la 7 0,iv r2,.la 12 0,v11,ju a1,iF a1.l.length,iF ld] H13 [(5,(bG.ag a0)),(7,(iO.ag a2)),(12,(jR.ag x7))] ?_ (jD hS14 [(13,0)])
 refine qg ?_
 refine jq ?_
 refine ab ?_
 exact iH
 refine bl ?_
 refine aO ?_
 refine lY (b:=x18.bare) rfl (λ_=>rfl) (λh43=>?_) (λh43=>?_)
 refine cF ?_
 refine wz [iv a3,iv a4,.la 5 0,.la 7 0,iv r2,.la 12 0,v11,ju a1,iF a1.l.length,iF ld] H13 [(5,(bG.ag a0)),(7,(iO.ag a2)),(12,(jR.ag x7))] ?_ (jD hS14 [(13,0)])
 refine qg ?_
 refine jq ?_
 refine ab ?_
 exact iH
 refine ah ?_
 refine wz [iv a3,iv a4,.la 5 0,.la 7 0,iv r2,.la 12 0,v11,iF ld,.la 15 0,iv x22.elem,ju a1,iF a1.l.length,iF ld] H13 [(5,(bG.ag a0)),(7,(iO.ag a2)),(12,(jR.ag x7)),(15,(ja.ag x18))] ?_ (jD hS14 [(13,0)])
 refine ct ?_
 rintro _ ⟨r45,hc44,rfl⟩
 have hStn:=hc44
 refine rC (t24 (Row.ny x18.mB) r45) ?_
 rintro _ ⟨r47,hc46,rfl⟩
 have hIn:=hc46
 cases r47
 iterate 8 refine rV ?_
 have hx48:(a3).toNat<a2.runs.l.length:=by omega
 refine jh rfl rfl (λ_=>jA (n:=a3) (r:=a2.runs) (enc:=jC.ag) rfl rfl rfl rfl rfl dD hx48 rfl) ?_
 rw [hqx5]
 refine aP ?_
 have hx50:(x5.iU).toNat<a2.iU.l.length:=by omega
 refine jh rfl rfl (λ_=>jA (n:=x5.iU) (r:=a2.iU) (enc:=jr.ag) rfl rfl rfl rfl rfl dD hx50 rfl) ?_
 generalize hqx51:a2.iU.l[(x5.iU).toNat]=x51
 refine aP ?_
 refine rC (t26 a0 x51 x22.elem) ?_
 rintro _ ⟨r53,hc52,rfl⟩
 have hFt:=hc52
 cases r53
 refine bo ?_
 refine wz [iv a3,iv a4,.la 5 0,.la 7 0,iv r2,.la 12 0,v11,ju a1,iF a1.l.length,iF ld] H13 [(5,(bG.ag a0)),(7,(iO.ag a2)),(12,(jR.ag x7))] ?_ (jD hS14 [(13,0)])
 refine qg ?_
 refine jq ?_
 refine ab ?_
 exact iH
 refine bz ?_
 refine bv ?_
 refine jG rfl (lf (i:=0) [((ld:Int))] hS14 rfl rfl rfl rfl rfl rfl rfl rfl rfl (λ_=>rfl) (.inl rfl) dJ (λ_=>rfl)) ?_
 rintro v54 H55 hS56
 refine ab ?_
 refine wz [iv a3,iv a4,.la 5 0,.la 7 0,iv r2,.la 12 0,v54,ju a1,iF a1.l.length,iF ld] H55 [(5,(bG.ag a0)),(7,(iO.ag a2)),(12,(jR.ag x7))] ?_ (jD hS56 [(13,0)])
 refine qg ?_
 refine jq ?_
 refine ab ?_
 exact ⟨by omega,v54,((l12++[((ld:Int))])),H55,dB,dL,hS56,(jD hS56 [(13,0)])⟩
 refine dn ?_
 refine wz [iv a3,iv a4,.la 5 0,.la 7 0,iv r2,.la 12 0,v11,ju a1,iF a1.l.length,iF ld] H13 [(5,(bG.ag a0)),(7,(iO.ag a2)),(12,(jR.ag x7))] ?_ (jD hS14 [(13,0)])
 refine qg ?_
 refine jq ?_
 refine ab ?_
 exact iH
 refine bQ ?_
 refine bR ?_
 refine lb (λh57=>?_) (λh57=>?_)
 refine aO ?_
 refine lb (λh58=>?_) (λh58=>?_)
 refine oV ?_
 refine a7 ?_
 refine cF ?_
 refine wz [iv a3,iv a4,.la 5 0,.la 7 0,iv r2,.la 12 0,v11,ju a1,iF a1.l.length,iF ld] H13 [(5,(bG.ag a0)),(7,(iO.ag a2)),(12,(jR.ag x7))] ?_ (jD hS14 [(13,0)])
 refine qg ?_
 refine jq ?_
 refine ab ?_
 exact iH
 refine aO ?_
 refine lY (b:=x18.bare) rfl (λ_=>rfl) (λh59=>?_) (λh59=>?_)
 refine cF ?_
 refine wz [iv a3,iv a4,.la 5 0,.la 7 0,iv r2,.la 12 0,v11,ju a1,iF a1.l.length,iF ld] H13 [(5,(bG.ag a0)),(7,(iO.ag a2)),(12,(jR.ag x7))] ?_ (jD hS14 [(13,0)])
 refine qg ?_
 refine jq ?_
 refine ab ?_
 exact iH
 refine ah ?_
 refine wz [iv a3,iv a4,.la 5 0,.la 7 0,iv r2,.la 12 0,v11,iF ld,.la 15 0,iv x22.elem,ju a1,iF a1.l.length,iF ld] H13 [(5,(bG.ag a0)),(7,(iO.ag a2)),(12,(jR.ag x7)),(15,(ja.ag x18))] ?_ (jD hS14 [(13,0)])
 refine ct ?_
 rintro _ ⟨r61,hc60,rfl⟩
 have hStn:=hc60
 refine rC (t24 (Row.ny x18.mB) r61) ?_
 rintro _ ⟨r63,hc62,rfl⟩
 have hIn:=hc62
 cases r63
 iterate 8 refine rV ?_
 have hx64:(a3).toNat<a2.runs.l.length:=by omega
 refine jh rfl rfl (λ_=>jA (n:=a3) (r:=a2.runs) (enc:=jC.ag) rfl rfl rfl rfl rfl dD hx64 rfl) ?_
 rw [hqx5]
 refine aP ?_
 have hx66:(x5.iU).toNat<a2.iU.l.length:=by omega
 refine jh rfl rfl (λ_=>jA (n:=x5.iU) (r:=a2.iU) (enc:=jr.ag) rfl rfl rfl rfl rfl dD hx66 rfl) ?_
 generalize hqx67:a2.iU.l[(x5.iU).toNat]=x67
 refine aP ?_
 refine rC (t26 a0 x67 x22.elem) ?_
 rintro _ ⟨r69,hc68,rfl⟩
 have hFt:=hc68
 cases r69
 refine bo ?_
 refine wz [iv a3,iv a4,.la 5 0,.la 7 0,iv r2,.la 12 0,v11,ju a1,iF a1.l.length,iF ld] H13 [(5,(bG.ag a0)),(7,(iO.ag a2)),(12,(jR.ag x7))] ?_ (jD hS14 [(13,0)])
 refine qg ?_
 refine jq ?_
 refine ab ?_
 exact iH
 refine bz ?_
 refine bv ?_
 refine jG rfl (lf (i:=0) [((ld:Int))] hS14 rfl rfl rfl rfl rfl rfl rfl rfl rfl (λ_=>rfl) (.inl rfl) dJ (λ_=>rfl)) ?_
 rintro v70 H71 hS72
 refine ab ?_
 refine wz [iv a3,iv a4,.la 5 0,.la 7 0,iv r2,.la 12 0,v70,ju a1,iF a1.l.length,iF ld] H71 [(5,(bG.ag a0)),(7,(iO.ag a2)),(12,(jR.ag x7))] ?_ (jD hS72 [(13,0)])
 refine qg ?_
 refine jq ?_
 refine ab ?_
 exact ⟨by omega,v70,((l12++[((ld:Int))])),H71,dB,dL,hS72,(jD hS72 [(13,0)])⟩
 refine dn ?_
 refine wz [iv a3,iv a4,.la 5 0,.la 7 0,iv r2,.la 12 0,v11,ju a1,iF a1.l.length,iF ld] H13 [(5,(bG.ag a0)),(7,(iO.ag a2)),(12,(jR.ag x7))] ?_ (jD hS14 [(13,0)])
 refine qg ?_
 refine jq ?_
 refine ab ?_
 exact iH
 refine bl ?_
 refine aO ?_
 refine lY (b:=x18.bare) rfl (λ_=>rfl) (λh73=>?_) (λh73=>?_)
 refine cF ?_
 refine wz [iv a3,iv a4,.la 5 0,.la 7 0,iv r2,.la 12 0,v11,ju a1,iF a1.l.length,iF ld] H13 [(5,(bG.ag a0)),(7,(iO.ag a2)),(12,(jR.ag x7))] ?_ (jD hS14 [(13,0)])
 refine qg ?_
 refine jq ?_
 refine ab ?_
 exact iH
 refine ah ?_
 refine wz [iv a3,iv a4,.la 5 0,.la 7 0,iv r2,.la 12 0,v11,iF ld,.la 15 0,iv x22.elem,ju a1,iF a1.l.length,iF ld] H13 [(5,(bG.ag a0)),(7,(iO.ag a2)),(12,(jR.ag x7)),(15,(ja.ag x18))] ?_ (jD hS14 [(13,0)])
 refine ct ?_
 rintro _ ⟨r75,hc74,rfl⟩
 have hStn:=hc74
 refine rC (t24 (Row.ny x18.mB) r75) ?_
 rintro _ ⟨r77,hc76,rfl⟩
 have hIn:=hc76
 cases r77
 iterate 8 refine rV ?_
 have hx78:(a3).toNat<a2.runs.l.length:=by omega
 refine jh rfl rfl (λ_=>jA (n:=a3) (r:=a2.runs) (enc:=jC.ag) rfl rfl rfl rfl rfl dD hx78 rfl) ?_
 rw [hqx5]
 refine aP ?_
 have hx80:(x5.iU).toNat<a2.iU.l.length:=by omega
 refine jh rfl rfl (λ_=>jA (n:=x5.iU) (r:=a2.iU) (enc:=jr.ag) rfl rfl rfl rfl rfl dD hx80 rfl) ?_
 generalize hqx81:a2.iU.l[(x5.iU).toNat]=x81
 refine aP ?_
 refine rC (t26 a0 x81 x22.elem) ?_
 rintro _ ⟨r83,hc82,rfl⟩
 have hFt:=hc82
 cases r83
 refine bo ?_
 refine wz [iv a3,iv a4,.la 5 0,.la 7 0,iv r2,.la 12 0,v11,ju a1,iF a1.l.length,iF ld] H13 [(5,(bG.ag a0)),(7,(iO.ag a2)),(12,(jR.ag x7))] ?_ (jD hS14 [(13,0)])
 refine qg ?_
 refine jq ?_
 refine ab ?_
 exact iH
 refine bz ?_
 refine bv ?_
 refine jG rfl (lf (i:=0) [((ld:Int))] hS14 rfl rfl rfl rfl rfl rfl rfl rfl rfl (λ_=>rfl) (.inl rfl) dJ (λ_=>rfl)) ?_
 rintro v84 H85 hS86
 refine ab ?_
 refine wz [iv a3,iv a4,.la 5 0,.la 7 0,iv r2,.la 12 0,v84,ju a1,iF a1.l.length,iF ld] H85 [(5,(bG.ag a0)),(7,(iO.ag a2)),(12,(jR.ag x7))] ?_ (jD hS86 [(13,0)])
 refine qg ?_
 refine jq ?_
 refine ab ?_
 exact ⟨by omega,v84,((l12++[((ld:Int))])),H85,dB,dL,hS86,(jD hS86 [(13,0)])⟩
 refine dn ?_
 refine wz [iv a3,iv a4,.la 5 0,.la 7 0,iv r2,.la 12 0,v11,ju a1,iF a1.l.length,iF ld] H13 [(5,(bG.ag a0)),(7,(iO.ag a2)),(12,(jR.ag x7))] ?_ (jD hS14 [(13,0)])
 refine qg ?_
 refine jq ?_
 refine ab ?_
 exact iH
 refine ap ?_
 refine wz [v11] H13 [] ?_ (jD hS14 [(13,0)])
 refine bJ ?_
 obtain ⟨r87,hl88,hf89⟩:=mE (H:=H13) (i:=0) (l:=l12) (enc:=j4) hS14 rfl dz
 have hlq:=hl88; have hln91:=congrArg List.length hl88
 have hz90:∀ m,freeze false { H13 with iI:=[] } (m+2) v11=some (kr r87):=λm=>hf89 _ _ (λ_=>rfl)
 exact ⟨v11,(lN (vs:=[v11]) rfl (jb (Sep.arg (i:=0) hS14 rfl) kg)),kr r87,(show freeze false { H13 with iI:=[] } 8 v11=some (kr r87) by simp only [FZ,hz90]),r87,fA,rfl⟩
def P21 (_a0:bG) (_a1:iO) (_a2:Int) (v:AV):Prop:=∃ r0:kF,∃ r1:Bool,((0<=_a2->_a2<(_a1.runs.l.length:Int)->r0=lT _a0 _a1 _a2.toNat))/\v=.jl [.agg (kF.ag r0),.bool r1]
def t21 (a0:bG) (a1:iO) (a2:Int) :Ct 21 [.agg (bG.ag a0),.agg (iO.ag a1),iv a2] (P21 a0 a1 a2):=by
 refine jf N6 ?_
 refine aJ ?_
 refine az ?_
 refine jk (λh1=>?_) (λh1=>?_)
 refine bQ ?_
 refine aE ?_
 exact gj
 refine aO ?_
 have hL2:=a1.runs.lk
 refine jK a1.runs ?_
 refine lP (λh3=>?_) (λh3=>?_)
 refine aE ?_
 exact gj
 refine ah ?_
 refine aJ ?_
 have hx4:(a2).toNat<a1.runs.l.length:=by omega
 refine iT rfl (λ_=>jA (n:=a2) (r:=a1.runs) (enc:=jC.ag) rfl rfl rfl rfl rfl dD hx4 rfl) ?_
 generalize hqx5:a1.runs.l[(a2).toNat]=x5
 refine bd ?_
 refine aJ ?_
 refine oC (t53 a0 x5.from_) ?_
 rintro _ ⟨r7,r8,hc6,rfl⟩
 have hA:=hc6.1; have hA0:=hc6.2
 cases r8
 refine di ?_
 refine dg ?_
 refine oC (t23 a0 r7.elem) ?_
 rintro _ ⟨r10,hc9,rfl⟩
 have hK:=hc9
 refine jz (λh11=>?_) (λh11=>?_)
 refine aC ?_
 refine qg ?_
 refine cq ?_
 refine bu ?_
 exact gk
 refine aG ?_
 refine bu ?_
 exact gl
 refine di ?_
 refine dg ?_
 refine oC (t23 a0 r7.elem) ?_
 rintro _ ⟨r13,hc12,rfl⟩
 have hK:=hc12
 refine jz (λh14=>?_) (λh14=>?_)
 refine aC ?_
 refine qg ?_
 refine cq ?_
 refine bu ?_
 exact gk
 refine aG ?_
 refine bu ?_
 exact gl
def P22 (_a0:bG) (_a1:Int) (_a2:kF) (v:AV):Prop:=∃ r0:lE,∃ r1:Int,(r1=qz _a0 _a1 _a2)/\v=.jl [.agg (lE.ag r0),iv r1]
def t22 (a0:bG) (a1:Int) (a2:kF) (q9:∀ e,kN a0 e=4->nV a0 e=0):Ct 22 [.agg (bG.ag a0),iv a1,.agg (kF.ag a2)] (P22 a0 a1 a2):=by
 refine jf NH ?_
 refine aa ?_
 refine bW ?_
 refine bD ?_
 refine oC (t23 a0 a2.at_.elem) ?_
 rintro _ ⟨r2,hc1,rfl⟩
 have hK:=hc1
 refine aA ?_
 refine cZ ?_
 refine qY (λh3=>?_) (λh3=>?_)
 refine rV ?_
 iterate 2 refine rS ?_
 refine b8 ?_
 refine aP ?_
 iterate 4 refine rS ?_
 refine b8 ?_
 refine bz ?_
 refine bu ?_
 exact gW
 refine aP ?_
 refine afG (λh4=>?_) (λh4=>?_)
 refine b8 ?_
 refine aP ?_
 iterate 4 refine rS ?_
 refine b8 ?_
 refine bz ?_
 refine bu ?_
 exact gW
 refine bB ?_
 refine AB (λh5=>?_) (λh5=>?_)
 refine aP ?_
 refine AB (λh6=>?_) (λh6=>?_)
 refine bB ?_
 iterate 4 refine rS ?_
 refine b8 ?_
 refine bz ?_
 refine bu ?_
 exact gW
 refine c8 ?_
 refine qY (λh7=>?_) (λh7=>?_)
 refine b8 ?_
 refine bz ?_
 refine bu ?_
 exact gW
 refine c8 ?_
 refine rC (t54 r2) ?_
 rintro _ ⟨r9,hc8,rfl⟩
 refine vQ (λh10=>?_) (λh10=>?_)
 refine bz ?_
 refine bu ?_
 exact gW
 refine bo ?_
 refine bM ?_
 refine oC (t55 a0 a2.at_) ?_
 rintro _ ⟨r12,hc11,rfl⟩
 have hR:=hc11
 refine jk (λh13=>?_) (λh13=>?_)
 refine aC ?_
 refine bu ?_
 exact gX
 refine aG ?_
 refine bD ?_
 refine oC (t9 a0 a2.at_.elem) ?_
 rintro _ ⟨r15,hc14,rfl⟩
 have hLen:=hc14
 refine ab ?_
 refine aZ ?_
 refine jk (λh16=>?_) (λh16=>?_)
 refine bl ?_
 refine aE ?_
 exact gW
 refine aO ?_
 refine kn (λh17=>?_) (λh17=>?_)
 refine aE ?_
 exact gW
 refine ah ?_
 refine aB ?_
 refine jz (λh18=>?_) (λh18=>?_)
 refine aC ?_
 refine ae ?_
 refine bI ?_
 exact gY
 refine aG ?_
 refine bM ?_
 refine aY ?_
 refine kn (λh19=>?_) (λh19=>?_)
 refine aC ?_
 refine bu ?_
 exact gZ
 refine aG ?_
 refine bD ?_
 refine bI ?_
 exact g5
 refine rV ?_
 iterate 2 refine rS ?_
 refine c8 ?_
 refine qY (λh20=>?_) (λh20=>?_)
 refine b8 ?_
 refine bz ?_
 refine bu ?_
 exact gW
 refine c8 ?_
 refine rC (t54 r2) ?_
 rintro _ ⟨r22,hc21,rfl⟩
 refine vQ (λh23=>?_) (λh23=>?_)
 refine bz ?_
 refine bu ?_
 exact gW
 refine bo ?_
 refine bM ?_
 refine oC (t55 a0 a2.at_) ?_
 rintro _ ⟨r25,hc24,rfl⟩
 have hR:=hc24
 refine jk (λh26=>?_) (λh26=>?_)
 refine aC ?_
 refine bu ?_
 exact gX
 refine aG ?_
 refine bD ?_
 refine oC (t9 a0 a2.at_.elem) ?_
 rintro _ ⟨r28,hc27,rfl⟩
 have hLen:=hc27
 refine ab ?_
 refine aZ ?_
 refine jk (λh29=>?_) (λh29=>?_)
 refine bl ?_
 refine aE ?_
 exact gW
 refine aO ?_
 refine kn (λh30=>?_) (λh30=>?_)
 refine aE ?_
 exact gW
 refine ah ?_
 refine aB ?_
 refine jz (λh31=>?_) (λh31=>?_)
 refine aC ?_
 refine ae ?_
 refine bI ?_
 exact gY
 refine aG ?_
 refine bM ?_
 refine aY ?_
 refine kn (λh32=>?_) (λh32=>?_)
 refine aC ?_
 refine bu ?_
 exact gZ
 refine aG ?_
 refine bD ?_
 refine bI ?_
 exact g5
def P6 (_a0:bG) (_a1:Row ja) (_a2:iO) (v:AV):Prop:=∃ r0:Int,(o4 _a0 _a1.l _a2 r0)/\v=iv r0
def t6 (a0:bG) (a1:Row ja) (a2:iO) (q1:(∀ r∈a1.l,0<r.steps.l.length)) (q2:a1.l.length<=64) (q9:∀ e,kN a0 e=4->nV a0 e=0) (qv:rs 19 [.agg (bG.ag a0),.agg (iO.ag a2)]=iv 0) (q7:s8 a0 a2):Ct 6 [.agg (bG.ag a0),ju a1,.agg (iO.ag a2)] (P6 a0 a1 a2):=by
 refine jf Xc ?_
 have hPr2:=vy.LQ q7.oX
 refine cg ?_
 refine aZ ?_
 have hL1:=a0.signals.lk
 refine db ?_
 have hNk2:=a0.signals.lk
 refine iW a0.signals.l.length (λk2 e h=>(∀ (i:Nat) (h:i<a0.signals.l.length),i<k2->(a0.signals.l[i]).auto=false)/\At [1,3,5,23,24,25] [ju a1,.la 3 0,.la 5 0,jP a0.signals,iF a0.signals.l.length,iF k2] aT.empty [(3,(bG.ag a0)),(5,(iO.ag a2))] e h) ?_ (k0:=0) dD ⟨eA,atR⟩
 rintro k2 e h hkk2 ⟨hSg,hA⟩
 refine aK ?_
 refine jk (λh3=>?_) (λh3=>?_)
 refine c9 ?_
 have hx4:k2<a0.signals.l.length:=by omega
 refine kQ k2 a0.signals hx4 ?_
 generalize hqx5:a0.signals.l[k2]=x5
 refine aw ?_
 refine cV ?_
 refine lY (b:=x5.auto) rfl (λ_=>rfl) (λh6=>?_) (λh6=>?_)
 refine bh ?_
 exact xB ⟨7,dN,rfl⟩
 refine bZ ?_
 refine jq ?_
 refine ab ?_
 exact ⟨by omega,(by exact ml (P:=λx:kb=>x.auto=false) dv hSg dv),atR⟩
 refine ap ?_
 refine aZ ?_
 refine oC (agj a0 a2  qv) ?_
 rintro _ rfl
 refine aW ?_
 refine ca ?_
 refine br ?_
 refine aZ ?_
 have hL8:=a2.runs.lk
 refine jK a2.runs ?_
 refine aL ?_
 have hNk9:=a2.runs.lk
 refine iW a2.runs.l.length (λk9 e h=>(∀ i,i<k9->uL a0 a2 i=0)/\At [1,3,5,10,40,41] [ju a1,.la 3 0,.la 5 0,iS,iF a2.runs.l.length,iF k9] aT.empty [(3,(bG.ag a0)),(5,(iO.ag a2))] e h) ?_ (k0:=0) dD ⟨fx,atR⟩
 rintro k9 e h hkk9 ⟨hEr,hA⟩
 refine aK ?_
 refine jk (λh10=>?_) (λh10=>?_)
 refine bP ?_
 refine aJ ?_
 refine oC (t21 a0 a2 ((k9:Int))) ?_
 rintro _ ⟨r12,r13,hc11,rfl⟩
 have hTr:=hc11
 cases r13
 refine aQ ?_
 refine aV ?_
 refine c8 ?_
 have hx14:k9<a2.runs.l.length:=by omega
 refine rP k9 a2.runs hx14 ?_
 generalize hqx15:a2.runs.l[k9]=x15
 have hinx15:x15∈a2.runs.l:=by rw [<- hqx15]; exact List.getElem_mem _
 have hsx15:=q7.oX.2 x15 hinx15
 refine aP ?_
 have hx16:(x15.iU).toNat<a2.iU.l.length:=by omega
 refine jh rfl rfl (λ_=>jA (n:=x15.iU) (r:=a2.iU) (enc:=jr.ag) rfl rfl rfl rfl rfl dD hx16 rfl) ?_
 generalize hqx17:a2.iU.l[(x15.iU).toNat]=x17
 refine bB ?_
 refine rC (t22 a0 x17.len r12 dw) ?_
 rintro _ ⟨r19,r20,hc18,rfl⟩
 have hSw:=hc18
 refine bw ?_
 refine ao ?_
 refine lb (λh21=>?_) (λh21=>?_)
 refine aN ?_
 exact xB ⟨r20,dN,rfl⟩
 refine bZ ?_
 refine jq ?_
 refine ab ?_
 exact ⟨by omega,eW,atR⟩
 refine aQ ?_
 refine aV ?_
 refine c8 ?_
 have hx22:k9<a2.runs.l.length:=by omega
 refine rP k9 a2.runs hx22 ?_
 generalize hqx23:a2.runs.l[k9]=x23
 have hinx23:x23∈a2.runs.l:=by rw [<- hqx23]; exact List.getElem_mem _
 have hsx23:=q7.oX.2 x23 hinx23
 refine aP ?_
 have hx24:(x23.iU).toNat<a2.iU.l.length:=by omega
 refine jh rfl rfl (λ_=>jA (n:=x23.iU) (r:=a2.iU) (enc:=jr.ag) rfl rfl rfl rfl rfl dD hx24 rfl) ?_
 generalize hqx25:a2.iU.l[(x23.iU).toNat]=x25
 refine bB ?_
 refine rC (t22 a0 x25.len r12 dw) ?_
 rintro _ ⟨r27,r28,hc26,rfl⟩
 have hSw:=hc26
 refine bw ?_
 refine ao ?_
 refine lb (λh29=>?_) (λh29=>?_)
 refine aN ?_
 exact xB ⟨r28,dN,rfl⟩
 refine bZ ?_
 refine jq ?_
 refine ab ?_
 exact ⟨by omega,eW,atR⟩
 refine ap ?_
 refine aZ ?_
 have hL30:=a2.runs.lk
 refine jK a2.runs ?_
 refine aL ?_
 have hS31:=Sep.mX kB 1
 have hNk32:=a2.runs.lk
 refine iW a2.runs.l.length (λrf e h=>∃ v33:AV,∃ l34:List Int,∃ H35:aT,(l34.length<=0+rf)/\(vq a0 a2 rf l34)/\(¬ oM (oI a0 a2) rf)/\Sep H35 (qo v33 l34::[])/\At [1,3,5,10,74,75] [ju a1,.la 3 0,.la 5 0,v33,iF a2.runs.l.length,iF rf] H35 [(3,(bG.ag a0)),(5,(iO.ag a2))] e h) ?_ (k0:=0) dD ⟨iS,(([]:List Int)),aT.empty,ew,(by exact vq.zero),(by (rintro ⟨i,j,h1,h2,h3⟩; omega)),hS31,atR⟩
 rintro rf e h hkk32 ⟨v33,l34,H35,hl37,hAtk,hNM,hS36,hA⟩
 refine rA hA ?_
 have hd8:=q7.runs
 refine aa ?_
 refine jk (λh38=>?_) (λh38=>?_)
 refine aq ?_
 refine wz [ju a1,.la 3 0,.la 5 0,v33,iF a2.runs.l.length,iF rf] H35 [(3,(bG.ag a0)),(5,(iO.ag a2))] ?_ (jD hS36 [(10,0)])
 refine aF ?_
 refine aX ?_
 refine aJ ?_
 refine oC (t21 a0 a2 ((rf:Int))) ?_
 rintro _ ⟨r40,r41,hc39,rfl⟩
 have hTr:=hc39
 cases r41
 refine di ?_
 refine oC (t23 a0 r40.at_.elem) ?_
 rintro _ ⟨r43,hc42,rfl⟩
 have hK:=hc42
 refine jz (λh44=>?_) (λh44=>?_)
 refine aC ?_
 refine qs ?_
 refine bD ?_
 refine oh hS36 0 λr45 hl46 hln49 hz48=>?_
 refine mV (args:=[v33,iv r40.at_.elem]) (p:=[]) (r:=[]) (args':=[qj r45,iv r40.at_.elem]) (R:=TC r45 r40.at_.elem) rfl rfl rfl rfl rfl (jb (Sep.arg (i:=0) hS36 rfl) (jb rfl kg)) rfl fp (lj (by show jJ (freeze true { H35 with iI:=[] } 8) [v33,iv r40.at_.elem] = _; simp only [FZ,hz48]) (jb (Sep.oX (i:=0) hS36 rfl) (jb rfl kg))) (lj fe (jb rfl (jb rfl kg))) (λh=>t24 r45 r40.at_.elem  h) ?_
 rintro _ ⟨r51,hc50,rfl⟩
 have hIn:=hc50
 cases r51
 refine aG ?_
 refine wz [ju a1,.la 3 0,.la 5 0,v33,.la 17 0,iF a2.runs.l.length,iF rf] H35 [(3,(bG.ag a0)),(5,(iO.ag a2)),(17,(kF.ag r40))] ?_ (jD hS36 [(10,0)])
 refine qg ?_
 refine bR ?_
 refine jG rfl (lf (i:=0) [r40.at_.elem] hS36 rfl rfl rfl rfl rfl rfl rfl rfl rfl (λ_=>rfl) (.inl rfl) dJ (λ_=>rfl)) ?_
 rintro v52 H53 hS54
 refine ab ?_
 refine wz [ju a1,.la 3 0,.la 5 0,v52,iF a2.runs.l.length,iF rf] H53 [(3,(bG.ag a0)),(5,(iO.ag a2))] ?_ (jD hS54 [(10,0)])
 refine qg ?_
 refine jq ?_
 refine ab ?_
 exact ⟨by omega,v52,((l34++[r40.at_.elem])),H53,dB,eH,eD,hS54,(jD hS54 [(10,0)])⟩
 refine bh ?_
 exact xB ⟨18,dN,rfl⟩
 refine aG ?_
 refine wz [ju a1,.la 3 0,.la 5 0,v33,iF a2.runs.l.length,iF rf] H35 [(3,(bG.ag a0)),(5,(iO.ag a2))] ?_ (jD hS36 [(10,0)])
 refine qg ?_
 refine jq ?_
 refine ab ?_
 exact iB
 refine di ?_
 refine oC (t23 a0 r40.at_.elem) ?_
 rintro _ ⟨r56,hc55,rfl⟩
 have hK:=hc55
 refine jz (λh57=>?_) (λh57=>?_)
 refine aC ?_
 refine qs ?_
 refine bD ?_
 refine oh hS36 0 λr58 hl59 hln62 hz61=>?_
 refine mV (args:=[v33,iv r40.at_.elem]) (p:=[]) (r:=[]) (args':=[qj r58,iv r40.at_.elem]) (R:=TC r58 r40.at_.elem) rfl rfl rfl rfl rfl (jb (Sep.arg (i:=0) hS36 rfl) (jb rfl kg)) rfl fp (lj (by show jJ (freeze true { H35 with iI:=[] } 8) [v33,iv r40.at_.elem] = _; simp only [FZ,hz61]) (jb (Sep.oX (i:=0) hS36 rfl) (jb rfl kg))) (lj fe (jb rfl (jb rfl kg))) (λh=>t24 r58 r40.at_.elem  h) ?_
 rintro _ ⟨r64,hc63,rfl⟩
 have hIn:=hc63
 cases r64
 refine aG ?_
 refine wz [ju a1,.la 3 0,.la 5 0,v33,.la 17 0,iF a2.runs.l.length,iF rf] H35 [(3,(bG.ag a0)),(5,(iO.ag a2)),(17,(kF.ag r40))] ?_ (jD hS36 [(10,0)])
 refine qg ?_
 refine bR ?_
 refine jG rfl (lf (i:=0) [r40.at_.elem] hS36 rfl rfl rfl rfl rfl rfl rfl rfl rfl (λ_=>rfl) (.inl rfl) dJ (λ_=>rfl)) ?_
 rintro v65 H66 hS67
 refine ab ?_
 refine wz [ju a1,.la 3 0,.la 5 0,v65,iF a2.runs.l.length,iF rf] H66 [(3,(bG.ag a0)),(5,(iO.ag a2))] ?_ (jD hS67 [(10,0)])
 refine qg ?_
 refine jq ?_
 refine ab ?_
 exact ⟨by omega,v65,((l34++[r40.at_.elem])),H66,dB,eH,eD,hS67,(jD hS67 [(10,0)])⟩
 refine bh ?_
 exact xB ⟨18,dN,rfl⟩
 refine aG ?_
 refine wz [ju a1,.la 3 0,.la 5 0,v33,iF a2.runs.l.length,iF rf] H35 [(3,(bG.ag a0)),(5,(iO.ag a2))] ?_ (jD hS36 [(10,0)])
 refine qg ?_
 refine jq ?_
 refine ab ?_
 exact iB
 refine ap ?_
 refine aZ ?_
 have hL68:=a2.runs.lk
 refine jK a2.runs ?_
 refine aL ?_
 have hNk69:=a2.runs.lk
 refine iW a2.runs.l.length (λpc e h=>(∀ i,i<pc->¬ qL a0 a1.l a2 i)/\At [1,3,5,104,105,106] [ju a1,.la 3 0,.la 5 0,jF a2.runs,iF a2.runs.l.length,iF pc] H35 [(3,(bG.ag a0)),(5,(iO.ag a2))] e h) ?_ (k0:=0) dD ⟨fx,atR⟩
 rintro pc e h hkk69 ⟨hBd,hA⟩
 refine aK ?_
 refine jk (λh70=>?_) (λh70=>?_)
 refine aq ?_
 refine bE ?_
 have hx71:pc<a2.runs.l.length:=by omega
 refine kQ pc a2.runs hx71 ?_
 generalize hqx72:a2.runs.l[pc]=x72
 have hinx72:x72∈a2.runs.l:=by rw [<- hqx72]; exact List.getElem_mem _
 have hsx72:=q7.oX.2 x72 hinx72
 refine bW ?_
 refine aZ ?_
 have hL73:=x72.iY.lk
 refine jK x72.iY ?_
 refine jz (λh74=>?_) (λh74=>?_)
 refine bk ?_
 refine cz ?_
 refine ac ?_
 exact xB ⟨10,dN,rfl⟩
 refine bR ?_
 have hL75:=x72.iY.lk
 refine jK x72.iY ?_
 have hL76:=x72.iY.lk
 refine nI ?_
 have hx77:((x72.iY.l.length:Int) - 1).toNat<x72.iY.l.length:=by omega
 refine iT rfl (λ_=>jA (n:=(x72.iY.l.length:Int) - 1) (r:=x72.iY) (enc:=jR.ag) rfl rfl rfl rfl rfl dD hx77 rfl) ?_
 generalize hqx78:x72.iY.l[((x72.iY.l.length:Int) - 1).toNat]=x78
 refine aw ?_
 refine lb (λh79=>?_) (λh79=>?_)
 refine ac ?_
 exact xB ⟨10,dN,rfl⟩
 refine ah ?_
 refine ae ?_
 have hL80:=x72.iY.lk
 refine jK x72.iY ?_
 refine aL ?_
 have hNk81:=x72.iY.lk
 refine iW x72.iY.l.length (λsd e h=>(∀ i:Nat,i<sd->lC a0 a1.l a2 (pc:Nat) (i:Nat)≠[])/\At [1,3,5,19,104,105,106,129,130] [ju a1,.la 3 0,.la 5 0,iF pc,jF a2.runs,iF a2.runs.l.length,iF pc,iF x72.iY.l.length,iF sd] H35 [(3,(bG.ag a0)),(5,(iO.ag a2))] e h) ?_ (k0:=0) dD ⟨fx,atR⟩
 rintro sd e h hkk81 ⟨hRn,hA⟩
 refine aK ?_
 refine jk (λh82=>?_) (λh82=>?_)
 refine bP ?_
 refine aa ?_
 refine bR ?_
 refine oC (t8 a0 a1 a2 ((pc:Int)) ((sd:Int)) dw dw dw) ?_
 rintro _ ⟨r84,hc83,rfl⟩
 have hRl:=hc83.1; have hRe:=hc83.2
 have hL85:=r84.lk
 refine jK r84 ?_
 refine jz (λh86=>?_) (λh86=>?_)
 refine bh ?_
 exact xB ⟨10,dN,rfl⟩
 refine bZ ?_
 refine jq ?_
 refine ab ?_
 exact ia
 refine ap ?_
 refine qg ?_
 refine jq ?_
 refine ab ?_
 exact ⟨by omega,gh,atR⟩
 refine cy ?_
 exact xB ⟨0,dN,rfl⟩
def P7 (_a0:iO) (v:AV):Prop:=∃ r0:Int,(r0=IU _a0)/\v=iv r0
def t7 (a0:iO) :Ct 7 [.agg (iO.ag a0)] (P7 a0):=by
 refine jf Xo ?_
 refine aX ?_
 refine br ?_
 refine aZ ?_
 have hL1:=a0.runs.lk
 refine jK a0.runs ?_
 refine aL ?_
 have hNk2:=a0.runs.lk
 refine iW a0.runs.l.length (λk2 e h=>∃ n3:Int,(n3=(a0.runs.l.take k2).foldl BP 0)/\At [3,9,10,11] [iv n3,jF a0.runs,iF a0.runs.l.length,iF k2] aT.empty [] e h) ?_ (k0:=0) dD ⟨0,fT,atR⟩
 rintro k2 e h hkk2 ⟨n3,hLo,hA⟩
 refine aK ?_
 refine jk (λh4=>?_) (λh4=>?_)
 refine aq ?_
 refine wy [iv n3,jF a0.runs,iF a0.runs.l.length,iF k2] [] ?_
 refine bg ?_
 have hx5:k2<a0.runs.l.length:=by omega
 refine kQ k2 a0.runs hx5 ?_
 generalize hqx6:a0.runs.l[k2]=x6
 refine cP ?_
 have hL7:=x6.iY.lk
 refine jK x6.iY ?_
 refine aL ?_
 have hNk8:=x6.iY.lk
 refine iW x6.iY.l.length (λk8 e h=>∃ n9:Int,(n9=((x6.iY.l).take k8).foldl (λ(t:Int) (x:jR)=>max t x.at_) ((a0.runs.l.take k2).foldl BP 0))/\At [3,9,10,11,16,17,18] [iv n9,jF a0.runs,iF a0.runs.l.length,iF k2,mD x6.iY,iF x6.iY.l.length,iF k8] aT.empty [] e h) ?_ (k0:=0) dD ⟨n3,(by exact hLo),atR⟩
 rintro k8 e h hkk8 ⟨n9,hLi,hA⟩
 refine aK ?_
 refine jk (λh10=>?_) (λh10=>?_)
 refine aq ?_
 refine wy [iv n9,jF a0.runs,iF a0.runs.l.length,iF k2,mD x6.iY,iF x6.iY.l.length,iF k8] [] ?_
 refine bg ?_
 have hx11:k8<x6.iY.l.length:=by omega
 refine kQ k8 x6.iY hx11 ?_
 generalize hqx12:x6.iY.l[k8]=x12
 refine bd ?_
 refine bv ?_
 obtain ⟨m13,hqm13⟩:∃ m:Int,(if x12.at_ > n9 then x12.at_ else n9)=m:=⟨_,rfl⟩
 have hem13:m13=max n9 x12.at_:=by rw [<- hqm13,Int.max_def]; split<;>split<;>omega
 have him13:(m13>=n9/\m13>=x12.at_)/\(m13=n9\/m13=x12.at_):=by rw [<- hqm13]; split<;>omega
 refine iT (v:=iv m13) rfl (λ_=>(by subst hqm13; rfl)) ?_
 clear hqm13
 refine ab ?_
 refine wy [iv m13,jF a0.runs,iF a0.runs.l.length,iF k2,mD x6.iY,iF x6.iY.l.length,iF k8] [] ?_
 refine qg ?_
 refine jq ?_
 refine ab ?_
 exact im
 refine ap ?_
 refine wy [iv n9,jF a0.runs,iF a0.runs.l.length,iF k2] [] ?_
 refine qg ?_
 refine jq ?_
 refine ab ?_
 exact io
 refine ap ?_
 refine wy [iv n3] [] ?_
 refine bJ ?_
 exact xB ⟨n3,(by exact sk hLo dD),rfl⟩
def P65 (_a0:iO) (_a1:Int) (_a2:Int) (v:AV):Prop:=∃ r0:Row jR,∃ r1:Bool,((((r1=true->0<=_a1/\_a1<(_a0.runs.l.length:Int)/\0<=_a2/\(∀ h : _a1.toNat < _a0.runs.l.length,r0=(_a0.runs.l[_a1.toNat]).iY)/\_a2<=(r0.l.length:Int))/\(r1=false->Cy _a0 _a1 _a2))/\r0.l.length<=9223372036854775807))/\v=.jl [mD r0,.bool r1]
def t65 (a0:iO) (a1:Int) (a2:Int) :Ct 65 [.agg (iO.ag a0),iv a1,iv a2] (P65 a0 a1 a2):=by
 refine jf MP ?_
 refine ae ?_
 refine az ?_
 refine jk (λh1=>?_) (λh1=>?_)
 refine bQ ?_
 refine a7 ?_
 refine bV ?_
 refine cY ?_
 exact iD
 refine aO ?_
 have hL2:=a0.runs.lk
 refine jK a0.runs ?_
 refine lP (λh3=>?_) (λh3=>?_)
 refine a7 ?_
 refine bV ?_
 refine cY ?_
 exact iD
 refine aH ?_
 refine jk (λh4=>?_) (λh4=>?_)
 refine bV ?_
 refine cY ?_
 exact iD
 refine cM ?_
 have hx5:(a1).toNat<a0.runs.l.length:=by omega
 refine iT rfl (λ_=>jA (n:=a1) (r:=a0.runs) (enc:=jC.ag) rfl rfl rfl rfl rfl dD hx5 rfl) ?_
 generalize hqx6:a0.runs.l[(a1).toNat]=x6
 refine aw ?_
 have hL7:=x6.iY.lk
 refine jK x6.iY ?_
 refine kn (λh8=>?_) (λh8=>?_)
 refine cY ?_
 exact iD
 refine ah ?_
 refine aJ ?_
 have hx9:(a1).toNat<a0.runs.l.length:=by omega
 refine iT rfl (λ_=>jA (n:=a1) (r:=a0.runs) (enc:=jC.ag) rfl rfl rfl rfl rfl dD hx9 rfl) ?_
 rw [hqx6]
 refine bI ?_
 exact xG ⟨x6.iY,true,dW,rfl⟩
def ahW (_a0:iX) (_a1:Int) (v:AV):Prop:=∃ r0:Int,∃ r1:Bool,(((r1=true->r0=tj _a0.p.signals.l _a1)/\(r1=false->tj _a0.p.signals.l _a1 = -1)))/\v=.jl [iv r0,.bool r1]
def t136 (a0:iX) (a1:Int) :Ct 136 [.ip (iX.ag a0) 0 false,iv a1] (ahW a0 a1):=by
 refine jf HL ?_
 refine aX ?_
 refine ae ?_
 refine oC (t173 a0 a1) ?_
 rintro _ ⟨r2,r3,hc1,rfl⟩
 have hA:=hc1.1; have hA0:=hc1.2
 cases r3
 refine di ?_
 refine af ?_
 exact xG ⟨r2.elem,false,(by grind [tj]),rfl⟩
 refine di ?_
 refine af ?_
 exact xG ⟨r2.elem,true,(by grind [tj]),rfl⟩
def P66 (_a0:iX) (_a1:Int) (v:AV):Prop:=∃ r0:Int,(r0=tj _a0.p.signals.l _a1)/\v=iv r0
def t66 (a0:iX) (a1:Int) :Ct 66 [.ip (iX.ag a0) 0 false,iv a1] (P66 a0 a1):=by
 refine jf Nx ?_
 refine cC ?_
 refine oC (t136 a0 a1) ?_
 rintro _ ⟨r2,r3,hc1,rfl⟩
 have hBt2:=hc1
 cases r3
 refine cI ?_
 refine ac ?_
 exact xB ⟨(-1),(by grind),rfl⟩
 refine cI ?_
 refine ah ?_
 refine bJ ?_
 exact xB ⟨r2,(by grind),rfl⟩
def P32 (_a0:iX) (_a1:iO) (_a2:Int) (_a3:Int) (v:AV):Prop:=∃ r0:Int,(r0=yg (tj _a0.p.signals.l) _a1 _a2 _a3)/\v=iv r0
def t32 (a0:iX) (a1:iO) (a2:Int) (a3:Int) :Ct 32 [.ip (iX.ag a0) 0 false,.agg (iO.ag a1),iv a2,iv a3] (P32 a0 a1 a2 a3):=by
 refine jf Mn ?_
 refine aX ?_
 refine aJ ?_
 refine oC (t65 a1 a2 a3) ?_
 rintro _ ⟨r2,r3,hc1,rfl⟩
 have hL:=hc1.1; have hLz:=hc1.2
 cases r3
 refine cI ?_
 refine ac ?_
 exact xB ⟨(-1),ef,rfl⟩
 have hLt:=hL.1 rfl; have hLL:=hLt.2.2.2.1
 refine cI ?_
 refine ah ?_
 refine aB ?_
 refine jz (λh4=>?_) (λh4=>?_)
 refine aC ?_
 refine bD ?_
 have hx5:(a2).toNat<a1.runs.l.length:=by omega
 refine iT rfl (λ_=>jA (n:=a2) (r:=a1.runs) (enc:=jC.ag) rfl rfl rfl rfl rfl dD hx5 rfl) ?_
 generalize hqx6:a1.runs.l[(a2).toNat]=x6
 refine aw ?_
 refine oC (t66 a0 x6.from_) ?_
 rintro _ ⟨r8,hc7,rfl⟩
 have hBth:=hc7
 refine af ?_
 exact xB ⟨r8,ef,rfl⟩
 refine aG ?_
 refine aZ ?_
 refine nI ?_
 have hx9:(a3 - 1).toNat<r2.l.length:=by omega
 refine iT rfl (λ_=>jA (n:=a3 - 1) (r:=r2) (enc:=jR.ag) rfl rfl rfl rfl rfl dD hx9 rfl) ?_
 generalize hqx10:r2.l[(a3 - 1).toNat]=x10
 refine cP ?_
 refine cN ?_
 refine jz (λh11=>?_) (λh11=>?_)
 refine bc ?_
 refine aJ ?_
 refine oC (t66 a0 x10.to) ?_
 rintro _ ⟨r13,hc12,rfl⟩
 have hBth:=hc12
 refine af ?_
 exact xB ⟨r13,ef,rfl⟩
 refine bf ?_
 refine jz (λh14=>?_) (λh14=>?_)
 refine aE ?_
 exact xB ⟨x10.to,ef,rfl⟩
 refine ah ?_
 refine aI ?_
 exact xB ⟨(-1),ef,rfl⟩
def aij (_a0:iX) (_a1:iO) (_a2:Int) (_a3:Int) (v:AV):Prop:=∃ r0:iM,∃ r1:Bool,(((r1=true->lx false (nk _a0.p.signals.l) (λx=>look x _a0.next) _a1 _a2 _a3=some r0)/\(r1=false->lx false (nk _a0.p.signals.l) (λx=>look x _a0.next) _a1 _a2 _a3=none)))/\v=.jl [.agg (iM.ag r0),.bool r1]
def t137 (a0:iX) (a1:iO) (a2:Int) (a3:Int) (q1:0<=a2) (q2:a2<(a1.runs.l.length:Int)) (q3:0<=a3) (q4:∀ h:a2.toNat<a1.runs.l.length,a3<=((a1.runs.l[a2.toNat]).iY.l.length:Int)):Ct 137 [.ip (iX.ag a0) 0 false,.agg (iO.ag a1),iv a2,iv a3] (aij a0 a1 a2 a3):=by
 refine jf JA ?_
 refine ae ?_
 refine az ?_
 refine jz (λh1=>?_) (λh1=>?_)
 refine aC ?_
 refine bD ?_
 have hx2:(a2).toNat<a1.runs.l.length:=by omega
 refine iT rfl (λ_=>jA (n:=a2) (r:=a1.runs) (enc:=jC.ag) rfl rfl rfl rfl rfl dD hx2 rfl) ?_
 generalize hqx3:a1.runs.l[(a2).toNat]=x3
 have hinx3:x3∈a1.runs.l:=by rw [<- hqx3]; exact List.getElem_mem _
 have hsx3:=q4 dv; rw [hqx3] at hsx3; have hkx3:=x3.iY.ok; simp only [rX] at hkx3
 refine aw ?_
 refine oC (t173 a0 x3.from_) ?_
 rintro _ ⟨r5,r6,hc4,rfl⟩
 have hA:=hc4.1; have hA0:=hc4.2
 cases r6
 refine bI ?_
 exact xG ⟨r5,false,dP,rfl⟩
 refine bI ?_
 exact xG ⟨r5,true,dP,rfl⟩
 refine aG ?_
 refine bM ?_
 have hx7:(a2).toNat<a1.runs.l.length:=by omega
 refine iT rfl (λ_=>jA (n:=a2) (r:=a1.runs) (enc:=jC.ag) rfl rfl rfl rfl rfl dD hx7 rfl) ?_
 generalize hqx8:a1.runs.l[(a2).toNat]=x8
 have hinx8:x8∈a1.runs.l:=by rw [<- hqx8]; exact List.getElem_mem _
 have hsx8:=q4 dv; rw [hqx8] at hsx8; have hkx8:=x8.iY.ok; simp only [rX] at hkx8
 refine aH ?_
 refine nI ?_
 have hx9:(a3 - 1).toNat<x8.iY.l.length:=by omega
 refine iT rfl (λ_=>jA (n:=a3 - 1) (r:=x8.iY) (enc:=jR.ag) rfl rfl rfl rfl rfl dD hx9 rfl) ?_
 generalize hqx10:x8.iY.l[(a3 - 1).toNat]=x10
 refine cP ?_
 refine cN ?_
 refine jz (λh11=>?_) (λh11=>?_)
 refine bc ?_
 refine aJ ?_
 refine oC (t173 a0 x10.to) ?_
 rintro _ ⟨r13,r14,hc12,rfl⟩
 have hA:=hc12.1; have hA0:=hc12.2
 cases r14
 refine bI ?_
 exact xG ⟨r13,false,dP,rfl⟩
 refine bI ?_
 exact xG ⟨r13,true,dP,rfl⟩
 refine bf ?_
 refine jz (λh15=>?_) (λh15=>?_)
 refine bc ?_
 refine bD ?_
 refine oC (t146 a0 (⟨x10.to,0⟩:iM)) ?_
 rintro _ ⟨r17,r18,hc16,rfl⟩
 have hN:=hc16
 cases r18
 refine di ?_
 refine oC (t146 a0 (⟨x10.to,1⟩:iM)) ?_
 rintro _ ⟨r20,r21,hc19,rfl⟩
 have hN:=hc19
 cases r21
 refine dg ?_
 refine ca ?_
 refine aJ ?_
 refine a7 ?_
 refine bU ?_
 exact xG ⟨(⟨x10.to,1⟩:iM),false,dP,rfl⟩
 refine cJ ?_
 refine aH ?_
 refine bc ?_
 refine ao ?_
 refine bI ?_
 exact xG ⟨(⟨x10.to,0⟩:iM),true,dP,rfl⟩
 refine di ?_
 refine oC (t146 a0 (⟨x10.to,1⟩:iM)) ?_
 rintro _ ⟨r23,r24,hc22,rfl⟩
 have hN:=hc22
 cases r24
 refine dg ?_
 refine oS ?_
 refine ah ?_
 refine aa ?_
 refine cM ?_
 refine bI ?_
 exact xG ⟨(⟨x10.to,1⟩:iM),true,dP,rfl⟩
 refine dg ?_
 refine oS ?_
 refine ah ?_
 refine aa ?_
 refine cM ?_
 refine bI ?_
 exact xG ⟨(⟨x10.to,1⟩:iM),false,dP,rfl⟩
 refine ah ?_
 refine bu ?_
 exact xG ⟨(⟨0,0⟩:iM),false,dP,rfl⟩
end Go.Sx
