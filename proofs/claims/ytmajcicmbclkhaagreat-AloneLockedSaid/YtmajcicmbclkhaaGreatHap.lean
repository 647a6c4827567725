/- Proves what functions of the program answer. -/
import Derived.Test.YtmajcicmbclkhaaGreatHao
set_option linter.all false
set_option maxRecDepth 100000
set_option maxHeartbeats 0
namespace Go.Sx
open Go Go.Proofs
def t55 (a0:fw) (a1:fe) (q1:j1 a0.p) (q2:a0.next.length<=240) (q3:a1.steps.l.length<=12) (q4:a1.fX.l.length<=1000) (q6:∀ y∈univ a0,pc a0.p y):Ct 55 [.ip (fw.ai a0) 0 false,.agg (fe.ai a1)] (λv=>∃ r0:fe,((r0.from_=a1.from_)/\(r0.steps.l=a1.steps.l/\r0.fX.l=a1.fX.l/\r0.gB.l.length<=12/\(∀ x∈r0.gB.l,z8 x)/\r0.guards.l.length<=1000/\r0.holds.l.length<=1000/\∀ x∈r0.guards.l,Dw a0.p x))/\v=.agg (fe.ai r0)):=by
 refine fR TU ?_
 have q5:(univ a0).length<=241:=by simp only [univ,List.length_cons,List.length_map]; omega
 refine ay ?_
 rintro _ H2 ⟨b1,rfl,hS3⟩
 refine gj (H:=H2) rfl (o3 hS3 rfl rfl rfl rfl rfl) ?_
 rintro _ H5 ⟨b4,rfl,hS6⟩
 refine e9 ?_
 refine qH ?_
 refine e9 ?_
 refine mS 0 hS6 ?_
 refine l3 0 hS6 (fx a1.steps) ?_
 refine rC (t104 (Row.ji a1.steps) aZ) ?_
 rintro _ ⟨r8,hc7,rfl⟩
 have hC93:=congrArg List.length hc7; try simp only [Row.ji] at hC93
 refine mS 0 hS6 ?_
 refine l3 0 hS6 (fu a1.fX) ?_
 refine rC (t65 (Row.ji a1.fX) aZ) ?_
 rintro _ ⟨r10,hc9,rfl⟩
 have hC94:=congrArg List.length hc9; try simp only [Row.ji] at hC94
 refine mS 0 hS6 ?_
 refine Rn 0 hS6 (fx r8) λH11 hS12=>?_
 refine mS 0 hS12 ?_
 refine Rn 0 hS12 (fu r10) λH13 hS14=>?_
 refine jG ?_
 refine nO 0 hS14 ?_
 refine HJ 0 hS14 ee λH15 hS16=>?_
 refine nO 0 hS16 ?_
 refine HJ 0 hS16 ee λH17 hS18=>?_
 refine nO 0 hS18 ?_
 refine HJ 0 hS18 ee λH19 hS20=>?_
 refine nO 0 hS20 ?_
 refine HJ 0 hS20 (.bool false) λH21 hS22=>?_
 refine fo ?_
 refine kW 1 hS22 (.ip (fw.ai a0) 0 false) ?_
 refine oC (t56 a0 aZ) ?_
 rintro _ ⟨r24,hc23,rfl⟩
 have hPl:=hc23.2.2.2.2.2
 refine gq ?_
 refine gj (H:=H21) rfl (iW hS22) ?_
 rintro _ H26 ⟨b25,rfl,hS27⟩
 refine fk ?_
 refine gj (H:=H26) rfl (DN hS27 rfl rfl) ?_
 rintro _ H29 ⟨b28,rfl,hS30⟩
 refine fo ?_
 refine kW 3 hS30 (.ip (fw.ai a0) 0 false) ?_
 refine kW 2 hS30 (.agg [iv a1.from_,iv a1.to,iv a1.end_,fx r8,fu r10,ee,ee,ee,eV]) ?_
 refine oC (t105 a0 (⟨a1.from_,a1.to,a1.end_,r8,r10,(kZ:Row bm),(kZ:Row Int),(kZ:Row Int),false⟩:fe) aZ) ?_
 rintro _ ⟨r32,hc31,rfl⟩
 dsimp only at hc31
 refine gS ?_
 have hL33:=r32.lk
 refine gL r32 ?_
 have hL34:=r32.lk
 refine be rfl (λ_=>ca rfl rfl rfl (ju ((r32.l.length:Int)) 1 aY aY)) ?_
 refine fo ?_
 have hS35:=Sep.jZ hS30 2
 refine nT (λm41 e h=>∃ v36:AV,∃ l37:List eU,∃ n38:Int,∃ H39:au,m41=(n38+1).toNat/\(-1<=n38)/\(n38<(r32.l.length:Int))/\((l37.length:Int)+n38+1<=r32.l.length)/\((∀ y∈(l37:List eU),y∈univ a0))/\(a1.from_=a1.from_)/\Sep H39 (kh eU.ai 2 v36 l37::gi b28 [v36]::kb b25 pK bK []::gi b4 [iv a1.from_,iv a1.to,iv a1.end_,fx r8,fu r10,ee,ee,ee,eV]::gi b1 [.ip (fw.ai a0) 0 false]::[])/\At [2,3,4,5,6,7,8,9] [(eX b1),(eX b4),.la 4 0,.bool r24.gE,(.hm b25),(eX b28),px r32,iv n38] H39 [(4,[iv 0,iv 0,iv 0,ee,ee,ee,ee,ee,eV])] e h) ?_ _ _ _ ⟨ee,(([]:List eU)),((r32.l.length:Int) - 1),H29,rfl,bj,bj,bj,ci,c7,hS35,atR⟩
 rintro m41 e h ⟨v36,l37,n38,H39,hmm41,hA1,hA2,hA3,hTu,hFm,hS40,hA⟩
 refine aC ?_
 refine jw (λh42=>?_) (λh42=>?_)
 refine fo ?_
 refine wz [(eX b1),(eX b4),.la 4 0,.bool r24.gE,(.hm b25),(eX b28),px r32,iv n38] H39 [(4,[iv 0,iv 0,iv 0,ee,ee,ee,ee,ee,eV])] ?_
 refine fk ?_
 refine l3 4 hS40 (.ip (fw.ai a0) 0 false) ?_
 refine lj ?_
 have hx43:(n38).toNat<r32.l.length:=by omega
 refine Lc n38 r32 hx43 ?_
 generalize hqx44:r32.l[(n38).toNat]=x44
 refine rV ?_
 refine rC (t106 a0 x44) ?_
 rintro _ ⟨r46,r47,hc45,rfl⟩
 have hN:=hc45
 cases r47
 refine ze ?_
 refine kW 1 hS40 v36 ?_
 refine e9 ?_
 refine oF 0 [r46] hS40 λv48 H49 hS50=>?_
 refine gj (H:=H49) rfl (lV (H:=H49) (i:=1) (o:=0) (r:=v48) hS50 rfl rfl rfl rfl (jx rfl rfl (Sep.cell (i:=0) hS50 rfl)) (ei (Sep.cell (i:=0) hS50 rfl) fT) rfl) ?_
 rintro _ H51 ⟨rfl,hS52⟩
 refine oN ?_
 refine wz [(eX b1),(eX b4),.la 4 0,.bool r24.gE,(.hm b25),(eX b28),px r32,iv n38] H51 [(4,[iv 0,iv 0,iv 0,ee,ee,ee,ee,ee,eV])] ?_
 refine e9 ?_
 refine be rfl (λ_=>ca rfl rfl rfl (ju n38 1 aY aY)) ?_
 refine e9 ?_
 refine ⟨_,?_,v48,((l37++[r46])),(n38 - 1),H51,rfl,bj,bj,bj,dC,bN,hS52,atR⟩
 omega
 refine ze ?_
 refine kW 1 hS40 v36 ?_
 refine e9 ?_
 refine oF 0 [r46] hS40 λv53 H54 hS55=>?_
 refine gj (H:=H54) rfl (lV (H:=H54) (i:=1) (o:=0) (r:=v53) hS55 rfl rfl rfl rfl (jx rfl rfl (Sep.cell (i:=0) hS55 rfl)) (ei (Sep.cell (i:=0) hS55 rfl) fT) rfl) ?_
 rintro _ H56 ⟨rfl,hS57⟩
 refine oN ?_
 refine wz [(eX b1),(eX b4),.la 4 0,.bool r24.gE,(.hm b25),(eX b28),px r32,iv n38] H56 [(4,[iv 0,iv 0,iv 0,ee,ee,ee,ee,ee,eV])] ?_
 refine e9 ?_
 refine be rfl (λ_=>ca rfl rfl rfl (ju n38 1 aY aY)) ?_
 refine e9 ?_
 refine ⟨_,?_,v53,((l37++[r46])),(n38 - 1),H56,rfl,bj,bj,bj,dC,bN,hS57,atR⟩
 omega
 refine fo ?_
 refine wz [(eX b1),(eX b4),.la 4 0,.bool r24.gE,(.hm b25),(eX b28)] H39 [(4,[iv 0,iv 0,iv 0,ee,ee,ee,ee,ee,eV])] ?_
 refine e9 ?_
 refine be rfl (λ_=>yg rfl rfl (xK rfl rfl)) ?_
 refine gS ?_
 have hS58:=Sep.jZ hS40 2
 have hS59:=Sep.jZ hS58 1
 have hS60:=Sep.jZ hS59 1
 have hS61:=Sep.nB (i:=3) hS60 rfl
 refine nT (λm77 e h=>∃ v62:AV,∃ l63:List Int,∃ v64:AV,∃ l65:List Int,∃ v66:AV,∃ l67:List bm,∃ v68:AV,∃ l69:List eU,∃ l70:List (eU×Bool),∃ n71:Int,∃ n72:Int,∃ n73:Int,∃ b74:Bool,∃ H75:au,m77=3*((univ a0).length - l70.length)+l69.length/\(wO l70)/\(∀ k∈l70.map Prod.fst,k∈univ a0)/\(∀ y∈(l70:List (eU×Bool)),y.2=true)/\((∀ y∈(l69:List eU),y∈univ a0))/\(l69.length+3*((univ a0).length - l70.length)<=1000)/\(l67.length<=l70.length)/\(l63.length<=l70.length)/\(l65.length<=12)/\(∀ x∈(l65:List Int),z8 x)/\(∀ x∈(l67:List bm),Dw a0.p x)/\(l70.length<=(univ a0).length)/\(n71=a1.from_)/\Sep H75 (kL v62 l63::kL v64 l65::kh bm.ai 2 v66 l67::gy eU.ai 2 v68 l69::gi b28 [v68]::kb b25 pK bK l70::gi b4 [iv n71,iv n72,iv n73,fx r8,fu r10,v66,v64,v62,.bool b74]::gi b1 [.ip (fw.ai a0) 0 false]::[])/\At [2,3,4,5,6,7,12] [(eX b1),(eX b4),.la 4 0,.bool r24.gE,(.hm b25),(eX b28),.gx 107 [] [(eX b1),(eX b28)]] H75 [(4,[iv 0,iv 0,iv 0,ee,ee,ee,ee,ee,eV])] e h) ?_ _ _ _ ⟨ee,(([]:List Int)),ee,(([]:List Int)),ee,(([]:List bm)),v36,l37,([]),a1.from_,a1.to,a1.end_,false,H39,rfl,(by simp [wO]),ci,ci,cG,bj,ci,ci,ci,ci,ci,ci,c7,hS61,atR⟩
 rintro m77 e h ⟨v62,l63,v64,l65,v66,l67,v68,l69,l70,n71,n72,n73,b74,H75,hmm77,hKd,hKu,hT,hTu,hB1,hB2,hB3,hB4,hZr,hGd,hB5,hFm,hS76,hA⟩
 refine yQ hA ?_
 refine fo ?_
 refine kW 4 hS76 v68 ?_
 refine be rfl (λ_=>jC (H:=H75) (i:=3) (l:=l69) (enc:=eU.ai) hS76 rfl rfl rfl rfl rfl rfl rfl) ?_
 refine jI (λh78=>?_) (λh78=>?_)
 refine fo ?_
 refine wz [(eX b1),(eX b4),.la 4 0,.bool r24.gE,(.hm b25),(eX b28),.gx 107 [] [(eX b1),(eX b28)]] H75 [(4,[iv 0,iv 0,iv 0,ee,ee,ee,ee,ee,eV])] ?_
 refine fo ?_
 refine aA ?_
 refine be rfl (λ_=>ca rfl rfl rfl (ju ((l69.length:Int)) 1 aY aY)) ?_
 have hk79:((((l69.length:Int) - 1).toNat:Nat):Int)=(l69.length:Int) - 1:=Int.toNat_of_nonneg aY
 have hx80:((l69.length:Int) - 1).toNat<l69.length:=by first | omega | (simp<;>omega) | (simp_all; done) | (simp_all; omega)
 obtain ⟨x81,hqx81⟩:∃ x,l69[((l69.length:Int) - 1).toNat]=x:=⟨_,rfl⟩
 have hinx81:x81∈l69:=by rw [<- hqx81]; exact List.getElem_mem _
 have hmx81:=hTu x81 hinx81
 refine lG rfl (iT (H:=H75) (i:=3) (m:=((l69.length:Int) - 1).toNat) (cs:=eU.ai x81) hS76 rfl rfl rfl rfl rfl rfl (congrArg (AV.int .i64) hk79.symm) (gW hx80 hqx81)) ?_
 rintro a82 ⟨ha83,hea84⟩
 refine be rfl (λ_=>lQ (H:=H75) (i:=3) (m:=((l69.length:Int) - 1).toNat) (o:=0) (r:=.agg (eU.ai x81)) (cs:=eU.ai x81) hS76 rfl (gW hx80 hqx81) hea84 rfl rfl ha83) ?_
 refine gq ?_
 refine aA ?_
 refine be rfl (λ_=>ca rfl rfl rfl (ju ((l69.length:Int)) 1 aY aY)) ?_
 have hk85:((((l69.length:Int) - 1).toNat:Nat):Int)=(l69.length:Int) - 1:=Int.toNat_of_nonneg aY
 have hx86:((l69.length:Int) - 1).toNat<=l69.length:=by first | omega | (simp<;>omega) | (simp_all; done) | (simp_all; omega)
 have hTl:(l69.take (((l69.length:Int) - 1).toNat)).length+1=l69.length:=by rw [List.length_take]; omega
 have hTu:∀ y∈l69.take (((l69.length:Int) - 1).toNat),y∈univ a0:=λy hy=>hTu y (List.mem_of_mem_take hy)
 refine gj (H:=H75) rfl (xJ (H:=H75) (i:=3) (k:=((l69.length:Int) - 1).toNat) hS76 rfl rfl rfl rfl rfl rfl (congrArg (AV.int .i64) hk85.symm) hx86) ?_
 rintro v87 H88 ⟨hc89,hS90⟩
 refine gj (H:=H88) rfl (lV (H:=H88) (i:=4) (o:=0) (r:=v87) hS90 rfl rfl rfl rfl (jx rfl rfl (Sep.cell (i:=3) hS90 rfl)) (ei (Sep.cell (i:=3) hS90 rfl) fT) rfl) ?_
 rintro _ H91 ⟨rfl,hS92⟩
 refine fk ?_
 refine kW 6 hS92 (.agg [iv n71,iv n72,iv n73,fx r8,fu r10,v66,v64,v62,.bool b74]) ?_
 refine e9 ?_
 refine lJ hS92 2 λr93 hl94 hln97 hz96=>?_
 refine lJ hS92 1 λr98 hl99 hln102 hz101=>?_
 refine lJ hS92 0 λr103 hl104 hln107 hz106=>?_
 refine kD (args:=[.agg [iv n71,iv n72,iv n73,fx r8,fu r10,v66,v64,v62,.bool b74],iv x81.elem]) (p:=[]) (r:=[]) (args':=[.agg [iv n71,iv n72,iv n73,fx r8,fu r10,ff.av bm.ai r93,nj r98,nj r103,.bool b74],iv x81.elem]) (R:=Rw (⟨n71,n72,n73,(Row.ji r8),(Row.ji r10),r93,r98,r103,b74⟩:sW) x81.elem) rfl rfl rfl rfl rfl rfl rfl cC (gG (by show fU (freeze true { H91 with aT:=[] } 8) [.agg [iv n71,iv n72,iv n73,fx r8,fu r10,v66,v64,v62,.bool b74],iv x81.elem] = _; simp only [FZ,hz96,hz101,hz106]) (ei (PL (ei rfl (ei rfl (ei rfl (ei rfl (ei rfl (ei (Sep.cell (i:=2) hS92 rfl) (ei (Sep.cell (i:=1) hS92 rfl) (ei (Sep.cell (i:=0) hS92 rfl) (ei rfl fT)))))))))) (ei rfl fT))) (gG bV (ei rfl (ei rfl fT))) (λh=>t108 (⟨n71,n72,n73,(Row.ji r8),(Row.ji r10),r93,r98,r103,b74⟩:sW) x81.elem  h) ?_
 rintro _ ⟨r109,hc108,rfl⟩
 cases r109
 refine fo ?_
 refine kg (H:=H91) (i:=5) (ek:=pK) (ev:=bK) (l:=l70) x81 rfl rfl hS92 rfl rfl rfl rfl rfl rfl rfl rfl jU (λy110 h111=>?_) (λh112=>?_)
 cases y110
 exact absurd (hT _ (jt h111)) ci
 refine fk ?_
 refine ⟨_,?_,v62,l63,v64,l65,v66,l67,v87,((l69.take (((l69.length:Int) - 1).toNat))),l70,n71,n72,n73,b74,H91,rfl,cL,cK,cP,cG,bl,bj,bj,bj,cJ,bA,bP,bN,hS92,atR⟩
 first | omega | (simp only [List.length_append,List.length_cons,List.length_nil,List.length_take] at *; omega)
 refine fk ?_
 refine wz [(eX b1),(eX b4),.la 4 0,.bool r24.gE,(.hm b25),(eX b28),.gx 107 [] [(eX b1),(eX b28)],.la 13 0] H91 [(4,[iv 0,iv 0,iv 0,ee,ee,ee,ee,ee,eV]),(13,(eU.ai x81))] ?_
 refine fk ?_
 have hPl:(put x81 true l70).length=l70.length+1:=by rw [IE a6]; simp
 have hKd:wO (put x81 true l70):=Mi hKd a6
 have hKu:∀ k∈(put x81 true l70).map Prod.fst,k∈univ a0:=K7 hKu a6
 have hPle:(put x81 true l70).length<=(univ a0).length:=by rw [<- List.length_map Prod.fst]; exact Ag hKd hKu
 have hT:∀ y∈(put x81 true l70),y.2=true:=qL (P:=λy:Bool=>y=true) hT rfl
 refine gj (H:=H91) rfl (kI (H:=H91) (i:=5) (ek:=pK) (ev:=bK) (l:=l70) x81 true hS92 rfl rfl rfl rfl rfl rfl jU) ?_
 rintro _ H113 ⟨rfl,hS114⟩
 refine oN ?_
 refine BC (λE Z=>(E=[(2,(eX b1)),(3,(eX b4)),(4,.la 4 0),(5,.bool r24.gE),(6,(.hm b25)),(7,(eX b28)),(12,.gx 107 [] [(eX b1),(eX b28)]),(13,.la 13 0)]/\Z = { H113 with aT:=[(4,[iv 0,iv 0,iv 0,ee,ee,ee,ee,ee,eV]),(13,(eU.ai x81))] })) ?_ ?_
 rintro _ _ ⟨rfl,rfl⟩
 refine e9 ?_
 refine kW 7 hS114 (.ip (fw.ai a0) 0 false) ?_
 refine e9 ?_
 refine oC (t110 a0 x81.elem) ?_
 rintro _ ⟨r116,hc115,rfl⟩
 have hK:=hc115
 refine fk ?_
 refine gN (λh117=>?_) (λh117=>?_)
 refine fk ?_
 refine nO 6 hS114 ?_
 refine HJ 6 hS114 (.bool true) λH118 hS119=>?_
 refine oN ?_
 refine ⟨_,?_,v62,l63,v64,l65,v66,l67,v87,((l69.take (((l69.length:Int) - 1).toNat))),((put x81 true l70)),n71,n72,n73,true,H118,rfl,cL,cK,cP,cG,bl,bj,bj,bj,cJ,bA,bP,bN,hS119,atR⟩
 first | omega | (simp only [List.length_append,List.length_cons,List.length_nil,List.length_take] at *; omega)
 refine gq ?_
 refine gN (λh120=>?_) (λh120=>?_)
 refine fS ?_
 refine gN (λh121=>?_) (λh121=>?_)
 refine gz ?_
 have hS122:=Sep.pick hS114 [6,2,1,0,3,4,5,7] 8 bf bf
 refine gA (H:=H113) (args:=[(eX b4),iv x81.elem]) (p:=[]) (r:=[]) rfl rfl rfl rfl rfl rfl rfl (P7 b4 n71 n72 n73 r8 r10 v66 l67 v64 l65 v62 l63 b74 x81.elem (gy eU.ai 2 v87 (l69.take (((l69.length:Int) - 1).toNat))::gi b28 [v87]::kb b25 pK bK (put x81 true l70)::gi b1 [.ip (fw.ai a0) 0 false]::[]) hS122 aZ) ?_
 rintro _ H123 ⟨r129,vzo126,zoneo127,bareo128,hc125,hS124,rfl⟩
 have hZr:∀ x∈zoneo127,z8 x:=λx hx=>(hc125.2 x hx).elim (hZr x) (λe=>by rw [e]; exact (q6 _ a6).1)
 have hc125:=hc125.1
 cases r129
 refine fo ?_
 refine wz [(eX b1),(eX b4),.la 4 0,.bool r24.gE,(.hm b25),(eX b28),.gx 107 [] [(eX b1),(eX b28)]] H123 [(4,[iv 0,iv 0,iv 0,ee,ee,ee,ee,ee,eV])] ?_
 refine qe ?_
 have hS130:=Sep.pick hS124 [3,2,1,4,5,6,0,7] 8 bf bf
 refine ⟨_,?_,v62,l63,vzo126,zoneo127,v66,l67,v87,((l69.take (((l69.length:Int) - 1).toNat))),((put x81 true l70)),n71,n72,n73,bareo128,H123,rfl,cL,cK,cP,cG,bl,bj,bj,bj,cJ,bA,bP,bN,hS130,atR⟩
 first | omega | (simp only [List.length_append,List.length_cons,List.length_nil,List.length_take] at *; omega)
 refine gz ?_
 have hS131:=Sep.pick hS124 [7,5,4,0,1,2,3,6] 8 bf bf
 refine gA (H:=H123) (args:=[iv x81.elem,iv 2]) (p:=[]) (r:=[(eX b1),(eX b28)]) rfl rfl rfl rfl rfl rfl rfl (Lo x81.elem 2 b1 a0 b28 v87 (l69.take (((l69.length:Int) - 1).toNat)) (gi b4 [iv n71,iv n72,iv n73,fx r8,fu r10,v66,vzo126,v62,.bool bareo128]::kh bm.ai 2 v66 l67::kL vzo126 zoneo127::kL v62 l63::kb b25 pK bK (put x81 true l70)::[]) hS131 aZ) ?_
 rintro _ H132 ⟨vto135,todoo136,hc134,hS133,rfl⟩
 have hTu:∀ y∈todoo136,y∈univ a0:=λy hy=>(hc134.2 y hy).elim (hTu y) id
 refine gq ?_
 have hS137:=Sep.pick hS133 [0,1,2,3,4,5,6,7] 8 bf bf
 refine gA (H:=H132) (args:=[iv x81.elem,iv 1]) (p:=[]) (r:=[(eX b1),(eX b28)]) rfl rfl rfl rfl rfl rfl rfl (Lo x81.elem 1 b1 a0 b28 vto135 todoo136 (gi b4 [iv n71,iv n72,iv n73,fx r8,fu r10,v66,vzo126,v62,.bool bareo128]::kh bm.ai 2 v66 l67::kL vzo126 zoneo127::kL v62 l63::kb b25 pK bK (put x81 true l70)::[]) hS137 aZ) ?_
 rintro _ H138 ⟨vto141,todoo142,hc140,hS139,rfl⟩
 have hTu:∀ y∈todoo142,y∈univ a0:=λy hy=>(hc140.2 y hy).elim (hTu y) id
 refine oN ?_
 refine wz [(eX b1),(eX b4),.la 4 0,.bool r24.gE,(.hm b25),(eX b28),.gx 107 [] [(eX b1),(eX b28)]] H138 [(4,[iv 0,iv 0,iv 0,ee,ee,ee,ee,ee,eV])] ?_
 refine qe ?_
 have hS143:=Sep.pick hS139 [6,5,4,2,1,7,3,0] 8 bf bf
 refine ⟨_,?_,v62,l63,vzo126,zoneo127,v66,l67,vto141,todoo142,((put x81 true l70)),n71,n72,n73,bareo128,H138,rfl,cL,cK,cP,cG,bl,bj,bj,bj,cJ,bA,bP,bN,hS143,atR⟩
 first | omega | (simp only [List.length_append,List.length_cons,List.length_nil,List.length_take] at *; omega)
 refine fo ?_
 refine wz [(eX b1),(eX b4),.la 4 0,.bool r24.gE,(.hm b25),(eX b28),.gx 107 [] [(eX b1),(eX b28)],.la 13 0] H113 [(4,[iv 0,iv 0,iv 0,ee,ee,ee,ee,ee,eV]),(13,(eU.ai x81))] ?_
 refine kS ?_
 refine nO 6 hS114 ?_
 refine kW 6 hS114 (fu r10) ?_
 refine oV ?_
 refine oC (t112 (Row.ji r10) (⟨x81.elem,x81.en⟩:bm)) ?_
 rintro _ ⟨r145,hc144,rfl⟩
 cases r145
 refine oV ?_
 refine aV ?_
 refine oV ?_
 refine lJ hS114 2 λr146 hl147 hln150 hz149=>?_
 refine kD (args:=[v66,.agg (eU.ai x81)]) (p:=[]) (r:=[]) (args':=[ff.av bm.ai r146,.agg (eU.ai x81)]) (R:=Ms r146 (⟨x81.elem,x81.en⟩:bm)) rfl rfl rfl rfl rfl (ei (Sep.arg (i:=2) hS114 rfl) (ei rfl fT)) rfl cC (gG (by show fU (freeze true { H113 with aT:=[] } 8) [v66,.agg (eU.ai x81)] = _; simp only [FZ,hz149]) (ei (Sep.qE (i:=2) hS114 rfl) (ei rfl fT))) (gG bV (ei rfl (ei rfl fT))) (λh=>t112 r146 (⟨x81.elem,x81.en⟩:bm)  h) ?_
 rintro _ ⟨r152,hc151,rfl⟩
 cases r152
 refine fk ?_
 refine wz [(eX b1),(eX b4),.la 4 0,.bool r24.gE,(.hm b25),(eX b28),.gx 107 [] [(eX b1),(eX b28)],.la 13 0] H113 [(4,[iv 0,iv 0,iv 0,ee,ee,ee,ee,ee,eV]),(13,(eU.ai x81))] ?_
 refine gS ?_
 refine be rfl (λ_=>ca rfl rfl rfl (pJ .i64 3 x81.en)) ?_
 refine gS ?_
 refine aV ?_
 refine oV ?_
 refine lJ hS114 2 λr153 hl154 hln157 hz156=>?_
 refine kD (args:=[v66,.agg [iv x81.elem,iv (IntKind.i64.wrap (3 - x81.en))]]) (p:=[]) (r:=[]) (args':=[ff.av bm.ai r153,.agg [iv x81.elem,iv (IntKind.i64.wrap (3 - x81.en))]]) (R:=Ms r153 (⟨x81.elem,(IntKind.i64.wrap (3 - x81.en))⟩:bm)) rfl rfl rfl rfl rfl (ei (Sep.arg (i:=2) hS114 rfl) (ei rfl fT)) rfl cC (gG (by show fU (freeze true { H113 with aT:=[] } 8) [v66,.agg [iv x81.elem,iv (IntKind.i64.wrap (3 - x81.en))]] = _; simp only [FZ,hz156]) (ei (Sep.qE (i:=2) hS114 rfl) (ei rfl fT))) (gG bV (ei rfl (ei rfl fT))) (λh=>t112 r153 (⟨x81.elem,(IntKind.i64.wrap (3 - x81.en))⟩:bm)  h) ?_
 rintro _ ⟨r159,hc158,rfl⟩
 cases r159
 refine fk ?_
 refine aV ?_
 refine e9 ?_
 refine oF 2 [(⟨x81.elem,(IntKind.i64.wrap (3 - x81.en))⟩:bm)] hS114 λv160 H161 hS162=>?_
 refine nO 6 hS162 ?_
 refine gj (H:=H161) rfl (lV (H:=H161) (i:=6) (o:=5) (r:=v160) hS162 rfl rfl rfl rfl (jx rfl rfl (Sep.cell (i:=2) hS162 rfl)) (ei (Sep.cell (i:=2) hS162 rfl) fT) rfl) ?_
 rintro _ H163 ⟨rfl,hS164⟩
 refine oN ?_
 refine ⟨_,?_,v62,l63,v64,l65,v160,((l67++[(⟨x81.elem,(IntKind.i64.wrap (3 - x81.en))⟩:bm)])),v87,((l69.take (((l69.length:Int) - 1).toNat))),((put x81 true l70)),n71,n72,n73,b74,H163,rfl,cL,cK,cP,cG,bl,bj,bj,bj,cJ,bA,bP,bN,hS164,atR⟩
 first | omega | (simp only [List.length_append,List.length_cons,List.length_nil,List.length_take] at *; omega)
 refine fk ?_
 refine ⟨_,?_,v62,l63,v64,l65,v66,l67,v87,((l69.take (((l69.length:Int) - 1).toNat))),((put x81 true l70)),n71,n72,n73,b74,H113,rfl,cL,cK,cP,cG,bl,bj,bj,bj,cJ,bA,bP,bN,hS114,atR⟩
 first | omega | (simp only [List.length_append,List.length_cons,List.length_nil,List.length_take] at *; omega)
 refine fS ?_
 have hS165:=Sep.pick hS114 [6,2,1,0,3,4,5,7] 8 bf bf
 refine gA (H:=H113) (args:=[(eX b4),iv x81.elem]) (p:=[]) (r:=[]) rfl rfl rfl rfl rfl rfl rfl (P7 b4 n71 n72 n73 r8 r10 v66 l67 v64 l65 v62 l63 b74 x81.elem (gy eU.ai 2 v87 (l69.take (((l69.length:Int) - 1).toNat))::gi b28 [v87]::kb b25 pK bK (put x81 true l70)::gi b1 [.ip (fw.ai a0) 0 false]::[]) hS165 aZ) ?_
 rintro _ H166 ⟨r172,vzo169,zoneo170,bareo171,hc168,hS167,rfl⟩
 have hZr:∀ x∈zoneo170,z8 x:=λx hx=>(hc168.2 x hx).elim (hZr x) (λe=>by rw [e]; exact (q6 _ a6).1)
 have hc168:=hc168.1
 cases r172
 refine fo ?_
 refine wz [(eX b1),(eX b4),.la 4 0,.bool r24.gE,(.hm b25),(eX b28),.gx 107 [] [(eX b1),(eX b28)]] H166 [(4,[iv 0,iv 0,iv 0,ee,ee,ee,ee,ee,eV])] ?_
 refine qe ?_
 have hS173:=Sep.pick hS167 [3,2,1,4,5,6,0,7] 8 bf bf
 refine ⟨_,?_,v62,l63,vzo169,zoneo170,v66,l67,v87,((l69.take (((l69.length:Int) - 1).toNat))),((put x81 true l70)),n71,n72,n73,bareo171,H166,rfl,cL,cK,cP,cG,bl,bj,bj,bj,cJ,bA,bP,bN,hS173,atR⟩
 first | omega | (simp only [List.length_append,List.length_cons,List.length_nil,List.length_take] at *; omega)
 refine gS ?_
 have hS174:=Sep.pick hS167 [7,5,4,0,1,2,3,6] 8 bf bf
 refine gA (H:=H166) (args:=[iv x81.elem,iv 0]) (p:=[]) (r:=[(eX b1),(eX b28)]) rfl rfl rfl rfl rfl rfl rfl (Lo x81.elem 0 b1 a0 b28 v87 (l69.take (((l69.length:Int) - 1).toNat)) (gi b4 [iv n71,iv n72,iv n73,fx r8,fu r10,v66,vzo169,v62,.bool bareo171]::kh bm.ai 2 v66 l67::kL vzo169 zoneo170::kL v62 l63::kb b25 pK bK (put x81 true l70)::[]) hS174 aZ) ?_
 rintro _ H175 ⟨vto178,todoo179,hc177,hS176,rfl⟩
 have hTu:∀ y∈todoo179,y∈univ a0:=λy hy=>(hc177.2 y hy).elim (hTu y) id
 refine oN ?_
 refine wz [(eX b1),(eX b4),.la 4 0,.bool r24.gE,(.hm b25),(eX b28),.gx 107 [] [(eX b1),(eX b28)]] H175 [(4,[iv 0,iv 0,iv 0,ee,ee,ee,ee,ee,eV])] ?_
 refine qe ?_
 have hS180:=Sep.pick hS176 [6,5,4,2,1,7,3,0] 8 bf bf
 refine ⟨_,?_,v62,l63,vzo169,zoneo170,v66,l67,vto178,todoo179,((put x81 true l70)),n71,n72,n73,bareo171,H175,rfl,cL,cK,cP,cG,bl,bj,bj,bj,cJ,bA,bP,bN,hS180,atR⟩
 first | omega | (simp only [List.length_append,List.length_cons,List.length_nil,List.length_take] at *; omega)
 refine kS ?_
 have hS181:=Sep.pick hS114 [6,2,1,0,3,4,5,7] 8 bf bf
 refine gA (H:=H113) (args:=[(eX b4),iv x81.elem]) (p:=[]) (r:=[]) rfl rfl rfl rfl rfl rfl rfl (P7 b4 n71 n72 n73 r8 r10 v66 l67 v64 l65 v62 l63 b74 x81.elem (gy eU.ai 2 v87 (l69.take (((l69.length:Int) - 1).toNat))::gi b28 [v87]::kb b25 pK bK (put x81 true l70)::gi b1 [.ip (fw.ai a0) 0 false]::[]) hS181 aZ) ?_
 rintro _ H182 ⟨r188,vzo185,zoneo186,bareo187,hc184,hS183,rfl⟩
 have hZr:∀ x∈zoneo186,z8 x:=λx hx=>(hc184.2 x hx).elim (hZr x) (λe=>by rw [e]; exact (q6 _ a6).1)
 have hc184:=hc184.1
 cases r188
 refine fo ?_
 refine wz [(eX b1),(eX b4),.la 4 0,.bool r24.gE,(.hm b25),(eX b28),.gx 107 [] [(eX b1),(eX b28)]] H182 [(4,[iv 0,iv 0,iv 0,ee,ee,ee,ee,ee,eV])] ?_
 refine qe ?_
 have hS189:=Sep.pick hS183 [3,2,1,4,5,6,0,7] 8 bf bf
 refine ⟨_,?_,v62,l63,vzo185,zoneo186,v66,l67,v87,((l69.take (((l69.length:Int) - 1).toNat))),((put x81 true l70)),n71,n72,n73,bareo187,H182,rfl,cL,cK,cP,cG,bl,bj,bj,bj,cJ,bA,bP,bN,hS189,atR⟩
 first | omega | (simp only [List.length_append,List.length_cons,List.length_nil,List.length_take] at *; omega)
 refine gS ?_
 have hS190:=Sep.pick hS183 [7,5,4,0,1,2,3,6] 8 bf bf
 refine gA (H:=H182) (args:=[iv x81.elem,iv 0]) (p:=[]) (r:=[(eX b1),(eX b28)]) rfl rfl rfl rfl rfl rfl rfl (Lo x81.elem 0 b1 a0 b28 v87 (l69.take (((l69.length:Int) - 1).toNat)) (gi b4 [iv n71,iv n72,iv n73,fx r8,fu r10,v66,vzo185,v62,.bool bareo187]::kh bm.ai 2 v66 l67::kL vzo185 zoneo186::kL v62 l63::kb b25 pK bK (put x81 true l70)::[]) hS190 aZ) ?_
 rintro _ H191 ⟨vto194,todoo195,hc193,hS192,rfl⟩
 have hTu:∀ y∈todoo195,y∈univ a0:=λy hy=>(hc193.2 y hy).elim (hTu y) id
 refine oN ?_
 refine wz [(eX b1),(eX b4),.la 4 0,.bool r24.gE,(.hm b25),(eX b28),.gx 107 [] [(eX b1),(eX b28)]] H191 [(4,[iv 0,iv 0,iv 0,ee,ee,ee,ee,ee,eV])] ?_
 refine qe ?_
 have hS196:=Sep.pick hS192 [6,5,4,2,1,7,3,0] 8 bf bf
 refine ⟨_,?_,v62,l63,vzo185,zoneo186,v66,l67,vto194,todoo195,((put x81 true l70)),n71,n72,n73,bareo187,H191,rfl,cL,cK,cP,cG,bl,bj,bj,bj,cJ,bA,bP,bN,hS196,atR⟩
 first | omega | (simp only [List.length_append,List.length_cons,List.length_nil,List.length_take] at *; omega)
 refine gq ?_
 refine kW 7 hS114 (.ip (fw.ai a0) 0 false) ?_
 refine fk ?_
 refine oC (t113 a0 x81.elem x81.en 0) ?_
 rintro _ ⟨r198,r199,hc197,rfl⟩
 cases r199
 refine rQ ?_
 refine ⟨_,?_,v62,l63,v64,l65,v66,l67,v87,((l69.take (((l69.length:Int) - 1).toNat))),((put x81 true l70)),n71,n72,n73,b74,H113,rfl,cL,cK,cP,cG,bl,bj,bj,bj,cJ,bA,bP,bN,hS114,atR⟩
 first | omega | (simp only [List.length_append,List.length_cons,List.length_nil,List.length_take] at *; omega)
 refine j9 ?_
 have hS200:=Sep.pick hS114 [6,2,1,0,3,4,5,7] 8 bf bf
 refine gA (H:=H113) (args:=[(eX b4),iv x81.elem]) (p:=[]) (r:=[]) rfl rfl rfl rfl rfl rfl rfl (P7 b4 n71 n72 n73 r8 r10 v66 l67 v64 l65 v62 l63 b74 x81.elem (gy eU.ai 2 v87 (l69.take (((l69.length:Int) - 1).toNat))::gi b28 [v87]::kb b25 pK bK (put x81 true l70)::gi b1 [.ip (fw.ai a0) 0 false]::[]) hS200 aZ) ?_
 rintro _ H201 ⟨r207,vzo204,zoneo205,bareo206,hc203,hS202,rfl⟩
 have hZr:∀ x∈zoneo205,z8 x:=λx hx=>(hc203.2 x hx).elim (hZr x) (λe=>by rw [e]; exact (q6 _ a6).1)
 have hc203:=hc203.1
 cases r207
 refine fk ?_
 have hS208:=Sep.pick hS202 [3,2,1,4,5,6,0,7] 8 bf bf
 refine ⟨_,?_,v62,l63,vzo204,zoneo205,v66,l67,v87,((l69.take (((l69.length:Int) - 1).toNat))),((put x81 true l70)),n71,n72,n73,bareo206,H201,rfl,cL,cK,cP,cG,bl,bj,bj,bj,cJ,bA,bP,bN,hS208,atR⟩
 first | omega | (simp only [List.length_append,List.length_cons,List.length_nil,List.length_take] at *; omega)
 refine fS ?_
 have hS209:=Sep.pick hS202 [7,5,4,0,1,2,3,6] 8 bf bf
 refine gA (H:=H201) (args:=[iv x81.elem,iv r198]) (p:=[]) (r:=[(eX b1),(eX b28)]) rfl rfl rfl rfl rfl rfl rfl (Lo x81.elem r198 b1 a0 b28 v87 (l69.take (((l69.length:Int) - 1).toNat)) (gi b4 [iv n71,iv n72,iv n73,fx r8,fu r10,v66,vzo204,v62,.bool bareo206]::kh bm.ai 2 v66 l67::kL vzo204 zoneo205::kL v62 l63::kb b25 pK bK (put x81 true l70)::[]) hS209 aZ) ?_
 rintro _ H210 ⟨vto213,todoo214,hc212,hS211,rfl⟩
 have hTu:∀ y∈todoo214,y∈univ a0:=λy hy=>(hc212.2 y hy).elim (hTu y) id
 refine oN ?_
 have hS215:=Sep.pick hS211 [6,5,4,2,1,7,3,0] 8 bf bf
 refine ⟨_,?_,v62,l63,vzo204,zoneo205,v66,l67,vto213,todoo214,((put x81 true l70)),n71,n72,n73,bareo206,H210,rfl,cL,cK,cP,cG,bl,bj,bj,bj,cJ,bA,bP,bN,hS215,atR⟩
 first | omega | (simp only [List.length_append,List.length_cons,List.length_nil,List.length_take] at *; omega)
 refine e9 ?_
 refine kW 7 hS114 (.ip (fw.ai a0) 0 false) ?_
 refine oV ?_
 refine oC (t109 a0 x81) ?_
 rintro _ ⟨r217,hc216,rfl⟩
 have hR:=hc216
 refine gq ?_
 refine jw (λh218=>?_) (λh218=>?_)
 refine oV ?_
 refine jf (b:=r24.gE) rfl (λ_=>rfl) (λh219=>?_) (λh219=>?_)
 refine gq ?_
 exact ⟨rfl,rfl⟩
 refine gz ?_
 refine nO 6 hS114 ?_
 refine kW 6 hS114 v62 ?_
 refine oV ?_
 refine lJ hS114 0 λr220 hl221 hln224 hz223=>?_
 refine kD (args:=[v62,iv r217]) (p:=[]) (r:=[]) (args':=[nj r220,iv r217]) (R:=Sp r220 r217) rfl rfl rfl rfl rfl (ei (Sep.arg (i:=0) hS114 rfl) (ei rfl fT)) rfl cC (gG (by show fU (freeze true { H113 with aT:=[] } 8) [v62,iv r217] = _; simp only [FZ,hz223]) (ei (Sep.qE (i:=0) hS114 rfl) (ei rfl fT))) (gG bV (ei rfl (ei rfl fT))) (λh=>t44 r220 r217  h) ?_
 rintro _ ⟨r226,hc225,rfl⟩
 have hIn:=hc225
 cases r226
 refine fk ?_
 refine nO 6 hS114 ?_
 refine kW 6 hS114 v62 ?_
 refine e9 ?_
 refine oF 0 [r217] hS114 λv227 H228 hS229=>?_
 refine nO 6 hS229 ?_
 refine gj (H:=H228) rfl (lV (H:=H228) (i:=6) (o:=7) (r:=v227) hS229 rfl rfl rfl rfl (jx rfl rfl (Sep.cell (i:=0) hS229 rfl)) (ei (Sep.cell (i:=0) hS229 rfl) fT) rfl) ?_
 rintro _ H230 ⟨rfl,hS231⟩
 refine oN ?_
 refine wz [(eX b1),(eX b4),.la 4 0,.bool r24.gE,(.hm b25),(eX b28),.gx 107 [] [(eX b1),(eX b28)]] H230 [(4,[iv 0,iv 0,iv 0,ee,ee,ee,ee,ee,eV])] ?_
 refine qe ?_
 refine ⟨_,?_,v227,((l63++[r217])),v64,l65,v66,l67,v87,((l69.take (((l69.length:Int) - 1).toNat))),((put x81 true l70)),n71,n72,n73,b74,H230,rfl,cL,cK,cP,cG,bl,bj,bj,bj,cJ,bA,bP,bN,hS231,atR⟩
 first | omega | (simp only [List.length_append,List.length_cons,List.length_nil,List.length_take] at *; omega)
 refine fk ?_
 refine wz [(eX b1),(eX b4),.la 4 0,.bool r24.gE,(.hm b25),(eX b28),.gx 107 [] [(eX b1),(eX b28)]] H113 [(4,[iv 0,iv 0,iv 0,ee,ee,ee,ee,ee,eV])] ?_
 refine qe ?_
 refine ⟨_,?_,v62,l63,v64,l65,v66,l67,v87,((l69.take (((l69.length:Int) - 1).toNat))),((put x81 true l70)),n71,n72,n73,b74,H113,rfl,cL,cK,cP,cG,bl,bj,bj,bj,cJ,bA,bP,bN,hS114,atR⟩
 first | omega | (simp only [List.length_append,List.length_cons,List.length_nil,List.length_take] at *; omega)
 refine gz ?_
 exact ⟨rfl,rfl⟩
 refine fS ?_
 refine ⟨_,?_,v62,l63,v64,l65,v66,l67,v87,((l69.take (((l69.length:Int) - 1).toNat))),l70,n71,n72,n73,b74,H91,rfl,cL,cK,cP,cG,bl,bj,bj,bj,cJ,bA,bP,bN,hS92,atR⟩
 first | omega | (simp only [List.length_append,List.length_cons,List.length_nil,List.length_take] at *; omega)
 refine fo ?_
 refine wz [(eX b4),.la 4 0,.la 4 0] H75 [(4,[iv 0,iv 0,iv 0,ee,ee,ee,ee,ee,eV]),(4,[iv 0,iv 0,iv 0,ee,ee,ee,ee,ee,eV])] ?_
 refine e9 ?_
 refine kW 6 hS76 (.agg [iv n71,iv n72,iv n73,fx r8,fu r10,v66,v64,v62,.bool b74]) ?_
 refine be rfl (λ_=>pf rfl rfl rfl rfl (ei rfl (ei rfl (ei rfl (ei rfl (ei rfl (ei (Sep.cell (i:=2) hS76 rfl) (ei (Sep.cell (i:=1) hS76 rfl) (ei (Sep.cell (i:=0) hS76 rfl) (ei rfl fT))))))))) rfl rfl) ?_
 refine e9 ?_
 obtain ⟨r232,hl233,hf234⟩:=iZ (H:=H75) (i:=2) (l:=l67) (enc:=bm.ai) hS76 rfl a8
 have hlq:=hl233; have hln236:=congrArg List.length hl233
 have hz235:∀ m,freeze false { H75 with aT:=[(4,[iv n71,iv n72,iv n73,fx r8,fu r10,v66,v64,v62,.bool b74])] } (m+2) v66=some (fu r232):=λm=>hf234 _ _ (λ_=>rfl)
 obtain ⟨r237,hl238,hf239⟩:=iZ (H:=H75) (i:=1) (l:=l65) (enc:=cI) hS76 rfl a8
 have hlq:=hl238; have hln241:=congrArg List.length hl238
 have hz240:∀ m,freeze false { H75 with aT:=[(4,[iv n71,iv n72,iv n73,fx r8,fu r10,v66,v64,v62,.bool b74])] } (m+2) v64=some (gk r237):=λm=>hf239 _ _ (λ_=>rfl)
 obtain ⟨r242,hl243,hf244⟩:=iZ (H:=H75) (i:=0) (l:=l63) (enc:=cI) hS76 rfl a8
 have hlq:=hl243; have hln246:=congrArg List.length hl243
 have hz245:∀ m,freeze false { H75 with aT:=[(4,[iv n71,iv n72,iv n73,fx r8,fu r10,v66,v64,v62,.bool b74])] } (m+2) v62=some (gk r242):=λm=>hf244 _ _ (λ_=>rfl)
 exact ⟨.agg [iv n71,iv n72,iv n73,fx r8,fu r10,v66,v64,v62,.bool b74],(ia (vs:=[.agg [iv n71,iv n72,iv n73,fx r8,fu r10,v66,v64,v62,.bool b74]]) rfl rfl),.agg [iv n71,iv n72,iv n73,fx r8,fu r10,fu r232,gk r237,gk r242,.bool b74],(show freeze false { H75 with aT:=[(4,[iv n71,iv n72,iv n73,fx r8,fu r10,v66,v64,v62,.bool b74])] } 8 (.agg [iv n71,iv n72,iv n73,fx r8,fu r10,v66,v64,v62,.bool b74])=some (.agg [iv n71,iv n72,iv n73,fx r8,fu r10,fu r232,gk r237,gk r242,.bool b74]) by simp only [FZ,hz235,hz240,hz245]),(⟨n71,n72,n73,r8,r10,r232,r237,r242,b74⟩:fe),(by exact ⟨by first | rfl | assumption | (simp_all; done),by refine ⟨by simp_all [Row.ji],by simp_all [Row.ji],by dsimp only; omega,?_,by dsimp only; omega,by dsimp only; omega,?_⟩<;>simp_all⟩),rfl⟩
def TN (a0:bY) (q1:j1 a0):Ct 17 [.agg (bY.ai a0)] (λv=>∃ r0:fz,∃ r1:Int,((r1=0->((∀ r∈(r0.roads.l:List fe),0<r.steps.l.length/\r.steps.l.length<=12/\r.fX.l.length<=12/\ns a0 r)/\r0.roads.l.length<=64)/\(r0.cB=a0.canon/\∃ n:fw,sA n a0/\rs 19 [.agg (bY.ai a0)]=.fG [.ip (fw.ai n) 0 false,iv 0])))/\v=.fG [.agg (fz.ai r0),iv r1]):=by
 refine fR RY ?_
 refine gl ?_
 refine oC (t19 a0 aZ) ?_
 rintro _ (⟨r2,⟨hc1,hc1r⟩,rfl⟩ | ⟨r3,⟨hc1,hc1r⟩,rfl⟩)
 have hFw:=hc1.Cz; have hFs:=hc1.Cz.signals; have hFl:=hc1.len; have hRg:=hc1.rg; have hNe:=hc1; have hNr:=hc1r
 refine rQ ?_
 refine gA (H:=au.empty) (args:=[.ip (fw.ai r2) 0 false]) (p:=[]) (r:=[]) rfl rfl rfl rfl rfl rfl rfl (s52 r2 ([]) gJ aZ aZ) ?_
 rintro _ H5 ⟨ov8,ol9,eo10,hc7,hS6,rfl⟩
 have hR:=hc7.1
 rw [hNe.cB] at hR
 have hI:=hc7.2
 refine hZ ?_
 refine iV (λh11=>?_) (λh11=>?_)
 refine hZ ?_
 exact xG ⟨(⟨(⟨(kZ:Row jl),(kZ:Row ig),(kZ:Row iD),(kZ:Row gp),0,0,0,0,false⟩:bY),(kZ:Row fe)⟩:fz),eo10,bv,rfl⟩
 refine fo ?_
 refine wz [.la 2 0,.ip (fw.ai r2) 0 false,ov8] H5 [(2,[ee,ee,ee,ee,iv 0,iv 0,iv 0,iv 0,eV,ee])] ?_ (fV hS6 [(6,0)])
 refine fk ?_
 refine be rfl (λ_=>jC (i:=0) hS6 rfl rfl rfl rfl rfl rfl rfl) ?_
 refine fo ?_
 refine e8 ol9.length (λoX e h=>∃ v13:AV,∃ l14:List fe,∃ H15:au,((∀ r∈(l14:List fe),0<r.steps.l.length/\r.steps.l.length<=12/\r.fX.l.length<=12/\ns a0 r))/\(l14.length<=64/\(l14.length:Int)=(ol9.length:Int))/\Sep H15 (kh fe.ai 9 v13 l14::[])/\At [2,4,6,27,28] [.la 2 0,.ip (fw.ai r2) 0 false,v13,cr ol9.length,cr oX] H15 [(2,[ee,ee,ee,ee,iv 0,iv 0,iv 0,iv 0,eV,ee])] e h) ?_ (k0:=0) bh ⟨ov8,ol9,H5,(by exact hR),bh,hS6,(fV hS6 [(6,0)])⟩
 rintro oX e h hkk12 ⟨v13,l14,H15,hR,hI,hS16,hA⟩
 refine aa ?_
 refine fQ (λh17=>?_) (λh17=>?_)
 refine fk ?_
 refine wz [.la 2 0,.ip (fw.ai r2) 0 false,v13,cr ol9.length,cr oX] H15 [(2,[ee,ee,ee,ee,iv 0,iv 0,iv 0,iv 0,eV,ee])] ?_ (fV hS16 [(6,0)])
 refine kS ?_
 have hx18:oX<l14.length:=by first | omega | (simp<;>omega) | (simp_all; done) | (simp_all; omega)
 obtain ⟨x19,hqx19⟩:∃ x,l14[oX]=x:=⟨_,rfl⟩
 have hinx19:x19∈l14:=by rw [<- hqx19]; exact List.getElem_mem _
 have hsx19:=hR x19 hinx19; have hsG:=hsx19
 refine lG rfl (iT (i:=0) (m:=oX) (cs:=fe.ai x19) hS16 rfl rfl rfl rfl rfl rfl rfl (gW hx18 hqx19)) ?_
 rintro a20 ⟨ha21,hea22⟩
 refine be rfl (λ_=>lQ (i:=0) (m:=oX) (o:=0) (r:=.agg (fe.ai x19)) (cs:=fe.ai x19) hS16 rfl (gW hx18 hqx19) hea22 rfl rfl ha21) ?_
 refine oC (t55 r2 x19 aZ aZ aZ aZ aZ) ?_
 rintro _ ⟨r24,hc23,rfl⟩
 have hF53:=hc23.1; have hC53:=hc23.2
 rw [hNe.cB] at hC53
 have hx25:oX<l14.length:=by first | omega | (simp<;>omega) | (simp_all; done) | (simp_all; omega)
 refine lG rfl (iT (i:=0) (m:=oX) (cs:=fe.ai x19) hS16 rfl rfl rfl rfl rfl rfl rfl (gW hx25 hqx19)) ?_
 rintro a26 ⟨ha27,hea28⟩
 refine gj rfl (mB (i:=0) (m:=oX) (o:=0) x19 r24 hS16 rfl hx25 hqx19 hea28 rfl ha27 rfl rfl rfl rfl) ?_
 rintro _ H29 ⟨rfl,hS30⟩
 refine oN ?_
 refine wz [.la 2 0,.ip (fw.ai r2) 0 false,v13,cr ol9.length,cr oX] H29 [(2,[ee,ee,ee,ee,iv 0,iv 0,iv 0,iv 0,eV,ee])] ?_ (fV hS30 [(6,0)])
 refine qg ?_
 refine be rfl (λ_=>ca rfl rfl rfl (ej ((oX:Int)) 1 aY aY)) ?_
 refine e9 ?_
 exact ⟨by omega,v13,((l14.set oX r24)),H29,(by exact uk hR (by rw [hC53.1,hC53.2.1]; exact ⟨hsG.1,hsG.2.1,hsG.2.2.1,Mr hC53.1 hC53.2.1 hsG.2.2.2 ⟨hC53.2.2.1,hC53.2.2.2.1,hC53.2.2.2.2.1,hC53.2.2.2.2.2.1⟩ hC53.2.2.2.2.2.2 hF53⟩)),dv,hS30,(fV hS30 [(6,0)])⟩
 refine fk ?_
 refine wz [.la 2 0,.la 2 0,.ip (fw.ai r2) 0 false,v13] H15 [(2,[ee,ee,ee,ee,iv 0,iv 0,iv 0,iv 0,eV,ee]),(2,[ee,ee,ee,ee,iv 0,iv 0,iv 0,iv 0,eV,ee])] ?_ (fV hS16 [(6,0)])
 refine fo ?_
 refine oC (t56 r2 aZ) ?_
 rintro _ ⟨r32,hc31,rfl⟩
 have hPl:=hc31.2.2.2.2.2
 refine oV ?_
 rcases Sep.Jc (i:=0) hS16 rfl with ⟨rfl,hx35⟩ | ⟨rfl,hx35⟩ | ⟨b33,g34,rfl⟩
 refine gq ?_
 exact xG ⟨(⟨r32,(kZ:Row fe)⟩:fz),0,bv,rfl⟩
 refine gq ?_
 obtain ⟨r36,hl37,hf38⟩:=iZ (H:=H15) (i:=0) (l:=l14) (enc:=fe.ai) hS16 rfl a8
 have hlq:=hl37; have hln40:=congrArg List.length hl37
 have hz39:∀ m,freeze false { H15 with aT:=[(2,[fA r32.elems,fJ r32.fj,fP r32.signals,fy r32.lines,iv r32.top,iv r32.gD,iv r32.gu,iv r32.gw,.bool r32.gE,(.sl [] (.exact 0))])] } (m+2) (.sl [] (.exact 0))=some (gm r36):=λm=>hf38 _ _ (λ_=>by simp only [fe.ai,fU,sm,iE,qM,rY,um])
 exact ⟨.fG [.agg [fA r32.elems,fJ r32.fj,fP r32.signals,fy r32.lines,iv r32.top,iv r32.gD,iv r32.gu,iv r32.gw,.bool r32.gE,(.sl [] (.exact 0))],iv 0],rfl,.fG [.agg [fA r32.elems,fJ r32.fj,fP r32.signals,fy r32.lines,iv r32.top,iv r32.gD,iv r32.gu,iv r32.gw,.bool r32.gE,gm r36],iv 0],(show freeze false { H15 with aT:=[(2,[fA r32.elems,fJ r32.fj,fP r32.signals,fy r32.lines,iv r32.top,iv r32.gD,iv r32.gu,iv r32.gw,.bool r32.gE,(.sl [] (.exact 0))])] } 8 (.fG [.agg [fA r32.elems,fJ r32.fj,fP r32.signals,fy r32.lines,iv r32.top,iv r32.gD,iv r32.gu,iv r32.gw,.bool r32.gE,(.sl [] (.exact 0))],iv 0])=some (.fG [.agg [fA r32.elems,fJ r32.fj,fP r32.signals,fy r32.lines,iv r32.top,iv r32.gD,iv r32.gu,iv r32.gw,.bool r32.gE,gm r36],iv 0]) by simp only [FZ,hz39]),(⟨r32,r36⟩:fz),0,bv,rfl⟩
 refine gq ?_
 obtain ⟨r41,hl42,hf43⟩:=iZ (H:=H15) (i:=0) (l:=l14) (enc:=fe.ai) hS16 rfl a8
 have hlq:=hl42; have hln45:=congrArg List.length hl42
 have hz44:∀ m,freeze false { H15 with aT:=[(2,[fA r32.elems,fJ r32.fj,fP r32.signals,fy r32.lines,iv r32.top,iv r32.gD,iv r32.gu,iv r32.gw,.bool r32.gE,(.hs b33 g34 0 (List.map fe.ai l14).length)])] } (m+2) (.hs b33 g34 0 (List.map fe.ai l14).length)=some (gm r41):=λm=>hf43 _ _ (λ_=>by simp only [fe.ai,fU,sm,iE,qM,rY,um])
 exact ⟨.fG [.agg [fA r32.elems,fJ r32.fj,fP r32.signals,fy r32.lines,iv r32.top,iv r32.gD,iv r32.gu,iv r32.gw,.bool r32.gE,(.hs b33 g34 0 (List.map fe.ai l14).length)],iv 0],rfl,.fG [.agg [fA r32.elems,fJ r32.fj,fP r32.signals,fy r32.lines,iv r32.top,iv r32.gD,iv r32.gu,iv r32.gw,.bool r32.gE,gm r41],iv 0],(show freeze false { H15 with aT:=[(2,[fA r32.elems,fJ r32.fj,fP r32.signals,fy r32.lines,iv r32.top,iv r32.gD,iv r32.gu,iv r32.gw,.bool r32.gE,(.hs b33 g34 0 (List.map fe.ai l14).length)])] } 8 (.fG [.agg [fA r32.elems,fJ r32.fj,fP r32.signals,fy r32.lines,iv r32.top,iv r32.gD,iv r32.gu,iv r32.gw,.bool r32.gE,(.hs b33 g34 0 (List.map fe.ai l14).length)],iv 0])=some (.fG [.agg [fA r32.elems,fJ r32.fj,fP r32.signals,fy r32.lines,iv r32.top,iv r32.gD,iv r32.gu,iv r32.gw,.bool r32.gE,gm r41],iv 0]) by simp only [FZ,hz44]),(⟨r32,r41⟩:fz),0,bv,rfl⟩
 refine hZ ?_
 refine iV (λh46=>?_) (λh46=>?_)
 refine hZ ?_
 exact xG ⟨(⟨(⟨(kZ:Row jl),(kZ:Row ig),(kZ:Row iD),(kZ:Row gp),0,0,0,0,false⟩:bY),(kZ:Row fe)⟩:fz),r3,bv,rfl⟩
 refine gS ?_
 exfalso; omega
def P17 (_a0:bY) (v:AV):Prop:=∃ r0:fz,∃ r1:Int,(((r1=0->((∀ r∈(r0.roads.l:List fe),0<r.steps.l.length/\r.steps.l.length<=12/\r.fX.l.length<=12/\ns _a0 r)/\r0.roads.l.length<=64)/\(r0.cB = _a0.canon/\∃ n:fw,sA n _a0/\rs 19 [.agg (bY.ai _a0)]=.fG [.ip (fw.ai n) 0 false,iv 0])))/\rs 17 [.agg (bY.ai _a0)]=.fG [.agg (fz.ai r0),iv r1])/\v=.fG [.agg (fz.ai r0),iv r1]
def t17 (a0:bY) (q1:j1 a0) (h:au):∃ v,fh cfg FT fK false 17 [.agg (bY.ai a0)] h v h/\P17 a0 v:=by
 obtain ⟨v,hc,hP,hr⟩:=rZ AR (TN a0 q1) h
 obtain ⟨r0,r1,hp,rfl⟩:=hP
 exact ⟨_,hc,r0,r1,⟨hp,hr⟩,rfl⟩
def TV (a0:bY) (q1:j1 a0) {V:AV} (hV:rs 17 [.agg (bY.ai a0)]=V) (h:au):∃ v,fh cfg FT fK false 17 [.agg (bY.ai a0)] h v h/\v=V:=by
 obtain ⟨v,hc,hP,hr⟩:=rZ AR (TN a0 q1) h
 exact ⟨v,hc,hr.symm.trans hV⟩
def t5 (a0:bY) (hJg:JG a0):Ct 5 [.agg (bY.ai a0)] (λv=>∃ r0:fz,∃ r1:Bool,((r1=true->j1 a0/\r0.roads.l.length<=64/\(r0.cB=a0.canon/\∃ n:fw,sA n a0/\rs 19 [.agg (bY.ai a0)]=.fG [.ip (fw.ai n) 0 false,iv 0])/\rs 17 [.agg (bY.ai a0)]=.fG [.agg (fz.ai r0),iv 0]/\rs 16 [.agg (bY.ai a0)]=.bool true/\(∀ r∈(r0.roads.l:List fe),0<r.steps.l.length/\r.steps.l.length<=12/\r.fX.l.length<=12/\ns a0 r)))/\v=.fG [.agg (fz.ai r0),.bool r1]):=by
 refine fR Yx ?_
 refine hZ ?_
 refine oC (t16 a0 aZ) ?_
 rintro _ ⟨r2,⟨hc1,hc1r⟩,rfl⟩
 have hFr:=hc1r
 cases r2
 clear hc1
 refine hZ ?_
 exact xG ⟨(⟨(⟨(kZ:Row jl),(kZ:Row ig),(kZ:Row iD),(kZ:Row gp),0,0,0,0,false⟩:bY),(kZ:Row fe)⟩:fz),false,bW,rfl⟩
 have hc1t:=hc1 rfl
 refine gz ?_
 refine oC (t17 a0 aZ) ?_
 rintro _ ⟨r4,r5,⟨hc3,hc3r⟩,rfl⟩
 have hBd:=hc3; have hBr:=hc3r
 refine kP ?_
 refine gN (λh6=>?_) (λh6=>?_)
 refine fk ?_
 exact xG ⟨r4,true,bW,rfl⟩
 refine fk ?_
 exact xG ⟨r4,false,bW,rfl⟩
def t114 (a0:Row jl) :Ct 114 [fA a0,fA a0] (λv=>((True)/\v=.bool true)):=by
 refine fR Qa ?_
 refine fS ?_
 have hL1:=a0.lk
 refine aF ?_
 have hL2:=a0.lk
 refine gL a0 ?_
 refine iV (λh3=>?_) (λh3=>?_)
 refine gz ?_
 exact dL
 refine gz ?_
 have hL4:=a0.lk
 refine aK ?_
 have hNk5:=a0.lk
 refine e8 a0.l.length (λk5 e h=>At [0,1,12,13] [fA a0,fA a0,cr a0.l.length,cr k5] au.empty [] e h) ?_ (k0:=0) bh atR
 rintro k5 e h hkk5 hA
 refine aa ?_
 refine fQ (λh6=>?_) (λh6=>?_)
 refine aN ?_
 have hx7:k5<a0.l.length:=by omega
 refine ni k5 a0 hx7 ?_
 generalize hqx8:a0.l[k5]=x8
 refine jG ?_
 have hx9:k5<a0.l.length:=by omega
 refine ni k5 a0 hx9 ?_
 rw [hqx8]
 refine ah ?_
 refine be rfl (λ_=>ca rfl rfl rfl (ej ((k5:Int)) 1 aY aY)) ?_
 refine e9 ?_
 exact dJ
 refine gl ?_
 refine xB ⟨zT,rfl⟩
def t115 (a0:Row ig) :Ct 115 [fJ a0,fJ a0] (λv=>((True)/\v=.bool true)):=by
 refine fR OA ?_
 refine fS ?_
 have hL1:=a0.lk
 refine aF ?_
 have hL2:=a0.lk
 refine gL a0 ?_
 refine iV (λh3=>?_) (λh3=>?_)
 refine gz ?_
 exact dL
 refine gz ?_
 have hL4:=a0.lk
 refine aK ?_
 have hNk5:=a0.lk
 refine e8 a0.l.length (λk5 e h=>At [0,1,12,13] [fJ a0,fJ a0,cr a0.l.length,cr k5] au.empty [] e h) ?_ (k0:=0) bh atR
 rintro k5 e h hkk5 hA
 refine aa ?_
 refine fQ (λh6=>?_) (λh6=>?_)
 refine aN ?_
 have hx7:k5<a0.l.length:=by omega
 refine ni k5 a0 hx7 ?_
 generalize hqx8:a0.l[k5]=x8
 refine jG ?_
 have hx9:k5<a0.l.length:=by omega
 refine ni k5 a0 hx9 ?_
 rw [hqx8]
 refine ah ?_
 refine be rfl (λ_=>ca rfl rfl rfl (ej ((k5:Int)) 1 aY aY)) ?_
 refine e9 ?_
 exact dJ
 refine gl ?_
 refine xB ⟨zT,rfl⟩
def t116 (a0:Row iD) :Ct 116 [fP a0,fP a0] (λv=>((True)/\v=.bool true)):=by
 refine fR Qc ?_
 refine fS ?_
 have hL1:=a0.lk
 refine aF ?_
 have hL2:=a0.lk
 refine gL a0 ?_
 refine iV (λh3=>?_) (λh3=>?_)
 refine gz ?_
 exact dL
 refine gz ?_
 have hL4:=a0.lk
 refine aK ?_
 have hNk5:=a0.lk
 refine e8 a0.l.length (λk5 e h=>At [0,1,12,13] [fP a0,fP a0,cr a0.l.length,cr k5] au.empty [] e h) ?_ (k0:=0) bh atR
 rintro k5 e h hkk5 hA
 refine aa ?_
 refine fQ (λh6=>?_) (λh6=>?_)
 refine aN ?_
 have hx7:k5<a0.l.length:=by omega
 refine ni k5 a0 hx7 ?_
 generalize hqx8:a0.l[k5]=x8
 refine jG ?_
 have hx9:k5<a0.l.length:=by omega
 refine ni k5 a0 hx9 ?_
 rw [hqx8]
 refine ah ?_
 refine be rfl (λ_=>ca rfl rfl rfl (ej ((k5:Int)) 1 aY aY)) ?_
 refine e9 ?_
 exact dJ
 refine gl ?_
 refine xB ⟨zT,rfl⟩
def t119 (a0:Row Int) :Ct 119 [gk a0,gk a0] (λv=>((True)/\v=.bool true)):=by
 refine fR NX ?_
 refine fS ?_
 have hL1:=a0.lk
 refine aF ?_
 have hL2:=a0.lk
 refine gL a0 ?_
 refine iV (λh3=>?_) (λh3=>?_)
 refine gz ?_
 exact dL
 refine gz ?_
 have hL4:=a0.lk
 refine aK ?_
 have hNk5:=a0.lk
 refine e8 a0.l.length (λk5 e h=>At [0,1,12,13] [gk a0,gk a0,cr a0.l.length,cr k5] au.empty [] e h) ?_ (k0:=0) bh atR
 rintro k5 e h hkk5 hA
 refine aa ?_
 refine fQ (λh6=>?_) (λh6=>?_)
 refine aN ?_
 have hx7:k5<a0.l.length:=by omega
 refine ni k5 a0 hx7 ?_
 generalize hqx8:a0.l[k5]=x8
 refine jG ?_
 have hx9:k5<a0.l.length:=by omega
 refine ni k5 a0 hx9 ?_
 rw [hqx8]
 refine rV ?_
 refine yy (λh11=>?_) (λh11=>?_)
 refine aD ?_
 exact dL
 refine lu ?_
 refine be rfl (λ_=>ca rfl rfl rfl (ej ((k5:Int)) 1 aY aY)) ?_
 refine e9 ?_
 exact dJ
 refine gl ?_
 refine xB ⟨zT,rfl⟩
def Z3 {H:au} (x:gp) (F:List gh) (hS:Sep H F) :∃ v H',fh cfg FT fK true 118 [.agg (gp.ai x),.agg (gp.ai x)] { H with aT:=[] } v H'/\((True)/\Sep H' (F)/\v=.bool true):=by
 refine gO N4 ?_
 refine j9 ?_
 refine pW rfl (λ_=>Du rfl rfl) (λh1=>?_) (λh1=>?_)
 refine gq ?_
 refine oC (t119 x.elems) ?_
 rintro _ (⟨hc2,rfl⟩)
 refine fk ?_
 have hS3:=Sep.pick hS [] 0 bf bf
 exact ⟨.bool true,rfl,zT,Sep.aT hS3 _,rfl⟩
 refine hZ ?_
 exact dL
def MB {H:au} (l:Row gp) (F:List gh) (hS:Sep H F) :∃ v H',fh cfg FT fK true 117 [fy l,fy l,.gx 118 [] []] { H with aT:=[] } v H'/\((True)/\Sep H' (F)/\v=.bool true):=by
 refine gO Pc ?_
 refine fS ?_
 have hL1:=l.lk
 refine gL l ?_
 refine oV ?_
 have hL2:=l.lk
 refine gL l ?_
 refine iV (λh3=>?_) (λh3=>?_)
 refine gz ?_
 exact dL
 refine gz ?_
 have hL4:=l.lk
 refine gL l ?_
 refine fo ?_
 have hNk5:=l.lk
 refine e8 l.l.length (λk5 e h=>∃ H6:au,Sep H6 (F)/\At [1,2,15,16,17] [fy l,.gx 118 [] [],fy l,cr l.l.length,cr k5] H6 [] e h) ?_ (k0:=0) bh ⟨H,hS,atR⟩
 rintro k5 e h hkk5 ⟨H6,hS7,hA⟩
 refine aa ?_
 refine fQ (λh8=>?_) (λh8=>?_)
 refine gl ?_
 have hx9:k5<l.l.length:=by omega
 refine jn k5 l hx9 ?_
 generalize hqx10:l.l[k5]=x10
 refine gl ?_
 have hx11:k5<l.l.length:=by omega
 refine jn k5 l hx11 ?_
 rw [hqx10]
 refine gl ?_
 refine gA (H:=H6) (args:=[.agg (gp.ai x10),.agg (gp.ai x10)]) (p:=[]) (r:=[]) rfl rfl rfl rfl rfl rfl rfl (Z3 x10 F hS7) ?_
 rintro _ H14 ⟨hc16,hS15,rfl⟩
 refine gq ?_
 refine be rfl (λ_=>ca rfl rfl rfl (ej ((k5:Int)) 1 aY aY)) ?_
 refine e9 ?_
 exact ⟨by omega,H14,hS15,atR⟩
 refine gl ?_
 have hS17:=Sep.pick hS7 [] 0 bf bf
 exact ⟨.bool true,rfl,zT,Sep.aT hS17 _,rfl⟩
def t57 (a0:bY) :Ct 57 [.agg (bY.ai a0),.agg (bY.ai a0)] (λv=>((True)/\v=.bool true)):=by
 refine fR SH ?_
 refine j9 ?_
 refine oC (t114 a0.elems) ?_
 rintro _ (⟨hc1,rfl⟩)
 refine gq ?_
 refine oC (t115 a0.fj) ?_
 rintro _ (⟨hc2,rfl⟩)
 refine gS ?_
 refine oC (t116 a0.signals) ?_
 rintro _ (⟨hc3,rfl⟩)
 refine gS ?_
 refine gA (H:=au.empty) (args:=[fy a0.lines,fy a0.lines,.gx 118 [] []]) (p:=[]) (r:=[]) rfl rfl rfl rfl rfl rfl rfl (MB a0.lines ([]) gJ) ?_
 rintro _ H5 ⟨hc7,hS6,rfl⟩
 refine gS ?_
 refine gN (λh8=>?_) (λh8=>?_)
 refine gS ?_
 refine gN (λh9=>?_) (λh9=>?_)
 refine gS ?_
 refine gN (λh10=>?_) (λh10=>?_)
 refine gS ?_
 refine gN (λh11=>?_) (λh11=>?_)
 refine fo ?_
 refine jf (b:=a0.gE) rfl (λ_=>rfl) (λh12=>?_) (λh12=>?_)
 refine oV ?_
 refine jf (b:=a0.gE) rfl (λ_=>rfl) (λh13=>?_) (λh13=>?_)
 refine gq ?_
 refine xB ⟨zT,rfl⟩
 refine gq ?_
 exact dL
 refine oV ?_
 refine jf (b:=a0.gE) rfl (λ_=>rfl) (λh14=>?_) (λh14=>?_)
 refine gq ?_
 exact dL
 refine gq ?_
 refine xB ⟨zT,rfl⟩
 refine kP ?_
 exact dL
 refine yj ?_
 exact dL
 refine Bo ?_
 exact dL
 refine GS ?_
 exact dL
def t120 (a0:Row fi) :Ct 120 [fx a0,fx a0] (λv=>((True)/\v=.bool true)):=by
 refine fR Pa ?_
 refine fS ?_
 have hL1:=a0.lk
 refine aF ?_
 have hL2:=a0.lk
 refine gL a0 ?_
 refine iV (λh3=>?_) (λh3=>?_)
 refine gz ?_
 exact dL
 refine gz ?_
 have hL4:=a0.lk
 refine aK ?_
 have hNk5:=a0.lk
 refine e8 a0.l.length (λk5 e h=>At [0,1,12,13] [fx a0,fx a0,cr a0.l.length,cr k5] au.empty [] e h) ?_ (k0:=0) bh atR
 rintro k5 e h hkk5 hA
 refine aa ?_
 refine fQ (λh6=>?_) (λh6=>?_)
 refine aN ?_
 have hx7:k5<a0.l.length:=by omega
 refine ni k5 a0 hx7 ?_
 generalize hqx8:a0.l[k5]=x8
 refine jG ?_
 have hx9:k5<a0.l.length:=by omega
 refine ni k5 a0 hx9 ?_
 rw [hqx8]
 refine ah ?_
 refine be rfl (λ_=>ca rfl rfl rfl (ej ((k5:Int)) 1 aY aY)) ?_
 refine e9 ?_
 exact dJ
 refine gl ?_
 refine xB ⟨zT,rfl⟩
def t121 (a0:Row bm) :Ct 121 [fu a0,fu a0] (λv=>((True)/\v=.bool true)):=by
 refine fR OG ?_
 refine fS ?_
 have hL1:=a0.lk
 refine aF ?_
 have hL2:=a0.lk
 refine gL a0 ?_
 refine iV (λh3=>?_) (λh3=>?_)
 refine gz ?_
 exact dL
 refine gz ?_
 have hL4:=a0.lk
 refine aK ?_
 have hNk5:=a0.lk
 refine e8 a0.l.length (λk5 e h=>At [0,1,12,13] [fu a0,fu a0,cr a0.l.length,cr k5] au.empty [] e h) ?_ (k0:=0) bh atR
 rintro k5 e h hkk5 hA
 refine aa ?_
 refine fQ (λh6=>?_) (λh6=>?_)
 refine aN ?_
 have hx7:k5<a0.l.length:=by omega
 refine ni k5 a0 hx7 ?_
 generalize hqx8:a0.l[k5]=x8
 refine jG ?_
 have hx9:k5<a0.l.length:=by omega
 refine ni k5 a0 hx9 ?_
 rw [hqx8]
 refine ah ?_
 refine be rfl (λ_=>ca rfl rfl rfl (ej ((k5:Int)) 1 aY aY)) ?_
 refine e9 ?_
 exact dJ
 refine gl ?_
 refine xB ⟨zT,rfl⟩
def t59 (a0:fe) :Ct 59 [.agg (fe.ai a0),.agg (fe.ai a0)] (λv=>((True)/\v=.bool true)):=by
 refine fR Sa ?_
 refine j9 ?_
 refine gN (λh1=>?_) (λh1=>?_)
 refine gq ?_
 refine gN (λh2=>?_) (λh2=>?_)
 refine gS ?_
 refine gN (λh3=>?_) (λh3=>?_)
 refine gS ?_
 refine oC (t120 a0.steps) ?_
 rintro _ (⟨hc4,rfl⟩)
 refine gS ?_
 refine oC (t121 a0.fX) ?_
 rintro _ (⟨hc5,rfl⟩)
 refine gS ?_
 refine oC (t121 a0.guards) ?_
 rintro _ (⟨hc6,rfl⟩)
 refine gS ?_
 refine oC (t119 a0.gB) ?_
 rintro _ (⟨hc7,rfl⟩)
 refine gS ?_
 refine oC (t119 a0.holds) ?_
 rintro _ (⟨hc8,rfl⟩)
 refine fo ?_
 refine jf (b:=a0.bare) rfl (λ_=>rfl) (λh9=>?_) (λh9=>?_)
 refine oV ?_
 refine jf (b:=a0.bare) rfl (λ_=>rfl) (λh10=>?_) (λh10=>?_)
 refine gq ?_
 refine xB ⟨zT,rfl⟩
 refine gq ?_
 exact dL
 refine oV ?_
 refine jf (b:=a0.bare) rfl (λ_=>rfl) (λh11=>?_) (λh11=>?_)
 refine gq ?_
 exact dL
 refine gq ?_
 refine xB ⟨zT,rfl⟩
 refine zn ?_
 refine gS ?_
 exact dL
 refine zn ?_
 refine kS ?_
 exact dL
 refine zn ?_
 refine tc ?_
 exact dL
def RF {H:au} (l:Row fe) (F:List gh) (hS:Sep H F) :∃ v H',fh cfg FT fK true 58 [gm l,gm l,.gx 59 [] []] { H with aT:=[] } v H'/\((True)/\Sep H' (F)/\v=.bool true):=by
 refine gO T0 ?_
 refine fS ?_
 have hL1:=l.lk
 refine gL l ?_
 refine oV ?_
 have hL2:=l.lk
 refine gL l ?_
 refine iV (λh3=>?_) (λh3=>?_)
 refine gz ?_
 exact dL
 refine gz ?_
 have hL4:=l.lk
 refine gL l ?_
 refine fo ?_
 have hNk5:=l.lk
 refine e8 l.l.length (λk5 e h=>At [1,2,15,16,17] [gm l,.gx 59 [] [],gm l,cr l.l.length,cr k5] H [] e h) ?_ (k0:=0) bh atR
 rintro k5 e h hkk5 hA
 refine aa ?_
 refine fQ (λh6=>?_) (λh6=>?_)
 refine gl ?_
 have hx7:k5<l.l.length:=by omega
 refine jn k5 l hx7 ?_
 generalize hqx8:l.l[k5]=x8
 refine gl ?_
 have hx9:k5<l.l.length:=by omega
 refine jn k5 l hx9 ?_
 rw [hqx8]
 refine gl ?_
 refine oC (t59 x8) ?_
 rintro _ (⟨hc11,rfl⟩)
 refine gq ?_
 refine be rfl (λ_=>ca rfl rfl rfl (ej ((k5:Int)) 1 aY aY)) ?_
 refine e9 ?_
 exact dJ
 refine gl ?_
 have hS12:=Sep.pick hS [] 0 bf bf
 exact ⟨.bool true,rfl,zT,Sep.aT hS12 _,rfl⟩
def t18 (a0:fz) :Ct 18 [.agg (fz.ai a0),.agg (fz.ai a0)] (λv=>((True)/\v=.bool true)):=by
 refine fR SC ?_
 refine j9 ?_
 refine oC (t57 a0.cB) ?_
 rintro _ (⟨hc1,rfl⟩)
 refine gq ?_
 refine gA (H:=au.empty) (args:=[gm a0.roads,gm a0.roads,.gx 59 [] []]) (p:=[]) (r:=[]) rfl rfl rfl rfl rfl rfl rfl (RF a0.roads ([]) gJ) ?_
 rintro _ H3 ⟨hc5,hS4,rfl⟩
 refine fk ?_
 refine xB ⟨zT,rfl⟩
def u20 {H:au} (e:Int) (F:List gh) (hS:Sep H F) (q1:0<=e):∃ v H',fh cfg FT fK true 20 [iv e] { H with aT:=[] } v H'/\(∃ bb:Nat,∃ ke:Int,∃ vms:AV,∃ vmz:AV,∃ vmd:AV,∃ vmg:AV,(ke<=e)/\Sep H' (gi bb [iv ke,vms,vmz,vmd,vmg]::.map vms (cA iK kx [])::.map vmz (cA iK (Row.av cI) [])::.map vmd (cA iK (Row.av bm.ai) [])::.map vmg (cA iK (Row.av bm.ai) [])::F)/\v=(eX bb)):=by
 refine gO RA ?_
 refine gl ?_
 refine gj rfl (iW hS) ?_
 rintro _ H2 ⟨b1,rfl,hS3⟩
 refine gj rfl (iW hS3) ?_
 rintro _ H5 ⟨b4,rfl,hS6⟩
 refine gj rfl (iW hS6) ?_
 rintro _ H8 ⟨b7,rfl,hS9⟩
 refine gj rfl (iW hS9) ?_
 rintro _ H11 ⟨b10,rfl,hS12⟩
 refine oV ?_
 refine gj rfl (o3 hS12 rfl rfl rfl rfl rfl) ?_
 rintro _ H14 ⟨b13,rfl,hS15⟩
 refine fo ?_
 have hS16:=Sep.pick hS15 [0,4,3,2,1] 5 bf bf
 exact ⟨(eX b13),rfl,b13,(((if (if 40<e then 40 else e) > 0 then (if 40<e then 40 else e) else 0))),(.hm b1),(.hm b4),(.hm b7),(.hm b10),(by (repeat' split)<;>omega),Sep.aT hS16 _,rfl⟩
def t21 (a0:fw) :Ct 21 [.ip (fw.ai a0) 0 false] (λv=>∃ r0:Int,(r0=(a0.p.elems.l.length:Int))/\v=iv r0):=by
 refine fR Un ?_
 refine kP ?_
 have hL1:=a0.p.elems.lk
 refine gL a0.p.elems ?_
 refine fo ?_
 exact xB ⟨((a0.p.elems.l.length:Int)),c7,rfl⟩
def u22 {H:au} (nn:fw) (F:List gh) (hS:Sep H F) :∃ v H',fh cfg FT fK true 22 [.ip (fw.ai nn) 0 false] { H with aT:=[] } v H'/\(∃ bt:Nat,∃ vmr:AV,(True)/\Sep H' (gi bt [.ip (fw.ai nn) 0 false,vmr]::.map vmr (cA nK bK [])::F)/\v=(eX bt)):=by
 refine gO Uy ?_
 refine gz ?_
 refine gj rfl (iW hS) ?_
 rintro _ H2 ⟨b1,rfl,hS3⟩
 refine oV ?_
 refine gj rfl (o3 hS3 rfl rfl rfl rfl rfl) ?_
 rintro _ H5 ⟨b4,rfl,hS6⟩
 refine fo ?_
 have hS7:=Sep.pick hS6 [0,1] 2 bf bf
 exact ⟨(eX b4),rfl,b4,(.hm b1),zT,Sep.aT hS7 _,rfl⟩
def u6 {H:au} (a0:fz) (F:List gh) (hS:Sep H F) (q1:j1 a0.cB) (q2:rs 17 [.agg (bY.ai a0.cB)]=.fG [.agg (fz.ai a0),iv 0]) (q3:∃ nx:fw,sA nx a0.cB/\rs 19 [.agg (bY.ai a0.cB)]=.fG [.ip (fw.ai nx) 0 false,iv 0]) (q4:a0.roads.l.length<=64):∃ v H',fh cfg FT fK true 6 [.agg (fz.ai a0)] { H with aT:=[] } v H'/\(∃ b0:Nat,∃ vlv:AV,∃ lvl:List fC,∃ bb:Nat,∃ ke:Int,∃ vms:AV,∃ vmz:AV,∃ vmd:AV,∃ vmg:AV,∃ bt:Nat,∃ nt:fw,∃ vmr:AV,∃ vas:AV,∃ asl:List Int,(sA nt a0.cB/\ke<=(a0.cB.elems.l.length:Int)/\lvl.length=a0.roads.l.length/\(∀ x∈lvl,x.state=0)/\∀ x∈lvl,x.seen.l.length<=12)/\Sep H' (gi b0 [fA a0.cB.elems,fJ a0.cB.fj,fP a0.cB.signals,fy a0.cB.lines,iv a0.cB.top,iv a0.cB.gD,iv a0.cB.gu,iv a0.cB.gw,.bool a0.cB.gE,gm a0.roads,vlv,(eX bb),(eX bt),vas]::kh fC.ai 4 vlv lvl::gi bb [iv ke,vms,vmz,vmd,vmg]::.map vms (cA iK kx [])::.map vmz (cA iK (Row.av cI) [])::.map vmd (cA iK (Row.av bm.ai) [])::.map vmg (cA iK (Row.av bm.ai) [])::gi bt [.ip (fw.ai nt) 0 false,vmr]::.map vmr (cA nK bK [])::kL vas asl::F)/\v=.fG [(eX b0),iv 0]):=by
 refine gO YY ?_
 obtain ⟨nx,hnk,hnx⟩:=q3; have hFw:=hnk.Cz; have hFs:=hnk.Cz.signals
 refine hZ ?_
 refine oC (TV a0.cB aZ q2) ?_
 rintro _ rfl
 refine nR ?_
 refine wz [.la 1 0,.la 4 0] H [(1,(fz.ai a0)),(4,(fz.ai a0))] ?_
 refine gq ?_
 refine oC (t18 a0) ?_
 rintro _ (⟨hc2,rfl⟩)
 refine fk ?_
 refine wz [.la 4 0] H [(4,(fz.ai a0))] ?_
 refine fk ?_
 refine oC (Y3 a0.cB aZ hnx) ?_
 rintro _ rfl
 refine mw ?_
 refine wz [.la 4 0,.ip (fw.ai nx) 0 false] H [(4,(fz.ai a0))] ?_
 refine lY ?_
 have hL4:=a0.roads.lk
 refine rl a0.roads ?_
 refine iH rfl rfl (oM (m:=a0.roads.l.length) hS rfl rfl rfl rfl rfl aY bf) ?_
 rintro v5 H6 hS7
 have hS9:=Sep.yG (enc:=fC.ai) (z:=(⟨0,0,false,(kZ:Row Bool)⟩:fC)) hS7 rfl
 refine rV ?_
 refine rC (t21 nx) ?_
 rintro _ ⟨r11,hc10,rfl⟩
 refine lj ?_
 have hS12:=Sep.pick hS9 [0] 1 bf bf
 refine lB (H:=H6) (args:=[iv r11]) (p:=[]) (r:=[]) rfl rfl rfl rfl rfl rfl rfl rfl (u20 r11 (kh fC.ai 4 v5 ((List.replicate a0.roads.l.length (⟨0,0,false,(kZ:Row Bool)⟩:fC)))::F) hS12 aZ) ?_
 rintro _ H13 ⟨bb16,ke17,vms18,vmz19,vmd20,vmg21,hc15,hS14,rfl⟩
 refine ⟨λcall=>(mH (gC (v:=.agg (fz.ai a0)) rfl rfl rfl rfl rfl DS) (mH (gC (v:=gm a0.roads) rfl rfl rfl rfl rfl (lf Fh)) (nz (gC (v:=cr a0.roads.l.length) rfl rfl rfl (AP (r:=a0.roads) (enc:=fe.ai) rfl rfl rfl rfl rfl rfl) rfl (jm _ _ _))))),?_⟩
 have hKe:=hc15
 have hS22:=Sep.pick hS14 [0,1,2,3,4,5] 6 bf bf
 refine lB (H:=H13) (args:=[.ip (fw.ai nx) 0 false]) (p:=[]) (r:=[]) rfl rfl rfl rfl rfl rfl rfl rfl (u22 nx (gi bb16 [iv ke17,vms18,vmz19,vmd20,vmg21]::.map vms18 (cA iK kx [])::.map vmz19 (cA iK (Row.av cI) [])::.map vmd20 (cA iK (Row.av bm.ai) [])::.map vmg21 (cA iK (Row.av bm.ai) [])::kh fC.ai 4 v5 ((List.replicate a0.roads.l.length (⟨0,0,false,(kZ:Row Bool)⟩:fC)))::F) hS22) ?_
 rintro _ H23 ⟨bt26,vmr27,hc25,hS24,rfl⟩
 refine ⟨λcall=>(mH (gC (v:=.agg (fz.ai a0)) rfl rfl rfl rfl rfl DS) (mH (gC (v:=gm a0.roads) rfl rfl rfl rfl rfl (lf Fh)) (nz (gC (v:=cr a0.roads.l.length) rfl rfl rfl (AP (r:=a0.roads) (enc:=fe.ai) rfl rfl rfl rfl rfl rfl) rfl (jm _ _ _))))),?_⟩
 refine rC (t23 nx) ?_
 rintro _ ⟨r29,hc28,rfl⟩
 have hC91:=hc28
 have hk30:(((r29).toNat:Nat):Int)=r29:=Int.toNat_of_nonneg aY
 have hk31:(((r29).toNat:Nat):Int)=r29:=Int.toNat_of_nonneg aY
 refine iH rfl rfl (oM (m:=(r29).toNat) hS24 rfl (congrArg (AV.int .i64) hk30.symm) (congrArg (AV.int .i64) hk31.symm) rfl rfl aY bf) ?_
 rintro v32 H33 hS34
 have hS36:=Sep.yG (enc:=cI) (z:=(0)) hS34 rfl
 refine fD rfl rfl (λ_=>IV rfl rfl rfl (nH rfl rfl rfl rfl rfl (nH rfl rfl (jx rfl rfl (Sep.cell (i:=8) hS36 rfl)) (ei (Sep.cell (i:=8) hS36 rfl) fT) rfl (nH rfl rfl rfl rfl rfl (nH rfl rfl rfl rfl rfl (nH rfl rfl (jx rfl rfl (Sep.cell (i:=0) hS36 rfl)) (ei (Sep.cell (i:=0) hS36 rfl) fT) rfl rfl)))))) ?_
 refine iH rfl rfl (o3 (cs:=[fA a0.cB.elems,fJ a0.cB.fj,fP a0.cB.signals,fy a0.cB.lines,iv a0.cB.top,iv a0.cB.gD,iv a0.cB.gu,iv a0.cB.gw,.bool a0.cB.gE,gm a0.roads,v5,(eX bb16),(eX bt26),v32]) hS36 rfl rfl rfl rfl (ei rfl (ei rfl (ei rfl (ei rfl (ei rfl (ei rfl (ei rfl (ei rfl (ei rfl (ei rfl (ei (Sep.cell (i:=8) hS36 rfl) (ei rfl (ei rfl (ei (Sep.cell (i:=0) hS36 rfl) fT))))))))))))))) ?_
 rintro _ H38 ⟨b37,rfl,hS39⟩
 refine lu ?_
 have hS40:=Sep.pick hS39 [0,9,4,5,6,7,8,2,3,1] 10 bf bf
 exact ⟨.fG [(eX b37),iv 0],rfl,b37,v5,((List.replicate a0.roads.l.length (⟨0,0,false,(kZ:Row Bool)⟩:fC))),bb16,ke17,vms18,vmz19,vmd20,vmg21,bt26,nx,vmr27,v32,((List.replicate ((r29).toNat) ((0):Int))),(by exact ⟨hnk,by have:=congrArg List.length hnk.elems; omega,by simp,λx hx=>by simp_all,λx hx=>by simp_all⟩),Sep.aT hS40 _,rfl⟩
def t62 (a0:ff Bool) (q1:a0.l.length<=1000):Ct 62 [ff.av fM a0] (λv=>∃ r0:Row Bool,(r0.l=a0.l)/\v=Row.av fM r0):=by
 refine fR NM ?_
 refine qq (qg (oV ?_))
 refine oN (qs (qq (qg (oV ?_))))
 refine jf (b:=a0.isNil) rfl (λ_=>mi rfl rfl rfl rfl) (λh1=>?_) (λh1=>?_)
 refine oN (qT ?_)
 refine qq (qg (oV ?_))
 refine oN (qr ?_)
 exact xG ⟨(kZ:Row Bool),bO,rfl⟩
 refine oN (qF ?_)
 refine qk ?_
 refine wy [ff.av fM a0] [] ?_
 refine qq (qg (oV ?_))
 refine oV ?_
 have hS2:=Sep.nk gJ 1
 refine gj rfl (mY (i:=0) (l:=([]:List Bool)) (enc:=fM) a0.l hS2 rfl rfl rfl rfl rfl rfl rfl rfl rfl (λ_=>rfl) (.inl rfl) bE (λ_=>rfl)) ?_
 rintro v3 H4 hS5
 refine oV ?_
 refine oN (qr ?_)
 obtain ⟨r6,hl7,hf8⟩:=iZ (H:=H4) (i:=0) (l:=(([]:List Bool)++a0.l)) (enc:=fM) hS5 rfl a8
 have hlq:=hl7; have hln10:=congrArg List.length hl7
 have hz9:∀ m,freeze false { H4 with aT:=[] } (m+2) v3=some (Row.av fM r6):=λm=>hf8 _ _ (λ_=>rfl)
 exact ⟨v3,(ia (vs:=[v3]) rfl (ei (Sep.arg (i:=0) hS5 rfl) fT)),Row.av fM r6,(show freeze false { H4 with aT:=[] } 8 v3=some (Row.av fM r6) by simp only [FZ,hz9]),r6,bO,rfl⟩
def Zc {H:au} (va:AV) (l:List Bool) (F:List gh) (hS:Sep H (gy fM 1 va l::F)) (q1:l.length<=1000):∃ v H',fh cfg FT fK true 62 [va] { H with aT:=[] } v H'/\(∃ cov:AV,∃ col:List Bool,(col=l)/\Sep H' (gy fM 1 va l::kh fM 1 cov col::F)/\v=cov):=by
 refine gO NM ?_
 refine qq (qg (oV ?_))
 refine oN (qs (qq (qg (oV ?_))))
 rcases Sep.Jc (i:=0) hS rfl with ⟨rfl,hx3⟩ | ⟨rfl,hx3⟩ | ⟨b1,g2,rfl⟩
 refine oV ?_
 refine oN (qT ?_)
 refine qq (qg (oV ?_))
 refine oN (qr ?_)
 have hS4:=Sep.jZ hS 1
 have hS5:=Sep.pick hS4 [1,0] 2 bf bf
 exact ⟨ee,rfl,ee,([]:List Bool),dt,Sep.aT hS5 _,rfl⟩
 refine oV ?_
 refine oN (qF ?_)
 refine qk ?_
 refine wz [(.sl [] (.exact 0))] H [] ?_
 refine qq (qg (oV ?_))
 refine oV ?_
 have hS6:=Sep.nk hS 1
 refine gj rfl (mY (i:=0) (l:=([]:List Bool)) (enc:=fM) l hS6 rfl rfl rfl rfl rfl rfl rfl rfl (Ii (i:=1) hS6 rfl) (λ_=>rfl) (.inl rfl) bE (λ_=>rfl)) ?_
 rintro v7 H8 hS9
 refine oV ?_
 refine oN (qr ?_)
 have hS10:=Sep.pick hS9 [1,0] 2 bf bf
 exact ⟨v7,(ia (vs:=[v7]) rfl (ei (Sep.arg (i:=0) hS9 rfl) fT)),v7,(([]:List Bool)++l),dt,Sep.aT hS10 _,rfl⟩
 refine oV ?_
 refine oN (qF ?_)
 refine qk ?_
 refine wz [(.hs b1 g2 0 (List.map fM l).length)] H [] ?_
 refine qq (qg (oV ?_))
 refine oV ?_
 have hS11:=Sep.nk hS 1
 refine gj rfl (mY (i:=0) (l:=([]:List Bool)) (enc:=fM) l hS11 rfl rfl rfl rfl rfl rfl rfl rfl (Ii (i:=1) hS11 rfl) (λ_=>rfl) (.inl rfl) bE (λ_=>rfl)) ?_
 rintro v12 H13 hS14
 refine oV ?_
 refine oN (qr ?_)
 have hS15:=Sep.pick hS14 [1,0] 2 bf bf
 exact ⟨v12,(ia (vs:=[v12]) rfl (ei (Sep.arg (i:=0) hS14 rfl) fT)),v12,(([]:List Bool)++l),dt,Sep.aT hS15 _,rfl⟩
def u24 {H:au} (b0:Nat) (c:fz) (xl:AV) (xk:AV) (xt:AV) (xa:AV) (voc:AV) (ol:List Bool) (vpo:AV) (pol:List Int) (vlo:AV) (lol:List Bool) (vhe:AV) (hel:List Bool) (F:List gh) (hS:Sep H (gi b0 [fA c.cB.elems,fJ c.cB.fj,fP c.cB.signals,fy c.cB.lines,iv c.cB.top,iv c.cB.gD,iv c.cB.gu,iv c.cB.gw,.bool c.cB.gE,gm c.roads,xl,xk,xt,xa]::gy fM 1 voc ol::gy cI 1 vpo pol::gy fM 1 vlo lol::gy fM 1 vhe hel::F)) (q1:ol.length=c.cB.elems.l.length) (q2:ol.length<=1000):∃ v H',fh cfg FT fK true 24 [(eX b0),.agg [voc,vpo,vlo,vhe]] { H with aT:=[] } v H'/\(∃ vo1:AV,∃ ol1:List Bool,(ol1.length=ol.length)/\Sep H' (gi b0 [fA c.cB.elems,fJ c.cB.fj,fP c.cB.signals,fy c.cB.lines,iv c.cB.top,iv c.cB.gD,iv c.cB.gu,iv c.cB.gw,.bool c.cB.gE,gm c.roads,xl,xk,xt,xa]::gy fM 1 voc ol::gy cI 1 vpo pol::gy fM 1 vlo lol::gy fM 1 vhe hel::gy fM 1 vo1 ol1::F)/\v=.agg [vo1,vpo,vlo,vhe]):=by
 refine gO Tu ?_
 refine e9 ?_
 refine be rfl (λ_=>Qg (cs:=[voc,vpo,vlo,vhe]) rfl rfl (ei (Sep.cell (i:=1) hS rfl) (ei (Sep.cell (i:=2) hS rfl) (ei (Sep.cell (i:=3) hS rfl) (ei (Sep.cell (i:=4) hS rfl) fT)))) rfl) ?_
 refine gS ?_
 have hS1:=Sep.pick hS [1,0,2,3,4] 5 bf bf
 refine gA (H:=H) (args:=[voc]) (p:=[]) (r:=[]) rfl rfl rfl rfl rfl (ei (Sep.arg (i:=1) hS rfl) fT) rfl (Zc voc ol (gi b0 [fA c.cB.elems,fJ c.cB.fj,fP c.cB.signals,fy c.cB.lines,iv c.cB.top,iv c.cB.gD,iv c.cB.gu,iv c.cB.gw,.bool c.cB.gE,gm c.roads,xl,xk,xt,xa]::gy cI 1 vpo pol::gy fM 1 vlo lol::gy fM 1 vhe hel::F) hS1 aZ) ?_
 rintro cov5 H2 ⟨_,col6,hc4,hS3,rfl⟩
 have hOl:=hc4
 have hqF:col6.length=ol.length:=by rw [hc4]
 refine oV ?_
 refine be rfl (λ_=>pf rfl rfl rfl (jx rfl rfl (Sep.cell (i:=1) hS3 rfl)) (ei (Sep.cell (i:=1) hS3 rfl) fT) rfl rfl) ?_
 refine gS ?_
 refine be rfl (λ_=>jC (i:=1) (l:=col6) (enc:=fM) hS3 rfl rfl rfl rfl rfl rfl rfl) ?_
 refine fo ?_
 refine e8 col6.length (λk7 e h=>∃ v8:AV,∃ l9:List Bool,∃ H10:au,(l9.length=ol.length)/\Sep H10 (gy fM 1 voc ol::kh fM 1 v8 l9::gi b0 [fA c.cB.elems,fJ c.cB.fj,fP c.cB.signals,fy c.cB.lines,iv c.cB.top,iv c.cB.gD,iv c.cB.gu,iv c.cB.gw,.bool c.cB.gE,gm c.roads,xl,xk,xt,xa]::gy cI 1 vpo pol::gy fM 1 vlo lol::gy fM 1 vhe hel::F)/\At [0,3,4,12,13] [(eX b0),.la 3 0,.la 4 0,cr col6.length,cr k7] H10 [(3,[v8,vpo,vlo,vhe]),(4,[ee,ee,ee,ee])] e h) ?_ (k0:=0) bh ⟨cov5,col6,H2,bh,hS3,atR⟩
 rintro k7 e h hkk7 ⟨v8,l9,H10,hTl,hS11,hA⟩
 refine aa ?_
 refine fQ (λh12=>?_) (λh12=>?_)
 refine fk ?_
 refine wz [(eX b0),.la 3 0,.la 4 0,cr col6.length,cr k7] H10 [(3,[v8,vpo,vlo,vhe]),(4,[ee,ee,ee,ee])] ?_
 refine fS ?_
 refine vD ?_
 have hx13:k7<l9.length:=by first | omega | (simp<;>omega) | (simp_all; done) | (simp_all; omega)
 obtain ⟨x14,hqx14⟩:∃ x,l9[k7]=x:=⟨_,rfl⟩
 refine lW rfl rfl (iT (i:=1) (m:=k7) (cs:=fM x14) hS11 rfl rfl rfl rfl rfl rfl rfl (gW hx13 hqx14)) ?_
 rintro a15 ⟨ha16,hea17⟩
 refine ME (b:=x14) rfl rfl (λ_=>lQ (i:=1) (m:=k7) (o:=0) (r:=.bool x14) (cs:=fM x14) hS11 rfl (gW hx13 hqx14) hea17 rfl rfl ha16) (λh18=>?_) (λh18=>?_)
 refine lj ?_
 refine fD rfl rfl (λ_=>pI (i:=2) hS11 rfl rfl) ?_
 iterate 3 refine fD rfl rfl (λ_=>oW (i:=2) hS11 rfl rfl rfl rfl rfl) ?_
 refine fD rfl rfl (λ_=>iP (i:=2) (o:=0) (r:=fA c.cB.elems) hS11 rfl rfl rfl rfl) ?_
 refine rV ?_
 have hx19:k7<c.cB.elems.l.length:=by omega
 refine ni k7 c.cB.elems hx19 ?_
 generalize hqx20:c.cB.elems.l[k7]=x20
 refine lj ?_
 refine yy (λh21=>?_) (λh21=>?_)
 refine rV ?_
 have hx22:k7<l9.length:=by first | omega | (simp<;>omega) | (simp_all; done) | (simp_all; omega)
 refine lW rfl rfl (iT (i:=1) (m:=k7) (cs:=fM x14) hS11 rfl rfl rfl rfl rfl rfl rfl (gW hx22 hqx14)) ?_
 rintro a23 ⟨ha24,hea25⟩
 refine iH rfl rfl (mB (i:=1) (m:=k7) (o:=0) x14 true hS11 rfl hx22 hqx14 hea25 rfl ha24 rfl rfl rfl rfl) ?_
 rintro _ H26 ⟨rfl,hS27⟩
 refine rN ?_
 refine wz [(eX b0),.la 3 0,.la 4 0,cr col6.length,cr k7] H26 [(3,[v8,vpo,vlo,vhe]),(4,[ee,ee,ee,ee])] ?_
 refine qg ?_
 refine be rfl (λ_=>ca rfl rfl rfl (ej ((k7:Int)) 1 aY aY)) ?_
 refine e9 ?_
 exact ⟨by omega,v8,((l9.set k7 true)),H26,bu,hS27,atR⟩
 refine rV ?_
 have hx28:k7<l9.length:=by first | omega | (simp<;>omega) | (simp_all; done) | (simp_all; omega)
 refine lW rfl rfl (iT (i:=1) (m:=k7) (cs:=fM x14) hS11 rfl rfl rfl rfl rfl rfl rfl (gW hx28 hqx14)) ?_
 rintro a29 ⟨ha30,hea31⟩
 refine iH rfl rfl (mB (i:=1) (m:=k7) (o:=0) x14 false hS11 rfl hx28 hqx14 hea31 rfl ha30 rfl rfl rfl rfl) ?_
 rintro _ H32 ⟨rfl,hS33⟩
 refine rN ?_
 refine wz [(eX b0),.la 3 0,.la 4 0,cr col6.length,cr k7] H32 [(3,[v8,vpo,vlo,vhe]),(4,[ee,ee,ee,ee])] ?_
 refine qg ?_
 refine be rfl (λ_=>ca rfl rfl rfl (ej ((k7:Int)) 1 aY aY)) ?_
 refine e9 ?_
 exact ⟨by omega,v8,((l9.set k7 false)),H32,bu,hS33,atR⟩
 refine Mc ?_
 have hx34:k7<l9.length:=by first | omega | (simp<;>omega) | (simp_all; done) | (simp_all; omega)
 refine lW rfl rfl (iT (i:=1) (m:=k7) (cs:=fM x14) hS11 rfl rfl rfl rfl rfl rfl rfl (gW hx34 hqx14)) ?_
 rintro a35 ⟨ha36,hea37⟩
 refine iH rfl rfl (mB (i:=1) (m:=k7) (o:=0) x14 false hS11 rfl hx34 hqx14 hea37 rfl ha36 rfl rfl rfl rfl) ?_
 rintro _ H38 ⟨rfl,hS39⟩
 refine rN ?_
 refine wz [(eX b0),.la 3 0,.la 4 0,cr col6.length,cr k7] H38 [(3,[v8,vpo,vlo,vhe]),(4,[ee,ee,ee,ee])] ?_
 refine qg ?_
 refine be rfl (λ_=>ca rfl rfl rfl (ej ((k7:Int)) 1 aY aY)) ?_
 refine e9 ?_
 exact ⟨by omega,v8,((l9.set k7 false)),H38,bu,hS39,atR⟩
 refine fk ?_
 refine wz [.la 3 0,.la 4 0,.la 4 0] H10 [(3,[v8,vpo,vlo,vhe]),(4,[ee,ee,ee,ee]),(4,[ee,ee,ee,ee])] ?_
 refine fo ?_
 refine be rfl (λ_=>pf rfl rfl rfl rfl (ei (Sep.cell (i:=1) hS11 rfl) (ei (Sep.cell (i:=3) hS11 rfl) (ei (Sep.cell (i:=4) hS11 rfl) (ei (Sep.cell (i:=5) hS11 rfl) fT)))) rfl rfl) ?_
 refine e9 ?_
 have hS40:=Sep.nB (i:=1) hS11 rfl
 have hS41:=Sep.pick hS40 [2,0,3,4,5,1] 6 bf bf
 exact ⟨.agg [v8,vpo,vlo,vhe],(ia (vs:=[.agg [v8,vpo,vlo,vhe]]) rfl rfl),v8,l9,(by first | omega | (simp_all; done)),Sep.aT hS41 _,rfl⟩
def t70 (a0:ff fC) (a1:Int) (q1:0<=a1):Ct 70 [ff.av fC.ai a0,iv a1] (λv=>∃ r0:Bool,((r0=true->sN a0.l a1))/\v=.bool r0):=by
 refine fR Ta ?_
 refine fS ?_
 have hL1:=a0.lk
 refine be rfl (λ_=>mj (r:=a0) (enc:=fC.ai) rfl rfl rfl rfl rfl rfl) ?_
 refine jw (λh2=>?_) (λh2=>?_)
 refine kP ?_
 exact xB ⟨true,cN,rfl⟩
 refine fo ?_
 have hx3:(a1).toNat<a0.l.length:=by omega
 refine be rfl (λ_=>yB (n:=a1) (r:=a0) (enc:=fC.ai) rfl rfl rfl rfl rfl bh hx3 rfl) ?_
 generalize hqx4:a0.l[(a1).toNat]=x4
 refine e9 ?_
 refine gN (λh5=>?_) (λh5=>?_)
 refine fk ?_
 exact xB ⟨true,cN,rfl⟩
 refine fk ?_
 exact xB ⟨false,cN,rfl⟩
def t71 (a0:fz) (a1:rK) (a2:Int) :Ct 71 [.agg (fz.ai a0),.agg (rK.ai a1),iv a2] (λv=>∃ r0:Bool,(True)/\v=.bool r0):=by
 refine fR Sg ?_
 refine gl ?_
 refine jw (λh1=>?_) (λh1=>?_)
 refine fk ?_
 have hL2:=a1.Gy.lk
 refine be rfl (λ_=>mj (r:=a1.Gy) (enc:=fM) rfl rfl rfl rfl rfl rfl) ?_
 refine fQ (λh3=>?_) (λh3=>?_)
 refine gq ?_
 have hx4:(a2).toNat<a1.Gy.l.length:=by omega
 refine be rfl (λ_=>yB (n:=a2) (r:=a1.Gy) (enc:=fM) rfl rfl rfl rfl rfl bh hx4 rfl) ?_
 generalize hqx5:a1.Gy.l[(a2).toNat]=x5
 refine jf (b:=x5) rfl (λ_=>rfl) (λh6=>?_) (λh6=>?_)
 refine gS ?_
 have hL7:=a0.cB.elems.lk
 refine gL a0.cB.elems ?_
 refine jw (λh8=>?_) (λh8=>?_)
 refine mw ?_
 exact dK
 refine gq ?_
 have hx9:(a2).toNat<a0.cB.elems.l.length:=by omega
 refine pa a2 a0.cB.elems hx9 ?_
 generalize hqx10:a0.cB.elems.l[(a2).toNat]=x10
 refine e9 ?_
 refine iV (λh11=>?_) (λh11=>?_)
 refine gq ?_
 exact dK
 refine gq ?_
 exact dI
 refine SX ?_
 exact dI
 refine DH ?_
 exact dI
 refine TJ ?_
 exact dI
def aav (a0:ff Int) (a1:Int) :Tx 66 [nj a0,iv a1] (λv=>∃ r0:Int,(((0<=r0->a1∈a0.l)/\(r0<0->a1∉a0.l)))/\v=iv r0):=by
 refine Ig Nt ?_
 refine fS ?_
 have hL1:=a0.lk
 refine aO ?_
 have hNk2:=a0.lk
 refine e8 a0.l.length (λk2 e h=>(∀ (i:Nat) (h:i<a0.l.length),i<k2->¬ a0.l[i]=a1)/\At [0,1,7,8] [nj a0,iv a1,cr a0.l.length,cr k2] au.empty [] e h) ?_ (k0:=0) bh ⟨ct,atR⟩
 rintro k2 e h hkk2 ⟨hU,hA⟩
 refine aa ?_
 refine fQ (λh3=>?_) (λh3=>?_)
 refine oi ?_
 have hx4:k2<a0.l.length:=by omega
 refine be rfl (λ_=>nA (n:=k2) (r:=a0) (enc:=cI) rfl rfl rfl rfl rfl hx4 rfl) ?_
 generalize hqx5:a0.l[k2]=x5
 refine oV ?_
 refine gN (λh6=>?_) (λh6=>?_)
 refine fS ?_
 exact xB ⟨((k2:Int)),ck,rfl⟩
 refine fk ?_
 refine be rfl (λ_=>ca rfl rfl rfl (ej ((k2:Int)) 1 aY aY)) ?_
 refine e9 ?_
 exact eL
 refine gl ?_
 exact xB ⟨(-1),ck,rfl⟩
def aaV (a0:ff Int) (a1:Int) :Tx 44 [nj a0,iv a1] (λv=>∃ r0:Bool,(((r0=true->a1∈a0.l)/\(r0=false->a1∉a0.l)))/\v=.bool r0):=by
 refine Ig ND ?_
 refine fS ?_
 refine oC (aav a0 a1) ?_
 rintro _ ⟨r2,hc1,rfl⟩
 have hIx:=hc1
 refine jw (λh3=>?_) (λh3=>?_)
 refine fo ?_
 exact xB ⟨true,cb,rfl⟩
 refine fo ?_
 exact xB ⟨false,cb,rfl⟩
def Kt {C:gv} {F:gX} {Pr:gQ} {α:Type} {f:Nat} {args : α->List AV} {v : α->AV} {l:List α} (h:∀ x∈l,fh C F Pr false f (args x) au.empty (v x) au.empty):∃ n,∀ k,n<=k->∀ x∈l,gP C F Pr k false f (args x) au.empty=some (v x,au.empty):=by
 induction l with
 | nil=>exact ⟨0,λ_ _ _ h=>by cases h⟩
 | cons y l ih =>
   obtain ⟨n,hn⟩:=ih λx hx=>h x (List.mem_cons_of_mem _ hx)
   obtain ⟨m,hm⟩:=h y List.mem_cons_self
   refine ⟨max n m,λk hk x hx=>?_⟩
   rcases List.mem_cons.1 hx with rfl | hx
   ·exact hm k bh
   ·exact hn k bh x hx
def rb (x:Int) (p:AV×AV):Prop:=∃ xs c,p.2=.sl xs c/\[iv x]∈xs
def uP {x o:Int} {r:ff Int}:rb x (iv o,r.av cI)↔x∈r.l:=by
 constructor
 ·rintro ⟨xs,c,hq,hx⟩
  simp only [ff.av,AV.sl.injEq] at hq
  obtain ⟨rfl,rfl⟩:=hq
  obtain ⟨y,hy,he⟩:=List.mem_map.1 hx
  simp only [cI,iv,List.cons.injEq,AV.int.injEq,true_and,and_true] at he
  exact he▸hy
 ·exact λh=>⟨_,_,rfl,List.mem_map_of_mem (f:=cI) h⟩
open Classical in
def Ee {es:List (AV×AV)} {x:Int} (hO:∀ p∈es,∃ (o:Int) (r:ff Int),p=(iv o,r.av cI)):∃ n,∀ k,n<=k->∀ p∈es,gP cfg FT iq k false 44 [p.2,iv x] au.empty=some (.bool (decide (rb x p)),au.empty):=by
 refine Kt (args:=λp=>[p.2,iv x]) (v:=λp=>.bool (decide (rb x p))) λp hp=>?_
 obtain ⟨o,r,rfl⟩:=hO p hp
 obtain ⟨v,hc,b,hb,rfl⟩:=aaV r x au.empty
 have:b=decide (rb x (iv o,r.av cI)):=by
  cases b with
  | true=>exact (decide_eq_true (uP.2 (hb.1 rfl))).symm
  | false=>exact (decide_eq_false λh=>hb.2 rfl (uP.1 h)).symm
 rw [<- this]
 exact hc
def yz {β:Type} {ev : β->AV} {l:List (Int×β)} {p:AV×AV} (h:p∈cA iK ev l):∃ q∈l,p=(iv q.1,ev q.2):=by
 obtain ⟨q,hq,rfl⟩:=List.mem_map.1 h
 exact ⟨q,hq,rfl⟩
open Classical in
def PH {es:List (AV×AV)} {x:Int} {k:AV} {z:List AV} {s s':Bool} (hO:∀ p∈es,∃ (o:Int) (r:ff Int),p=(iv o,r.av cI)) {v:AV} (hno:∀ p∈es,rb x p->v=p.1) (hne:(∀ p∈es,¬ rb x p)->v=iv (-1)) :
  Good cfg Bm (gP cfg FT iq) [.ip (k::.fm es s::z) 0 s',iv x] v:=by
 obtain ⟨n,hn⟩:=Ee (x:=x) hO
 refine ⟨n,?_⟩
 have hn:=hn n (Nat.le_refl _)
 unfold wi
 refine aJ ?_
 refine jV ?_
 refine ao ?_
 refine jL (λm it e h=>∃ last js,it=some ⟨11,es,last,js⟩/\m=js.length/\(∀ j∈js,j<es.length)/\(∀ j p,es[j]?=some p->rb x p->j∈js)/\proj [1,11] e=[(1,iv x),(11,.undef)]/\{ h with aT:=iu [1,11] h.aT }=au.empty) (m:=es.length) ⟨none,List.range es.length,rfl,by simp,by simp,?_,rfl,rfl⟩ ?_
 ·intro j p hj _
  exact List.mem_range.2 (List.getElem?_eq_some_iff.1 hj).1
 rintro m it e h ⟨last,js,rfl,rfl,hlt,hall,he,hh⟩
 rw [he,hh]
 refine aJ ?_
 refine jN (λhnil=>?_) (λj hj p hp=>?_)
 ·simp only at hnil
  subst hnil
  refine jV ?_
  refine jO ?_
  refine jz ?_
  refine jF ?_
  refine je ?_
  refine jJ [] au.empty ?_
  refine jq ?_
  refine jg ?_
  refine jV ?_
  refine jO ?_
  refine jr ?_
  refine ⟨.inr rfl,_,_,rfl,?_⟩
  rw [hne]
  ·rfl
  ·intro p hp hx
   obtain ⟨j,hj⟩:=List.getElem?_of_mem hp
   cases hall j p hj hx
 ·obtain ⟨o,r,rfl⟩:=hO p (List.mem_of_getElem? hp)
  simp only at hp hj
  have hb:=hn _ (List.mem_of_getElem? hp)
  have hbx:decide (rb x (iv o,r.av cI))=true↔rb x (iv o,r.av cI):=decide_eq_true_iff
  generalize decide (rb x (iv o,r.av cI))=b at hb hbx
  refine jV ?_
  refine jO ?_
  refine jz ?_
  refine jT ?_
  refine jk ?_
  refine jJ [(1,iv x),(11,.undef)] au.empty ?_
  refine jb ?_
  refine jq ?_
  refine jg ?_
  refine jE ?_ hp
  refine jV ?_
  refine jV ?_
  refine jV ?_
  refine jV ?_
  refine jO ?_
  refine jq ?_
  refine jg ?_
  refine jV ?_
  refine jV ?_
  refine jV (v:=.bool b) (h1:=au.empty) ?_ (hop:=?_)
  refine jO ?_
  cases b with
  | true =>
    refine jT ?_
    refine jq ?_
    refine jg ?_
    refine jV ?_
    refine jV ?_
    refine jO ?_
    refine jr ?_
    refine ⟨.inr rfl,_,_,rfl,?_⟩
    rw [hno _ (List.mem_of_getElem? hp) (hbx.1 rfl)]
    rfl
  | false =>
    refine jF ?_
    refine jk ?_
    refine ⟨(js.filter λy=>!(Nat.beq y j)).length,?_,some j,_,rfl,rfl,λy hy=>hlt y (List.mem_filter.1 hy).1,λy q hy hq=>List.mem_filter.2 ⟨hall y q hy hq,?_⟩,rfl,rfl⟩
    ·exact List.length_filter_lt_length_iff_exists.2 ⟨j,hj,by simp⟩
    ·cases hyj:Nat.beq y j with
     | false=>rfl
     | true =>
       have:=Nat.eq_of_beq_eq_true hyj
       subst this
       rw [hp] at hy
       cases hy
       exact absurd (hbx.2 hq) ci
  ·exact DV hb
def Co:fK 11=some (mR (nN cfg Bm (gP cfg FT iq) RO)):=by rfl
def PF (_a0:fq) (_a1:Int) (v:AV):Prop:=∃ r0:Int,(ta _a0.pl _a1 r0)/\v=iv r0
def t11 (a0:fq) (a1:Int) (q1:mn a0.pl):Ct 11 [.ip (fq.ai a0) 0 true,iv a1] (PF a0 a1):=by
 have hO:∀ p∈cA iK (ff.av cI) a0.steps,∃ (o:Int) (r:ff Int),p=(iv o,r.av cI):=λp hp=>by
  obtain ⟨q,_,rfl⟩:=yz hp
  exact ⟨_,_,rfl⟩
 have key:∃ r:Int,Good cfg Bm (gP cfg FT iq) [.ip (fq.ai a0) 0 true,iv a1] (iv r)/\((r = -1/\∀ p∈a0.pl.s,a1∉p.2)\/∃ p∈a0.pl.s,a1∈p.2/\r=p.1):=by
  by_cases h:∃ p∈a0.pl.s,a1∈p.2
  ·obtain ⟨p,hp,hx⟩:=h
   refine ⟨p.1,PH (s:=true) hO ?_ ?_,.inr ⟨p,hp,hx,rfl⟩⟩
   ·intro q hq hqx
    obtain ⟨q,hq0,rfl⟩:=yz hq
    have:=q1.one p hp (q.1,q.2.l) (List.mem_map_of_mem (f:=λp:Int×ff Int=>(p.1,p.2.l)) hq0) a1 hx (uP.1 hqx)
    rw [this]
   ·intro hno
    obtain ⟨q,hq,rfl⟩:=List.mem_map.1 hp
    exact absurd (uP.2 hx) (hno (iv q.1,q.2.av cI) (List.mem_map_of_mem (f:=λx:Int×ff Int=>(iK x.1,nj x.2)) hq))
  ·have h':∀ p∈a0.pl.s,a1∉p.2:=λp hp hx=>h ⟨p,hp,hx⟩
   refine ⟨-1,PH (s:=true) hO ?_ (λ_=>rfl),.inl ⟨rfl,h'⟩⟩
   intro q hq hqx
   obtain ⟨q,hq0,rfl⟩:=yz hq
   exact absurd (uP.1 hqx) (h' _ (List.mem_map_of_mem (f:=λp:Int×ff Int=>(p.1,p.2.l)) hq0))
 obtain ⟨r,hg,hr⟩:=key
 have hRO:RO [.ip (fq.ai a0) 0 true,iv a1] (iv r):=⟨r,rfl,by show (r = -1/\∀ p∈(tb (fq.ai a0)).s,a1∉p.2)\/_; rw [ua]; exact hr⟩
 intro h
 obtain ⟨v,hc,r',rfl,hr'⟩:=Dp (C:=cfg) (F:=FT) Co (λ_=>rfl) ⟨_,hg,hRO⟩ h
 refine ⟨_,hc,r',?_,rfl⟩
 have hr':(r' = -1/\∀ p∈(tb (fq.ai a0)).s,a1∉p.2)\/∃ p∈(tb (fq.ai a0)).s,a1∈p.2/\r'=p.1:=hr'
 rw [ua] at hr'
 exact hr'
def aaw {H:au} (a0:ff bm) (F:List gh) (hS:Sep H F) (q1:a0.l.length<=1000):∃ v H',fh cfg FT iq true 65 [ff.av bm.ai a0] { H with aT:=[] } v H'/\(∃ ov:AV,∃ ol:List bm,(ol=a0.l)/\Sep H' (kh bm.ai 2 ov ol::F)/\v=ov):=by
 refine Kl JI ?_
 refine fS ?_
 refine jf (b:=a0.isNil) rfl (λ_=>mi rfl rfl rfl rfl) (λh1=>?_) (λh1=>?_)
 refine gz ?_
 have hS2:=Sep.jZ hS 2
 have hS3:=Sep.pick hS2 [0] 1 bf bf
 exact eP
 refine fo ?_
 refine wz [ff.av bm.ai a0] H [] ?_
 refine fk ?_
 have hS4:=Sep.nk hS 2
 refine gj rfl (mY (i:=0) (l:=([]:List bm)) (enc:=bm.ai) a0.l hS4 rfl rfl rfl rfl rfl rfl rfl rfl rfl (λ_=>rfl) (.inl rfl) bE (λ_=>rfl)) ?_
 rintro v5 H6 hS7
 refine fo ?_
 have hS8:=Sep.pick hS7 [0] 1 bf bf
 exact eQ
def JK {H:au} (a0:ff bm) (F:List gh) (hS:Sep H F) (q1:a0.l.length<=1000):∃ v H',fh cfg FN (rR cfg FT iq) true 65 [ff.av bm.ai a0] { H with aT:=[] } v H'/\(∃ ov:AV,∃ ol:List bm,(ol=a0.l)/\Sep H' (kh bm.ai 2 ov ol::F)/\v=ov):=by
 obtain ⟨v,H',hc,h⟩:=aaw a0 F hS q1
 exact ⟨v,H',Sn hc,h⟩
def rm (k:Int) (l:List (Int×Row bm)):List bm:=match look k l with
 | some r=>r.l
 | none=>[]
def zh {k:Int} {l:List (Int×Row bm)} {r:Row bm} (h:look k l=some r):rm k l=r.l:=by simp only [rm,h]
def zO {k:Int} {l:List (Int×Row bm)} (h:look k l=none):rm k l=[]:=by simp only [rm,h]
theorem yJ (k:Int) (l:List (Int×Row bm)):rm k l=xr k (l.map λp=>(p.1,p.2.l)):=by
 induction l with
 | nil=>rfl
 | cons x l ih =>
   simp only [rm,xr,look,List.map_cons] at ih ⊢
   by_cases h:k=x.1
   ·simp only [if_pos h]; rfl
   ·simp only [if_neg h]; exact ih
def hR (a:fq) (o:Int):List bm:=rm o a.fX++rm o a.guards
def Z5 (R:List bm) (x p c p' c':Int):Prop:=(∃ y∈R,y.elem=x/\p'=y.pos/\c'=c+1)\/((∀ y∈R,y.elem≠x)/\p'=p/\c'=c)
def inLoop:Code->ga->Code×ga
 | .loop b,.loop _ y=>(b,y)
 | c,an=>(c,an)
noncomputable def Pn:Code×ga:=p6 [true,true,false,true,false] wJ.body wJ.lE
noncomputable def Pb:Code×ga:=inLoop Pn.1 Pn.2
noncomputable def ES:Code×ga:=p6 [true,true,false,true] Pb.1 Pb.2
def Ln (a0:fq) (a1 o p0 c0:Int) (z:AV) (e:Env) (q1:∀ p∈a0.fX,p.2.l.length<=1000) (q2:∀ p∈a0.guards,p.2.l.length<=1000) (q3:0<=c0/\c0<=1000000) {H:au} (hS:Sep H []) (he:e=[(8,iv o),(19,iv o),(18,z),(0,.ip (fq.ai a0) 0 true),(1,iv a1),(6,iv p0),(7,iv c0),(15,.undef)]) :
  Wp cfg FN (rR cfg FT iq) wJ ES.1 ES.2 (λx e h=>x=.gH/\∃ p1 c1 H',Z5 (hR a0 o) a1 p0 c0 p1 c1/\proj [0,1,6,7,15] e=[(0,.ip (fq.ai a0) 0 true),(1,iv a1),(6,iv p1),(7,iv c1),(15,.undef)]/\{ h with aT:=iu [0,1,6,7,15] h.aT } = { H' with aT:=[] }/\Sep H' []) e { H with aT:=[] }:=by
 subst he
 refine Lt ?_
 refine mU (key:=(o)) (l:=a0.fX) (ek:=iK) (ev:=(Row.av bm.ai)) rfl rfl rfl rfl rfl rfl rfl rfl rfl rfl iF (λy1 h2=>?_) (λh3=>?_)
 have hmy1:y1.l.length<=1000:=q1 _ (jt h2)
 have hRn:rm o a0.fX=y1.l:=zh h2
 refine lY ?_
 refine mU (key:=(o)) (l:=a0.guards) (ek:=iK) (ev:=(Row.av bm.ai)) rfl rfl rfl rfl rfl rfl rfl rfl rfl rfl iF (λy4 h5=>?_) (λh6=>?_)
 have hmy4:y4.l.length<=1000:=q2 _ (jt h5)
 have hRg:rm o a0.guards=y4.l:=zh h5
 refine rV ?_
 refine lB (H:=H) (args:=[fu y1]) (p:=[]) (r:=[]) rfl rfl rfl rfl rfl rfl rfl rfl (JK (Row.ji y1) ([]) hS aZ) ?_
 rintro ov11 H8 ⟨_,ol12,hc10,hS9,rfl⟩
 refine ⟨λcall=>(mH (gC rfl rfl rfl rfl rfl pR) (nz (gC (v:=fu y4) rfl rfl rfl ((pG (key:=(o)) (l:=a0.guards) (ek:=iK) (ev:=(Row.av bm.ai)) rfl rfl rfl rfl rfl rfl rfl iF).trans (by rw [h5])) rfl (lf w7)))),?_⟩
 have hqF:ol12.length=(Row.ji y1).l.length:=by rw [hc10]
 try simp only [Row.ji] at hqF
 have hOl:=hc10
 try simp only [List.length_nil] at hqF
 have hL13:=y4.lk
 have hz17:(ol12++y4.l).length=ol12.length+y4.l.length:=List.length_append
 refine A1 0 y4.l hS9 λv14 H15 hS16=>?_
 refine fD rfl rfl (λ_=>jC (i:=0) hS16 rfl rfl rfl rfl rfl rfl rfl) ?_
 refine lj ?_
 refine e8 ((ol12++y4.l).length) (λlx e h=>(∀ y∈(ol12++y4.l).take lx,y.elem≠a1)/\At [0,1,6,7,15,33,34,35] [.ip (fq.ai a0) 0 true,iv a1,iv p0,iv c0,.undef,v14,iv ((ol12++y4.l).length:Int),cr lx] H15 [] e h) ?_ (k0:=0) bh ⟨ci,(fV hS16 [(33,0)])⟩
 rintro lx e h hkk18 ⟨hU,hA⟩
 refine aa ?_
 refine fQ (λh19=>?_) (λh19=>?_)
 refine fk ?_
 refine wz [.ip (fq.ai a0) 0 true,iv a1,iv p0,iv c0,.undef,v14,iv ((ol12++y4.l).length:Int),cr lx] H15 [] ?_ (fV hS16 [(33,0)])
 refine fk ?_
 have hx20:lx<(ol12++y4.l).length:=by first | omega | (simp<;>omega) | (simp_all; done) | (simp_all; omega)
 obtain ⟨x21,hqx21⟩:∃ x,(ol12++y4.l)[lx]=x:=⟨_,rfl⟩
 refine lG rfl (iT (i:=0) (m:=lx) (cs:=bm.ai x21) hS16 rfl rfl rfl rfl rfl rfl rfl (gW hx20 hqx21)) ?_
 rintro a22 ⟨ha23,hea24⟩
 refine be rfl (λ_=>lQ (i:=0) (m:=lx) (o:=0) (r:=.agg (bm.ai x21)) (cs:=bm.ai x21) hS16 rfl (gW hx20 hqx21) hea24 rfl rfl ha23) ?_
 refine fS ?_
 refine gN (λh25=>?_) (λh25=>?_)
 refine kP ?_
 refine be rfl (λ_=>ca rfl rfl rfl (ej c0 1 aY aY)) ?_
 refine fo ?_
 have hRq:hR a0 o=(ol12++y4.l):=by unfold hR; rw [hRn,hRg,hOl]<;>(try rfl)
 exact ⟨rfl,x21.pos,c0+1,H15,(by rw [hRq]; first | exact .inl ⟨_,by rw [<- hqx21]; exact List.getElem_mem _,by assumption,rfl,rfl⟩ | exact .inr ⟨by rw [List.take_of_length_le bh] at hU; exact hU,rfl,rfl⟩),rfl,rfl,Sep.pick hS16 [] 1 bf bf⟩
 refine fo ?_
 refine wz [.ip (fq.ai a0) 0 true,iv a1,iv p0,iv c0,.undef,v14,iv ((ol12++y4.l).length:Int),cr lx] H15 [] ?_ (fV hS16 [(33,0)])
 refine qg ?_
 refine be rfl (λ_=>ca rfl rfl rfl (ej ((lx:Int)) 1 aY aY)) ?_
 refine e9 ?_
 exact ⟨by omega,di,(fV hS16 [(33,0)])⟩
 refine fk ?_
 have hRq:hR a0 o=(ol12++y4.l):=by unfold hR; rw [hRn,hRg,hOl]<;>(try rfl)
 exact ⟨rfl,p0,c0,H15,bL,rfl,rfl,Sep.pick hS16 [] 1 bf bf⟩
 have hRg:rm o a0.guards=[]:=zO h6
 refine rV ?_
 refine lB (H:=H) (args:=[fu y1]) (p:=[]) (r:=[]) rfl rfl rfl rfl rfl rfl rfl rfl (JK (Row.ji y1) ([]) hS aZ) ?_
 rintro ov30 H27 ⟨_,ol31,hc29,hS28,rfl⟩
 refine ⟨λcall=>(mH (gC rfl rfl rfl rfl rfl pR) (nz (gC (v:=.sl [] .nil) rfl rfl rfl ((pG (key:=(o)) (l:=a0.guards) (ek:=iK) (ev:=(Row.av bm.ai)) rfl rfl rfl rfl rfl rfl rfl iF).trans (by rw [h6])) rfl rfl))),?_⟩
 have hqF:ol31.length=(Row.ji y1).l.length:=by rw [hc29]
 try simp only [Row.ji] at hqF
 have hOl:=hc29
 try simp only [List.length_nil] at hqF
 have hz35:(ol31++[]).length=ol31.length+0:=List.length_append
 refine A1 0 [] hS28 λv32 H33 hS34=>?_
 refine fD rfl rfl (λ_=>jC (i:=0) hS34 rfl rfl rfl rfl rfl rfl rfl) ?_
 refine lj ?_
 refine e8 ((ol31++[]).length) (λnu e h=>(∀ y∈(ol31++[]).take nu,y.elem≠a1)/\At [0,1,6,7,15,33,34,35] [.ip (fq.ai a0) 0 true,iv a1,iv p0,iv c0,.undef,v32,iv ((ol31++[]).length:Int),cr nu] H33 [] e h) ?_ (k0:=0) bh ⟨ci,(fV hS34 [(33,0)])⟩
 rintro nu e h hkk36 ⟨hU,hA⟩
 refine aa ?_
 refine fQ (λh37=>?_) (λh37=>?_)
 refine fk ?_
 refine wz [.ip (fq.ai a0) 0 true,iv a1,iv p0,iv c0,.undef,v32,iv ((ol31++[]).length:Int),cr nu] H33 [] ?_ (fV hS34 [(33,0)])
 refine fk ?_
 have hx38:nu<(ol31++[]).length:=by first | omega | (simp<;>omega) | (simp_all; done) | (simp_all; omega)
 obtain ⟨x39,hqx39⟩:∃ x,(ol31++[])[nu]=x:=⟨_,rfl⟩
 refine lG rfl (iT (i:=0) (m:=nu) (cs:=bm.ai x39) hS34 rfl rfl rfl rfl rfl rfl rfl (gW hx38 hqx39)) ?_
 rintro a40 ⟨ha41,hea42⟩
 refine be rfl (λ_=>lQ (i:=0) (m:=nu) (o:=0) (r:=.agg (bm.ai x39)) (cs:=bm.ai x39) hS34 rfl (gW hx38 hqx39) hea42 rfl rfl ha41) ?_
 refine fS ?_
 refine gN (λh43=>?_) (λh43=>?_)
 refine kP ?_
 refine be rfl (λ_=>ca rfl rfl rfl (ej c0 1 aY aY)) ?_
 refine fo ?_
 have hRq:hR a0 o=(ol31++[]):=by unfold hR; rw [hRn,hRg,hOl]<;>(try rfl)
 exact ⟨rfl,x39.pos,c0+1,H33,(by rw [hRq]; first | exact .inl ⟨_,by rw [<- hqx39]; exact List.getElem_mem _,by assumption,rfl,rfl⟩ | exact .inr ⟨by rw [List.take_of_length_le bh] at hU; exact hU,rfl,rfl⟩),rfl,rfl,Sep.pick hS34 [] 1 bf bf⟩
 refine fo ?_
 refine wz [.ip (fq.ai a0) 0 true,iv a1,iv p0,iv c0,.undef,v32,iv ((ol31++[]).length:Int),cr nu] H33 [] ?_ (fV hS34 [(33,0)])
 refine qg ?_
 refine be rfl (λ_=>ca rfl rfl rfl (ej ((nu:Int)) 1 aY aY)) ?_
 refine e9 ?_
 exact ⟨by omega,di,(fV hS34 [(33,0)])⟩
 refine fk ?_
 have hRq:hR a0 o=(ol31++[]):=by unfold hR; rw [hRn,hRg,hOl]<;>(try rfl)
 exact ⟨rfl,p0,c0,H33,bL,rfl,rfl,Sep.pick hS34 [] 1 bf bf⟩
 have hRn:rm o a0.fX=[]:=zO h3
 refine lY ?_
 refine mU (key:=(o)) (l:=a0.guards) (ek:=iK) (ev:=(Row.av bm.ai)) rfl rfl rfl rfl rfl rfl rfl rfl rfl rfl iF (λy44 h45=>?_) (λh46=>?_)
 have hmy44:y44.l.length<=1000:=q2 _ (jt h45)
 have hRg:rm o a0.guards=y44.l:=zh h45
 refine rV ?_
 refine lB (H:=H) (args:=[ee]) (p:=[]) (r:=[]) rfl rfl rfl rfl rfl rfl rfl rfl (JK (⟨[],.nil,Nat.zero_le _,λ_=>rfl⟩:ff bm) ([]) hS aZ) ?_
 rintro ov51 H48 ⟨_,ol52,hc50,hS49,rfl⟩
 refine ⟨λcall=>(mH (gC rfl rfl rfl rfl rfl pR) (nz (gC (v:=fu y44) rfl rfl rfl ((pG (key:=(o)) (l:=a0.guards) (ek:=iK) (ev:=(Row.av bm.ai)) rfl rfl rfl rfl rfl rfl rfl iF).trans (by rw [h45])) rfl (lf w7)))),?_⟩
 have hqF:ol52.length=(⟨[],.nil,Nat.zero_le _,λ_=>rfl⟩:ff bm).l.length:=by rw [hc50]
 try simp only [Row.ji] at hqF
 have hOl:=hc50
 try simp only [List.length_nil] at hqF
 have hL53:=y44.lk
 have hz57:(ol52++y44.l).length=ol52.length+y44.l.length:=List.length_append
 refine A1 0 y44.l hS49 λv54 H55 hS56=>?_
 refine fD rfl rfl (λ_=>jC (i:=0) hS56 rfl rfl rfl rfl rfl rfl rfl) ?_
 refine lj ?_
 refine e8 ((ol52++y44.l).length) (λve e h=>(∀ y∈(ol52++y44.l).take ve,y.elem≠a1)/\At [0,1,6,7,15,33,34,35] [.ip (fq.ai a0) 0 true,iv a1,iv p0,iv c0,.undef,v54,iv ((ol52++y44.l).length:Int),cr ve] H55 [] e h) ?_ (k0:=0) bh ⟨ci,(fV hS56 [(33,0)])⟩
 rintro ve e h hkk58 ⟨hU,hA⟩
 refine aa ?_
 refine fQ (λh59=>?_) (λh59=>?_)
 refine fk ?_
 refine wz [.ip (fq.ai a0) 0 true,iv a1,iv p0,iv c0,.undef,v54,iv ((ol52++y44.l).length:Int),cr ve] H55 [] ?_ (fV hS56 [(33,0)])
 refine fk ?_
 have hx60:ve<(ol52++y44.l).length:=by first | omega | (simp<;>omega) | (simp_all; done) | (simp_all; omega)
 obtain ⟨x61,hqx61⟩:∃ x,(ol52++y44.l)[ve]=x:=⟨_,rfl⟩
 refine lG rfl (iT (i:=0) (m:=ve) (cs:=bm.ai x61) hS56 rfl rfl rfl rfl rfl rfl rfl (gW hx60 hqx61)) ?_
 rintro a62 ⟨ha63,hea64⟩
 refine be rfl (λ_=>lQ (i:=0) (m:=ve) (o:=0) (r:=.agg (bm.ai x61)) (cs:=bm.ai x61) hS56 rfl (gW hx60 hqx61) hea64 rfl rfl ha63) ?_
 refine fS ?_
 refine gN (λh65=>?_) (λh65=>?_)
 refine kP ?_
 refine be rfl (λ_=>ca rfl rfl rfl (ej c0 1 aY aY)) ?_
 refine fo ?_
 have hRq:hR a0 o=(ol52++y44.l):=by unfold hR; rw [hRn,hRg,hOl]<;>(try rfl)
 exact ⟨rfl,x61.pos,c0+1,H55,(by rw [hRq]; first | exact .inl ⟨_,by rw [<- hqx61]; exact List.getElem_mem _,by assumption,rfl,rfl⟩ | exact .inr ⟨by rw [List.take_of_length_le bh] at hU; exact hU,rfl,rfl⟩),rfl,rfl,Sep.pick hS56 [] 1 bf bf⟩
 refine fo ?_
 refine wz [.ip (fq.ai a0) 0 true,iv a1,iv p0,iv c0,.undef,v54,iv ((ol52++y44.l).length:Int),cr ve] H55 [] ?_ (fV hS56 [(33,0)])
 refine qg ?_
 refine be rfl (λ_=>ca rfl rfl rfl (ej ((ve:Int)) 1 aY aY)) ?_
 refine e9 ?_
 exact ⟨by omega,di,(fV hS56 [(33,0)])⟩
 refine fk ?_
 have hRq:hR a0 o=(ol52++y44.l):=by unfold hR; rw [hRn,hRg,hOl]<;>(try rfl)
 exact ⟨rfl,p0,c0,H55,bL,rfl,rfl,Sep.pick hS56 [] 1 bf bf⟩
 have hRg:rm o a0.guards=[]:=zO h46
 refine rV ?_
 refine lB (H:=H) (args:=[ee]) (p:=[]) (r:=[]) rfl rfl rfl rfl rfl rfl rfl rfl (JK (⟨[],.nil,Nat.zero_le _,λ_=>rfl⟩:ff bm) ([]) hS aZ) ?_
 rintro ov70 H67 ⟨_,ol71,hc69,hS68,rfl⟩
 refine ⟨λcall=>(mH (gC rfl rfl rfl rfl rfl pR) (nz (gC (v:=.sl [] .nil) rfl rfl rfl ((pG (key:=(o)) (l:=a0.guards) (ek:=iK) (ev:=(Row.av bm.ai)) rfl rfl rfl rfl rfl rfl rfl iF).trans (by rw [h46])) rfl rfl))),?_⟩
 have hqF:ol71.length=(⟨[],.nil,Nat.zero_le _,λ_=>rfl⟩:ff bm).l.length:=by rw [hc69]
 try simp only [Row.ji] at hqF
 have hOl:=hc69
 try simp only [List.length_nil] at hqF
 have hz75:(ol71++[]).length=ol71.length+0:=List.length_append
 refine A1 0 [] hS68 λv72 H73 hS74=>?_
 refine fD rfl rfl (λ_=>jC (i:=0) hS74 rfl rfl rfl rfl rfl rfl rfl) ?_
 refine lj ?_
 refine e8 ((ol71++[]).length) (λk76 e h=>(∀ y∈(ol71++[]).take k76,y.elem≠a1)/\At [0,1,6,7,15,33,34,35] [.ip (fq.ai a0) 0 true,iv a1,iv p0,iv c0,.undef,v72,iv ((ol71++[]).length:Int),cr k76] H73 [] e h) ?_ (k0:=0) bh ⟨ci,(fV hS74 [(33,0)])⟩
 rintro k76 e h hkk76 ⟨hU,hA⟩
 refine aa ?_
 refine fQ (λh77=>?_) (λh77=>?_)
 refine fk ?_
 refine wz [.ip (fq.ai a0) 0 true,iv a1,iv p0,iv c0,.undef,v72,iv ((ol71++[]).length:Int),cr k76] H73 [] ?_ (fV hS74 [(33,0)])
 refine fk ?_
 have hx78:k76<(ol71++[]).length:=by first | omega | (simp<;>omega) | (simp_all; done) | (simp_all; omega)
 obtain ⟨x79,hqx79⟩:∃ x,(ol71++[])[k76]=x:=⟨_,rfl⟩
 refine lG rfl (iT (i:=0) (m:=k76) (cs:=bm.ai x79) hS74 rfl rfl rfl rfl rfl rfl rfl (gW hx78 hqx79)) ?_
 rintro a80 ⟨ha81,hea82⟩
 refine be rfl (λ_=>lQ (i:=0) (m:=k76) (o:=0) (r:=.agg (bm.ai x79)) (cs:=bm.ai x79) hS74 rfl (gW hx78 hqx79) hea82 rfl rfl ha81) ?_
 refine fS ?_
 refine gN (λh83=>?_) (λh83=>?_)
 refine kP ?_
 refine be rfl (λ_=>ca rfl rfl rfl (ej c0 1 aY aY)) ?_
 refine fo ?_
 have hRq:hR a0 o=(ol71++[]):=by unfold hR; rw [hRn,hRg,hOl]<;>(try rfl)
 exact ⟨rfl,x79.pos,c0+1,H73,(by rw [hRq]; first | exact .inl ⟨_,by rw [<- hqx79]; exact List.getElem_mem _,by assumption,rfl,rfl⟩ | exact .inr ⟨by rw [List.take_of_length_le bh] at hU; exact hU,rfl,rfl⟩),rfl,rfl,Sep.pick hS74 [] 1 bf bf⟩
 refine fo ?_
 refine wz [.ip (fq.ai a0) 0 true,iv a1,iv p0,iv c0,.undef,v72,iv ((ol71++[]).length:Int),cr k76] H73 [] ?_ (fV hS74 [(33,0)])
 refine qg ?_
 refine be rfl (λ_=>ca rfl rfl rfl (ej ((k76:Int)) 1 aY aY)) ?_
 refine e9 ?_
 exact ⟨by omega,di,(fV hS74 [(33,0)])⟩
 refine fk ?_
 have hRq:hR a0 o=(ol71++[]):=by unfold hR; rw [hRn,hRg,hOl]<;>(try rfl)
 exact ⟨rfl,p0,c0,H73,bL,rfl,rfl,Sep.pick hS74 [] 1 bf bf⟩
theorem KV {a:fq} {q:Int×Row bm} (hq:q∈a.fX) {y:bm} (hy:y∈hR a q.1):y∈a.pl.qN:=by
 unfold hR at hy
 rw [yJ,yJ] at hy
 exact List.mem_flatMap.2 ⟨(q.1,q.2.l),List.mem_map_of_mem (f:=λp:Int×Row bm=>(p.1,p.2.l)) hq,hy⟩
def Tq {a:fq} {y:bm} (hy:y∈a.pl.qN):∃ q∈a.fX,y∈hR a q.1:=by
 obtain ⟨p,hp,hy⟩:=List.mem_flatMap.1 hy
 obtain ⟨q,hq,rfl⟩:=List.mem_map.1 hp
 refine ⟨q,hq,?_⟩
 unfold hR
 rw [yJ,yJ]
 exact hy
open Classical in
noncomputable def hP (a:fq) (x:Int) (j:Nat):Bool:=match a.fX[j]? with
 | some q=>decide (∃ y∈hR a q.1,y.elem=x)
 | none=>false
def SP (a0:fq) (a1:Int) {f:Int->Int} (q1:∀ p∈a0.fX,p.2.l.length<=1000) (q2:∀ p∈a0.guards,p.2.l.length<=1000) (q3:a0.fX.length<=1000) (q4:∀ x∈a0.pl.qN,x.pos=f x.elem) :
  ∃ c:Nat,c=((List.range a0.fX.length).filter (hP a0 a1)).length/\Good cfg wJ (λ_=>mZ cfg FT iq) [.ip (fq.ai a0) 0 true,iv a1] (.fG [iv (if c=0 then 0 else f a1),iv c]):=by
 refine ⟨_,rfl,0,?_⟩
 have htot:=List.length_filter_le (hP a0 a1) (List.range a0.fX.length)
 rw [List.length_range] at htot
 generalize htt:((List.range a0.fX.length).filter (hP a0 a1)).length=tot at htot
 unfold wi
 refine aJ ?_
 iterate 2 refine jV ?_
 refine jO ?_
 refine aJ ?_
 iterate 2 refine jV ?_
 refine ao ?_
 refine jL (λm it e h=>∃ last js H,∃ c:Nat,it=some ⟨15,cA iK (Row.av bm.ai) a0.fX,last,js⟩/\m=js.length/\js.Nodup/\c+(js.filter (hP a0 a1)).length=tot/\Sep H []/\proj [0,1,6,7,15] e=[(0,.ip (fq.ai a0) 0 true),(1,iv a1),(6,iv (if c=0 then 0 else f a1)),(7,iv c),(15,.undef)]/\{ h with aT:=iu [0,1,6,7,15] h.aT } = { H with aT:=[] }) (m:=(cA iK (Row.av bm.ai) a0.fX).length)
  ⟨none,List.range (cA iK (Row.av bm.ai) a0.fX).length,au.empty,0,rfl,by simp,List.nodup_range,by simp only [cA,List.length_map]; omega,gJ,rfl,rfl⟩ ?_
 rintro m it e h ⟨last,js,H,c,rfl,rfl,hnd,hc,hS,he,hh⟩
 rw [he,hh]
 refine aJ ?_
 refine jN (λhnil=>?_) (λj hj p hp=>?_)
 ·simp only at hnil
  subst hnil
  simp only [List.filter_nil,List.length_nil,Nat.add_zero] at hc
  subst hc
  refine jV ?_
  refine jO ?_
  refine jz ?_
  refine jF ?_
  refine je ?_
  refine jJ [(6,iv (if c=0 then 0 else f a1)),(7,iv c)] { H with aT:=[] } ?_
  refine jq ?_
  refine jg ?_
  refine jV ?_
  refine jV ?_
  refine jV ?_
  refine jV ?_
  refine jO ?_
  refine jr ?_
  exact ⟨.inr rfl,_,_,rfl,rfl⟩
 ·simp only at hp hj
  have hp':=hp
  simp only [cA,List.getElem?_map,Option.map_eq_some_iff] at hp'
  obtain ⟨q,hqj,rfl⟩:=hp'
  have hPj:hP a0 a1 j=decide (∃ y∈hR a0 q.1,y.elem=a1):=by simp only [hP,hqj]
  have hlt:(js.filter λy=>!(Nat.beq y j)).length<js.length:=List.length_filter_lt_length_iff_exists.2 ⟨j,hj,by simp⟩
  have hper:(js.filter (hP a0 a1)).length=(if hP a0 a1 j then 1 else 0)+((js.filter λy=>!(Nat.beq y j)).filter (hP a0 a1)).length:=by
   have e1:(js.filter λy=>!(Nat.beq y j))=js.erase j:=by
    rw [hnd.erase_eq_filter]
    refine List.filter_congr λy _=>?_
    cases hq:Nat.beq y j with
    | true=>have:=Nat.eq_of_beq_eq_true hq; simp [this]
    | false=>have:=Nat.ne_of_beq_eq_false hq; simp [this]
   rw [e1,((List.perm_cons_erase hj).filter (hP a0 a1)).length_eq,List.filter_cons]
   split<;>simp<;>omega
  refine jV ?_
  refine jO ?_
  refine jz ?_
  refine jT ?_
  refine jk ?_
  refine jJ [(0,.ip (fq.ai a0) 0 true),(1,iv a1),(6,iv (if c=0 then 0 else f a1)),(7,iv c),(15,.undef)] { H with aT:=[] } ?_
  refine jb ?_
  refine jq ?_
  refine jg ?_
  refine jE ?_ hp
  refine jV ?_
  refine jV ?_
  refine jO ?_
  refine jW (c:=ES.1) (an:=ES.2) ?_ c7
  refine (Ln a0 a1 q.1 (if c=0 then 0 else f a1) c _ _ q1 q2 bh hS rfl).mono ?_
  rintro x e h ⟨rfl,p1,c1,H',hrel,he,hh,hS'⟩
  rcases hrel with ⟨y,hy,hyx,rfl,rfl⟩ | ⟨hno,rfl,rfl⟩
  ·have hPt:hP a0 a1 j=true:=by rw [hPj]; exact decide_eq_true ⟨y,hy,hyx⟩
   rw [hPt] at hper
   simp only [if_true] at hper
   refine ⟨_,hlt,some j,(js.filter λy=>!(Nat.beq y j)),H',c+1,rfl,rfl,hnd.filter _,by omega,hS',?_,hh⟩
   rw [he,if_neg bh,q4 y (KV (List.mem_of_getElem? hqj) hy),hyx]
   rfl
  ·have hPf:hP a0 a1 j=false:=by rw [hPj]; exact decide_eq_false λ⟨y,hy,hyx⟩=>hno y hy hyx
   rw [hPf] at hper
   simp only [Bool.false_eq_true,if_false] at hper
   exact ⟨_,hlt,some j,(js.filter λy=>!(Nat.beq y j)),H',c,rfl,rfl,hnd.filter _,by omega,hS',he,hh⟩
def Kr:fK 35=some (mR (nN cfg wJ (λ_=>mZ cfg FT iq) RH)):=by rfl
def YM (_a0:fq) (_a1:Int) (v:AV):Prop:=∃ r0:Int,∃ r1:Int,(EY _a0.pl _a1 r0)/\v=.fG [iv r0,iv r1]
def t35 (a0:fq) (a1:Int) (q1:mn a0.pl):Ct 35 [.ip (fq.ai a0) 0 true,iv a1] (YM a0 a1):=by
 obtain ⟨f,hf⟩:=q1.pos
 have hlen:a0.fX.length<=1000:=by have:=q1.d.len; simp only [fq.pl,List.length_map] at this; omega
 obtain ⟨c,hc,hg⟩:=SP a0 a1 (λp hp=>(q1.d.2 (p.1,p.2.l) (List.mem_map_of_mem (f:=λp:Int×Row bm=>(p.1,p.2.l)) hp)).2.2) (λp hp=>(q1.g.2 (p.1,p.2.l) (List.mem_map_of_mem (f:=λp:Int×Row bm=>(p.1,p.2.l)) hp)).2.2) hlen λx hx=>(hf x hx).1
 have hr:((if c=0 then 0 else f a1)=0/\∀ y∈a0.pl.qN,y.elem≠a1)\/((if c=0 then 0 else f a1)≠0/\∃ y∈a0.pl.qN,y.elem=a1/\y.pos=(if c=0 then 0 else f a1)):=by
  by_cases h0:c=0
  ·left
   rw [if_pos h0]
   refine ⟨rfl,λy hy hyx=>?_⟩
   obtain ⟨q,hq,hy⟩:=Tq hy
   obtain ⟨j,hj⟩:=List.getElem?_of_mem hq
   have hm:j∈(List.range a0.fX.length).filter (hP a0 a1):=List.mem_filter.2 ⟨List.mem_range.2 (List.getElem?_eq_some_iff.1 hj).1,by simp only [hP,hj]; exact decide_eq_true ⟨y,hy,hyx⟩⟩
   have:=List.length_pos_of_mem hm
   omega
  ·right
   rw [if_neg h0]
   obtain ⟨j,hj⟩:=List.exists_mem_of_length_pos (l:=(List.range a0.fX.length).filter (hP a0 a1)) bh
   have hj:=(List.mem_filter.1 hj).2
   unfold hP at hj
   split at hj
   ·rename_i q hq
    obtain ⟨y,hy,hyx⟩:=of_decide_eq_true hj
    have hv:=KV (List.mem_of_getElem? hq) hy
    have h1:=hf y hv
    rw [hyx] at h1
    exact ⟨by omega,y,hv,hyx,h1.1⟩
   ·cases hj
 have hRH:RH [.ip (fq.ai a0) 0 true,iv a1] (.fG [iv (if c=0 then 0 else f a1),iv c]):=⟨_,_,rfl,by show (_=0/\∀ y∈(tb (fq.ai a0)).qN,y.elem≠a1)\/_; rw [ua]; exact hr⟩
 intro h
 obtain ⟨v,hc,r',s',rfl,hr'⟩:=Dp (C:=cfg) (F:=FT) Kr (λ_=>rfl) ⟨_,hg,hRH⟩ h
 refine ⟨_,hc,r',s',?_,rfl⟩
 have hr':(r'=0/\∀ y∈(tb (fq.ai a0)).qN,y.elem≠a1)\/(r'≠0/\∃ y∈(tb (fq.ai a0)).qN,y.elem=a1/\y.pos=r'):=hr'
 rw [ua] at hr'
 exact hr'
def t68 (a0:fq) (a1:Int) (q0:mn a0.pl):Ct 68 [.ip (fq.ai a0) 0 true,iv a1] (λv=>∃ r0:Bool,(True)/\v=.bool r0):=by
 refine fR SD ?_
 have q1:∀ p∈a0.steps,p.2.l.length<=1000:=λp hp=>(q0.s.2 (p.1,p.2.l) (List.mem_map_of_mem (f:=λp:Int×ff Int=>(p.1,p.2.l)) hp)).2.2
 have q2:∀ p∈a0.gB,p.2.l.length<=1000:=λp hp=>(q0.z.2 (p.1,p.2.l) (List.mem_map_of_mem (f:=λp:Int×Row Int=>(p.1,p.2.l)) hp)).2.2
 have q3:∀ p∈a0.guards,p.2.l.length<=1000:=λp hp=>(q0.g.2 (p.1,p.2.l) (List.mem_map_of_mem (f:=λp:Int×Row bm=>(p.1,p.2.l)) hp)).2.2
 refine gS ?_
 refine lY ?_
 refine mU (key:=(a1)) (l:=a0.steps) (ek:=iK) (ev:=(ff.av cI)) rfl rfl rfl rfl rfl rfl rfl rfl rfl rfl iF (λy1 h2=>?_) (λh3=>?_)
 have hmy1:y1.l.length<=1000:=q1 _ (jt h2)
 have hL4:=y1.lk
 refine fD rfl rfl (λ_=>mj (r:=y1) (enc:=cI) rfl rfl rfl rfl rfl rfl) ?_
 refine lY ?_
 refine mU (key:=(a1)) (l:=a0.gB) (ek:=iK) (ev:=(Row.av cI)) rfl rfl rfl rfl rfl rfl rfl rfl rfl rfl iF (λy5 h6=>?_) (λh7=>?_)
 have hmy5:y5.l.length<=1000:=q2 _ (jt h6)
 have hL8:=y5.lk
 refine rl y5 ?_
 have hL9:=y1.lk
 have hL10:=y5.lk
 refine fD rfl rfl (λ_=>ca rfl rfl rfl (ej ((y1.l.length:Int)) ((y5.l.length:Int)) aY aY)) ?_
 refine lY ?_
 refine mU (key:=(a1)) (l:=a0.guards) (ek:=iK) (ev:=(Row.av bm.ai)) rfl rfl rfl rfl rfl rfl rfl rfl rfl rfl iF (λy11 h12=>?_) (λh13=>?_)
 have hmy11:y11.l.length<=1000:=q3 _ (jt h12)
 have hL14:=y11.lk
 refine rl y11 ?_
 have hL15:=y1.lk
 have hL16:=y11.lk
 have hL17:=y5.lk
 refine fD rfl rfl (λ_=>ca rfl rfl rfl (ej ((y1.l.length:Int)+(y5.l.length:Int)) ((y11.l.length:Int)) aY aY)) ?_
 refine BJ (λh18=>?_) (λh18=>?_)
 refine jG ?_
 exact dK
 refine jG ?_
 exact dI
 refine rV ?_
 have hL19:=y1.lk
 have hL20:=y5.lk
 refine fD rfl rfl (λ_=>ca rfl rfl rfl (ej ((y1.l.length:Int)+(y5.l.length:Int)) 0 aY aY)) ?_
 refine BJ (λh21=>?_) (λh21=>?_)
 refine jG ?_
 exact dK
 refine jG ?_
 exact dI
 refine rV ?_
 have hL22:=y1.lk
 refine fD rfl rfl (λ_=>ca rfl rfl rfl (ej ((y1.l.length:Int)) 0 aY aY)) ?_
 refine lY ?_
 refine mU (key:=(a1)) (l:=a0.guards) (ek:=iK) (ev:=(Row.av bm.ai)) rfl rfl rfl rfl rfl rfl rfl rfl rfl rfl iF (λy23 h24=>?_) (λh25=>?_)
 have hmy23:y23.l.length<=1000:=q3 _ (jt h24)
 have hL26:=y23.lk
 refine rl y23 ?_
 have hL27:=y1.lk
 have hL28:=y23.lk
 refine fD rfl rfl (λ_=>ca rfl rfl rfl (ej ((y1.l.length:Int)+0) ((y23.l.length:Int)) aY aY)) ?_
 refine BJ (λh29=>?_) (λh29=>?_)
 refine jG ?_
 exact dK
 refine jG ?_
 exact dI
 refine rV ?_
 have hL30:=y1.lk
 refine fD rfl rfl (λ_=>ca rfl rfl rfl (ej ((y1.l.length:Int)+0) 0 aY aY)) ?_
 refine BJ (λh31=>?_) (λh31=>?_)
 refine jG ?_
 exact dK
 refine jG ?_
 exact dI
 refine vD ?_
 refine mU (key:=(a1)) (l:=a0.gB) (ek:=iK) (ev:=(Row.av cI)) rfl rfl rfl rfl rfl rfl rfl rfl rfl rfl iF (λy32 h33=>?_) (λh34=>?_)
 have hmy32:y32.l.length<=1000:=q2 _ (jt h33)
 have hL35:=y32.lk
 refine rl y32 ?_
 have hL36:=y32.lk
 refine fD rfl rfl (λ_=>ca rfl rfl rfl (ej 0 ((y32.l.length:Int)) aY aY)) ?_
 refine lY ?_
 refine mU (key:=(a1)) (l:=a0.guards) (ek:=iK) (ev:=(Row.av bm.ai)) rfl rfl rfl rfl rfl rfl rfl rfl rfl rfl iF (λy37 h38=>?_) (λh39=>?_)
 have hmy37:y37.l.length<=1000:=q3 _ (jt h38)
 have hL40:=y37.lk
 refine rl y37 ?_
 have hL41:=y32.lk
 have hL42:=y37.lk
 refine fD rfl rfl (λ_=>ca rfl rfl rfl (ej (0+(y32.l.length:Int)) ((y37.l.length:Int)) aY aY)) ?_
 refine BJ (λh43=>?_) (λh43=>?_)
 refine jG ?_
 exact dK
 refine jG ?_
 exact dI
 refine rV ?_
 have hL44:=y32.lk
 refine fD rfl rfl (λ_=>ca rfl rfl rfl (ej (0+(y32.l.length:Int)) 0 aY aY)) ?_
 refine BJ (λh45=>?_) (λh45=>?_)
 refine jG ?_
 exact dK
 refine jG ?_
 exact dI
 refine Lt ?_
 refine mU (key:=(a1)) (l:=a0.guards) (ek:=iK) (ev:=(Row.av bm.ai)) rfl rfl rfl rfl rfl rfl rfl rfl rfl rfl iF (λy46 h47=>?_) (λh48=>?_)
 have hmy46:y46.l.length<=1000:=q3 _ (jt h47)
 have hL49:=y46.lk
 refine rl y46 ?_
 have hL50:=y46.lk
 refine fD rfl rfl (λ_=>ca rfl rfl rfl (ej 0 ((y46.l.length:Int)) aY aY)) ?_
 refine BJ (λh51=>?_) (λh51=>?_)
 refine jG ?_
 exact dK
 refine jG ?_
 exact dI
 refine vD ?_
 exact dI
def t214 (a0:fq) (a1:Int) :Ct 214 [.ip (fq.ai a0) 0 true,iv a1] (λv=>∃ r0:Bool,((r0=true->0<=a1/\a1<a0.elems))/\v=.bool r0):=by
 refine fR Ob ?_
 refine gz ?_
 refine jw (λh1=>?_) (λh1=>?_)
 refine gS ?_
 refine fQ (λh2=>?_) (λh2=>?_)
 refine fk ?_
 exact xB ⟨true,dg,rfl⟩
 refine fk ?_
 exact xB ⟨false,dg,rfl⟩
 refine kP ?_
 exact xB ⟨false,dg,rfl⟩
def t136 (a0:fq) (a1:fe) :Ct 136 [.ip (fq.ai a0) 0 true,.agg (fe.ai a1)] (λv=>∃ r0:Bool,((r0=true->uH a0.elems a1))/\v=.bool r0):=by
 refine fR OP ?_
 refine hZ ?_
 have hL1:=a1.steps.lk
 refine gL a1.steps ?_
 refine gN (λh2=>?_) (λh2=>?_)
 refine gz ?_
 exact dV
 refine fo ?_
 refine wy [.ip (fq.ai a0) 0 true,.la 3 0] [(3,(fe.ai a1))] ?_
 refine e9 ?_
 refine gj rfl (iW gJ) ?_
 rintro _ H4 ⟨b3,rfl,hS5⟩
 refine gz ?_
 have hL6:=a1.steps.lk
 refine gL a1.steps ?_
 refine fo ?_
 have hNk7:=a1.steps.lk
 refine e8 a1.steps.l.length (λk7 e h=>∃ l8:List (Int×Bool),∃ H9:au,(BS ((a1.steps.l.take k7).map fi.elem) l8)/\(∀ s∈a1.steps.l.take k7,0<=s.elem/\s.elem<a0.elems)/\Sep H9 (kb b3 iK bK l8::[])/\At [0,3,5,23,24,25] [.ip (fq.ai a0) 0 true,.la 3 0,(.hm b3),fx a1.steps,cr a1.steps.l.length,cr k7] H9 [(3,(fe.ai a1))] e h) ?_ (k0:=0) bh ⟨([]),H4,(by exact BS.nil),ci,hS5,atR⟩
 rintro k7 e h hkk7 ⟨l8,H9,hI0,hI1,hS10,hA⟩
 refine aa ?_
 refine fQ (λh11=>?_) (λh11=>?_)
 refine fk ?_
 refine wz [.ip (fq.ai a0) 0 true,.la 3 0,(.hm b3),fx a1.steps,cr a1.steps.l.length,cr k7] H9 [(3,(fe.ai a1))] ?_
 refine fk ?_
 have hx12:k7<a1.steps.l.length:=by omega
 refine jn k7 a1.steps hx12 ?_
 generalize hqx13:a1.steps.l[k7]=x13
 refine hZ ?_
 refine oC (t214 a0 x13.elem) ?_
 rintro _ ⟨r15,hc14,rfl⟩
 have hIn:=hc14
 cases r15
 refine mw ?_
 exact dV
 refine gq ?_
 refine kg (H:=H9) (i:=0) (ek:=iK) (ev:=bK) (l:=l8) x13.elem rfl rfl hS10 rfl rfl rfl rfl rfl rfl rfl rfl iF (λy16 h17=>?_) (λh18=>?_)
 cases y16
 exact absurd (hI0.tt _ (jt h17)) ci
 refine fS ?_
 exact dV
 refine fk ?_
 refine wz [.ip (fq.ai a0) 0 true,.la 3 0,(.hm b3),.la 7 0,fx a1.steps,cr a1.steps.l.length,cr k7] H9 [(3,(fe.ai a1)),(7,(fi.ai x13))] ?_
 refine fk ?_
 refine gj rfl (kI (i:=0) (ek:=iK) (ev:=bK) (l:=l8) x13.elem true hS10 rfl rfl rfl rfl rfl rfl iF) ?_
 rintro _ H19 ⟨rfl,hS20⟩
 refine oN ?_
 refine wz [.ip (fq.ai a0) 0 true,.la 3 0,(.hm b3),fx a1.steps,cr a1.steps.l.length,cr k7] H19 [(3,(fe.ai a1))] ?_
 refine qg ?_
 refine be rfl (λ_=>ca rfl rfl rfl (ej ((k7:Int)) 1 aY aY)) ?_
 refine e9 ?_
 exact ⟨by omega,((put x13.elem true l8)),H19,(by exact KH hI0 bh a6 a6),(by exact xF hI1 bh a6 (hIn rfl)),hS20,atR⟩
 refine fk ?_
 refine wz [.ip (fq.ai a0) 0 true,.la 3 0,(.hm b3)] H9 [(3,(fe.ai a1))] ?_
 refine gq ?_
 have hL21:=a1.gB.lk
 refine gL a1.gB ?_
 refine fo ?_
 have hNk22:=a1.gB.lk
 refine e8 a1.gB.l.length (λme e h=>(∀ s∈a1.gB.l.take me,0<=s/\s<a0.elems)/\At [0,3,5,45,46,47] [.ip (fq.ai a0) 0 true,.la 3 0,(.hm b3),gk a1.gB,cr a1.gB.l.length,cr me] H9 [(3,(fe.ai a1))] e h) ?_ (k0:=0) bh ⟨ci,atR⟩
 rintro me e h hkk22 ⟨hI2,hA⟩
 refine aa ?_
 refine fQ (λh23=>?_) (λh23=>?_)
 refine aB ?_
 refine fk ?_
 have hx24:me<a1.gB.l.length:=by omega
 refine jn me a1.gB hx24 ?_
 generalize hqx25:a1.gB.l[me]=x25
 refine gz ?_
 refine oC (t214 a0 x25) ?_
 rintro _ ⟨r27,hc26,rfl⟩
 have hIn:=hc26
 cases r27
 refine kS ?_
 exact dV
 refine fk ?_
 refine kg (H:=H9) (i:=0) (ek:=iK) (ev:=bK) (l:=l8) x25 rfl rfl hS10 rfl rfl rfl rfl rfl rfl rfl rfl iF (λy28 h29=>?_) (λh30=>?_)
 cases y28
 exact absurd (hI0.tt _ (jt h29)) ci
 refine fS ?_
 exact dV
 refine aB ?_
 refine qg ?_
 refine be rfl (λ_=>ca rfl rfl rfl (ej ((me:Int)) 1 aY aY)) ?_
 refine e9 ?_
 exact ⟨by omega,(by exact xF hI2 bh a6 (hIn rfl)),atR⟩
 refine fk ?_
 refine wz [.ip (fq.ai a0) 0 true,.la 3 0] H9 [(3,(fe.ai a1))] ?_
 refine e9 ?_
 refine gj rfl (iW hS10) ?_
 rintro _ H32 ⟨b31,rfl,hS33⟩
 refine gl ?_
 refine be rfl (λ_=>AN (xs:=[[fu a1.fX],[fu a1.guards]]) rfl rfl rfl rfl (DX (ei (jS _) fT) (DX (ei (jS _) fT) rfl))) ?_
 refine fk ?_
 have hS34:=Sep.pick hS33 [0] 2 bf bf
 refine e8 2 (λqh e h=>∃ l36:List (Int×Int),∃ H37:au,(tw (λy=>∃ r∈([a1.fX,a1.guards]:List (Row bm)).take qh,y∈r.l) l36)/\Sep H37 (kb b31 iK iK l36::[])/\At [0,10,66,67,68] [.ip (fq.ai a0) 0 true,(.hm b31),.sl [[fu a1.fX],[fu a1.guards]] (.exact 2),iv 2,cr qh] H37 [] e h) ?_ (k0:=0) bh ⟨([]),H32,dH,hS34,atR⟩
 rintro qh e h hkk35 ⟨l36,H37,hI3,hS38,hA⟩
 refine aa ?_
 refine fQ (λh39=>?_) (λh39=>?_)
 refine fk ?_
 refine wz [.ip (fq.ai a0) 0 true,(.hm b31),.sl [[fu a1.fX],[fu a1.guards]] (.exact 2),iv 2,cr qh] H37 [] ?_
 refine fk ?_
 have hx40:qh<(⟨[a1.fX,a1.guards],.exact 2,pd,rfl,capXn⟩:Row (Row bm)).l.length:=by show qh<2; omega
 refine be rfl (λ_=>sJ (n:=qh) (r:=(⟨[a1.fX,a1.guards],.exact 2,pd,rfl,capXn⟩:Row (Row bm))) (enc:=(kq bm.ai)) rfl rfl rfl rfl rfl hx40 rfl) ?_
 generalize hqx41:(⟨[a1.fX,a1.guards],.exact 2,pd,rfl,capXn⟩:Row (Row bm)).l[qh]=x41
 refine gS ?_
 have hL42:=x41.lk
 refine gL x41 ?_
 refine fo ?_
 have hNk43:=x41.lk
 refine e8 x41.l.length (λrq e h=>∃ l44:List (Int×Int),∃ H45:au,(tw (λy=>(∃ r∈([a1.fX,a1.guards]:List (Row bm)).take qh,y∈r.l)\/y∈x41.l.take rq) l44)/\Sep H45 (kb b31 iK iK l44::[])/\At [0,10,66,67,68,72,73,74] [.ip (fq.ai a0) 0 true,(.hm b31),.sl [[fu a1.fX],[fu a1.guards]] (.exact 2),iv 2,cr qh,fu x41,cr x41.l.length,cr rq] H45 [] e h) ?_ (k0:=0) bh ⟨l36,H37,(by exact TL hI3),hS38,atR⟩
 rintro rq e h hkk43 ⟨l44,H45,hI4,hS46,hA⟩
 refine aa ?_
 refine fQ (λh47=>?_) (λh47=>?_)
 refine fk ?_
 refine wz [.ip (fq.ai a0) 0 true,(.hm b31),.sl [[fu a1.fX],[fu a1.guards]] (.exact 2),iv 2,cr qh,fu x41,cr x41.l.length,cr rq] H45 [] ?_
 refine fk ?_
 have hx48:rq<x41.l.length:=by omega
 refine jn rq x41 hx48 ?_
 generalize hqx49:x41.l[rq]=x49
 refine gl ?_
 refine kg (H:=H45) (i:=0) (ek:=iK) (ev:=iK) (l:=l44) x49.elem rfl rfl hS46 rfl rfl rfl rfl rfl rfl rfl rfl iF (λy50 h51=>?_) (λh52=>?_)
 refine j9 ?_
 refine oC (t214 a0 x49.elem) ?_
 rintro _ ⟨r54,hc53,rfl⟩
 have hIn:=hc53
 cases r54
 refine FV ?_
 exact dV
 refine fk ?_
 refine iV (λh55=>?_) (λh55=>?_)
 refine fo ?_
 refine iV (λh56=>?_) (λh56=>?_)
 refine yj ?_
 exact dV
 refine fS ?_
 refine iV (λh57=>?_) (λh57=>?_)
 refine gl ?_
 exact dV
 refine gq ?_
 refine ab ?_
 rintro _ H58 ⟨rfl,hS59⟩
 refine oN ?_
 refine wz [.ip (fq.ai a0) 0 true,(.hm b31),.sl [[fu a1.fX],[fu a1.guards]] (.exact 2),iv 2,cr qh,fu x41,cr x41.l.length,cr rq] H58 [] ?_
 refine qg ?_
 refine be rfl (λ_=>ca rfl rfl rfl (ej ((rq:Int)) 1 aY aY)) ?_
 refine e9 ?_
 exact ⟨by omega,((put x49.elem x49.pos l44)),H58,co,hS59,atR⟩
 refine j9 ?_
 refine iV (λh60=>?_) (λh60=>?_)
 refine gl ?_
 exact dV
 refine gq ?_
 refine ab ?_
 rintro _ H61 ⟨rfl,hS62⟩
 refine oN ?_
 refine wz [.ip (fq.ai a0) 0 true,(.hm b31),.sl [[fu a1.fX],[fu a1.guards]] (.exact 2),iv 2,cr qh,fu x41,cr x41.l.length,cr rq] H61 [] ?_
 refine qg ?_
 refine be rfl (λ_=>ca rfl rfl rfl (ej ((rq:Int)) 1 aY aY)) ?_
 refine e9 ?_
 exact ⟨by omega,((put x49.elem x49.pos l44)),H61,co,hS62,atR⟩
 refine j9 ?_
 refine oC (t214 a0 x49.elem) ?_
 rintro _ ⟨r64,hc63,rfl⟩
 have hIn:=hc63
 cases r64
 refine FV ?_
 exact dV
 refine fk ?_
 refine iV (λh65=>?_) (λh65=>?_)
 refine fo ?_
 refine iV (λh66=>?_) (λh66=>?_)
 refine yj ?_
 exact dV
 refine mw ?_
 refine ab ?_
 rintro _ H67 ⟨rfl,hS68⟩
 refine oN ?_
 refine wz [.ip (fq.ai a0) 0 true,(.hm b31),.sl [[fu a1.fX],[fu a1.guards]] (.exact 2),iv 2,cr qh,fu x41,cr x41.l.length,cr rq] H67 [] ?_
 refine qg ?_
 refine be rfl (λ_=>ca rfl rfl rfl (ej ((rq:Int)) 1 aY aY)) ?_
 refine e9 ?_
 exact ⟨by omega,((put x49.elem x49.pos l44)),H67,co,hS68,atR⟩
 refine yj ?_
 refine ab ?_
 rintro _ H69 ⟨rfl,hS70⟩
 refine oN ?_
 refine wz [.ip (fq.ai a0) 0 true,(.hm b31),.sl [[fu a1.fX],[fu a1.guards]] (.exact 2),iv 2,cr qh,fu x41,cr x41.l.length,cr rq] H69 [] ?_
 refine qg ?_
 refine be rfl (λ_=>ca rfl rfl rfl (ej ((rq:Int)) 1 aY aY)) ?_
 refine e9 ?_
 exact ⟨by omega,((put x49.elem x49.pos l44)),H69,co,hS70,atR⟩
 refine fk ?_
 refine wz [.ip (fq.ai a0) 0 true,(.hm b31),.sl [[fu a1.fX],[fu a1.guards]] (.exact 2),iv 2,cr qh] H45 [] ?_
 refine qg ?_
 refine be rfl (λ_=>ca rfl rfl rfl (ej ((qh:Int)) 1 aY aY)) ?_
 refine e9 ?_
 exact ⟨by omega,l44,H45,(by exact M1 hI4 (by simpa using bh) a6 bh),hS46,atR⟩
 refine fk ?_
 refine wz [] H37 [] ?_
 refine gq ?_
 exact xB ⟨true,bB,rfl⟩
end Go.Sx
