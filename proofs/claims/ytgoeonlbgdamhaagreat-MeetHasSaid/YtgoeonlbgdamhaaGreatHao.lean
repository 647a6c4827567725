/- Proves what some functions of the program answer, by walking through them. -/
import Derived.Test.YtgoeonlbgdamhaaGreatHag
import Derived.Test.YtgoeonlbgdamhaaGreatHaj
import Derived.Test.YtgoeonlbgdamhaaGreatHal
import Derived.Test.YtgoeonlbgdamhaaGreatHam
import Derived.Test.YtgoeonlbgdamhaaGreatHan
set_option linter.all false
set_option maxRecDepth 100000
set_option maxHeartbeats 0
namespace Go.Sx
open Go Go.Proofs
def adK (_a0:iR) (_a1:iQ) (v:AV):Prop:=∃ r0:iQ,(r0.steps.l = _a1.steps.l/\r0.lQ.l = _a1.lQ.l/\r0.mA.l.length<=12/\(∀ x∈r0.mA.l,nk x)/\r0.guards.l.length<=1000/\r0.holds.l.length<=1000)/\v=.agg (iQ.af r0)
def t132 (a0:iR) (a1:iQ) (q1:mu a0.p) (q2:a0.next.length<=240) (q3:a1.steps.l.length<=12) (q4:a1.lQ.l.length<=1000) (q6:∀ y∈univ a0,nk y.elem):Ct 132 [.ip (iR.af a0) 0 false,.agg (iQ.af a1)] (adK a0 a1):=by
 refine ja Hd ?_
 have q5:(univ a0).length<=241:=by simp only [univ,List.length_cons,List.length_map]; omega
 refine cA ?_
 rintro _ H2 ⟨b1,rfl,hS3⟩
 refine jq (H:=H2) rfl (vZ hS3 rfl rfl rfl rfl rfl) ?_
 rintro _ H5 ⟨b4,rfl,hS6⟩
 refine ab ?_
 refine u1 ?_
 refine aH ?_
 refine qV 0 hS6 ?_
 refine rL 0 hS6 (ji a1.steps) ?_
 refine rC (t236 (Row.ow a1.steps) dK) ?_
 rintro _ ⟨r8,hc7,rfl⟩
 have hC93:=congrArg List.length hc7; try simp only [Row.ow] at hC93
 refine qV 0 hS6 ?_
 refine rL 0 hS6 (jM a1.lQ) ?_
 refine rC (t237 (Row.ow a1.lQ) dK) ?_
 rintro _ ⟨r10,hc9,rfl⟩
 have hC94:=congrArg List.length hc9; try simp only [Row.ow] at hC94
 refine qV 0 hS6 ?_
 refine rSt 0 hS6 (ji r8) λH11 hS12=>?_
 refine qV 0 hS12 ?_
 refine rSt 0 hS12 (jM r10) λH13 hS14=>?_
 refine rN ?_
 refine aa ?_
 refine pq 0 hS14 ?_
 refine Jt 0 hS14 iE λH15 hS16=>?_
 refine pq 0 hS16 ?_
 refine Jt 0 hS16 iE λH17 hS18=>?_
 refine pq 0 hS18 ?_
 refine Jt 0 hS18 iE λH19 hS20=>?_
 refine pq 0 hS20 ?_
 refine Jt 0 hS20 (.bool false) λH21 hS22=>?_
 refine oN ?_
 refine aa ?_
 refine mX 1 hS22 (.ip (iR.af a0) 0 false) ?_
 refine oC (t133 a0 dK) ?_
 rintro _ ⟨r24,hc23,rfl⟩
 have hPl:=hc23.2.2.2.2.2
 refine c9 ?_
 refine jq (H:=H21) rfl (oe hS22) ?_
 rintro _ H26 ⟨b25,rfl,hS27⟩
 refine ab ?_
 refine aa ?_
 refine jq (H:=H26) rfl (KX hS27 rfl rfl) ?_
 rintro _ H29 ⟨b28,rfl,hS30⟩
 refine oN ?_
 refine aa ?_
 refine mX 3 hS30 (.ip (iR.af a0) 0 false) ?_
 refine mX 2 hS30 (.agg [iv a1.from_,iv a1.to,iv a1.end_,ji r8,jM r10,iE,iE,iE,iD]) ?_
 refine oC (t238 a0 (⟨a1.from_,a1.to,a1.end_,r8,r10,(kI:Row jy),(kI:Row Int),(kI:Row Int),false⟩:iQ) dK) ?_
 rintro _ ⟨r32,hc31,rfl⟩
 dsimp only at hc31
 refine ab ?_
 refine ah ?_
 have hL33:=r32.lk
 refine jb r32 ?_
 have hL34:=r32.lk
 refine jT ?_
 refine aL ?_
 have hS35:=Sep.mn hS30 2
 refine kF (λm41 e h=>∃ v36:AV,∃ l37:List iu,∃ n38:Int,∃ H39:aT,m41=(n38+1).toNat/\(-1<=n38)/\(n38<(r32.l.length:Int))/\((l37.length:Int)+n38+1<=r32.l.length)/\((∀ y∈(l37:List iu),y∈univ a0))/\Sep H39 (nH iu.af 2 v36 l37::kM b28 [v36]::lJ b25 pK bK []::kM b4 [iv a1.from_,iv a1.to,iv a1.end_,ji r8,jM r10,iE,iE,iE,iD]::kM b1 [.ip (iR.af a0) 0 false]::[])/\At [2,3,4,5,6,7,8,9] [(iX b1),(iX b4),.la 4 0,.bool r24.ke,(.hm b25),(iX b28),ld r32,iv n38] H39 [(4,[iv 0,iv 0,iv 0,iE,iE,iE,iE,iE,iD])] e h) ?_ _ _ _ ⟨iE,(([]:List iu)),((r32.l.length:Int) - 1),H29,rfl,dU,dU,dU,fp,hS35,atR⟩
 rintro m41 e h ⟨v36,l37,n38,H39,hmm41,hA1,hA2,hA3,hTu,hS40,hA⟩
 refine bL ?_
 refine kL (λh42=>?_) (λh42=>?_)
 refine a8 ?_
 refine wz [(iX b1),(iX b4),.la 4 0,.bool r24.ke,(.hm b25),(iX b28),ld r32,iv n38] H39 [(4,[iv 0,iv 0,iv 0,iE,iE,iE,iE,iE,iD])] ?_
 refine aD ?_
 refine aH ?_
 refine rL 4 hS40 (.ip (iR.af a0) 0 false) ?_
 refine ay ?_
 have hx43:(n38).toNat<r32.l.length:=by omega
 refine iN rfl rfl (λ_=>jh (n:=n38) (r:=r32) (enc:=iu.af) rfl rfl rfl rfl rfl dT hx43 rfl) ?_
 generalize hqx44:r32.l[(n38).toNat]=x44
 refine rV ?_
 refine rC (t239 a0 x44) ?_
 rintro _ ⟨r46,r47,hc45,rfl⟩
 have hN:=hc45
 cases r47
 refine bG ?_
 refine qg ?_
 refine mX 1 hS40 v36 ?_
 refine aj ?_
 refine Nn 0 [r46] hS40 λv48 H49 hS50=>?_
 refine jq (H:=H49) rfl (mP (H:=H49) (i:=1) (o:=0) (r:=v48) hS50 rfl rfl rfl rfl (nG rfl rfl (Sep.cell (i:=0) hS50 rfl)) (iM (Sep.cell (i:=0) hS50 rfl) jP) rfl) ?_
 rintro _ H51 ⟨rfl,hS52⟩
 refine oN ?_
 refine wz [(iX b1),(iX b4),.la 4 0,.bool r24.ke,(.hm b25),(iX b28),ld r32,iv n38] H51 [(4,[iv 0,iv 0,iv 0,iE,iE,iE,iE,iE,iD])] ?_
 refine aM ?_
 refine jT ?_
 refine ab ?_
 refine ⟨_,?_,v48,((l37++[r46])),(n38 - 1),H51,rfl,dU,dU,dU,(by exact sm hTu (tP dS)),hS52,atR⟩
 omega
 refine bG ?_
 refine qg ?_
 refine mX 1 hS40 v36 ?_
 refine aj ?_
 refine Nn 0 [r46] hS40 λv53 H54 hS55=>?_
 refine jq (H:=H54) rfl (mP (H:=H54) (i:=1) (o:=0) (r:=v53) hS55 rfl rfl rfl rfl (nG rfl rfl (Sep.cell (i:=0) hS55 rfl)) (iM (Sep.cell (i:=0) hS55 rfl) jP) rfl) ?_
 rintro _ H56 ⟨rfl,hS57⟩
 refine oN ?_
 refine wz [(iX b1),(iX b4),.la 4 0,.bool r24.ke,(.hm b25),(iX b28),ld r32,iv n38] H56 [(4,[iv 0,iv 0,iv 0,iE,iE,iE,iE,iE,iD])] ?_
 refine aM ?_
 refine jT ?_
 refine ab ?_
 refine ⟨_,?_,v53,((l37++[r46])),(n38 - 1),H56,rfl,dU,dU,dU,(by exact sm hTu (tP dS)),hS57,atR⟩
 omega
 refine aJ ?_
 refine wz [(iX b1),(iX b4),.la 4 0,.bool r24.ke,(.hm b25),(iX b28)] H39 [(4,[iv 0,iv 0,iv 0,iE,iE,iE,iE,iE,iD])] ?_
 refine aa ?_
 refine iz rfl (λ_=>yW rfl rfl (yS rfl rfl)) ?_
 refine ab ?_
 refine qq ?_
 refine ql ?_
 refine aD ?_
 have hS58:=Sep.mn hS40 2
 have hS59:=Sep.mn hS58 1
 have hS60:=Sep.mn hS59 1
 have hS61:=Sep.vD (i:=3) hS60 rfl
 refine kF (λm77 e h=>∃ v62:AV,∃ l63:List Int,∃ v64:AV,∃ l65:List Int,∃ v66:AV,∃ l67:List jy,∃ v68:AV,∃ l69:List iu,∃ l70:List (iu×Bool),∃ n71:Int,∃ n72:Int,∃ n73:Int,∃ b74:Bool,∃ H75:aT,m77=3*((univ a0).length - l70.length)+l69.length/\(lR l70)/\(∀ k∈l70.map Prod.fst,k∈univ a0)/\(∀ y∈(l70:List (iu×Bool)),y.2=true)/\((∀ y∈(l69:List iu),y∈univ a0))/\(l69.length+3*((univ a0).length - l70.length)<=1000)/\(l67.length<=l70.length)/\(l63.length<=l70.length)/\(l65.length<=12)/\(∀ x∈(l65:List Int),nk x)/\(l70.length<=(univ a0).length)/\Sep H75 (ot v62 l63::ot v64 l65::nH jy.af 2 v66 l67::oa iu.af 2 v68 l69::kM b28 [v68]::lJ b25 pK bK l70::kM b4 [iv n71,iv n72,iv n73,ji r8,jM r10,v66,v64,v62,.bool b74]::kM b1 [.ip (iR.af a0) 0 false]::[])/\At [2,3,4,5,6,7,12] [(iX b1),(iX b4),.la 4 0,.bool r24.ke,(.hm b25),(iX b28),.jN 240 [] [(iX b1),(iX b28)]] H75 [(4,[iv 0,iv 0,iv 0,iE,iE,iE,iE,iE,iD])] e h) ?_ _ _ _ ⟨iE,(([]:List Int)),iE,(([]:List Int)),iE,(([]:List jy)),v36,l37,([]),a1.from_,a1.to,a1.end_,false,H39,rfl,(by simp [lR]),fp,fp,ff,dU,fp,fp,fp,fp,fp,hS61,atR⟩
 rintro m77 e h ⟨v62,l63,v64,l65,v66,l67,v68,l69,l70,n71,n72,n73,b74,H75,hmm77,hKd,hKu,hT,hTu,hB1,hB2,hB3,hB4,hZr,hB5,hS76,hA⟩
 refine s6 hA ?_
 refine cy ?_
 refine mX 4 hS76 v68 ?_
 refine iz rfl (λ_=>oJ (H:=H75) (i:=3) (l:=l69) (enc:=iu.af) hS76 rfl rfl rfl rfl rfl rfl rfl) ?_
 refine jI (λh78=>?_) (λh78=>?_)
 refine a8 ?_
 refine wz [(iX b1),(iX b4),.la 4 0,.bool r24.ke,(.hm b25),(iX b28),.jN 240 [] [(iX b1),(iX b28)]] H75 [(4,[iv 0,iv 0,iv 0,iE,iE,iE,iE,iE,iD])] ?_
 refine qb ?_
 refine cB ?_
 refine jT ?_
 have hk79:((((l69.length:Int) - 1).toNat:Nat):Int)=(l69.length:Int) - 1:=Int.toNat_of_nonneg dP
 have hx80:((l69.length:Int) - 1).toNat<l69.length:=by first | omega | (simp<;>omega) | (simp_all; omega)
 obtain ⟨x81,hqx81⟩:∃ x,l69[((l69.length:Int) - 1).toNat]=x:=⟨_,rfl⟩
 have hinx81:x81∈l69:=by rw [<- hqx81]; exact List.getElem_mem _
 have hmx81:=hTu x81 hinx81
 refine sa rfl (nd (H:=H75) (i:=3) (m:=((l69.length:Int) - 1).toNat) (cs:=iu.af x81) hS76 rfl rfl rfl rfl rfl rfl (congrArg (AV.int .i64) hk79.symm) (lO hx80 hqx81)) ?_
 rintro a82 ⟨ha83,hea84⟩
 refine iz rfl (λ_=>o9 (H:=H75) (i:=3) (m:=((l69.length:Int) - 1).toNat) (o:=0) (r:=.agg (iu.af x81)) (cs:=iu.af x81) hS76 rfl (lO hx80 hqx81) hea84 rfl rfl ha83) ?_
 refine bo ?_
 refine cB ?_
 refine jT ?_
 have hk85:((((l69.length:Int) - 1).toNat:Nat):Int)=(l69.length:Int) - 1:=Int.toNat_of_nonneg dP
 have hx86:((l69.length:Int) - 1).toNat<=l69.length:=by first | omega | (simp<;>omega) | (simp_all; omega)
 have hTl:(l69.take (((l69.length:Int) - 1).toNat)).length+1=l69.length:=by rw [List.length_take]; omega
 have hTu:∀ y∈l69.take (((l69.length:Int) - 1).toNat),y∈univ a0:=λy hy=>hTu y (List.mem_of_mem_take hy)
 refine jq (H:=H75) rfl (wV (H:=H75) (i:=3) (k:=((l69.length:Int) - 1).toNat) hS76 rfl rfl rfl rfl rfl rfl (congrArg (AV.int .i64) hk85.symm) hx86) ?_
 rintro v87 H88 ⟨hc89,hS90⟩
 refine jq (H:=H88) rfl (mP (H:=H88) (i:=4) (o:=0) (r:=v87) hS90 rfl rfl rfl rfl (nG rfl rfl (Sep.cell (i:=3) hS90 rfl)) (iM (Sep.cell (i:=3) hS90 rfl) jP) rfl) ?_
 rintro _ H91 ⟨rfl,hS92⟩
 refine oN ?_
 refine cy ?_
 refine mX 6 hS92 (.agg [iv n71,iv n72,iv n73,ji r8,jM r10,v66,v64,v62,.bool b74]) ?_
 refine aj ?_
 refine nN hS92 2 λr93 hl94 hln97 hz96=>?_
 refine nN hS92 1 λr98 hl99 hln102 hz101=>?_
 refine nN hS92 0 λr103 hl104 hln107 hz106=>?_
 refine mS (args:=[.agg [iv n71,iv n72,iv n73,ji r8,jM r10,v66,v64,v62,.bool b74],iv x81.elem]) (p:=[]) (r:=[]) (args':=[.agg [iv n71,iv n72,iv n73,ji r8,jM r10,jo.av jy.af r93,py r98,py r103,.bool b74],iv x81.elem]) (R:=Vj (⟨n71,n72,n73,(Row.ow r8),(Row.ow r10),r93,r98,r103,b74⟩:sL) x81.elem) rfl rfl rfl rfl rfl rfl rfl fw (kO (by show ju (freeze true { H91 with iq:=[] } 8) [.agg [iv n71,iv n72,iv n73,ji r8,jM r10,v66,v64,v62,.bool b74],iv x81.elem] = _; simp only [FZ,hz96,hz101,hz106]) (iM (X7 (iM rfl (iM rfl (iM rfl (iM rfl (iM rfl (iM (Sep.cell (i:=2) hS92 rfl) (iM (Sep.cell (i:=1) hS92 rfl) (iM (Sep.cell (i:=0) hS92 rfl) (iM rfl jP)))))))))) (iM rfl jP))) (kO fg (iM rfl (iM rfl jP))) (λh=>t241 (⟨n71,n72,n73,(Row.ow r8),(Row.ow r10),r93,r98,r103,b74⟩:sL) x81.elem  h) ?_
 rintro _ ⟨r109,hc108,rfl⟩
 cases r109
 refine aK ?_
 refine mw (H:=H91) (i:=5) (ek:=pK) (ev:=bK) (l:=l70) x81 rfl rfl hS92 rfl rfl rfl rfl rfl rfl rfl rfl lx (λy110 h111=>?_) (λh112=>?_)
 cases y110
 exact absurd (hT _ (oi h111)) fp
 refine cN ?_
 refine ⟨_,?_,v62,l63,v64,l65,v66,l67,v87,((l69.take (((l69.length:Int) - 1).toNat))),l70,n71,n72,n73,b74,H91,rfl,fk,fj,fq,ff,dY,dU,dU,dU,fi,eG,hS92,atR⟩
 first | omega | (simp only [List.length_append,List.length_cons,List.length_nil,List.length_take] at *; omega)
 refine aA ?_
 refine wz [(iX b1),(iX b4),.la 4 0,.bool r24.ke,(.hm b25),(iX b28),.jN 240 [] [(iX b1),(iX b28)],.la 13 0] H91 [(4,[iv 0,iv 0,iv 0,iE,iE,iE,iE,iE,iD]),(13,(iu.af x81))] ?_
 refine ae ?_
 have hPl:(put x81 true l70).length=l70.length+1:=by rw [Gn dS]; simp
 have hKd:lR (put x81 true l70):=EY hKd dS
 have hKu:∀ k∈(put x81 true l70).map Prod.fst,k∈univ a0:=Ks hKu dS
 have hPle:(put x81 true l70).length<=(univ a0).length:=by rw [<- List.length_map Prod.fst]; exact Cz hKd hKu
 have hT:∀ y∈(put x81 true l70),y.2=true:=qR (P:=λy:Bool=>y=true) hT rfl
 refine jq (H:=H91) rfl (mZ (H:=H91) (i:=5) (ek:=pK) (ev:=bK) (l:=l70) x81 true hS92 rfl rfl rfl rfl rfl rfl lx) ?_
 rintro _ H113 ⟨rfl,hS114⟩
 refine oN ?_
 refine zQ (λE Z=>(E=[(2,(iX b1)),(3,(iX b4)),(4,.la 4 0),(5,.bool r24.ke),(6,(.hm b25)),(7,(iX b28)),(12,.jN 240 [] [(iX b1),(iX b28)]),(13,.la 13 0)]/\Z = { H113 with iq:=[(4,[iv 0,iv 0,iv 0,iE,iE,iE,iE,iE,iD]),(13,(iu.af x81))] })) ?_ ?_
 rintro _ _ ⟨rfl,rfl⟩
 refine aa ?_
 refine mX 7 hS114 (.ip (iR.af a0) 0 false) ?_
 refine aj ?_
 refine oC (t85 a0 x81.elem) ?_
 rintro _ ⟨r116,hc115,rfl⟩
 have hK:=hc115
 refine cT ?_
 refine iY (λh117=>?_) (λh117=>?_)
 refine aN ?_
 refine qg ?_
 refine pq 6 hS114 ?_
 refine Jt 6 hS114 (.bool true) λH118 hS119=>?_
 refine oN ?_
 refine ⟨_,?_,v62,l63,v64,l65,v66,l67,v87,((l69.take (((l69.length:Int) - 1).toNat))),((put x81 true l70)),n71,n72,n73,true,H118,rfl,fk,fj,fq,ff,dY,dU,dU,dU,fi,eG,hS119,atR⟩
 first | omega | (simp only [List.length_append,List.length_cons,List.length_nil,List.length_take] at *; omega)
 refine aS ?_
 refine iY (λh120=>?_) (λh120=>?_)
 refine aN ?_
 refine aQ ?_
 refine iY (λh121=>?_) (λh121=>?_)
 refine az ?_
 refine aQ ?_
 have hS122:=Sep.pick hS114 [6,2,1,0,3,4,5,7] 8 dX dX
 refine kj (H:=H113) (args:=[(iX b4),iv x81.elem]) (p:=[]) (r:=[]) rfl rfl rfl rfl rfl rfl rfl (Qn b4 n71 n72 n73 r8 r10 v66 l67 v64 l65 v62 l63 b74 x81.elem (oa iu.af 2 v87 (l69.take (((l69.length:Int) - 1).toNat))::kM b28 [v87]::lJ b25 pK bK (put x81 true l70)::kM b1 [.ip (iR.af a0) 0 false]::[]) hS122 dK) ?_
 rintro _ H123 ⟨r129,vzo126,zoneo127,bareo128,hc125,hS124,rfl⟩
 have hZr:∀ x∈zoneo127,nk x:=λx hx=>(hc125.2 x hx).elim (hZr x) (λe=>by rw [e]; exact q6 _ dS)
 have hc125:=hc125.1
 cases r129
 refine aC ?_
 refine wz [(iX b1),(iX b4),.la 4 0,.bool r24.ke,(.hm b25),(iX b28),.jN 240 [] [(iX b1),(iX b28)]] H123 [(4,[iv 0,iv 0,iv 0,iE,iE,iE,iE,iE,iD])] ?_
 refine qe ?_
 have hS130:=Sep.pick hS124 [3,2,1,4,5,6,0,7] 8 dX dX
 refine ⟨_,?_,v62,l63,vzo126,zoneo127,v66,l67,v87,((l69.take (((l69.length:Int) - 1).toNat))),((put x81 true l70)),n71,n72,n73,bareo128,H123,rfl,fk,fj,fq,ff,dY,dU,dU,dU,fi,eG,hS130,atR⟩
 first | omega | (simp only [List.length_append,List.length_cons,List.length_nil,List.length_take] at *; omega)
 refine az ?_
 refine aP ?_
 have hS131:=Sep.pick hS124 [7,5,4,0,1,2,3,6] 8 dX dX
 refine kj (H:=H123) (args:=[iv x81.elem,iv 2]) (p:=[]) (r:=[(iX b1),(iX b28)]) rfl rfl rfl rfl rfl rfl rfl (JU x81.elem 2 b1 a0 b28 v87 (l69.take (((l69.length:Int) - 1).toNat)) (kM b4 [iv n71,iv n72,iv n73,ji r8,jM r10,v66,vzo126,v62,.bool bareo128]::nH jy.af 2 v66 l67::ot vzo126 zoneo127::ot v62 l63::lJ b25 pK bK (put x81 true l70)::[]) hS131 dK) ?_
 rintro _ H132 ⟨vto135,todoo136,hc134,hS133,rfl⟩
 have hTu:∀ y∈todoo136,y∈univ a0:=λy hy=>(hc134.2 y hy).elim (hTu y) id
 refine oN ?_
 refine bl ?_
 have hS137:=Sep.pick hS133 [0,1,2,3,4,5,6,7] 8 dX dX
 refine kj (H:=H132) (args:=[iv x81.elem,iv 1]) (p:=[]) (r:=[(iX b1),(iX b28)]) rfl rfl rfl rfl rfl rfl rfl (JU x81.elem 1 b1 a0 b28 vto135 todoo136 (kM b4 [iv n71,iv n72,iv n73,ji r8,jM r10,v66,vzo126,v62,.bool bareo128]::nH jy.af 2 v66 l67::ot vzo126 zoneo127::ot v62 l63::lJ b25 pK bK (put x81 true l70)::[]) hS137 dK) ?_
 rintro _ H138 ⟨vto141,todoo142,hc140,hS139,rfl⟩
 have hTu:∀ y∈todoo142,y∈univ a0:=λy hy=>(hc140.2 y hy).elim (hTu y) id
 refine oN ?_
 refine wz [(iX b1),(iX b4),.la 4 0,.bool r24.ke,(.hm b25),(iX b28),.jN 240 [] [(iX b1),(iX b28)]] H138 [(4,[iv 0,iv 0,iv 0,iE,iE,iE,iE,iE,iD])] ?_
 refine qe ?_
 have hS143:=Sep.pick hS139 [6,5,4,2,1,7,3,0] 8 dX dX
 refine ⟨_,?_,v62,l63,vzo126,zoneo127,v66,l67,vto141,todoo142,((put x81 true l70)),n71,n72,n73,bareo128,H138,rfl,fk,fj,fq,ff,dY,dU,dU,dU,fi,eG,hS143,atR⟩
 first | omega | (simp only [List.length_append,List.length_cons,List.length_nil,List.length_take] at *; omega)
 refine aC ?_
 refine wz [(iX b1),(iX b4),.la 4 0,.bool r24.ke,(.hm b25),(iX b28),.jN 240 [] [(iX b1),(iX b28)],.la 13 0] H113 [(4,[iv 0,iv 0,iv 0,iE,iE,iE,iE,iE,iD]),(13,(iu.af x81))] ?_
 refine aE ?_
 refine aF ?_
 refine cy ?_
 refine pq 6 hS114 ?_
 refine mX 6 hS114 (jM r10) ?_
 refine oV ?_
 refine oC (t243 (Row.ow r10) (⟨x81.elem,x81.en⟩:jy)) ?_
 rintro _ ⟨r145,hc144,rfl⟩
 cases r145
 refine oV ?_
 refine dz ?_
 refine oV ?_
 refine nN hS114 2 λr146 hl147 hln150 hz149=>?_
 refine mS (args:=[v66,.agg (iu.af x81)]) (p:=[]) (r:=[]) (args':=[jo.av jy.af r146,.agg (iu.af x81)]) (R:=M0 r146 (⟨x81.elem,x81.en⟩:jy)) rfl rfl rfl rfl rfl (iM (Sep.arg (i:=2) hS114 rfl) (iM rfl jP)) rfl fw (kO (by show ju (freeze true { H113 with iq:=[] } 8) [v66,.agg (iu.af x81)] = _; simp only [FZ,hz149]) (iM (Sep.oZ (i:=2) hS114 rfl) (iM rfl jP))) (kO fg (iM rfl (iM rfl jP))) (λh=>t243 r146 (⟨x81.elem,x81.en⟩:jy)  h) ?_
 rintro _ ⟨r152,hc151,rfl⟩
 cases r152
 refine aA ?_
 refine wz [(iX b1),(iX b4),.la 4 0,.bool r24.ke,(.hm b25),(iX b28),.jN 240 [] [(iX b1),(iX b28)],.la 13 0] H113 [(4,[iv 0,iv 0,iv 0,iE,iE,iE,iE,iE,iD]),(13,(iu.af x81))] ?_
 refine bp ?_
 refine iz rfl (λ_=>iZ rfl rfl rfl (jF .i64 3 x81.en)) ?_
 refine oV ?_
 refine c9 ?_
 refine dz ?_
 refine oV ?_
 refine nN hS114 2 λr153 hl154 hln157 hz156=>?_
 refine mS (args:=[v66,.agg [iv x81.elem,iv (IntKind.i64.wrap (3 - x81.en))]]) (p:=[]) (r:=[]) (args':=[jo.av jy.af r153,.agg [iv x81.elem,iv (IntKind.i64.wrap (3 - x81.en))]]) (R:=M0 r153 (⟨x81.elem,(IntKind.i64.wrap (3 - x81.en))⟩:jy)) rfl rfl rfl rfl rfl (iM (Sep.arg (i:=2) hS114 rfl) (iM rfl jP)) rfl fw (kO (by show ju (freeze true { H113 with iq:=[] } 8) [v66,.agg [iv x81.elem,iv (IntKind.i64.wrap (3 - x81.en))]] = _; simp only [FZ,hz156]) (iM (Sep.oZ (i:=2) hS114 rfl) (iM rfl jP))) (kO fg (iM rfl (iM rfl jP))) (λh=>t243 r153 (⟨x81.elem,(IntKind.i64.wrap (3 - x81.en))⟩:jy)  h) ?_
 rintro _ ⟨r159,hc158,rfl⟩
 cases r159
 refine aN ?_
 refine qg ?_
 refine dz ?_
 refine aj ?_
 refine Nn 2 [(⟨x81.elem,(IntKind.i64.wrap (3 - x81.en))⟩:jy)] hS114 λv160 H161 hS162=>?_
 refine pq 6 hS162 ?_
 refine jq (H:=H161) rfl (mP (H:=H161) (i:=6) (o:=5) (r:=v160) hS162 rfl rfl rfl rfl (nG rfl rfl (Sep.cell (i:=2) hS162 rfl)) (iM (Sep.cell (i:=2) hS162 rfl) jP) rfl) ?_
 rintro _ H163 ⟨rfl,hS164⟩
 refine oN ?_
 refine ⟨_,?_,v62,l63,v64,l65,v160,((l67++[(⟨x81.elem,(IntKind.i64.wrap (3 - x81.en))⟩:jy)])),v87,((l69.take (((l69.length:Int) - 1).toNat))),((put x81 true l70)),n71,n72,n73,b74,H163,rfl,fk,fj,fq,ff,dY,dU,dU,dU,fi,eG,hS164,atR⟩
 first | omega | (simp only [List.length_append,List.length_cons,List.length_nil,List.length_take] at *; omega)
 refine aA ?_
 refine ⟨_,?_,v62,l63,v64,l65,v66,l67,v87,((l69.take (((l69.length:Int) - 1).toNat))),((put x81 true l70)),n71,n72,n73,b74,H113,rfl,fk,fj,fq,ff,dY,dU,dU,dU,fi,eG,hS114,atR⟩
 first | omega | (simp only [List.length_append,List.length_cons,List.length_nil,List.length_take] at *; omega)
 refine aN ?_
 refine aQ ?_
 have hS165:=Sep.pick hS114 [6,2,1,0,3,4,5,7] 8 dX dX
 refine kj (H:=H113) (args:=[(iX b4),iv x81.elem]) (p:=[]) (r:=[]) rfl rfl rfl rfl rfl rfl rfl (Qn b4 n71 n72 n73 r8 r10 v66 l67 v64 l65 v62 l63 b74 x81.elem (oa iu.af 2 v87 (l69.take (((l69.length:Int) - 1).toNat))::kM b28 [v87]::lJ b25 pK bK (put x81 true l70)::kM b1 [.ip (iR.af a0) 0 false]::[]) hS165 dK) ?_
 rintro _ H166 ⟨r172,vzo169,zoneo170,bareo171,hc168,hS167,rfl⟩
 have hZr:∀ x∈zoneo170,nk x:=λx hx=>(hc168.2 x hx).elim (hZr x) (λe=>by rw [e]; exact q6 _ dS)
 have hc168:=hc168.1
 cases r172
 refine aC ?_
 refine wz [(iX b1),(iX b4),.la 4 0,.bool r24.ke,(.hm b25),(iX b28),.jN 240 [] [(iX b1),(iX b28)]] H166 [(4,[iv 0,iv 0,iv 0,iE,iE,iE,iE,iE,iD])] ?_
 refine qe ?_
 have hS173:=Sep.pick hS167 [3,2,1,4,5,6,0,7] 8 dX dX
 refine ⟨_,?_,v62,l63,vzo169,zoneo170,v66,l67,v87,((l69.take (((l69.length:Int) - 1).toNat))),((put x81 true l70)),n71,n72,n73,bareo171,H166,rfl,fk,fj,fq,ff,dY,dU,dU,dU,fi,eG,hS173,atR⟩
 first | omega | (simp only [List.length_append,List.length_cons,List.length_nil,List.length_take] at *; omega)
 refine ce ?_
 have hS174:=Sep.pick hS167 [7,5,4,0,1,2,3,6] 8 dX dX
 refine kj (H:=H166) (args:=[iv x81.elem,iv 0]) (p:=[]) (r:=[(iX b1),(iX b28)]) rfl rfl rfl rfl rfl rfl rfl (JU x81.elem 0 b1 a0 b28 v87 (l69.take (((l69.length:Int) - 1).toNat)) (kM b4 [iv n71,iv n72,iv n73,ji r8,jM r10,v66,vzo169,v62,.bool bareo171]::nH jy.af 2 v66 l67::ot vzo169 zoneo170::ot v62 l63::lJ b25 pK bK (put x81 true l70)::[]) hS174 dK) ?_
 rintro _ H175 ⟨vto178,todoo179,hc177,hS176,rfl⟩
 have hTu:∀ y∈todoo179,y∈univ a0:=λy hy=>(hc177.2 y hy).elim (hTu y) id
 refine oN ?_
 refine wz [(iX b1),(iX b4),.la 4 0,.bool r24.ke,(.hm b25),(iX b28),.jN 240 [] [(iX b1),(iX b28)]] H175 [(4,[iv 0,iv 0,iv 0,iE,iE,iE,iE,iE,iD])] ?_
 refine qe ?_
 have hS180:=Sep.pick hS176 [6,5,4,2,1,7,3,0] 8 dX dX
 refine ⟨_,?_,v62,l63,vzo169,zoneo170,v66,l67,vto178,todoo179,((put x81 true l70)),n71,n72,n73,bareo171,H175,rfl,fk,fj,fq,ff,dY,dU,dU,dU,fi,eG,hS180,atR⟩
 first | omega | (simp only [List.length_append,List.length_cons,List.length_nil,List.length_take] at *; omega)
 refine bF ?_
 refine aN ?_
 refine aQ ?_
 have hS181:=Sep.pick hS114 [6,2,1,0,3,4,5,7] 8 dX dX
 refine kj (H:=H113) (args:=[(iX b4),iv x81.elem]) (p:=[]) (r:=[]) rfl rfl rfl rfl rfl rfl rfl (Qn b4 n71 n72 n73 r8 r10 v66 l67 v64 l65 v62 l63 b74 x81.elem (oa iu.af 2 v87 (l69.take (((l69.length:Int) - 1).toNat))::kM b28 [v87]::lJ b25 pK bK (put x81 true l70)::kM b1 [.ip (iR.af a0) 0 false]::[]) hS181 dK) ?_
 rintro _ H182 ⟨r188,vzo185,zoneo186,bareo187,hc184,hS183,rfl⟩
 have hZr:∀ x∈zoneo186,nk x:=λx hx=>(hc184.2 x hx).elim (hZr x) (λe=>by rw [e]; exact q6 _ dS)
 have hc184:=hc184.1
 cases r188
 refine aC ?_
 refine wz [(iX b1),(iX b4),.la 4 0,.bool r24.ke,(.hm b25),(iX b28),.jN 240 [] [(iX b1),(iX b28)]] H182 [(4,[iv 0,iv 0,iv 0,iE,iE,iE,iE,iE,iD])] ?_
 refine qe ?_
 have hS189:=Sep.pick hS183 [3,2,1,4,5,6,0,7] 8 dX dX
 refine ⟨_,?_,v62,l63,vzo185,zoneo186,v66,l67,v87,((l69.take (((l69.length:Int) - 1).toNat))),((put x81 true l70)),n71,n72,n73,bareo187,H182,rfl,fk,fj,fq,ff,dY,dU,dU,dU,fi,eG,hS189,atR⟩
 first | omega | (simp only [List.length_append,List.length_cons,List.length_nil,List.length_take] at *; omega)
 refine ce ?_
 have hS190:=Sep.pick hS183 [7,5,4,0,1,2,3,6] 8 dX dX
 refine kj (H:=H182) (args:=[iv x81.elem,iv 0]) (p:=[]) (r:=[(iX b1),(iX b28)]) rfl rfl rfl rfl rfl rfl rfl (JU x81.elem 0 b1 a0 b28 v87 (l69.take (((l69.length:Int) - 1).toNat)) (kM b4 [iv n71,iv n72,iv n73,ji r8,jM r10,v66,vzo185,v62,.bool bareo187]::nH jy.af 2 v66 l67::ot vzo185 zoneo186::ot v62 l63::lJ b25 pK bK (put x81 true l70)::[]) hS190 dK) ?_
 rintro _ H191 ⟨vto194,todoo195,hc193,hS192,rfl⟩
 have hTu:∀ y∈todoo195,y∈univ a0:=λy hy=>(hc193.2 y hy).elim (hTu y) id
 refine oN ?_
 refine wz [(iX b1),(iX b4),.la 4 0,.bool r24.ke,(.hm b25),(iX b28),.jN 240 [] [(iX b1),(iX b28)]] H191 [(4,[iv 0,iv 0,iv 0,iE,iE,iE,iE,iE,iD])] ?_
 refine qe ?_
 have hS196:=Sep.pick hS192 [6,5,4,2,1,7,3,0] 8 dX dX
 refine ⟨_,?_,v62,l63,vzo185,zoneo186,v66,l67,vto194,todoo195,((put x81 true l70)),n71,n72,n73,bareo187,H191,rfl,fk,fj,fq,ff,dY,dU,dU,dU,fi,eG,hS196,atR⟩
 first | omega | (simp only [List.length_append,List.length_cons,List.length_nil,List.length_take] at *; omega)
 refine aS ?_
 refine mX 7 hS114 (.ip (iR.af a0) 0 false) ?_
 refine bk ?_
 refine oC (t244 a0 x81.elem x81.en 0) ?_
 rintro _ ⟨r198,r199,hc197,rfl⟩
 cases r199
 refine aK ?_
 refine c9 ?_
 refine cH ?_
 refine aA ?_
 refine ⟨_,?_,v62,l63,v64,l65,v66,l67,v87,((l69.take (((l69.length:Int) - 1).toNat))),((put x81 true l70)),n71,n72,n73,b74,H113,rfl,fk,fj,fq,ff,dY,dU,dU,dU,fi,eG,hS114,atR⟩
 first | omega | (simp only [List.length_append,List.length_cons,List.length_nil,List.length_take] at *; omega)
 refine cF ?_
 refine bp ?_
 have hS200:=Sep.pick hS114 [6,2,1,0,3,4,5,7] 8 dX dX
 refine kj (H:=H113) (args:=[(iX b4),iv x81.elem]) (p:=[]) (r:=[]) rfl rfl rfl rfl rfl rfl rfl (Qn b4 n71 n72 n73 r8 r10 v66 l67 v64 l65 v62 l63 b74 x81.elem (oa iu.af 2 v87 (l69.take (((l69.length:Int) - 1).toNat))::kM b28 [v87]::lJ b25 pK bK (put x81 true l70)::kM b1 [.ip (iR.af a0) 0 false]::[]) hS200 dK) ?_
 rintro _ H201 ⟨r207,vzo204,zoneo205,bareo206,hc203,hS202,rfl⟩
 have hZr:∀ x∈zoneo205,nk x:=λx hx=>(hc203.2 x hx).elim (hZr x) (λe=>by rw [e]; exact q6 _ dS)
 have hc203:=hc203.1
 cases r207
 refine aA ?_
 have hS208:=Sep.pick hS202 [3,2,1,4,5,6,0,7] 8 dX dX
 refine ⟨_,?_,v62,l63,vzo204,zoneo205,v66,l67,v87,((l69.take (((l69.length:Int) - 1).toNat))),((put x81 true l70)),n71,n72,n73,bareo206,H201,rfl,fk,fj,fq,ff,dY,dU,dU,dU,fi,eG,hS208,atR⟩
 first | omega | (simp only [List.length_append,List.length_cons,List.length_nil,List.length_take] at *; omega)
 refine aN ?_
 refine qg ?_
 refine bk ?_
 have hS209:=Sep.pick hS202 [7,5,4,0,1,2,3,6] 8 dX dX
 refine kj (H:=H201) (args:=[iv x81.elem,iv r198]) (p:=[]) (r:=[(iX b1),(iX b28)]) rfl rfl rfl rfl rfl rfl rfl (JU x81.elem r198 b1 a0 b28 v87 (l69.take (((l69.length:Int) - 1).toNat)) (kM b4 [iv n71,iv n72,iv n73,ji r8,jM r10,v66,vzo204,v62,.bool bareo206]::nH jy.af 2 v66 l67::ot vzo204 zoneo205::ot v62 l63::lJ b25 pK bK (put x81 true l70)::[]) hS209 dK) ?_
 rintro _ H210 ⟨vto213,todoo214,hc212,hS211,rfl⟩
 have hTu:∀ y∈todoo214,y∈univ a0:=λy hy=>(hc212.2 y hy).elim (hTu y) id
 refine oN ?_
 have hS215:=Sep.pick hS211 [6,5,4,2,1,7,3,0] 8 dX dX
 refine ⟨_,?_,v62,l63,vzo204,zoneo205,v66,l67,vto213,todoo214,((put x81 true l70)),n71,n72,n73,bareo206,H210,rfl,fk,fj,fq,ff,dY,dU,dU,dU,fi,eG,hS215,atR⟩
 first | omega | (simp only [List.length_append,List.length_cons,List.length_nil,List.length_take] at *; omega)
 refine aa ?_
 refine mX 7 hS114 (.ip (iR.af a0) 0 false) ?_
 refine oV ?_
 refine oC (t146 a0 x81) ?_
 rintro _ ⟨r217,hc216,rfl⟩
 have hR:=hc216
 refine cR ?_
 refine kL (λh218=>?_) (λh218=>?_)
 refine oV ?_
 refine kS (b:=r24.ke) rfl (λ_=>rfl) (λh219=>?_) (λh219=>?_)
 refine dF ?_
 exact ⟨rfl,rfl⟩
 refine oV ?_
 refine aN ?_
 refine cy ?_
 refine pq 6 hS114 ?_
 refine mX 6 hS114 v62 ?_
 refine oV ?_
 refine nN hS114 0 λr220 hl221 hln224 hz223=>?_
 refine mS (args:=[v62,iv r217]) (p:=[]) (r:=[]) (args':=[py r220,iv r217]) (R:=Tj r220 r217) rfl rfl rfl rfl rfl (iM (Sep.arg (i:=0) hS114 rfl) (iM rfl jP)) rfl fw (kO (by show ju (freeze true { H113 with iq:=[] } 8) [v62,iv r217] = _; simp only [FZ,hz223]) (iM (Sep.oZ (i:=0) hS114 rfl) (iM rfl jP))) (kO fg (iM rfl (iM rfl jP))) (λh=>t74 r220 r217  h) ?_
 rintro _ ⟨r226,hc225,rfl⟩
 have hIn:=hc225
 cases r226
 refine aN ?_
 refine qg ?_
 refine pq 6 hS114 ?_
 refine mX 6 hS114 v62 ?_
 refine aj ?_
 refine Nn 0 [r217] hS114 λv227 H228 hS229=>?_
 refine pq 6 hS229 ?_
 refine jq (H:=H228) rfl (mP (H:=H228) (i:=6) (o:=7) (r:=v227) hS229 rfl rfl rfl rfl (nG rfl rfl (Sep.cell (i:=0) hS229 rfl)) (iM (Sep.cell (i:=0) hS229 rfl) jP) rfl) ?_
 rintro _ H230 ⟨rfl,hS231⟩
 refine oN ?_
 refine wz [(iX b1),(iX b4),.la 4 0,.bool r24.ke,(.hm b25),(iX b28),.jN 240 [] [(iX b1),(iX b28)]] H230 [(4,[iv 0,iv 0,iv 0,iE,iE,iE,iE,iE,iD])] ?_
 refine qe ?_
 refine ⟨_,?_,v227,((l63++[r217])),v64,l65,v66,l67,v87,((l69.take (((l69.length:Int) - 1).toNat))),((put x81 true l70)),n71,n72,n73,b74,H230,rfl,fk,fj,fq,ff,dY,dU,dU,dU,fi,eG,hS231,atR⟩
 first | omega | (simp only [List.length_append,List.length_cons,List.length_nil,List.length_take] at *; omega)
 refine aA ?_
 refine wz [(iX b1),(iX b4),.la 4 0,.bool r24.ke,(.hm b25),(iX b28),.jN 240 [] [(iX b1),(iX b28)]] H113 [(4,[iv 0,iv 0,iv 0,iE,iE,iE,iE,iE,iD])] ?_
 refine qe ?_
 refine ⟨_,?_,v62,l63,v64,l65,v66,l67,v87,((l69.take (((l69.length:Int) - 1).toNat))),((put x81 true l70)),n71,n72,n73,b74,H113,rfl,fk,fj,fq,ff,dY,dU,dU,dU,fi,eG,hS114,atR⟩
 first | omega | (simp only [List.length_append,List.length_cons,List.length_nil,List.length_take] at *; omega)
 refine be ?_
 refine aA ?_
 exact ⟨rfl,rfl⟩
 refine cr ?_
 refine cN ?_
 refine ⟨_,?_,v62,l63,v64,l65,v66,l67,v87,((l69.take (((l69.length:Int) - 1).toNat))),l70,n71,n72,n73,b74,H91,rfl,fk,fj,fq,ff,dY,dU,dU,dU,fi,eG,hS92,atR⟩
 first | omega | (simp only [List.length_append,List.length_cons,List.length_nil,List.length_take] at *; omega)
 refine aJ ?_
 refine wz [(iX b4),.la 4 0,.la 4 0] H75 [(4,[iv 0,iv 0,iv 0,iE,iE,iE,iE,iE,iD]),(4,[iv 0,iv 0,iv 0,iE,iE,iE,iE,iE,iD])] ?_
 refine aa ?_
 refine mX 6 hS76 (.agg [iv n71,iv n72,iv n73,ji r8,jM r10,v66,v64,v62,.bool b74]) ?_
 refine iz rfl (λ_=>yL rfl rfl rfl rfl (iM rfl (iM rfl (iM rfl (iM rfl (iM rfl (iM (Sep.cell (i:=2) hS76 rfl) (iM (Sep.cell (i:=1) hS76 rfl) (iM (Sep.cell (i:=0) hS76 rfl) (iM rfl jP))))))))) rfl rfl) ?_
 refine oN ?_
 refine qr ?_
 obtain ⟨r232,hl233,hf234⟩:=lS (H:=H75) (i:=2) (l:=l67) (enc:=jy.af) hS76 rfl dQ
 have hlq:=hl233; have hln236:=congrArg List.length hl233
 have hz235:∀ m,freeze false { H75 with iq:=[(4,[iv n71,iv n72,iv n73,ji r8,jM r10,v66,v64,v62,.bool b74])] } (m+2) v66=some (jM r232):=λm=>hf234 _ _ (λ_=>rfl)
 obtain ⟨r237,hl238,hf239⟩:=lS (H:=H75) (i:=1) (l:=l65) (enc:=iP) hS76 rfl dQ
 have hlq:=hl238; have hln241:=congrArg List.length hl238
 have hz240:∀ m,freeze false { H75 with iq:=[(4,[iv n71,iv n72,iv n73,ji r8,jM r10,v66,v64,v62,.bool b74])] } (m+2) v64=some (jV r237):=λm=>hf239 _ _ (λ_=>rfl)
 obtain ⟨r242,hl243,hf244⟩:=lS (H:=H75) (i:=0) (l:=l63) (enc:=iP) hS76 rfl dQ
 have hlq:=hl243; have hln246:=congrArg List.length hl243
 have hz245:∀ m,freeze false { H75 with iq:=[(4,[iv n71,iv n72,iv n73,ji r8,jM r10,v66,v64,v62,.bool b74])] } (m+2) v62=some (jV r242):=λm=>hf244 _ _ (λ_=>rfl)
 exact ⟨.agg [iv n71,iv n72,iv n73,ji r8,jM r10,v66,v64,v62,.bool b74],(kY (vs:=[.agg [iv n71,iv n72,iv n73,ji r8,jM r10,v66,v64,v62,.bool b74]]) rfl rfl),.agg [iv n71,iv n72,iv n73,ji r8,jM r10,jM r232,jV r237,jV r242,.bool b74],(show freeze false { H75 with iq:=[(4,[iv n71,iv n72,iv n73,ji r8,jM r10,v66,v64,v62,.bool b74])] } 8 (.agg [iv n71,iv n72,iv n73,ji r8,jM r10,v66,v64,v62,.bool b74])=some (.agg [iv n71,iv n72,iv n73,ji r8,jM r10,jM r232,jV r237,jV r242,.bool b74]) by simp only [FZ,hz235,hz240,hz245]),(⟨n71,n72,n73,r8,r10,r232,r237,r242,b74⟩:iQ),(by refine ⟨by simp_all [Row.ow],by simp_all [Row.ow],by dsimp only; omega,?_,by dsimp only; omega,by dsimp only; omega⟩; simp_all),rfl⟩
def acH (_a0:bS) (v:AV):Prop:=∃ r0:jR,∃ r1:Int,((r1=0->((∀ r∈(r0.roads.l:List iQ),0<r.steps.l.length/\r.steps.l.length<=12/\r.lQ.l.length<=12/\nL r)/\r0.roads.l.length<=64)/\(r0.vk = _a0.canon/\∃ n:iR,rG n _a0/\rs 49 [.agg (bS.af _a0)]=.je [.ip (iR.af n) 0 false,iv 0])))/\v=.je [.agg (jR.af r0),iv r1]
def ad1 (a0:bS) (q1:mu a0):Ct 67 [.agg (bS.af a0)] (acH a0):=by
 refine ja MT ?_
 refine ae ?_
 refine cR ?_
 refine oC (t49 a0 dK) ?_
 rintro _ (⟨r2,⟨hc1,hc1r⟩,rfl⟩ | ⟨r3,⟨hc1,hc1r⟩,rfl⟩)
 have hFw:=hc1.NG; have hFs:=hc1.NG.signals; have hFl:=hc1.len; have hRg:=hc1.rg; have hNe:=hc1; have hNr:=hc1r
 refine cF ?_
 refine ah ?_
 refine dE ?_
 refine kj (H:=aT.empty) (args:=[.ip (iR.af r2) 0 false]) (p:=[]) (r:=[]) rfl rfl rfl rfl rfl rfl rfl (s52 r2 ([]) j1 dK dK) ?_
 rintro _ H5 ⟨ov8,ol9,eo10,hc7,hS6,rfl⟩
 have hR:=hc7.1
 have hI:=hc7.2
 refine cF ?_
 refine ah ?_
 refine kE (λh11=>?_) (λh11=>?_)
 refine az ?_
 refine aa ?_
 refine ck ?_
 exact xG ⟨(⟨(⟨(kI:Row j9),(kI:Row j3),(kI:Row j6),(kI:Row jx),0,0,0,0,false⟩:bS),(kI:Row iQ)⟩:jR),eo10,dZ,rfl⟩
 refine aC ?_
 refine wz [.la 2 0,.ip (iR.af r2) 0 false,ov8] H5 [(2,[iE,iE,iE,iE,iv 0,iv 0,iv 0,iv 0,iD,iE])] ?_ (jd hS6 [(6,0)])
 refine ah ?_
 refine iz rfl (λ_=>oJ (i:=0) hS6 rfl rfl rfl rfl rfl rfl rfl) ?_
 refine aL ?_
 refine iF ol9.length (λqf e h=>∃ v13:AV,∃ l14:List iQ,∃ H15:aT,((∀ r∈(l14:List iQ),0<r.steps.l.length/\r.steps.l.length<=12/\r.lQ.l.length<=12/\nL r))/\(l14.length<=64/\(l14.length:Int)=(ol9.length:Int))/\Sep H15 (nH iQ.af 9 v13 l14::[])/\At [2,4,6,27,28] [.la 2 0,.ip (iR.af r2) 0 false,v13,ir ol9.length,ir qf] H15 [(2,[iE,iE,iE,iE,iv 0,iv 0,iv 0,iv 0,iD,iE])] e h) ?_ (k0:=0) dT ⟨ov8,ol9,H5,(by exact hR),dT,hS6,(jd hS6 [(6,0)])⟩
 rintro qf e h hkk12 ⟨v13,l14,H15,hR,hI,hS16,hA⟩
 refine aO ?_
 refine iV (λh17=>?_) (λh17=>?_)
 refine ap ?_
 refine wz [.la 2 0,.ip (iR.af r2) 0 false,v13,ir ol9.length,ir qf] H15 [(2,[iE,iE,iE,iE,iv 0,iv 0,iv 0,iv 0,iD,iE])] ?_ (jd hS16 [(6,0)])
 refine aD ?_
 refine ae ?_
 refine cV ?_
 refine ci ?_
 have hx18:qf<l14.length:=by first | omega | (simp<;>omega) | (simp_all; omega)
 obtain ⟨x19,hqx19⟩:∃ x,l14[qf]=x:=⟨_,rfl⟩
 have hinx19:x19∈l14:=by rw [<- hqx19]; exact List.getElem_mem _
 have hsx19:=hR x19 hinx19; have hsG:=hsx19
 refine sa rfl (nd (i:=0) (m:=qf) (cs:=iQ.af x19) hS16 rfl rfl rfl rfl rfl rfl rfl (lO hx18 hqx19)) ?_
 rintro a20 ⟨ha21,hea22⟩
 refine iz rfl (λ_=>o9 (i:=0) (m:=qf) (o:=0) (r:=.agg (iQ.af x19)) (cs:=iQ.af x19) hS16 rfl (lO hx18 hqx19) hea22 rfl rfl ha21) ?_
 refine oC (t132 r2 x19 dK dK dK dK dK) ?_
 rintro _ ⟨r24,hc23,rfl⟩
 have hC53:=hc23
 have hx25:qf<l14.length:=by first | omega | (simp<;>omega) | (simp_all; omega)
 refine sa rfl (nd (i:=0) (m:=qf) (cs:=iQ.af x19) hS16 rfl rfl rfl rfl rfl rfl rfl (lO hx25 hqx19)) ?_
 rintro a26 ⟨ha27,hea28⟩
 refine jq rfl (vB (i:=0) (m:=qf) (o:=0) x19 r24 hS16 rfl hx25 hqx19 hea28 rfl ha27 rfl rfl rfl rfl) ?_
 rintro _ H29 ⟨rfl,hS30⟩
 refine oN ?_
 refine wz [.la 2 0,.ip (iR.af r2) 0 false,v13,ir ol9.length,ir qf] H29 [(2,[iE,iE,iE,iE,iv 0,iv 0,iv 0,iv 0,iD,iE])] ?_ (jd hS30 [(6,0)])
 refine qg ?_
 refine jc ?_
 refine ab ?_
 exact ⟨by omega,v13,((l14.set qf r24)),H29,(by exact Gh hR (by rw [hC53.1,hC53.2.1]; exact ⟨hsG.1,hsG.2.1,hsG.2.2.1,MN hC53.1 hsG.2.2.2 hC53.2.2⟩)),eH,hS30,(jd hS30 [(6,0)])⟩
 refine ao ?_
 refine wz [.la 2 0,.la 2 0,.ip (iR.af r2) 0 false,v13] H15 [(2,[iE,iE,iE,iE,iv 0,iv 0,iv 0,iv 0,iD,iE]),(2,[iE,iE,iE,iE,iv 0,iv 0,iv 0,iv 0,iD,iE])] ?_ (jd hS16 [(6,0)])
 refine aE ?_
 refine oC (t133 r2 dK) ?_
 rintro _ ⟨r32,hc31,rfl⟩
 have hPl:=hc31.2.2.2.2.2
 refine oV ?_
 rcases Sep.YD (i:=0) hS16 rfl with ⟨rfl,hx35⟩ | ⟨rfl,hx35⟩ | ⟨b33,g34,rfl⟩
 refine b8 ?_
 exact xG ⟨(⟨r32,(kI:Row iQ)⟩:jR),0,dZ,rfl⟩
 refine b8 ?_
 obtain ⟨r36,hl37,hf38⟩:=lS (H:=H15) (i:=0) (l:=l14) (enc:=iQ.af) hS16 rfl dQ
 have hlq:=hl37; have hln40:=congrArg List.length hl37
 have hz39:∀ m,freeze false { H15 with iq:=[(2,[jw r32.elems,jC r32.iO,jD r32.signals,jr r32.lines,iv r32.top,iv r32.jY,iv r32.j5,iv r32.j8,.bool r32.ke,(.sl [] (.exact 0))])] } (m+2) (.sl [] (.exact 0))=some (js r36):=λm=>hf38 _ _ (λ_=>by simp only [iQ.af,ju,uj,tH,wi,tO,wb])
 exact ⟨.je [.agg [jw r32.elems,jC r32.iO,jD r32.signals,jr r32.lines,iv r32.top,iv r32.jY,iv r32.j5,iv r32.j8,.bool r32.ke,(.sl [] (.exact 0))],iv 0],rfl,.je [.agg [jw r32.elems,jC r32.iO,jD r32.signals,jr r32.lines,iv r32.top,iv r32.jY,iv r32.j5,iv r32.j8,.bool r32.ke,js r36],iv 0],(show freeze false { H15 with iq:=[(2,[jw r32.elems,jC r32.iO,jD r32.signals,jr r32.lines,iv r32.top,iv r32.jY,iv r32.j5,iv r32.j8,.bool r32.ke,(.sl [] (.exact 0))])] } 8 (.je [.agg [jw r32.elems,jC r32.iO,jD r32.signals,jr r32.lines,iv r32.top,iv r32.jY,iv r32.j5,iv r32.j8,.bool r32.ke,(.sl [] (.exact 0))],iv 0])=some (.je [.agg [jw r32.elems,jC r32.iO,jD r32.signals,jr r32.lines,iv r32.top,iv r32.jY,iv r32.j5,iv r32.j8,.bool r32.ke,js r36],iv 0]) by simp only [FZ,hz39]),(⟨r32,r36⟩:jR),0,dZ,rfl⟩
 refine b8 ?_
 obtain ⟨r41,hl42,hf43⟩:=lS (H:=H15) (i:=0) (l:=l14) (enc:=iQ.af) hS16 rfl dQ
 have hlq:=hl42; have hln45:=congrArg List.length hl42
 have hz44:∀ m,freeze false { H15 with iq:=[(2,[jw r32.elems,jC r32.iO,jD r32.signals,jr r32.lines,iv r32.top,iv r32.jY,iv r32.j5,iv r32.j8,.bool r32.ke,(.hs b33 g34 0 (List.map iQ.af l14).length)])] } (m+2) (.hs b33 g34 0 (List.map iQ.af l14).length)=some (js r41):=λm=>hf43 _ _ (λ_=>by simp only [iQ.af,ju,uj,tH,wi,tO,wb])
 exact ⟨.je [.agg [jw r32.elems,jC r32.iO,jD r32.signals,jr r32.lines,iv r32.top,iv r32.jY,iv r32.j5,iv r32.j8,.bool r32.ke,(.hs b33 g34 0 (List.map iQ.af l14).length)],iv 0],rfl,.je [.agg [jw r32.elems,jC r32.iO,jD r32.signals,jr r32.lines,iv r32.top,iv r32.jY,iv r32.j5,iv r32.j8,.bool r32.ke,js r41],iv 0],(show freeze false { H15 with iq:=[(2,[jw r32.elems,jC r32.iO,jD r32.signals,jr r32.lines,iv r32.top,iv r32.jY,iv r32.j5,iv r32.j8,.bool r32.ke,(.hs b33 g34 0 (List.map iQ.af l14).length)])] } 8 (.je [.agg [jw r32.elems,jC r32.iO,jD r32.signals,jr r32.lines,iv r32.top,iv r32.jY,iv r32.j5,iv r32.j8,.bool r32.ke,(.hs b33 g34 0 (List.map iQ.af l14).length)],iv 0])=some (.je [.agg [jw r32.elems,jC r32.iO,jD r32.signals,jr r32.lines,iv r32.top,iv r32.jY,iv r32.j5,iv r32.j8,.bool r32.ke,js r41],iv 0]) by simp only [FZ,hz44]),(⟨r32,r41⟩:jR),0,dZ,rfl⟩
 refine cF ?_
 refine ah ?_
 refine kE (λh46=>?_) (λh46=>?_)
 refine az ?_
 refine aa ?_
 refine ck ?_
 exact xG ⟨(⟨(⟨(kI:Row j9),(kI:Row j3),(kI:Row j6),(kI:Row jx),0,0,0,0,false⟩:bS),(kI:Row iQ)⟩:jR),r3,dZ,rfl⟩
 refine aC ?_
 refine aE ?_
 exfalso; omega
def P67 (_a0:bS) (v:AV):Prop:=∃ r0:jR,∃ r1:Int,(((r1=0->((∀ r∈(r0.roads.l:List iQ),0<r.steps.l.length/\r.steps.l.length<=12/\r.lQ.l.length<=12/\nL r)/\r0.roads.l.length<=64)/\(r0.vk = _a0.canon/\∃ n:iR,rG n _a0/\rs 49 [.agg (bS.af _a0)]=.je [.ip (iR.af n) 0 false,iv 0])))/\rs 67 [.agg (bS.af _a0)]=.je [.agg (jR.af r0),iv r1])/\v=.je [.agg (jR.af r0),iv r1]
def t67 (a0:bS) (q1:mu a0) (h:aT):∃ v,jf cfg FT jA false 67 [.agg (bS.af a0)] h v h/\P67 a0 v:=by
 obtain ⟨v,hc,hP,hr⟩:=rX yT (ad1 a0 q1) h
 obtain ⟨r0,r1,hp,rfl⟩:=hP
 exact ⟨_,hc,r0,r1,⟨hp,hr⟩,rfl⟩
def P26 (_a0:bS) (v:AV):Prop:=∃ r0:jR,∃ r1:Bool,((r1=true->mu _a0/\r0.roads.l.length<=64/\(r0.vk = _a0.canon/\∃ n:iR,rG n _a0/\rs 49 [.agg (bS.af _a0)]=.je [.ip (iR.af n) 0 false,iv 0])/\rs 67 [.agg (bS.af _a0)]=.je [.agg (jR.af r0),iv 0]/\rs 45 [.agg (bS.af _a0)]=.bool true/\(∀ r∈(r0.roads.l:List iQ),0<r.steps.l.length/\r.steps.l.length<=12/\r.lQ.l.length<=12/\nL r)))/\v=.je [.agg (jR.af r0),.bool r1]
def t26 (a0:bS) (hJg:JG a0):Ct 26 [.agg (bS.af a0)] (P26 a0):=by
 refine ja Lj ?_
 refine bR ?_
 refine ah ?_
 refine oC (t45 a0 dK) ?_
 rintro _ ⟨r2,⟨hc1,hc1r⟩,rfl⟩
 have hFr:=hc1r
 cases r2
 clear hc1
 refine co ?_
 exact xG ⟨(⟨(⟨(kI:Row j9),(kI:Row j3),(kI:Row j6),(kI:Row jx),0,0,0,0,false⟩:bS),(kI:Row iQ)⟩:jR),false,eL,rfl⟩
 have hc1t:=hc1 rfl
 refine dE ?_
 refine oC (t67 a0 dK) ?_
 rintro _ ⟨r4,r5,⟨hc3,hc3r⟩,rfl⟩
 have hBd:=hc3; have hBr:=hc3r
 refine aK ?_
 refine dh ?_
 refine iY (λh6=>?_) (λh6=>?_)
 refine bE ?_
 exact xG ⟨r4,true,eL,rfl⟩
 refine bE ?_
 exact xG ⟨r4,false,eL,rfl⟩
def P44 (_a0:iI) (v:AV):Prop:=∃ r0:Bool,((r0=true->_a0.iW.l.length<=10))/\v=.bool r0
def t44 (a0:iI) :Ct 44 [.agg (iI.af a0)] (P44 a0):=by
 refine ja Nd ?_
 refine bb ?_
 refine aQ ?_
 have hL1:=a0.iW.lk
 refine jb a0.iW ?_
 refine jI (λh2=>?_) (λh2=>?_)
 refine bF ?_
 refine aq ?_
 exact gT
 refine aK ?_
 have hL3:=a0.runs.lk
 refine jb a0.runs ?_
 refine jI (λh4=>?_) (λh4=>?_)
 refine aq ?_
 exact gT
 refine aA ?_
 refine aQ ?_
 have hL5:=a0.runs.lk
 refine jb a0.runs ?_
 refine aL ?_
 have hNk6:=a0.runs.lk
 refine iF a0.runs.l.length (λk6 e h=>At [1,18,19,20] [.la 1 0,qO a0.runs,ir a0.runs.l.length,ir k6] aT.empty [(1,(iI.af a0))] e h) ?_ (k0:=0) dT atR
 rintro k6 e h hkk6 hA
 refine aO ?_
 refine iV (λh7=>?_) (λh7=>?_)
 refine b5 ?_
 have hx8:k6<a0.runs.l.length:=by omega
 refine kH k6 a0.runs hx8 ?_
 generalize hqx9:a0.runs.l[k6]=x9
 refine dh ?_
 have hL10:=x9.jE.lk
 refine jb x9.jE ?_
 refine jI (λh11=>?_) (λh11=>?_)
 refine bF ?_
 refine aq ?_
 exact gT
 refine bk ?_
 refine jI (λh12=>?_) (λh12=>?_)
 refine aq ?_
 exact gT
 refine cD ?_
 refine jc ?_
 refine ab ?_
 exact gm
 refine ao ?_
 refine aQ ?_
 have hL13:=a0.iW.lk
 refine jb a0.iW ?_
 refine aL ?_
 have hNk14:=a0.iW.lk
 refine iF a0.iW.l.length (λou e h=>At [36,37,38] [nz a0.iW,ir a0.iW.l.length,ir ou] aT.empty [] e h) ?_ (k0:=0) dT atR
 rintro ou e h hkk14 hA
 refine aO ?_
 refine iV (λh15=>?_) (λh15=>?_)
 refine b5 ?_
 have hx16:ou<a0.iW.l.length:=by omega
 refine kH ou a0.iW hx16 ?_
 generalize hqx17:a0.iW.l[ou]=x17
 refine ba ?_
 refine aP ?_
 refine jI (λh18=>?_) (λh18=>?_)
 refine bu ?_
 exact gT
 refine cm ?_
 refine jc ?_
 refine ab ?_
 exact gm
 refine cG ?_
 exact xB ⟨true,eZ,rfl⟩
def ac8 (_a0:Int) (_a1:Int) (_a2:Int) (v:AV):Prop:=∃ r0:Bool,((r0=true->_a1<=_a0/\_a0<=_a2))/\v=.bool r0
def t323 (a0:Int) (a1:Int) (a2:Int) :Ct 323 [iv a0,iv a1,iv a2] (ac8 a0 a1 a2):=by
 refine ja Hw ?_
 refine aU ?_
 refine ae ?_
 refine kL (λh1=>?_) (λh1=>?_)
 refine aK ?_
 refine ux (λh2=>?_) (λh2=>?_)
 refine bE ?_
 exact gA
 refine bE ?_
 exact gB
 refine cr ?_
 refine bE ?_
 exact gB
def aek (_a0:jW) (v:AV):Prop:=∃ r0:Bool,((r0=true->zd _a0))/\v=.bool r0
def t268 (a0:jW) :Ct 268 [.agg (jW.af a0)] (aek a0):=by
 refine ja GZ ?_
 refine bb ?_
 refine ae ?_
 refine oC (t94 a0.name) ?_
 rintro _ ⟨r2,hc1,rfl⟩
 cases r2
 clear hc1
 refine cr ?_
 refine cX ?_
 refine bE ?_
 exact gE
 have hc1t:=hc1 rfl
 have hNm:=hc1t
 refine aK ?_
 refine oC (t323 a0.len 1 4000) ?_
 rintro _ ⟨r4,hc3,rfl⟩
 cases r4
 clear hc3
 refine cX ?_
 refine bE ?_
 exact gE
 have hc3t:=hc3 rfl
 refine bk ?_
 refine oC (t323 a0.top 1 60) ?_
 rintro _ ⟨r6,hc5,rfl⟩
 cases r6
 clear hc5
 refine cH ?_
 refine cH ?_
 refine bE ?_
 exact gE
 have hc5t:=hc5 rfl
 refine bk ?_
 refine oC (t323 a0.acc 1 10) ?_
 rintro _ ⟨r8,hc7,rfl⟩
 cases r8
 clear hc7
 refine cH ?_
 refine bE ?_
 exact gE
 have hc7t:=hc7 rfl
 refine bk ?_
 refine oC (t323 a0.jY 1 10) ?_
 rintro _ ⟨r10,hc9,rfl⟩
 cases r10
 clear hc9
 refine bE ?_
 exact gE
 have hc9t:=hc9 rfl
 refine bE ?_
 exact xB ⟨true,eA,rfl⟩
def acP (_a0:Row jW) (_a1:nm) (v:AV):Prop:=∃ r0:Int,((∀ (j:Nat) (h:j < _a0.l.length),(j:Int)<r0->¬ (_a0.l[j]).name.l = _a1.l))/\v=iv r0
def t269 (a0:Row jW) (a1:nm) :Ct 269 [nz a0,.str a1.l] (acP a0 a1):=by
 refine ja HK ?_
 refine bN ?_
 have hL1:=a0.lk
 refine jb a0 ?_
 refine aL ?_
 have hNk2:=a0.lk
 refine iF a0.l.length (λk2 e h=>(∀ (j:Nat) (h:j<a0.l.length),j<k2->¬ (a0.l[j]).name.l=a1.l)/\At [1,7,8,9] [.str a1.l,nz a0,ir a0.l.length,ir k2] aT.empty [] e h) ?_ (k0:=0) dT ⟨eE,atR⟩
 rintro k2 e h hkk2 ⟨hU,hA⟩
 refine aO ?_
 refine iV (λh3=>?_) (λh3=>?_)
 refine ap ?_
 refine bT ?_
 have hx4:k2<a0.l.length:=by omega
 refine kH k2 a0 hx4 ?_
 generalize hqx5:a0.l[k2]=x5
 refine cg ?_
 refine aP ?_
 refine pe rfl (λ_=>ze rfl rfl) (λh6=>?_) (λh6=>?_)
 refine dy ?_
 exact xB ⟨((k2:Int)),fZ,rfl⟩
 refine cm ?_
 refine jc ?_
 refine ab ?_
 exact ⟨by omega,(by exact lC (P:=λx:jW=>¬ x.name.l=a1.l) dS hU dS),atR⟩
 refine cG ?_
 exact xB ⟨(-1),fZ,rfl⟩
def aeU (_a0:Row jW) (v:AV):Prop:=∃ r0:Int,((r0=0->O3 _a0.l))/\v=iv r0
def t171 (a0:Row jW) :Ct 171 [nz a0] (aeU a0):=by
 refine ja Ja ?_
 refine bN ?_
 have hL1:=a0.lk
 refine jb a0 ?_
 refine jI (λh2=>?_) (λh2=>?_)
 refine bu ?_
 exact xB ⟨3,eO,rfl⟩
 refine aC ?_
 refine ah ?_
 have hL3:=a0.lk
 refine jb a0 ?_
 refine aL ?_
 have hNk4:=a0.lk
 refine iF a0.l.length (λk4 e h=>(∀ (i:Nat) (h:i<a0.l.length),i<k4->zd (a0.l[i]))/\At [0,10,11,12] [nz a0,nz a0,ir a0.l.length,ir k4] aT.empty [] e h) ?_ (k0:=0) dT ⟨eE,atR⟩
 rintro k4 e h hkk4 ⟨hU,hA⟩
 refine aO ?_
 refine iV (λh5=>?_) (λh5=>?_)
 refine b5 ?_
 have hx6:k4<a0.l.length:=by omega
 refine kH k4 a0 hx6 ?_
 generalize hqx7:a0.l[k4]=x7
 refine aj ?_
 refine cR ?_
 refine oC (t268 x7) ?_
 rintro _ ⟨r9,hc8,rfl⟩
 cases r9
 clear hc8
 refine aq ?_
 exact xB ⟨1,eO,rfl⟩
 have hc8t:=hc8 rfl
 have hMk:=hc8t
 refine cD ?_
 refine jc ?_
 refine ab ?_
 exact ⟨by omega,(by exact lC (P:=zd) dS hU hMk),atR⟩
 refine ao ?_
 refine ah ?_
 have hL10:=a0.lk
 refine jb a0 ?_
 refine aL ?_
 have hNk11:=a0.lk
 refine iF a0.l.length (λiU e h=>(∀ (i j:Nat) (h:j<a0.l.length) (hij:i<j),j<iU->¬ (a0.l[i]).name.l=(a0.l[j]).name.l)/\At [0,20,21,22] [nz a0,nz a0,ir a0.l.length,ir iU] aT.empty [] e h) ?_ (k0:=0) dT ⟨(by (intro i j h hij h2; omega)),atR⟩
 rintro iU e h hkk11 ⟨hNe,hA⟩
 refine aO ?_
 refine iV (λh12=>?_) (λh12=>?_)
 refine ap ?_
 refine bT ?_
 have hx13:iU<a0.l.length:=by omega
 refine kH iU a0 hx13 ?_
 generalize hqx14:a0.l[iU]=x14
 refine cg ?_
 refine aP ?_
 refine oC (t269 a0 x14.name) ?_
 rintro _ ⟨r16,hc15,rfl⟩
 have hFn:=hc15
 refine oV ?_
 refine kE (λh17=>?_) (λh17=>?_)
 refine bu ?_
 exact xB ⟨4,eO,rfl⟩
 refine cm ?_
 refine jc ?_
 refine ab ?_
 exact ⟨by omega,(by exact LO dS hNe hFn dS),atR⟩
 refine cG ?_
 exact xB ⟨0,eO,rfl⟩
def P92 (_a0:bS) (_a1:Row jW) (v:AV):Prop:=∃ r0:Int,((r0=0->EN _a0 _a1.l))/\v=iv r0
def t92 (a0:bS) (a1:Row jW) :Ct 92 [.agg (bS.af a0),nz a1] (P92 a0 a1):=by
 refine ja Lk ?_
 refine bb ?_
 refine ah ?_
 refine oC (t171 a1) ?_
 rintro _ ⟨r2,hc1,rfl⟩
 have hPl2:=hc1
 refine cR ?_
 refine kE (λh3=>?_) (λh3=>?_)
 refine dy ?_
 exact xB ⟨r2,eW,rfl⟩
 refine aC ?_
 refine ah ?_
 have hL4:=a1.lk
 refine jb a1 ?_
 refine aL ?_
 have hNk5:=a1.lk
 refine iF a1.l.length (λk5 e h=>(∀ (i:Nat) (h:i<a1.l.length),i<k5->(a1.l[i]).top<=a0.top/\a0.jY<=(a1.l[i]).jY)/\At [2,13,14,15] [.la 2 0,nz a1,ir a1.l.length,ir k5] aT.empty [(2,(bS.af a0))] e h) ?_ (k0:=0) dT ⟨eE,atR⟩
 rintro k5 e h hkk5 ⟨hU,hA⟩
 refine aO ?_
 refine iV (λh6=>?_) (λh6=>?_)
 refine b5 ?_
 have hx7:k5<a1.l.length:=by omega
 refine kH k5 a1 hx7 ?_
 generalize hqx8:a1.l[k5]=x8
 refine ba ?_
 refine bp ?_
 refine jI (λh9=>?_) (λh9=>?_)
 refine bB ?_
 refine aq ?_
 exact xB ⟨9,eW,rfl⟩
 refine ci ?_
 refine iV (λh10=>?_) (λh10=>?_)
 refine aq ?_
 exact xB ⟨9,eW,rfl⟩
 refine cD ?_
 refine jc ?_
 refine ab ?_
 exact ⟨by omega,(by exact lC (P:=λs:jW=>s.top<=a0.top/\a0.jY<=s.jY) dS hU dT),atR⟩
 refine cG ?_
 exact xB ⟨0,eW,rfl⟩
def P93 (_a0:Int) (_a1:Int) (_a2:Int) (v:AV):Prop:=∃ r0:Bool,((r0=true->_a1<=_a0/\_a0<=_a2))/\v=.bool r0
def t93 (a0:Int) (a1:Int) (a2:Int) :Ct 93 [iv a0,iv a1,iv a2] (P93 a0 a1 a2):=by
 refine ja Le ?_
 refine aU ?_
 refine ae ?_
 refine kL (λh1=>?_) (λh1=>?_)
 refine aK ?_
 refine ux (λh2=>?_) (λh2=>?_)
 refine bE ?_
 exact gA
 refine bE ?_
 exact gB
 refine cr ?_
 refine bE ?_
 exact gB
def P54 (_a0:bS) (_a1:Int) (v:AV):Prop:=∃ r0:Int,(r0=kr _a0 _a1)/\v=iv r0
def t54 (a0:bS) (a1:Int) :Ct 54 [.agg (bS.af a0),iv a1] (P54 a0 a1):=by
 refine ja Lx ?_
 refine bb ?_
 refine ae ?_
 refine oC (t111 a0 a1) ?_
 rintro _ ⟨r2,hc1,rfl⟩
 refine ai ?_
 exact xB ⟨r2,dS,rfl⟩
def P95 (_a0:bS) (_a1:Row j7) (v:AV):Prop:=∃ r0:Bool,((r0=true->Kz _a0 _a1.l))/\v=.bool r0
def t95 (a0:bS) (a1:Row j7) :Ct 95 [.agg (bS.af a0),Gc a1] (P95 a0 a1):=by
 refine ja Lp ?_
 refine bb ?_
 refine bN ?_
 have hL1:=a1.lk
 refine jb a1 ?_
 refine aL ?_
 have hNk2:=a1.lk
 refine iF a1.l.length (λk2 e h=>∃ n3:Int,(n3=EV a1.l k2)/\(∀ (i:Nat) (h:i<a1.l.length),i<k2->yQ a0 a1.l i (a1.l[i]))/\At [2,5,8,9,10] [.la 2 0,iv n3,Gc a1,ir a1.l.length,ir k2] aT.empty [(2,(bS.af a0))] e h) ?_ (k0:=0) dT ⟨0,(by rfl),eE,atR⟩
 rintro k2 e h hkk2 ⟨n3,hAt,hU,hA⟩
 refine aO ?_
 refine iV (λh4=>?_) (λh4=>?_)
 refine b5 ?_
 have hx5:k2<a1.l.length:=by omega
 refine kH k2 a1 hx5 ?_
 generalize hqx6:a1.l[k2]=x6
 refine ba ?_
 refine aW ?_
 refine oC (t93 x6.at_ n3 2000) ?_
 rintro _ ⟨r8,hc7,rfl⟩
 cases r8
 clear hc7
 refine aq ?_
 exact ij
 have hc7t:=hc7 rfl
 refine aA ?_
 refine aa ?_
 refine dh ?_
 refine cT ?_
 refine iY (λh9=>?_) (λh9=>?_)
 refine aN ?_
 refine bp ?_
 have hL10:=a0.signals.lk
 refine jb a0.signals ?_
 have hL11:=a0.signals.lk
 refine jT ?_
 refine oC (t93 x6.to 0 ((a0.signals.l.length:Int) - 1)) ?_
 rintro _ ⟨r13,hc12,rfl⟩
 cases r13
 clear hc12
 refine aq ?_
 exact ij
 have hc12t:=hc12 rfl
 refine cD ?_
 refine jc ?_
 refine ab ?_
 exact ik
 refine aS ?_
 refine iY (λh14=>?_) (λh14=>?_)
 refine aN ?_
 refine aP ?_
 refine oC (t54 a0 x6.to) ?_
 rintro _ ⟨r16,hc15,rfl⟩
 have hK:=hc15
 refine kE (λh17=>?_) (λh17=>?_)
 refine bu ?_
 exact ij
 refine cm ?_
 refine jc ?_
 refine ab ?_
 exact ik
 refine aS ?_
 refine iY (λh18=>?_) (λh18=>?_)
 refine aN ?_
 refine aP ?_
 refine oC (t54 a0 x6.to) ?_
 rintro _ ⟨r20,hc19,rfl⟩
 have hK:=hc19
 refine kE (λh21=>?_) (λh21=>?_)
 refine bu ?_
 exact ij
 refine cm ?_
 refine jc ?_
 refine ab ?_
 exact ik
 refine aS ?_
 refine ai ?_
 exact ij
 refine cG ?_
 exact xB ⟨true,eP,rfl⟩
def afI (_a0:bS) (_a1:iI) (v:AV):Prop:=∃ r0:Int,((r0=0->tB _a1/\xz _a0 _a1))/\v=iv r0
def TU (a0:bS) (a1:iI) :Ct 46 [.agg (bS.af a0),.agg (iI.af a1)] (afI a0 a1):=by
 refine ja Mm ?_
 have hqb:=a1.iW.ok
 simp only [rl] at hqb
 refine bR ?_
 refine aQ ?_
 have hL1:=a1.runs.lk
 refine jb a1.runs ?_
 refine jI (λh2=>?_) (λh2=>?_)
 refine bu ?_
 exact xB ⟨3,d5,rfl⟩
 refine aC ?_
 refine aQ ?_
 have hL3:=a1.runs.lk
 refine jb a1.runs ?_
 refine aL ?_
 have hNk4:=a1.runs.lk
 refine iF a1.runs.l.length (λk4 e h=>(∀ (i:Nat) (h:i<a1.runs.l.length),i<k4->(a1.runs.l[i]).jE.l.length<=12)/\At [2,3,19,20,21] [.la 2 0,.la 3 0,qO a1.runs,ir a1.runs.l.length,ir k4] aT.empty [(2,(bS.af a0)),(3,(iI.af a1))] e h) ?_ (k0:=0) dT ⟨eE,atR⟩
 rintro k4 e h hkk4 ⟨hA,hA⟩
 refine s6 hA ?_
 clear hA
 refine aa ?_
 refine iV (λh5=>?_) (λh5=>?_)
 refine b5 ?_
 have hx6:k4<a1.runs.l.length:=by omega
 refine kH k4 a1.runs hx6 ?_
 generalize hqx7:a1.runs.l[k4]=x7
 refine dh ?_
 have hL8:=x7.jE.lk
 refine jb x7.jE ?_
 refine jI (λh9=>?_) (λh9=>?_)
 refine bu ?_
 exact xB ⟨3,d5,rfl⟩
 refine cm ?_
 refine jc ?_
 refine ab ?_
 exact ⟨by omega,(by exact lC (P:=λr:lb=>r.jE.l.length<=12) dS hA dT),atR⟩
 refine ao ?_
 refine aW ?_
 refine oC (t92 a0 a1.iW) ?_
 rintro _ ⟨r11,hc10,rfl⟩
 have hSo:=hc10
 refine cR ?_
 refine kE (λh12=>?_) (λh12=>?_)
 refine dy ?_
 exact xB ⟨r11,d5,rfl⟩
 refine aC ?_
 refine aQ ?_
 refine oC (t93 a1.xR 0 86399) ?_
 rintro _ ⟨r14,hc13,rfl⟩
 cases r14
 clear hc13
 refine aq ?_
 exact gU
 have hc13t:=hc13 rfl
 refine aA ?_
 refine aQ ?_
 have hL15:=a1.runs.lk
 refine jb a1.runs ?_
 refine aL ?_
 have hNk16:=a1.runs.lk
 refine iF a1.runs.l.length (λo4 e h=>(∀ (i:Nat) (h:i<a1.runs.l.length),i<o4->G5 a0 a1 (a1.runs.l[i]))/\At [2,3,42,43,44] [.la 2 0,.la 3 0,qO a1.runs,ir a1.runs.l.length,ir o4] aT.empty [(2,(bS.af a0)),(3,(iI.af a1))] e h) ?_ (k0:=0) dT ⟨eE,atR⟩
 rintro o4 e h hkk16 ⟨hB,hA⟩
 refine s6 hA ?_
 clear hA
 refine aa ?_
 refine iV (λh17=>?_) (λh17=>?_)
 refine b5 ?_
 have hx18:o4<a1.runs.l.length:=by omega
 refine kH o4 a1.runs hx18 ?_
 generalize hqx19:a1.runs.l[o4]=x19
 refine dh ?_
 refine oC (t94 x19.name) ?_
 rintro _ ⟨r21,hc20,rfl⟩
 cases r21
 clear hc20
 refine aj ?_
 refine dk ?_
 refine aj ?_
 refine dk ?_
 refine aV ?_
 refine bw ?_
 refine aq ?_
 exact gU
 have hc20t:=hc20 rfl
 have hNm:=hc20t
 iterate 6 refine oV ?_
 have hL22:=a1.iW.lk
 refine jb a1.iW ?_
 have hL23:=a1.iW.lk
 refine jT ?_
 refine oC (t93 x19.iW 0 ((a1.iW.l.length:Int) - 1)) ?_
 rintro _ ⟨r25,hc24,rfl⟩
 cases r25
 clear hc24
 refine aK ?_
 refine dk ?_
 refine aV ?_
 refine bw ?_
 refine aq ?_
 exact gU
 have hc24t:=hc24 rfl
 iterate 7 refine oV ?_
 have hL26:=a0.signals.lk
 refine jb a0.signals ?_
 have hL27:=a0.signals.lk
 refine jT ?_
 refine oC (t93 x19.from_ 0 ((a0.signals.l.length:Int) - 1)) ?_
 rintro _ ⟨r29,hc28,rfl⟩
 cases r29
 clear hc28
 refine oV ?_
 refine aV ?_
 refine bw ?_
 refine aq ?_
 exact gU
 have hc28t:=hc28 rfl
 refine ci ?_
 refine oC (t93 x19.left 0 4000) ?_
 rintro _ ⟨r31,hc30,rfl⟩
 cases r31
 clear hc30
 refine oV ?_
 refine bw ?_
 refine aq ?_
 exact gU
 have hc30t:=hc30 rfl
 iterate 6 refine oV ?_
 refine oC (t95 a0 x19.jE) ?_
 rintro _ ⟨r33,hc32,rfl⟩
 cases r33
 clear hc32
 refine bc ?_
 exact gU
 have hc32t:=hc32 rfl
 have hLg:=hc32t
 refine oV ?_
 refine cD ?_
 refine jc ?_
 refine ab ?_
 exact ⟨by omega,(by exact lC (P:=G5 a0 a1) dS hB ⟨hNm,by omega,by omega,by omega,hLg⟩),atR⟩
 refine ao ?_
 refine aQ ?_
 have hL34:=a1.runs.lk
 refine jb a1.runs ?_
 refine aL ?_
 have hNk35:=a1.runs.lk
 refine iF a1.runs.l.length (λmv e h=>(∀ (i j:Nat) (h:j<a1.runs.l.length) (hij:i<j),j<mv->¬ (a1.runs.l[i]).name.l=(a1.runs.l[j]).name.l)/\At [3,87,88,89] [.la 3 0,qO a1.runs,ir a1.runs.l.length,ir mv] aT.empty [(3,(iI.af a1))] e h) ?_ (k0:=0) dT ⟨(by (intro i j h hij h2; omega)),atR⟩
 rintro mv e h hkk35 ⟨hNe,hA⟩
 refine s6 hA ?_
 clear hA
 refine aa ?_
 refine iV (λh36=>?_) (λh36=>?_)
 refine ap ?_
 refine bT ?_
 have hx37:mv<a1.runs.l.length:=by omega
 refine kH mv a1.runs hx37 ?_
 generalize hqx38:a1.runs.l[mv]=x38
 refine cg ?_
 refine aP ?_
 have hx39:mv<=a1.runs.l.length:=by omega
 refine iz rfl (λ_=>M7 (k:=mv) (r:=a1.runs) (enc:=lb.af) (n:=5) rfl rfl rfl rfl rfl rfl hx39 (λ_=>rfl)) ?_
 have hL40:=(Row.take a1.runs mv).lk
 refine jb ((Row.take a1.runs mv)) ?_
 refine aL ?_
 have hNk41:=(Row.take a1.runs mv).lk
 refine iF ((Row.take a1.runs mv).l.length) (λAo e h=>(∀ y∈(a1.runs.l.take mv).take Ao,∀ x,a1.runs.l[mv]?=some x->¬ y.name.l=x.name.l)/\At [3,11,87,88,89,97,98,99] [.la 3 0,.la 11 0,qO a1.runs,ir a1.runs.l.length,ir mv,qO (Row.take a1.runs mv),iv ((Row.take a1.runs mv).l.length:Int),ir Ao] aT.empty [(3,(iI.af a1)),(11,(lb.af x38))] e h) ?_ (k0:=0) dT ⟨fp,atR⟩
 rintro Ao e h hkk41 ⟨hN3,hA⟩
 refine s6 hA ?_
 clear hA
 refine aa ?_
 refine iV (λh42=>?_) (λh42=>?_)
 refine b5 ?_
 have hx43:Ao<(Row.take a1.runs mv).l.length:=by omega
 refine kH Ao ((Row.take a1.runs mv)) hx43 ?_
 generalize hqx44:(Row.take a1.runs mv).l[Ao]=x44
 refine ba ?_
 refine bp ?_
 refine pe rfl (λ_=>ze rfl rfl) (λh45=>?_) (λh45=>?_)
 refine bu ?_
 exact xB ⟨4,d5,rfl⟩
 refine cm ?_
 refine jc ?_
 refine ab ?_
 exact ⟨by omega,(by exact LJ dS dS hN3 dS),atR⟩
 refine ao ?_
 refine qg ?_
 refine jc ?_
 refine ab ?_
 exact ⟨by omega,(by exact Lo dS hNe hN3 dS),atR⟩
 refine cG ?_
 exact xB ⟨0,d5,rfl⟩
def P46 (_a0:bS) (_a1:iI) (v:AV):Prop:=∃ r0:Int,(((r0=0->tB _a1/\xz _a0 _a1))/\rs 46 [.agg (bS.af _a0),.agg (iI.af _a1)]=iv r0)/\v=iv r0
def t46 (a0:bS) (a1:iI)  (h:aT):∃ v,jf cfg FT jA false 46 [.agg (bS.af a0),.agg (iI.af a1)] h v h/\P46 a0 a1 v:=by
 obtain ⟨v,hc,hP,hr⟩:=rX yT (TU a0 a1) h
 obtain ⟨r0,hp,rfl⟩:=hP
 exact gG
def aeC (a0:bS) (a1:iI)  {V:AV} (hV:rs 46 [.agg (bS.af a0),.agg (iI.af a1)]=V) (h:aT):∃ v,jf cfg FT jA false 46 [.agg (bS.af a0),.agg (iI.af a1)] h v h/\v=V:=by
 obtain ⟨v,hc,hP,hr⟩:=rX yT (TU a0 a1) h
 exact ⟨v,hc,hr.symm.trans hV⟩
def P47 (_a0:bS) (v:AV):Prop:=(∃ r0:iR,(rG r0 _a0/\mu _a0)/\v=.ip (iR.af r0) 0 false)\/((True)/\v=.j4)
def t47 (a0:bS) (hJg:JG a0):Ct 47 [.agg (bS.af a0)] (P47 a0):=by
 refine ja Mj ?_
 refine bb ?_
 refine ah ?_
 refine oC (t45 a0 dK) ?_
 rintro _ ⟨r2,⟨hc1,hc1r⟩,rfl⟩
 have hFr:=hc1r
 cases r2
 clear hc1
 refine aq ?_
 refine xB (.inr (⟨zT,rfl⟩))
 have hc1t:=hc1 rfl
 refine dE ?_
 refine oC (t49 a0 dK) ?_
 rintro _ (⟨r4,⟨hc3,hc3r⟩,rfl⟩ | ⟨r5,⟨hc3,hc3r⟩,rfl⟩)
 have hFw:=hc3.NG; have hFs:=hc3.NG.signals; have hFl:=hc3.len; have hRg:=hc3.rg; have hNe:=hc3; have hNr:=hc3r
 refine cF ?_
 refine cy ?_
 refine dF ?_
 refine bv ?_
 refine xG (.inl ⟨r4,(by first | assumption | exact ⟨by assumption,by assumption⟩),rfl⟩)
 refine cF ?_
 refine ah ?_
 refine kE (λh6=>?_) (λh6=>?_)
 refine bu ?_
 refine xB (.inr (⟨zT,rfl⟩))
 refine aC ?_
 refine bv ?_
 refine xB (.inr (⟨zT,rfl⟩))
def P19 (_a0:bS) (_a1:iI) (v:AV):Prop:=(∃ r0:jR,∃ r1:iR,(rG r1 _a0/\mu _a0/\tB _a1/\_a1.iW.l.length<=10/\(∀ r∈(r0.roads.l:List iQ),0<r.steps.l.length/\r.steps.l.length<=12/\r.lQ.l.length<=12/\nL r)/\r0.roads.l.length<=64/\(r0.vk = _a0.canon/\∃ n:iR,rG n _a0/\rs 49 [.agg (bS.af _a0)]=.je [.ip (iR.af n) 0 false,iv 0])/\rs 67 [.agg (bS.af _a0)]=.je [.agg (jR.af r0),iv 0]/\xz _a0 _a1/\rs 46 [.agg (bS.af _a0),.agg (iI.af _a1)]=iv 0)/\v=.je [.agg (jR.af r0),.ip (iR.af r1) 0 false,.bool true])\/(∃ r0:jR,∃ r1:AV,(True)/\v=.je [.agg (jR.af r0),r1,iD])
def t19 (a0:bS) (a1:iI) (hJg:JG a0):Ct 19 [.agg (bS.af a0),.agg (iI.af a1)] (P19 a0 a1):=by
 refine ja LY ?_
 refine aa ?_
 refine cF ?_
 refine ah ?_
 refine oC (t44 a1) ?_
 rintro _ ⟨r2,hc1,rfl⟩
 cases r2
 clear hc1
 refine cH ?_
 refine aV ?_
 refine cw ?_
 refine ck ?_
 refine xG (.inr (⟨((⟨(⟨(kI:Row j9),(kI:Row j3),(kI:Row j6),(kI:Row jx),0,0,0,0,false⟩:bS),(kI:Row iQ)⟩:jR)),.j4,zt⟩))
 have hc1t:=hc1 rfl
 have hF3:=hc1t
 refine aK ?_
 refine oC (t45 a0 dK) ?_
 rintro _ ⟨r4,⟨hc3,hc3r⟩,rfl⟩
 have hFr:=hc3r
 cases r4
 clear hc3
 refine oV ?_
 refine aV ?_
 refine cw ?_
 refine ck ?_
 refine xG (.inr (⟨((⟨(⟨(kI:Row j9),(kI:Row j3),(kI:Row j6),(kI:Row jx),0,0,0,0,false⟩:bS),(kI:Row iQ)⟩:jR)),.j4,zt⟩))
 have hc3t:=hc3 rfl
 refine ci ?_
 refine oC (t46 a0 a1) ?_
 rintro _ ⟨r6,⟨hc5,hc5r⟩,rfl⟩
 have hC35:=λhz=>(hc5 hz).1; have hDV:=λhz=>(hc5 hz).2; have hPre:=λ(hz : _=(0:Int))=>tB.TV (hc5 hz).1; have hCk3:=hc5r
 refine kE (λh7=>?_) (λh7=>?_)
 refine cw ?_
 refine ck ?_
 refine xG (.inr (⟨((⟨(⟨(kI:Row j9),(kI:Row j3),(kI:Row j6),(kI:Row jx),0,0,0,0,false⟩:bS),(kI:Row iQ)⟩:jR)),.j4,zt⟩))
 refine dE ?_
 refine oC (t26 a0 dK) ?_
 rintro _ ⟨r9,r10,hc8,rfl⟩
 cases r10
 clear hc8
 refine cW ?_
 refine oC (t47 a0 dK) ?_
 rintro _ (⟨r12,hc11,rfl⟩ | ⟨hc11,rfl⟩)
 have hN36:=hc11.1; have hP36:=hc11.2
 refine ab ?_
 refine ae ?_
 refine bI ?_
 refine ck ?_
 refine xG (.inr (⟨r9,(.ip (iR.af r12) 0 false),zt⟩))
 refine ab ?_
 refine ae ?_
 refine bI ?_
 refine ck ?_
 refine xG (.inr (⟨r9,.j4,zt⟩))
 have hc8t:=hc8 rfl
 have hBt:=hc8t
 refine cW ?_
 refine oC (t47 a0 dK) ?_
 rintro _ (⟨r14,hc13,rfl⟩ | ⟨hc13,rfl⟩)
 have hN36:=hc13.1; have hP36:=hc13.2
 refine cR ?_
 refine ci ?_
 refine ck ?_
 refine xG (.inl ⟨r9,r14,(by first | assumption | exact ⟨by assumption,by assumption,hC35 dT,hF3,hBt.2.2.2.2.2,hBt.2.1,hBt.2.2.1,hBt.2.2.2.1,hDV dT,hCk3.trans (congrArg (AV.int .i64) dT)⟩),rfl⟩)
 refine cR ?_
 refine ci ?_
 refine ck ?_
 refine xG (.inr (⟨r9,.j4,zt⟩))
def adE (_a0:bS) (_a1:Int) (v:AV):Prop:=∃ r0:iu,∃ r1:Bool,((((r1=true->oE _a0.signals.l _a1=some r0)/\(r1=false->oE _a0.signals.l _a1=none))/\(r1=false->r0=⟨0,0⟩)))/\v=.je [.agg (iu.af r0),.bool r1]
def t108 (a0:bS) (a1:Int) :Ct 108 [.agg (bS.af a0),iv a1] (adE a0 a1):=by
 refine ja ID ?_
 refine bR ?_
 refine ah ?_
 refine iV (λh1=>?_) (λh1=>?_)
 refine bB ?_
 refine co ?_
 exact gf
 refine bk ?_
 have hL2:=a0.signals.lk
 refine jb a0.signals ?_
 refine kL (λh3=>?_) (λh3=>?_)
 refine co ?_
 exact gf
 refine aA ?_
 refine aP ?_
 have hx4:(a1).toNat<a0.signals.l.length:=by omega
 refine iz rfl (λ_=>jh (n:=a1) (r:=a0.signals) (enc:=j6.af) rfl rfl rfl rfl rfl dT hx4 rfl) ?_
 generalize hqx5:a0.signals.l[(a1).toNat]=x5
 refine ck ?_
 exact xG ⟨x5.at_,true,ej,rfl⟩
def P52 (_a0:bS) (_a1:iI) (_a2:Int) (v:AV):Prop:=∃ r0:kU,∃ r1:Bool,((0<=_a2->_a2<(_a1.runs.l.length:Int)->r0=rk _a0 _a1 _a2.toNat))/\v=.je [.agg (kU.af r0),.bool r1]
def t52 (a0:bS) (a1:iI) (a2:Int) :Ct 52 [.agg (bS.af a0),.agg (iI.af a1),iv a2] (P52 a0 a1 a2):=by
 refine ja Ln ?_
 refine aa ?_
 refine cg ?_
 refine ah ?_
 refine iV (λh1=>?_) (λh1=>?_)
 refine bB ?_
 refine co ?_
 exact gV
 refine bk ?_
 have hL2:=a1.runs.lk
 refine jb a1.runs ?_
 refine kL (λh3=>?_) (λh3=>?_)
 refine co ?_
 exact gV
 refine aA ?_
 refine aP ?_
 have hx4:(a2).toNat<a1.runs.l.length:=by omega
 refine iz rfl (λ_=>jh (n:=a2) (r:=a1.runs) (enc:=lb.af) rfl rfl rfl rfl rfl dT hx4 rfl) ?_
 generalize hqx5:a1.runs.l[(a2).toNat]=x5
 refine ba ?_
 refine aP ?_
 refine oC (t108 a0 x5.from_) ?_
 rintro _ ⟨r7,r8,hc6,rfl⟩
 have hA:=hc6.1; have hA0:=hc6.2
 cases r8
 refine aF ?_
 refine bp ?_
 refine aF ?_
 refine aW ?_
 refine oC (t54 a0 r7.elem) ?_
 rintro _ ⟨r10,hc9,rfl⟩
 have hK:=hc9
 refine iY (λh11=>?_) (λh11=>?_)
 refine az ?_
 refine qg ?_
 refine bo ?_
 refine bj ?_
 exact gW
 refine aC ?_
 refine bj ?_
 exact gX
 refine aF ?_
 refine bp ?_
 refine aF ?_
 refine aW ?_
 refine oC (t54 a0 r7.elem) ?_
 rintro _ ⟨r13,hc12,rfl⟩
 have hK:=hc12
 refine iY (λh14=>?_) (λh14=>?_)
 refine az ?_
 refine qg ?_
 refine bo ?_
 refine bj ?_
 exact gW
 refine aC ?_
 refine bj ?_
 exact gX
def P53 (_a0:bS) (_a1:Int) (_a2:kU) (v:AV):Prop:=∃ r0:iL,∃ r1:Int,(r1=uq _a0 _a1 _a2)/\v=.je [.agg (iL.af r0),iv r1]
def t53 (a0:bS) (a1:Int) (a2:kU) (q9:∀ e,kr a0 e=4->rT a0 e=0):Ct 53 [.agg (bS.af a0),iv a1,.agg (kU.af a2)] (P53 a0 a1 a2):=by
 refine ja MJ ?_
 refine aa ?_
 refine cg ?_
 refine bp ?_
 refine oC (t54 a0 a2.at_.elem) ?_
 rintro _ ⟨r2,hc1,rfl⟩
 have hK:=hc1
 refine ab ?_
 refine bZ ?_
 refine rV ?_
 refine mK (λh3=>?_) (λh3=>?_)
 refine rV ?_
 iterate 2 refine rS ?_
 refine bM ?_
 refine ay ?_
 refine c6 ?_
 refine cf ?_
 refine bj ?_
 exact gY
 refine ay ?_
 refine zG (λh4=>?_) (λh4=>?_)
 refine bM ?_
 refine ay ?_
 refine c6 ?_
 refine cf ?_
 refine bj ?_
 exact gY
 refine bf ?_
 refine vx (λh5=>?_) (λh5=>?_)
 refine ay ?_
 refine vx (λh6=>?_) (λh6=>?_)
 refine bf ?_
 refine c6 ?_
 refine cf ?_
 refine bj ?_
 exact gY
 refine cJ ?_
 refine mK (λh7=>?_) (λh7=>?_)
 refine bM ?_
 refine cf ?_
 refine bj ?_
 exact gY
 refine cJ ?_
 refine rC (t109 r2) ?_
 rintro _ ⟨r9,hc8,rfl⟩
 refine kN (λh10=>?_) (λh10=>?_)
 refine cf ?_
 refine bj ?_
 exact gY
 refine bD ?_
 refine aW ?_
 refine oC (t110 a0 a2.at_) ?_
 rintro _ ⟨r12,hc11,rfl⟩
 have hR:=hc11
 refine iV (λh13=>?_) (λh13=>?_)
 refine az ?_
 refine bj ?_
 exact gZ
 refine aC ?_
 refine bp ?_
 refine oC (t83 a0 a2.at_.elem) ?_
 rintro _ ⟨r15,hc14,rfl⟩
 have hLen:=hc14
 refine ab ?_
 refine aQ ?_
 refine iV (λh16=>?_) (λh16=>?_)
 refine bF ?_
 refine co ?_
 exact gY
 refine bk ?_
 refine jI (λh17=>?_) (λh17=>?_)
 refine co ?_
 exact gY
 refine aA ?_
 refine ah ?_
 refine iY (λh18=>?_) (λh18=>?_)
 refine az ?_
 refine ae ?_
 refine ck ?_
 exact g5
 refine aC ?_
 refine aW ?_
 refine de ?_
 refine jI (λh19=>?_) (λh19=>?_)
 refine az ?_
 refine bj ?_
 exact g6
 refine aC ?_
 refine bp ?_
 refine ck ?_
 exact g7
 refine rV ?_
 iterate 2 refine rS ?_
 refine cJ ?_
 refine mK (λh20=>?_) (λh20=>?_)
 refine bM ?_
 refine cf ?_
 refine bj ?_
 exact gY
 refine cJ ?_
 refine rC (t109 r2) ?_
 rintro _ ⟨r22,hc21,rfl⟩
 refine kN (λh23=>?_) (λh23=>?_)
 refine cf ?_
 refine bj ?_
 exact gY
 refine bD ?_
 refine aW ?_
 refine oC (t110 a0 a2.at_) ?_
 rintro _ ⟨r25,hc24,rfl⟩
 have hR:=hc24
 refine iV (λh26=>?_) (λh26=>?_)
 refine az ?_
 refine bj ?_
 exact gZ
 refine aC ?_
 refine bp ?_
 refine oC (t83 a0 a2.at_.elem) ?_
 rintro _ ⟨r28,hc27,rfl⟩
 have hLen:=hc27
 refine ab ?_
 refine aQ ?_
 refine iV (λh29=>?_) (λh29=>?_)
 refine bF ?_
 refine co ?_
 exact gY
 refine bk ?_
 refine jI (λh30=>?_) (λh30=>?_)
 refine co ?_
 exact gY
 refine aA ?_
 refine ah ?_
 refine iY (λh31=>?_) (λh31=>?_)
 refine az ?_
 refine ae ?_
 refine ck ?_
 exact g5
 refine aC ?_
 refine aW ?_
 refine de ?_
 refine jI (λh32=>?_) (λh32=>?_)
 refine az ?_
 refine bj ?_
 exact g6
 refine aC ?_
 refine bp ?_
 refine ck ?_
 exact g7
def aeb (_a0:bS) (_a1:iI) (_a2:Int) (_a3:Int) (v:AV):Prop:=∃ r0:iu,∃ r1:Bool,(((r1=true->0<=_a2/\_a2<(_a1.runs.l.length:Int)/\0<=_a3)/\(r1=true->lD true (oE _a0.signals.l) (lq _a0.iO.l) _a1 _a2 _a3=some r0)/\(r1=false->lD true (oE _a0.signals.l) (lq _a0.iO.l) _a1 _a2 _a3=none)))/\v=.je [.agg (iu.af r0),.bool r1]
def t207 (a0:bS) (a1:iI) (a2:Int) (a3:Int) :Ct 207 [.agg (bS.af a0),.agg (iI.af a1),iv a2,iv a3] (aeb a0 a1 a2 a3):=by
 refine ja IS ?_
 refine aa ?_
 refine cg ?_
 refine ah ?_
 refine iV (λh1=>?_) (λh1=>?_)
 refine bB ?_
 refine bI ?_
 refine aj ?_
 iterate 9 refine oS ?_
 refine co ?_
 exact gy
 refine bk ?_
 have hL2:=a1.runs.lk
 refine jb a1.runs ?_
 refine kL (λh3=>?_) (λh3=>?_)
 refine bI ?_
 refine aj ?_
 iterate 9 refine oS ?_
 refine co ?_
 exact gy
 refine aK ?_
 refine iV (λh4=>?_) (λh4=>?_)
 refine aj ?_
 iterate 9 refine oS ?_
 refine co ?_
 exact gy
 iterate 6 refine oV ?_
 have hx5:(a2).toNat<a1.runs.l.length:=by omega
 refine iz rfl (λ_=>jh (n:=a2) (r:=a1.runs) (enc:=lb.af) rfl rfl rfl rfl rfl dT hx5 rfl) ?_
 generalize hqx6:a1.runs.l[(a2).toNat]=x6
 refine aj ?_
 have hL7:=x6.jE.lk
 refine jb x6.jE ?_
 refine jI (λh8=>?_) (λh8=>?_)
 refine co ?_
 exact gy
 refine aA ?_
 refine aP ?_
 have hx9:(a2).toNat<a1.runs.l.length:=by omega
 refine iz rfl (λ_=>jh (n:=a2) (r:=a1.runs) (enc:=lb.af) rfl rfl rfl rfl rfl dT hx9 rfl) ?_
 rw [hqx6]
 refine ba ?_
 refine ah ?_
 refine iY (λh11=>?_) (λh11=>?_)
 refine az ?_
 refine aP ?_
 refine oC (t108 a0 x6.from_) ?_
 rintro _ ⟨r13,r14,hc12,rfl⟩
 have hA:=hc12.1; have hA0:=hc12.2
 cases r14
 refine ck ?_
 exact xG ⟨r13,false,dN,rfl⟩
 refine ck ?_
 exact xG ⟨r13,true,dN,rfl⟩
 refine aC ?_
 refine aP ?_
 refine jT ?_
 have hx15:(a3 - 1).toNat<x6.jE.l.length:=by omega
 refine iz rfl (λ_=>jh (n:=a3 - 1) (r:=x6.jE) (enc:=j7.af) rfl rfl rfl rfl rfl dT hx15 rfl) ?_
 generalize hqx16:x6.jE.l[(a3 - 1).toNat]=x16
 refine ba ?_
 refine aQ ?_
 refine cT ?_
 refine iY (λh17=>?_) (λh17=>?_)
 refine aN ?_
 refine aP ?_
 refine oC (t108 a0 x16.to) ?_
 rintro _ ⟨r19,r20,hc18,rfl⟩
 have hA:=hc18.1; have hA0:=hc18.2
 cases r20
 refine ck ?_
 exact xG ⟨r19,false,dN,rfl⟩
 refine ck ?_
 exact xG ⟨r19,true,dN,rfl⟩
 refine aS ?_
 refine iY (λh21=>?_) (λh21=>?_)
 refine aN ?_
 refine bp ?_
 refine oC (t84 a0 (⟨x16.to,0⟩:iu)) ?_
 rintro _ ⟨r23,r24,hc22,rfl⟩
 have hN:=hc22
 cases r24
 refine aF ?_
 refine bp ?_
 refine oC (t84 a0 (⟨x16.to,1⟩:iu)) ?_
 rintro _ ⟨r26,r27,hc25,rfl⟩
 have hN:=hc25
 cases r27
 refine ct ?_
 iterate 2 refine oS ?_
 refine aA ?_
 refine cy ?_
 refine bI ?_
 refine dE ?_
 refine ck ?_
 exact xG ⟨(⟨x16.to,(-1)⟩:iu),true,dN,rfl⟩
 refine ct ?_
 iterate 2 refine oS ?_
 refine aA ?_
 refine qs ?_
 refine bp ?_
 refine aN ?_
 refine aE ?_
 refine ck ?_
 exact xG ⟨(⟨x16.to,0⟩:iu),true,dN,rfl⟩
 refine aF ?_
 refine bp ?_
 refine oC (t84 a0 (⟨x16.to,1⟩:iu)) ?_
 rintro _ ⟨r29,r30,hc28,rfl⟩
 have hN:=hc28
 cases r30
 refine ct ?_
 refine aj ?_
 refine aN ?_
 refine aE ?_
 refine ck ?_
 exact xG ⟨(⟨x16.to,1⟩:iu),true,dN,rfl⟩
 refine aF ?_
 refine aW ?_
 refine dF ?_
 refine qs ?_
 refine bp ?_
 refine dE ?_
 refine ck ?_
 exact xG ⟨(⟨x16.to,(-1)⟩:iu),true,dN,rfl⟩
 refine aA ?_
 refine bj ?_
 exact gy
def adM (_a0:bS) (_a1:iI) (_a2:Int) (_a3:Int) (v:AV):Prop:=∃ r0:Int,(((0<=r0->0<=_a2/\_a2<(_a1.runs.l.length:Int)/\0<=_a3/\∀ h : _a2.toNat < _a1.runs.l.length,_a3<((_a1.runs.l[_a2.toNat]).jE.l.length:Int))/\r0=pk true (oE _a0.signals.l) (lq _a0.iO.l) (kr _a0) (λx=>(nC _a0.signals.l x).getD (-1)) _a1 _a2 _a3))/\v=iv r0
def t112 (a0:bS) (a1:iI) (a2:Int) (a3:Int) :Ct 112 [.agg (bS.af a0),.agg (iI.af a1),iv a2,iv a3] (adM a0 a1 a2 a3):=by
 refine ja HO ?_
 refine bR ?_
 refine bp ?_
 refine oC (t207 a0 a1 a2 a3) ?_
 rintro _ ⟨r2,r3,hc1,rfl⟩
 have hG:=hc1
 cases r3
 refine aF ?_
 refine aW ?_
 iterate 9 refine oS ?_
 refine cH ?_
 refine aq ?_
 exact gg
 have hG1:=hG.1 rfl
 refine ct ?_
 refine ci ?_
 have hx4:(a2).toNat<a1.runs.l.length:=by omega
 refine iz rfl (λ_=>jh (n:=a2) (r:=a1.runs) (enc:=lb.af) rfl rfl rfl rfl rfl dT hx4 rfl) ?_
 generalize hqx5:a1.runs.l[(a2).toNat]=x5
 refine aj ?_
 have hL6:=x5.jE.lk
 refine jb x5.jE ?_
 refine kL (λh7=>?_) (λh7=>?_)
 refine cH ?_
 refine aq ?_
 exact gg
 refine bk ?_
 refine iV (λh8=>?_) (λh8=>?_)
 refine aq ?_
 exact gg
 refine aA ?_
 refine aW ?_
 have hx9:(a2).toNat<a1.runs.l.length:=by omega
 refine iz rfl (λ_=>jh (n:=a2) (r:=a1.runs) (enc:=lb.af) rfl rfl rfl rfl rfl dT hx9 rfl) ?_
 rw [hqx5]
 refine aK ?_
 have hx11:(a3).toNat<x5.jE.l.length:=by omega
 refine iz rfl (λ_=>jh (n:=a3) (r:=x5.jE) (enc:=j7.af) rfl rfl rfl rfl rfl dT hx11 rfl) ?_
 generalize hqx12:x5.jE.l[(a3).toNat]=x12
 refine oV ?_
 refine kS (b:=x12.GM) rfl (λ_=>rfl) (λh13=>?_) (λh13=>?_)
 refine az ?_
 refine aW ?_
 refine oC (t54 a0 r2.elem) ?_
 rintro _ ⟨r15,hc14,rfl⟩
 have hK:=hc14
 refine kE (λh16=>?_) (λh16=>?_)
 refine bu ?_
 exact gg
 refine aC ?_
 refine bh ?_
 refine iz rfl (λ_=>iZ rfl rfl rfl (jF .i64 1 r2.en)) ?_
 refine bo ?_
 refine ae ?_
 refine oC (t110 a0 (⟨r2.elem,(IntKind.i64.wrap (1 - r2.en))⟩:iu)) ?_
 rintro _ ⟨r18,hc17,rfl⟩
 have hR:=hc17
 refine ai ?_
 exact xB ⟨r18,d6,rfl⟩
 refine aC ?_
 refine ae ?_
 refine oC (t110 a0 r2) ?_
 rintro _ ⟨r20,hc19,rfl⟩
 have hR:=hc19
 refine ai ?_
 exact xB ⟨r20,d6,rfl⟩
def afp (_a0:bS) (_a1:iI) (_a2:Int) (_a3:Int) (v:AV):Prop:=∃ r0:Int,(r0=F4 (BW _a0.signals.l) _a1 _a2 _a3)/\v=iv r0
def t113 (a0:bS) (a1:iI) (a2:Int) (a3:Int) :Ct 113 [.agg (bS.af a0),.agg (iI.af a1),iv a2,iv a3] (afp a0 a1 a2 a3):=by
 refine ja Ie ?_
 refine bR ?_
 refine bp ?_
 refine oC (t207 a0 a1 a2 a3) ?_
 rintro _ ⟨r2,r3,hc1,rfl⟩
 have hG:=hc1
 cases r3
 refine ct ?_
 refine bu ?_
 exact xB ⟨(-1),fY,rfl⟩
 have hG1:=hG.1 rfl
 refine ct ?_
 refine aC ?_
 refine bj ?_
 exact xB ⟨r2.elem,fY,rfl⟩
def afS (_a0:bS) (_a1:jW) (_a2:Int) (v:AV):Prop:=∃ r0:Bool,(r0=Ar _a0 _a1 _a2)/\v=.bool r0
def t114 (a0:bS) (a1:jW) (a2:Int) :Ct 114 [.agg (bS.af a0),.agg (jW.af a1),iv a2] (afS a0 a1 a2):=by
 refine ja I4 ?_
 refine bR ?_
 refine aQ ?_
 refine oC (t54 a0 a2) ?_
 rintro _ ⟨r2,hc1,rfl⟩
 have hK:=hc1
 refine cT ?_
 refine iY (λh3=>?_) (λh3=>?_)
 refine aN ?_
 refine bX ?_
 refine rC (t83 a0 a2) ?_
 rintro _ ⟨r5,hc4,rfl⟩
 have hLen:=hc4
 refine a7 ?_
 refine iN rfl rfl (λ_=>iZ rfl rfl rfl (uw .i64 a1.len a0.j5)) ?_
 refine kN (λh6=>?_) (λh6=>?_)
 refine aI ?_
 refine qr ?_
 exact xB ⟨true,gc,rfl⟩
 refine aI ?_
 refine qr ?_
 exact xB ⟨false,gc,rfl⟩
 refine aS ?_
 refine iY (λh7=>?_) (λh7=>?_)
 refine aq ?_
 exact xB ⟨true,gc,rfl⟩
 refine aA ?_
 refine a6 ?_
 exact xB ⟨false,gc,rfl⟩
def P56 (_a0:bS) (_a1:Row iQ) (_a2:iI) (_a3:Int) (_a4:Int) (v:AV):Prop:=∃ r0:Row Int,((r0.l.length<=_a1.l.length/\r0.l=oF _a0 _a1.l _a2 _a3 _a4))/\v=jV r0
def t56 (a0:bS) (a1:Row iQ) (a2:iI) (a3:Int) (a4:Int) (q1:(∀ r∈a1.l,0<r.steps.l.length)) (q2:a1.l.length<=64) (q3:∀ r∈a2.runs.l,0<=r.iW/\r.iW<(a2.iW.l.length:Int)):Ct 56 [.agg (bS.af a0),js a1,.agg (iI.af a2),iv a3,iv a4] (P56 a0 a1 a2 a3 a4):=by
 refine ja Mp ?_
 refine bR ?_
 refine bp ?_
 refine oC (t112 a0 a2 a3 a4) ?_
 rintro _ ⟨r2,hc1,rfl⟩
 have hC22:=hc1.1; have hF:=hc1.2
 refine ab ?_
 refine ah ?_
 refine iV (λh3=>?_) (λh3=>?_)
 refine bu ?_
 exact xG ⟨(kI:Row Int),fC,rfl⟩
 refine aC ?_
 refine aP ?_
 have hx4:(a3).toNat<a2.runs.l.length:=by omega
 refine iz rfl (λ_=>jh (n:=a3) (r:=a2.runs) (enc:=lb.af) rfl rfl rfl rfl rfl dT hx4 rfl) ?_
 generalize hqx5:a2.runs.l[(a3).toNat]=x5
 have hinx5:x5∈a2.runs.l:=by rw [<- hqx5]; exact List.getElem_mem _
 have hsx5:=q3 x5 hinx5; have hlx5:=(hC22 dT).2.2.2 dS; rw [hqx5] at hlx5
 refine aK ?_
 have hx6:(a4).toNat<x5.jE.l.length:=by omega
 refine iz rfl (λ_=>jh (n:=a4) (r:=x5.jE) (enc:=j7.af) rfl rfl rfl rfl rfl dT hx6 rfl) ?_
 generalize hqx7:x5.jE.l[(a4).toNat]=x7
 refine ba ?_
 refine bN ?_
 have hL8:=a1.lk
 refine jb a1 ?_
 refine aL ?_
 have hS9:=Sep.mn j1 1
 have hNk10:=a1.lk
 refine iF a1.l.length (λkn e h=>∃ v11:AV,∃ l12:List Int,∃ H13:aT,(l12.length<=0+kn)/\(l12=sI (qL a0 a2 a3 a4) 0 (a1.l.take kn))/\Sep H13 (ot v11 l12::[])/\At [3,4,5,7,11,12,13,33,34,35] [iv a3,iv a4,.la 5 0,.la 7 0,iv r2,.la 12 0,v11,js a1,ir a1.l.length,ir kn] H13 [(5,(bS.af a0)),(7,(iI.af a2)),(12,(j7.af x7))] e h) ?_ (k0:=0) dT ⟨iE,(([]:List Int)),aT.empty,ew,(by rfl),hS9,atR⟩
 rintro kn e h hkk10 ⟨v11,l12,H13,hl15,hX,hS14,hA⟩
 refine aO ?_
 refine iV (λh16=>?_) (λh16=>?_)
 refine ap ?_
 refine wz [iv a3,iv a4,.la 5 0,.la 7 0,iv r2,.la 12 0,v11,js a1,ir a1.l.length,ir kn] H13 [(5,(bS.af a0)),(7,(iI.af a2)),(12,(j7.af x7))] ?_ (jd hS14 [(13,0)])
 refine bT ?_
 have hx17:kn<a1.l.length:=by omega
 refine kH kn a1 hx17 ?_
 generalize hqx18:a1.l[kn]=x18
 have hinx18:x18∈a1.l:=by rw [<- hqx18]; exact List.getElem_mem _
 have hsx18:=q1 x18 hinx18
 refine cg ?_
 refine bp ?_
 have hL19:=x18.steps.lk
 refine jb x18.steps ?_
 have hL20:=x18.steps.lk
 refine jT ?_
 have hx21:((x18.steps.l.length:Int) - 1).toNat<x18.steps.l.length:=by omega
 refine iz rfl (λ_=>jh (n:=(x18.steps.l.length:Int) - 1) (r:=x18.steps) (enc:=iT.af) rfl rfl rfl rfl rfl dT hx21 rfl) ?_
 generalize hqx22:x18.steps.l[((x18.steps.l.length:Int) - 1).toNat]=x22
 refine ba ?_
 refine aW ?_
 refine kE (λh23=>?_) (λh23=>?_)
 refine bB ?_
 refine bI ?_
 refine cC ?_
 refine bI ?_
 refine cN ?_
 refine wz [iv a3,iv a4,.la 5 0,.la 7 0,iv r2,.la 12 0,v11,js a1,ir a1.l.length,ir kn] H13 [(5,(bS.af a0)),(7,(iI.af a2)),(12,(j7.af x7))] ?_ (jd hS14 [(13,0)])
 refine qg ?_
 refine jc ?_
 refine ab ?_
 exact g8
 refine ci ?_
 refine kE (λh24=>?_) (λh24=>?_)
 refine bI ?_
 refine cC ?_
 refine bI ?_
 refine cN ?_
 refine wz [iv a3,iv a4,.la 5 0,.la 7 0,iv r2,.la 12 0,v11,js a1,ir a1.l.length,ir kn] H13 [(5,(bS.af a0)),(7,(iI.af a2)),(12,(j7.af x7))] ?_ (jd hS14 [(13,0)])
 refine qg ?_
 refine jc ?_
 refine ab ?_
 exact g8
 refine bk ?_
 refine iY (λh25=>?_) (λh25=>?_)
 refine ci ?_
 refine kE (λh26=>?_) (λh26=>?_)
 refine aK ?_
 iterate 9 refine oS ?_
 refine bI ?_
 refine cN ?_
 refine wz [iv a3,iv a4,.la 5 0,.la 7 0,iv r2,.la 12 0,v11,js a1,ir a1.l.length,ir kn] H13 [(5,(bS.af a0)),(7,(iI.af a2)),(12,(j7.af x7))] ?_ (jd hS14 [(13,0)])
 refine qg ?_
 refine jc ?_
 refine ab ?_
 exact g8
 refine ci ?_
 refine kE (λh27=>?_) (λh27=>?_)
 refine bk ?_
 refine kE (λh28=>?_) (λh28=>?_)
 refine oV ?_
 refine bI ?_
 refine cN ?_
 refine wz [iv a3,iv a4,.la 5 0,.la 7 0,iv r2,.la 12 0,v11,js a1,ir a1.l.length,ir kn] H13 [(5,(bS.af a0)),(7,(iI.af a2)),(12,(j7.af x7))] ?_ (jd hS14 [(13,0)])
 refine qg ?_
 refine jc ?_
 refine ab ?_
 exact g8
 refine bk ?_
 refine kS (b:=x18.bare) rfl (λ_=>rfl) (λh29=>?_) (λh29=>?_)
 refine cN ?_
 refine wz [iv a3,iv a4,.la 5 0,.la 7 0,iv r2,.la 12 0,v11,js a1,ir a1.l.length,ir kn] H13 [(5,(bS.af a0)),(7,(iI.af a2)),(12,(j7.af x7))] ?_ (jd hS14 [(13,0)])
 refine qg ?_
 refine jc ?_
 refine ab ?_
 exact g8
 refine aA ?_
 refine wz [iv a3,iv a4,.la 5 0,.la 7 0,iv r2,.la 12 0,v11,ir kn,.la 15 0,iv x22.elem,js a1,ir a1.l.length,ir kn] H13 [(5,(bS.af a0)),(7,(iI.af a2)),(12,(j7.af x7)),(15,(iQ.af x18))] ?_ (jd hS14 [(13,0)])
 refine cM ?_
 rintro _ ⟨r31,hc30,rfl⟩
 have hStn:=hc30
 refine rC (t55 (Row.ow x18.mA) r31) ?_
 rintro _ ⟨r33,hc32,rfl⟩
 have hIn:=hc32
 cases r33
 refine dG ?_
 have hx34:(a3).toNat<a2.runs.l.length:=by omega
 refine iN rfl rfl (λ_=>jh (n:=a3) (r:=a2.runs) (enc:=lb.af) rfl rfl rfl rfl rfl dT hx34 rfl) ?_
 rw [hqx5]
 refine ay ?_
 have hx36:(x5.iW).toNat<a2.iW.l.length:=by omega
 refine iN rfl rfl (λ_=>jh (n:=x5.iW) (r:=a2.iW) (enc:=jW.af) rfl rfl rfl rfl rfl dT hx36 rfl) ?_
 generalize hqx37:a2.iW.l[(x5.iW).toNat]=x37
 refine ay ?_
 refine rC (t114 a0 x37 x22.elem) ?_
 rintro _ ⟨r39,hc38,rfl⟩
 have hFt:=hc38
 cases r39
 refine bD ?_
 refine wz [iv a3,iv a4,.la 5 0,.la 7 0,iv r2,.la 12 0,v11,js a1,ir a1.l.length,ir kn] H13 [(5,(bS.af a0)),(7,(iI.af a2)),(12,(j7.af x7))] ?_ (jd hS14 [(13,0)])
 refine qg ?_
 refine jc ?_
 refine ab ?_
 exact g8
 refine cf ?_
 refine bl ?_
 refine jq rfl (jZ (i:=0) [((kn:Int))] hS14 rfl rfl rfl rfl rfl rfl rfl rfl rfl (λ_=>rfl) (.inl rfl) dW (λ_=>rfl)) ?_
 rintro v40 H41 hS42
 refine ab ?_
 refine wz [iv a3,iv a4,.la 5 0,.la 7 0,iv r2,.la 12 0,v40,js a1,ir a1.l.length,ir kn] H41 [(5,(bS.af a0)),(7,(iI.af a2)),(12,(j7.af x7))] ?_ (jd hS42 [(13,0)])
 refine qg ?_
 refine jc ?_
 refine ab ?_
 exact ⟨by omega,v40,((l12++[((kn:Int))])),H41,dP,dL,hS42,(jd hS42 [(13,0)])⟩
 refine dD ?_
 refine wz [iv a3,iv a4,.la 5 0,.la 7 0,iv r2,.la 12 0,v11,js a1,ir a1.l.length,ir kn] H13 [(5,(bS.af a0)),(7,(iI.af a2)),(12,(j7.af x7))] ?_ (jd hS14 [(13,0)])
 refine qg ?_
 refine jc ?_
 refine ab ?_
 exact g8
 refine bF ?_
 refine bk ?_
 refine kS (b:=x18.bare) rfl (λ_=>rfl) (λh43=>?_) (λh43=>?_)
 refine cN ?_
 refine wz [iv a3,iv a4,.la 5 0,.la 7 0,iv r2,.la 12 0,v11,js a1,ir a1.l.length,ir kn] H13 [(5,(bS.af a0)),(7,(iI.af a2)),(12,(j7.af x7))] ?_ (jd hS14 [(13,0)])
 refine qg ?_
 refine jc ?_
 refine ab ?_
 exact g8
 refine aA ?_
 refine wz [iv a3,iv a4,.la 5 0,.la 7 0,iv r2,.la 12 0,v11,ir kn,.la 15 0,iv x22.elem,js a1,ir a1.l.length,ir kn] H13 [(5,(bS.af a0)),(7,(iI.af a2)),(12,(j7.af x7)),(15,(iQ.af x18))] ?_ (jd hS14 [(13,0)])
 refine cM ?_
 rintro _ ⟨r45,hc44,rfl⟩
 have hStn:=hc44
 refine rC (t55 (Row.ow x18.mA) r45) ?_
 rintro _ ⟨r47,hc46,rfl⟩
 have hIn:=hc46
 cases r47
 refine dG ?_
 have hx48:(a3).toNat<a2.runs.l.length:=by omega
 refine iN rfl rfl (λ_=>jh (n:=a3) (r:=a2.runs) (enc:=lb.af) rfl rfl rfl rfl rfl dT hx48 rfl) ?_
 rw [hqx5]
 refine ay ?_
 have hx50:(x5.iW).toNat<a2.iW.l.length:=by omega
 refine iN rfl rfl (λ_=>jh (n:=x5.iW) (r:=a2.iW) (enc:=jW.af) rfl rfl rfl rfl rfl dT hx50 rfl) ?_
 generalize hqx51:a2.iW.l[(x5.iW).toNat]=x51
 refine ay ?_
 refine rC (t114 a0 x51 x22.elem) ?_
 rintro _ ⟨r53,hc52,rfl⟩
 have hFt:=hc52
 cases r53
 refine bD ?_
 refine wz [iv a3,iv a4,.la 5 0,.la 7 0,iv r2,.la 12 0,v11,js a1,ir a1.l.length,ir kn] H13 [(5,(bS.af a0)),(7,(iI.af a2)),(12,(j7.af x7))] ?_ (jd hS14 [(13,0)])
 refine qg ?_
 refine jc ?_
 refine ab ?_
 exact g8
 refine cf ?_
 refine bl ?_
 refine jq rfl (jZ (i:=0) [((kn:Int))] hS14 rfl rfl rfl rfl rfl rfl rfl rfl rfl (λ_=>rfl) (.inl rfl) dW (λ_=>rfl)) ?_
 rintro v54 H55 hS56
 refine ab ?_
 refine wz [iv a3,iv a4,.la 5 0,.la 7 0,iv r2,.la 12 0,v54,js a1,ir a1.l.length,ir kn] H55 [(5,(bS.af a0)),(7,(iI.af a2)),(12,(j7.af x7))] ?_ (jd hS56 [(13,0)])
 refine qg ?_
 refine jc ?_
 refine ab ?_
 exact ⟨by omega,v54,((l12++[((kn:Int))])),H55,dP,dL,hS56,(jd hS56 [(13,0)])⟩
 refine dD ?_
 refine wz [iv a3,iv a4,.la 5 0,.la 7 0,iv r2,.la 12 0,v11,js a1,ir a1.l.length,ir kn] H13 [(5,(bS.af a0)),(7,(iI.af a2)),(12,(j7.af x7))] ?_ (jd hS14 [(13,0)])
 refine qg ?_
 refine jc ?_
 refine ab ?_
 exact g8
 refine bB ?_
 refine ci ?_
 refine kE (λh57=>?_) (λh57=>?_)
 refine bk ?_
 refine kE (λh58=>?_) (λh58=>?_)
 refine oV ?_
 refine bI ?_
 refine cN ?_
 refine wz [iv a3,iv a4,.la 5 0,.la 7 0,iv r2,.la 12 0,v11,js a1,ir a1.l.length,ir kn] H13 [(5,(bS.af a0)),(7,(iI.af a2)),(12,(j7.af x7))] ?_ (jd hS14 [(13,0)])
 refine qg ?_
 refine jc ?_
 refine ab ?_
 exact g8
 refine bk ?_
 refine kS (b:=x18.bare) rfl (λ_=>rfl) (λh59=>?_) (λh59=>?_)
 refine cN ?_
 refine wz [iv a3,iv a4,.la 5 0,.la 7 0,iv r2,.la 12 0,v11,js a1,ir a1.l.length,ir kn] H13 [(5,(bS.af a0)),(7,(iI.af a2)),(12,(j7.af x7))] ?_ (jd hS14 [(13,0)])
 refine qg ?_
 refine jc ?_
 refine ab ?_
 exact g8
 refine aA ?_
 refine wz [iv a3,iv a4,.la 5 0,.la 7 0,iv r2,.la 12 0,v11,ir kn,.la 15 0,iv x22.elem,js a1,ir a1.l.length,ir kn] H13 [(5,(bS.af a0)),(7,(iI.af a2)),(12,(j7.af x7)),(15,(iQ.af x18))] ?_ (jd hS14 [(13,0)])
 refine cM ?_
 rintro _ ⟨r61,hc60,rfl⟩
 have hStn:=hc60
 refine rC (t55 (Row.ow x18.mA) r61) ?_
 rintro _ ⟨r63,hc62,rfl⟩
 have hIn:=hc62
 cases r63
 refine dG ?_
 have hx64:(a3).toNat<a2.runs.l.length:=by omega
 refine iN rfl rfl (λ_=>jh (n:=a3) (r:=a2.runs) (enc:=lb.af) rfl rfl rfl rfl rfl dT hx64 rfl) ?_
 rw [hqx5]
 refine ay ?_
 have hx66:(x5.iW).toNat<a2.iW.l.length:=by omega
 refine iN rfl rfl (λ_=>jh (n:=x5.iW) (r:=a2.iW) (enc:=jW.af) rfl rfl rfl rfl rfl dT hx66 rfl) ?_
 generalize hqx67:a2.iW.l[(x5.iW).toNat]=x67
 refine ay ?_
 refine rC (t114 a0 x67 x22.elem) ?_
 rintro _ ⟨r69,hc68,rfl⟩
 have hFt:=hc68
 cases r69
 refine bD ?_
 refine wz [iv a3,iv a4,.la 5 0,.la 7 0,iv r2,.la 12 0,v11,js a1,ir a1.l.length,ir kn] H13 [(5,(bS.af a0)),(7,(iI.af a2)),(12,(j7.af x7))] ?_ (jd hS14 [(13,0)])
 refine qg ?_
 refine jc ?_
 refine ab ?_
 exact g8
 refine cf ?_
 refine bl ?_
 refine jq rfl (jZ (i:=0) [((kn:Int))] hS14 rfl rfl rfl rfl rfl rfl rfl rfl rfl (λ_=>rfl) (.inl rfl) dW (λ_=>rfl)) ?_
 rintro v70 H71 hS72
 refine ab ?_
 refine wz [iv a3,iv a4,.la 5 0,.la 7 0,iv r2,.la 12 0,v70,js a1,ir a1.l.length,ir kn] H71 [(5,(bS.af a0)),(7,(iI.af a2)),(12,(j7.af x7))] ?_ (jd hS72 [(13,0)])
 refine qg ?_
 refine jc ?_
 refine ab ?_
 exact ⟨by omega,v70,((l12++[((kn:Int))])),H71,dP,dL,hS72,(jd hS72 [(13,0)])⟩
 refine dD ?_
 refine wz [iv a3,iv a4,.la 5 0,.la 7 0,iv r2,.la 12 0,v11,js a1,ir a1.l.length,ir kn] H13 [(5,(bS.af a0)),(7,(iI.af a2)),(12,(j7.af x7))] ?_ (jd hS14 [(13,0)])
 refine qg ?_
 refine jc ?_
 refine ab ?_
 exact g8
 refine bF ?_
 refine bk ?_
 refine kS (b:=x18.bare) rfl (λ_=>rfl) (λh73=>?_) (λh73=>?_)
 refine cN ?_
 refine wz [iv a3,iv a4,.la 5 0,.la 7 0,iv r2,.la 12 0,v11,js a1,ir a1.l.length,ir kn] H13 [(5,(bS.af a0)),(7,(iI.af a2)),(12,(j7.af x7))] ?_ (jd hS14 [(13,0)])
 refine qg ?_
 refine jc ?_
 refine ab ?_
 exact g8
 refine aA ?_
 refine wz [iv a3,iv a4,.la 5 0,.la 7 0,iv r2,.la 12 0,v11,ir kn,.la 15 0,iv x22.elem,js a1,ir a1.l.length,ir kn] H13 [(5,(bS.af a0)),(7,(iI.af a2)),(12,(j7.af x7)),(15,(iQ.af x18))] ?_ (jd hS14 [(13,0)])
 refine cM ?_
 rintro _ ⟨r75,hc74,rfl⟩
 have hStn:=hc74
 refine rC (t55 (Row.ow x18.mA) r75) ?_
 rintro _ ⟨r77,hc76,rfl⟩
 have hIn:=hc76
 cases r77
 refine dG ?_
 have hx78:(a3).toNat<a2.runs.l.length:=by omega
 refine iN rfl rfl (λ_=>jh (n:=a3) (r:=a2.runs) (enc:=lb.af) rfl rfl rfl rfl rfl dT hx78 rfl) ?_
 rw [hqx5]
 refine ay ?_
 have hx80:(x5.iW).toNat<a2.iW.l.length:=by omega
 refine iN rfl rfl (λ_=>jh (n:=x5.iW) (r:=a2.iW) (enc:=jW.af) rfl rfl rfl rfl rfl dT hx80 rfl) ?_
 generalize hqx81:a2.iW.l[(x5.iW).toNat]=x81
 refine ay ?_
 refine rC (t114 a0 x81 x22.elem) ?_
 rintro _ ⟨r83,hc82,rfl⟩
 have hFt:=hc82
 cases r83
 refine bD ?_
 refine wz [iv a3,iv a4,.la 5 0,.la 7 0,iv r2,.la 12 0,v11,js a1,ir a1.l.length,ir kn] H13 [(5,(bS.af a0)),(7,(iI.af a2)),(12,(j7.af x7))] ?_ (jd hS14 [(13,0)])
 refine qg ?_
 refine jc ?_
 refine ab ?_
 exact g8
 refine cf ?_
 refine bl ?_
 refine jq rfl (jZ (i:=0) [((kn:Int))] hS14 rfl rfl rfl rfl rfl rfl rfl rfl rfl (λ_=>rfl) (.inl rfl) dW (λ_=>rfl)) ?_
 rintro v84 H85 hS86
 refine ab ?_
 refine wz [iv a3,iv a4,.la 5 0,.la 7 0,iv r2,.la 12 0,v84,js a1,ir a1.l.length,ir kn] H85 [(5,(bS.af a0)),(7,(iI.af a2)),(12,(j7.af x7))] ?_ (jd hS86 [(13,0)])
 refine qg ?_
 refine jc ?_
 refine ab ?_
 exact ⟨by omega,v84,((l12++[((kn:Int))])),H85,dP,dL,hS86,(jd hS86 [(13,0)])⟩
 refine dD ?_
 refine wz [iv a3,iv a4,.la 5 0,.la 7 0,iv r2,.la 12 0,v11,js a1,ir a1.l.length,ir kn] H13 [(5,(bS.af a0)),(7,(iI.af a2)),(12,(j7.af x7))] ?_ (jd hS14 [(13,0)])
 refine qg ?_
 refine jc ?_
 refine ab ?_
 exact g8
 refine ao ?_
 refine wz [v11] H13 [] ?_ (jd hS14 [(13,0)])
 refine bv ?_
 obtain ⟨r87,hl88,hf89⟩:=lS (H:=H13) (i:=0) (l:=l12) (enc:=iP) hS14 rfl dQ
 have hlq:=hl88; have hln91:=congrArg List.length hl88
 have hz90:∀ m,freeze false { H13 with iq:=[] } (m+2) v11=some (jV r87):=λm=>hf89 _ _ (λ_=>rfl)
 exact ⟨v11,(kY (vs:=[v11]) rfl (iM (Sep.arg (i:=0) hS14 rfl) jP)),jV r87,(show freeze false { H13 with iq:=[] } 8 v11=some (jV r87) by simp only [FZ,hz90]),r87,fC,rfl⟩
def P21 (_a0:bS) (_a1:Row iQ) (_a2:iI) (v:AV):Prop:=∃ r0:Int,(sM _a0 _a1.l _a2 r0)/\v=iv r0
def t21 (a0:bS) (a1:Row iQ) (a2:iI) (q1:(∀ r∈a1.l,0<r.steps.l.length)) (q2:a1.l.length<=64) (q9:∀ e,kr a0 e=4->rT a0 e=0) (qv:rs 46 [.agg (bS.af a0),.agg (iI.af a2)]=iv 0) (q7:xz a0 a2):Ct 21 [.agg (bS.af a0),js a1,.agg (iI.af a2)] (P21 a0 a1 a2):=by
 refine ja K3 ?_
 have hPr2:=tB.TV q7.oZ
 refine bR ?_
 refine aQ ?_
 have hL1:=a0.signals.lk
 refine da ?_
 have hNk2:=a0.signals.lk
 refine iF a0.signals.l.length (λk2 e h=>(∀ (i:Nat) (h:i<a0.signals.l.length),i<k2->(a0.signals.l[i]).auto=false)/\At [1,3,5,23,24,25] [js a1,.la 3 0,.la 5 0,jD a0.signals,ir a0.signals.l.length,ir k2] aT.empty [(3,(bS.af a0)),(5,(iI.af a2))] e h) ?_ (k0:=0) dT ⟨eE,atR⟩
 rintro k2 e h hkk2 ⟨hSg,hA⟩
 refine aO ?_
 refine iV (λh3=>?_) (λh3=>?_)
 refine b5 ?_
 have hx4:k2<a0.signals.l.length:=by omega
 refine kH k2 a0.signals hx4 ?_
 generalize hqx5:a0.signals.l[k2]=x5
 refine aj ?_
 refine cR ?_
 refine kS (b:=x5.auto) rfl (λ_=>rfl) (λh6=>?_) (λh6=>?_)
 refine bu ?_
 exact xB ⟨7,dM,rfl⟩
 refine cm ?_
 refine jc ?_
 refine ab ?_
 exact ⟨by omega,(by exact lC (P:=λx:j6=>x.auto=false) dS hSg dS),atR⟩
 refine ao ?_
 refine aQ ?_
 refine oC (aeC a0 a2  qv) ?_
 rintro _ rfl
 refine cR ?_
 refine aA ?_
 refine aU ?_
 refine aQ ?_
 have hL8:=a2.runs.lk
 refine jb a2.runs ?_
 refine aL ?_
 have hNk9:=a2.runs.lk
 refine iF a2.runs.l.length (λk9 e h=>(∀ i,i<k9->wv a0 a2 i=0)/\At [1,3,5,10,40,41] [js a1,.la 3 0,.la 5 0,iE,ir a2.runs.l.length,ir k9] aT.empty [(3,(bS.af a0)),(5,(iI.af a2))] e h) ?_ (k0:=0) dT ⟨(by (intro i h; omega)),atR⟩
 rintro k9 e h hkk9 ⟨hEr,hA⟩
 refine aO ?_
 refine iV (λh10=>?_) (λh10=>?_)
 refine b5 ?_
 refine bo ?_
 refine aP ?_
 refine oC (t52 a0 a2 ((k9:Int))) ?_
 rintro _ ⟨r12,r13,hc11,rfl⟩
 have hTr:=hc11
 cases r13
 refine aF ?_
 refine aH ?_
 refine cJ ?_
 have hx14:k9<a2.runs.l.length:=by omega
 refine lh k9 a2.runs hx14 ?_
 generalize hqx15:a2.runs.l[k9]=x15
 have hinx15:x15∈a2.runs.l:=by rw [<- hqx15]; exact List.getElem_mem _
 have hsx15:=q7.oZ.2 x15 hinx15
 refine ay ?_
 have hx16:(x15.iW).toNat<a2.iW.l.length:=by omega
 refine iN rfl rfl (λ_=>jh (n:=x15.iW) (r:=a2.iW) (enc:=jW.af) rfl rfl rfl rfl rfl dT hx16 rfl) ?_
 generalize hqx17:a2.iW.l[(x15.iW).toNat]=x17
 refine bf ?_
 refine rC (t53 a0 x17.len r12 dK) ?_
 rintro _ ⟨r19,r20,hc18,rfl⟩
 have hSw:=hc18
 refine bG ?_
 refine aE ?_
 refine kE (λh21=>?_) (λh21=>?_)
 refine dy ?_
 exact xB ⟨r20,dM,rfl⟩
 refine cm ?_
 refine jc ?_
 refine ab ?_
 exact ⟨by omega,fX,atR⟩
 refine aF ?_
 refine aH ?_
 refine cJ ?_
 have hx22:k9<a2.runs.l.length:=by omega
 refine lh k9 a2.runs hx22 ?_
 generalize hqx23:a2.runs.l[k9]=x23
 have hinx23:x23∈a2.runs.l:=by rw [<- hqx23]; exact List.getElem_mem _
 have hsx23:=q7.oZ.2 x23 hinx23
 refine ay ?_
 have hx24:(x23.iW).toNat<a2.iW.l.length:=by omega
 refine iN rfl rfl (λ_=>jh (n:=x23.iW) (r:=a2.iW) (enc:=jW.af) rfl rfl rfl rfl rfl dT hx24 rfl) ?_
 generalize hqx25:a2.iW.l[(x23.iW).toNat]=x25
 refine bf ?_
 refine rC (t53 a0 x25.len r12 dK) ?_
 rintro _ ⟨r27,r28,hc26,rfl⟩
 have hSw:=hc26
 refine bG ?_
 refine aE ?_
 refine kE (λh29=>?_) (λh29=>?_)
 refine dy ?_
 exact xB ⟨r28,dM,rfl⟩
 refine cm ?_
 refine jc ?_
 refine ab ?_
 exact ⟨by omega,fX,atR⟩
 refine ao ?_
 refine aQ ?_
 have hL30:=a2.runs.lk
 refine jb a2.runs ?_
 refine aL ?_
 have hS31:=Sep.mn j1 1
 have hNk32:=a2.runs.lk
 refine iF a2.runs.l.length (λpO e h=>∃ v33:AV,∃ l34:List Int,∃ H35:aT,(l34.length<=0+pO)/\(uN a0 a2 pO l34)/\(¬ pz (qH a0 a2) pO)/\Sep H35 (ot v33 l34::[])/\At [1,3,5,10,74,75] [js a1,.la 3 0,.la 5 0,v33,ir a2.runs.l.length,ir pO] H35 [(3,(bS.af a0)),(5,(iI.af a2))] e h) ?_ (k0:=0) dT ⟨iE,(([]:List Int)),aT.empty,ew,(by exact uN.zero),(by (rintro ⟨i,j,h1,h2,h3⟩; omega)),hS31,atR⟩
 rintro pO e h hkk32 ⟨v33,l34,H35,hl37,hAtk,hNM,hS36,hA⟩
 refine s6 hA ?_
 have hd8:=q7.runs
 refine aa ?_
 refine iV (λh38=>?_) (λh38=>?_)
 refine ap ?_
 refine wz [js a1,.la 3 0,.la 5 0,v33,ir a2.runs.l.length,ir pO] H35 [(3,(bS.af a0)),(5,(iI.af a2))] ?_ (jd hS36 [(10,0)])
 refine aD ?_
 refine bb ?_
 refine aP ?_
 refine oC (t52 a0 a2 ((pO:Int))) ?_
 rintro _ ⟨r40,r41,hc39,rfl⟩
 have hTr:=hc39
 cases r41
 refine aF ?_
 refine bp ?_
 refine oC (t54 a0 r40.at_.elem) ?_
 rintro _ ⟨r43,hc42,rfl⟩
 have hK:=hc42
 refine iY (λh44=>?_) (λh44=>?_)
 refine az ?_
 refine qs ?_
 refine bp ?_
 refine nN hS36 0 λr45 hl46 hln49 hz48=>?_
 refine mS (args:=[v33,iv r40.at_.elem]) (p:=[]) (r:=[]) (args':=[py r45,iv r40.at_.elem]) (R:=Rq r45 r40.at_.elem) rfl rfl rfl rfl rfl (iM (Sep.arg (i:=0) hS36 rfl) (iM rfl jP)) rfl fw (kO (by show ju (freeze true { H35 with iq:=[] } 8) [v33,iv r40.at_.elem] = _; simp only [FZ,hz48]) (iM (Sep.oZ (i:=0) hS36 rfl) (iM rfl jP))) (kO fg (iM rfl (iM rfl jP))) (λh=>t55 r45 r40.at_.elem  h) ?_
 rintro _ ⟨r51,hc50,rfl⟩
 have hIn:=hc50
 cases r51
 refine aC ?_
 refine wz [js a1,.la 3 0,.la 5 0,v33,.la 17 0,ir a2.runs.l.length,ir pO] H35 [(3,(bS.af a0)),(5,(iI.af a2)),(17,(kU.af r40))] ?_ (jd hS36 [(10,0)])
 refine qg ?_
 refine ci ?_
 refine jq rfl (jZ (i:=0) [r40.at_.elem] hS36 rfl rfl rfl rfl rfl rfl rfl rfl rfl (λ_=>rfl) (.inl rfl) dW (λ_=>rfl)) ?_
 rintro v52 H53 hS54
 refine ab ?_
 refine wz [js a1,.la 3 0,.la 5 0,v52,ir a2.runs.l.length,ir pO] H53 [(3,(bS.af a0)),(5,(iI.af a2))] ?_ (jd hS54 [(10,0)])
 refine qg ?_
 refine jc ?_
 refine ab ?_
 exact ⟨by omega,v52,((l34++[r40.at_.elem])),H53,dP,eM,eJ,hS54,(jd hS54 [(10,0)])⟩
 refine bu ?_
 exact xB ⟨18,dM,rfl⟩
 refine aC ?_
 refine wz [js a1,.la 3 0,.la 5 0,v33,ir a2.runs.l.length,ir pO] H35 [(3,(bS.af a0)),(5,(iI.af a2))] ?_ (jd hS36 [(10,0)])
 refine qg ?_
 refine jc ?_
 refine ab ?_
 exact gz
 refine aF ?_
 refine bp ?_
 refine oC (t54 a0 r40.at_.elem) ?_
 rintro _ ⟨r56,hc55,rfl⟩
 have hK:=hc55
 refine iY (λh57=>?_) (λh57=>?_)
 refine az ?_
 refine qs ?_
 refine bp ?_
 refine nN hS36 0 λr58 hl59 hln62 hz61=>?_
 refine mS (args:=[v33,iv r40.at_.elem]) (p:=[]) (r:=[]) (args':=[py r58,iv r40.at_.elem]) (R:=Rq r58 r40.at_.elem) rfl rfl rfl rfl rfl (iM (Sep.arg (i:=0) hS36 rfl) (iM rfl jP)) rfl fw (kO (by show ju (freeze true { H35 with iq:=[] } 8) [v33,iv r40.at_.elem] = _; simp only [FZ,hz61]) (iM (Sep.oZ (i:=0) hS36 rfl) (iM rfl jP))) (kO fg (iM rfl (iM rfl jP))) (λh=>t55 r58 r40.at_.elem  h) ?_
 rintro _ ⟨r64,hc63,rfl⟩
 have hIn:=hc63
 cases r64
 refine aC ?_
 refine wz [js a1,.la 3 0,.la 5 0,v33,.la 17 0,ir a2.runs.l.length,ir pO] H35 [(3,(bS.af a0)),(5,(iI.af a2)),(17,(kU.af r40))] ?_ (jd hS36 [(10,0)])
 refine qg ?_
 refine ci ?_
 refine jq rfl (jZ (i:=0) [r40.at_.elem] hS36 rfl rfl rfl rfl rfl rfl rfl rfl rfl (λ_=>rfl) (.inl rfl) dW (λ_=>rfl)) ?_
 rintro v65 H66 hS67
 refine ab ?_
 refine wz [js a1,.la 3 0,.la 5 0,v65,ir a2.runs.l.length,ir pO] H66 [(3,(bS.af a0)),(5,(iI.af a2))] ?_ (jd hS67 [(10,0)])
 refine qg ?_
 refine jc ?_
 refine ab ?_
 exact ⟨by omega,v65,((l34++[r40.at_.elem])),H66,dP,eM,eJ,hS67,(jd hS67 [(10,0)])⟩
 refine bu ?_
 exact xB ⟨18,dM,rfl⟩
 refine aC ?_
 refine wz [js a1,.la 3 0,.la 5 0,v33,ir a2.runs.l.length,ir pO] H35 [(3,(bS.af a0)),(5,(iI.af a2))] ?_ (jd hS36 [(10,0)])
 refine qg ?_
 refine jc ?_
 refine ab ?_
 exact gz
 refine ao ?_
 refine aQ ?_
 have hL68:=a2.runs.lk
 refine jb a2.runs ?_
 refine aL ?_
 have hNk69:=a2.runs.lk
 refine iF a2.runs.l.length (λrM e h=>(∀ i,i<rM->¬ rn a0 a1.l a2 i)/\At [1,3,5,104,105,106] [js a1,.la 3 0,.la 5 0,qO a2.runs,ir a2.runs.l.length,ir rM] H35 [(3,(bS.af a0)),(5,(iI.af a2))] e h) ?_ (k0:=0) dT ⟨(by (intro i h; omega)),atR⟩
 rintro rM e h hkk69 ⟨hBd,hA⟩
 refine aO ?_
 refine iV (λh70=>?_) (λh70=>?_)
 refine ap ?_
 refine bT ?_
 have hx71:rM<a2.runs.l.length:=by omega
 refine kH rM a2.runs hx71 ?_
 generalize hqx72:a2.runs.l[rM]=x72
 have hinx72:x72∈a2.runs.l:=by rw [<- hqx72]; exact List.getElem_mem _
 have hsx72:=q7.oZ.2 x72 hinx72
 refine cg ?_
 refine aQ ?_
 have hL73:=x72.jE.lk
 refine jb x72.jE ?_
 refine iY (λh74=>?_) (λh74=>?_)
 refine be ?_
 refine dk ?_
 refine aq ?_
 exact xB ⟨10,dM,rfl⟩
 refine ci ?_
 have hL75:=x72.jE.lk
 refine jb x72.jE ?_
 have hL76:=x72.jE.lk
 refine jT ?_
 have hx77:((x72.jE.l.length:Int) - 1).toNat<x72.jE.l.length:=by omega
 refine iz rfl (λ_=>jh (n:=(x72.jE.l.length:Int) - 1) (r:=x72.jE) (enc:=j7.af) rfl rfl rfl rfl rfl dT hx77 rfl) ?_
 generalize hqx78:x72.jE.l[((x72.jE.l.length:Int) - 1).toNat]=x78
 refine aj ?_
 refine kE (λh79=>?_) (λh79=>?_)
 refine aq ?_
 exact xB ⟨10,dM,rfl⟩
 refine aA ?_
 refine ae ?_
 have hL80:=x72.jE.lk
 refine jb x72.jE ?_
 refine aL ?_
 have hNk81:=x72.jE.lk
 refine iF x72.jE.l.length (λoL e h=>(∀ i:Nat,i<oL->oF a0 a1.l a2 (rM:Nat) (i:Nat)≠[])/\At [1,3,5,19,104,105,106,129,130] [js a1,.la 3 0,.la 5 0,ir rM,qO a2.runs,ir a2.runs.l.length,ir rM,ir x72.jE.l.length,ir oL] H35 [(3,(bS.af a0)),(5,(iI.af a2))] e h) ?_ (k0:=0) dT ⟨(by (intro i h; omega)),atR⟩
 rintro oL e h hkk81 ⟨hRn,hA⟩
 refine aO ?_
 refine iV (λh82=>?_) (λh82=>?_)
 refine b5 ?_
 refine c9 ?_
 refine ci ?_
 refine oC (t56 a0 a1 a2 ((rM:Int)) ((oL:Int)) dK dK dK) ?_
 rintro _ ⟨r84,hc83,rfl⟩
 have hRl:=hc83.1; have hRe:=hc83.2
 have hL85:=r84.lk
 refine jb r84 ?_
 refine iY (λh86=>?_) (λh86=>?_)
 refine bu ?_
 exact xB ⟨10,dM,rfl⟩
 refine cm ?_
 refine jc ?_
 refine ab ?_
 exact ⟨by omega,(by exact BZ hRn (ne_nil hRe dS)),atR⟩
 refine ao ?_
 refine qg ?_
 refine jc ?_
 refine ab ?_
 exact ⟨by omega,(by exact BZ hBd (T0 dS dS dS dS hRn dT)),atR⟩
 refine cG ?_
 exact xB ⟨0,dM,rfl⟩
def P9 (_a0:bS) (_a1:iI) (v:AV):Prop:=(∃ r0:jR,∃ r1:iR,(rG r1 _a0/\mu _a0/\tB _a1/\_a1.iW.l.length<=10/\(∀ r∈(r0.roads.l:List iQ),0<r.steps.l.length/\r.steps.l.length<=12/\r.lQ.l.length<=12/\nL r)/\r0.roads.l.length<=64/\(r0.vk = _a0.canon/\∃ n:iR,rG n _a0/\rs 49 [.agg (bS.af _a0)]=.je [.ip (iR.af n) 0 false,iv 0])/\rs 67 [.agg (bS.af _a0)]=.je [.agg (jR.af r0),iv 0]/\xz _a0 _a1/\rs 46 [.agg (bS.af _a0),.agg (iI.af _a1)]=iv 0)/\v=.je [.agg (jR.af r0),.ip (iR.af r1) 0 false,.bool true])\/(∃ r0:jR,∃ r1:AV,(True)/\v=.je [.agg (jR.af r0),r1,iD])
def t9 (a0:bS) (a1:iI) (hJg:JG a0):Ct 9 [.agg (bS.af a0),.agg (iI.af a1)] (P9 a0 a1):=by
 refine ja U4 ?_
 refine ae ?_
 refine dh ?_
 refine oC (t19 a0 a1 dK) ?_
 rintro _ (⟨r2,r3,hc1,rfl⟩ | ⟨r4,r5,hc1,rfl⟩)
 have hAO:=hc1
 obtain ⟨hNn,hFw,hDf,hSt,hSn,h64,⟨hPl0,nx,hnk,hnx⟩,hBd,hDv,hCv⟩:=hAO
 have hx1:∀ r∈r2.roads.l,0<r.steps.l.length:=λr hr=>(hSn r hr).1
 have hx2:=Kv hnk.x.kd
 refine aj ?_
 refine ct ?_
 refine ci ?_
 refine oC (t21 a0 r2.roads a1 dK dK dK dK dK) ?_
 rintro _ ⟨r7,hc6,rfl⟩
 have hCh:=hc6
 refine kE (λh8=>?_) (λh8=>?_)
 refine cw ?_
 refine ck ?_
 refine xG (.inr (⟨((⟨(⟨(kI:Row j9),(kI:Row j3),(kI:Row j6),(kI:Row jx),0,0,0,0,false⟩:bS),(kI:Row iQ)⟩:jR)),.j4,zt⟩))
 refine dE ?_
 refine ck ?_
 refine xG (.inl ⟨r2,r3,dS,rfl⟩)
 refine aj ?_
 refine ct ?_
 refine bB ?_
 refine oS ?_
 refine cw ?_
 refine ck ?_
 refine xG (.inr (⟨((⟨(⟨(kI:Row j9),(kI:Row j3),(kI:Row j6),(kI:Row jx),0,0,0,0,false⟩:bS),(kI:Row iQ)⟩:jR)),.j4,zt⟩))
def P14 (_a0:Row jz) (v:AV):Prop:=∃ r0:Bool,((r0=true->_a0.l.length<=10/\∀ t∈_a0.l,ue t))/\v=.bool r0
def t14 (a0:Row jz) :Ct 14 [jQ a0] (P14 a0):=by
 refine ja ME ?_
 refine bN ?_
 have hL1:=a0.lk
 refine jb a0 ?_
 refine jI (λh2=>?_) (λh2=>?_)
 refine bu ?_
 exact gh
 refine aC ?_
 refine wy [jQ a0] [] ?_
 refine ah ?_
 have hL3:=a0.lk
 refine jb a0 ?_
 refine aL ?_
 have hNk4:=a0.lk
 refine iF a0.l.length (λk4 e h=>∃ H5:aT,(∀ (i:Nat) (h:i<a0.l.length),i<k4->ue (a0.l[i]))/\Sep H5 ([])/\At [12,13,14] [jQ a0,ir a0.l.length,ir k4] H5 [] e h) ?_ (k0:=0) dT ⟨aT.empty,eE,j1,atR⟩
 rintro k4 e h hkk4 ⟨H5,hSm,hS6,hA⟩
 refine aO ?_
 refine iV (λh7=>?_) (λh7=>?_)
 refine ap ?_
 refine wz [jQ a0,ir a0.l.length,ir k4] H5 [] ?_
 refine bi ?_
 have hx8:k4<a0.l.length:=by omega
 refine kH k4 a0 hx8 ?_
 generalize hqx9:a0.l[k4]=x9
 refine ba ?_
 refine aQ ?_
 have hL10:=x9.iC.lk
 refine jb x9.iC ?_
 refine jI (λh11=>?_) (λh11=>?_)
 refine bF ?_
 refine aV ?_
 refine bQ ?_
 exact gh
 refine aK ?_
 have hL12:=x9.roads.lk
 refine jb x9.roads ?_
 refine jI (λh13=>?_) (λh13=>?_)
 refine aV ?_
 refine bQ ?_
 exact gh
 refine bk ?_
 have hL14:=x9.steps.lk
 refine jb x9.steps ?_
 refine jI (λh15=>?_) (λh15=>?_)
 refine bQ ?_
 exact gh
 refine bk ?_
 have hL16:=x9.lj.lk
 refine jb x9.lj ?_
 refine jI (λh17=>?_) (λh17=>?_)
 refine aq ?_
 exact gh
 refine aA ?_
 refine wz [.la 4 0,jQ a0,ir a0.l.length,ir k4] H5 [(4,(jz.af x9))] ?_
 refine aQ ?_
 have hL18:=x9.iC.lk
 refine jb x9.iC ?_
 refine aL ?_
 have hNk19:=x9.iC.lk
 refine iF x9.iC.l.length (λnh e h=>(∀ (i:Nat) (h:i<x9.iC.l.length),i<nh->(x9.iC.l[i]).dO.l.length<=60)/\At [4,12,13,14,41,42,43] [.la 4 0,jQ a0,ir a0.l.length,ir k4,od x9.iC,ir x9.iC.l.length,ir nh] H5 [(4,(jz.af x9))] e h) ?_ (k0:=0) dT ⟨eE,atR⟩
 rintro nh e h hkk19 ⟨hTl,hA⟩
 refine aO ?_
 refine iV (λh20=>?_) (λh20=>?_)
 refine ap ?_
 refine wz [.la 4 0,jQ a0,ir a0.l.length,ir k4,od x9.iC,ir x9.iC.l.length,ir nh] H5 [(4,(jz.af x9))] ?_
 refine bi ?_
 have hx21:nh<x9.iC.l.length:=by omega
 refine kH nh x9.iC hx21 ?_
 generalize hqx22:x9.iC.l[nh]=x22
 refine dh ?_
 have hL23:=x22.dO.lk
 refine jb x22.dO ?_
 refine jI (λh24=>?_) (λh24=>?_)
 refine bu ?_
 exact gh
 refine aC ?_
 refine wz [.la 4 0,jQ a0,ir a0.l.length,ir k4,od x9.iC,ir x9.iC.l.length,ir nh] H5 [(4,(jz.af x9))] ?_
 refine qg ?_
 refine jc ?_
 refine ab ?_
 exact ⟨by omega,(by exact lC (P:=λb:iL=>b.dO.l.length<=60) dS hTl dT),atR⟩
 refine ao ?_
 refine wz [.la 4 0,jQ a0,ir a0.l.length,ir k4] H5 [(4,(jz.af x9))] ?_
 refine aH ?_
 refine cJ ?_
 have hS25:=Sep.qZ hS6 1
 have hL26:=x9.steps.lk
 refine qN rfl rfl (jZ (i:=0) (l:=([]:List (Row Int))) (enc:=(kp iP)) x9.steps.l hS25 rfl rfl rfl rfl rfl rfl rfl rfl rfl (λ_=>rfl) (.inl rfl) dW (λ_=>rfl)) ?_
 rintro v27 H28 hS29
 refine ⟨λcall=>(wM (l8 rfl rfl rfl rfl rfl E6)),?_⟩
 have hL30:=x9.lj.lk
 refine l3 rfl rfl (jZ (i:=0) (l:=(([]:List (Row Int))++x9.steps.l)) (enc:=(kp iP)) x9.lj.l hS29 rfl rfl rfl rfl rfl rfl rfl rfl rfl (λ_=>rfl) (.inl rfl) dW (λ_=>rfl)) ?_
 rintro v31 H32 hS33
 refine iN rfl rfl (λ_=>oJ (i:=0) (l:=((([]:List (Row Int))++x9.steps.l)++x9.lj.l)) (enc:=(kp iP)) hS33 rfl rfl rfl rfl rfl rfl rfl) ?_
 refine rN ?_
 refine qb ?_
 refine iF (((([]:List (Row Int))++x9.steps.l)++x9.lj.l).length) (λp8 e h=>(∀ (i:Nat) (h:i<((([]:List (Row Int))++x9.steps.l)++x9.lj.l).length),i<p8->(((([]:List (Row Int))++x9.steps.l)++x9.lj.l)[i]).l.length<=60)/\At [12,13,14,58,59,60] [jQ a0,ir a0.l.length,ir k4,v31,iv (((([]:List (Row Int))++x9.steps.l)++x9.lj.l).length:Int),ir p8] H32 [] e h) ?_ (k0:=0) dT ⟨eE,(jd hS33 [(58,0)])⟩
 rintro p8 e h hkk34 ⟨hRw,hA⟩
 refine s6 hA ?_
 have hla:((([]:List (Row Int))++x9.steps.l)++x9.lj.l).length<=120:=by simp only [List.length_append,List.length_nil]; omega
 refine aa ?_
 refine iV (λh35=>?_) (λh35=>?_)
 refine ap ?_
 refine wz [jQ a0,ir a0.l.length,ir k4,v31,iv (((([]:List (Row Int))++x9.steps.l)++x9.lj.l).length:Int),ir p8] H32 [] ?_ (jd hS33 [(58,0)])
 refine bi ?_
 have hx36:p8<((([]:List (Row Int))++x9.steps.l)++x9.lj.l).length:=by first | omega | (simp<;>omega) | (simp_all; omega)
 obtain ⟨x37,hqx37⟩:∃ x,((([]:List (Row Int))++x9.steps.l)++x9.lj.l)[p8]=x:=⟨_,rfl⟩
 refine sa rfl (nd (i:=0) (m:=p8) (cs:=(kp iP) x37) hS33 rfl rfl rfl rfl rfl rfl rfl (lO hx36 hqx37)) ?_
 rintro a38 ⟨ha39,hea40⟩
 refine iz rfl (λ_=>o9 (i:=0) (m:=p8) (o:=0) (r:=jV x37) (cs:=(kp iP) x37) hS33 rfl (lO hx36 hqx37) hea40 rfl rfl ha39) ?_
 refine cR ?_
 have hL41:=x37.lk
 refine jb x37 ?_
 refine jI (λh42=>?_) (λh42=>?_)
 refine bu ?_
 exact gh
 refine aC ?_
 refine wz [jQ a0,ir a0.l.length,ir k4,v31,iv (((([]:List (Row Int))++x9.steps.l)++x9.lj.l).length:Int),ir p8] H32 [] ?_ (jd hS33 [(58,0)])
 refine qg ?_
 refine jc ?_
 refine ab ?_
 exact ⟨by omega,(by exact lC (P:=λb:Row Int=>b.l.length<=60) dS hRw dT),(jd hS33 [(58,0)])⟩
 refine ao ?_
 refine wz [jQ a0,ir a0.l.length,ir k4] H32 [] ?_
 refine qg ?_
 refine jc ?_
 refine ab ?_
 have hS43:=Sep.pick hS33 [] 1 dX dX
 exact ⟨by omega,H32,(by exact lC (P:=ue) dS hSm (KT dT dT dT hTl dT hRw dT)),hS43,atR⟩
 refine ao ?_
 refine wz [] H5 [] ?_
 refine a6 ?_
 exact xB ⟨true,eF,rfl⟩
def ads (_a0:bS) (_a1:Int) (_a2:Int) (v:AV):Prop:=∃ r0:Row jB,(True)/\v=p5 r0
def t159 (a0:bS) (a1:Int) (a2:Int) :Ct 159 [.agg (bS.af a0),iv a1,iv a2] (ads a0 a1 a2):=by
 refine ja IL ?_
 refine bb ?_
 refine qs ?_
 refine bp ?_
 refine oC (t254 a0 (⟨a1,a2⟩:iu)) ?_
 rintro _ ⟨r2,hc1,rfl⟩
 cases r2
 clear hc1
 refine aq ?_
 exact xG ⟨(kI:Row jB),zt⟩
 have hc1t:=hc1 rfl
 refine aA ?_
 refine aQ ?_
 refine oC (t111 a0 a1) ?_
 rintro _ ⟨r4,hc3,rfl⟩
 refine cT ?_
 refine iY (λh5=>?_) (λh5=>?_)
 refine aN ?_
 refine aE ?_
 refine iz rfl (λ_=>iZ rfl rfl rfl (jF .i64 1 a2)) ?_
 refine b8 ?_
 exact xG ⟨(⟨[(⟨(IntKind.i64.wrap (1 - a2)),0⟩:jB)],.exact 1,nM,rfl,lN⟩:Row jB),zt⟩
 refine aS ?_
 refine iY (λh6=>?_) (λh6=>?_)
 refine aN ?_
 refine aE ?_
 refine iz rfl (λ_=>iZ rfl rfl rfl (TF _ _)) ?_
 refine b8 ?_
 exact xG ⟨(⟨[(⟨(IntKind.i64.wrap ((BitVec.ofInt 64 a2 ^^^ BitVec.ofInt 64 1).toNat:Int)),0⟩:jB)],.exact 1,nM,rfl,lN⟩:Row jB),zt⟩
 refine aS ?_
 refine iY (λh7=>?_) (λh7=>?_)
 refine aN ?_
 refine ah ?_
 refine iY (λh8=>?_) (λh8=>?_)
 refine az ?_
 refine aa ?_
 refine ck ?_
 exact xG ⟨(⟨[(⟨1,1⟩:jB),(⟨2,2⟩:jB)],.exact 2,nM,rfl,lN⟩:Row jB),zt⟩
 refine aC ?_
 refine aa ?_
 refine ck ?_
 exact xG ⟨(⟨[(⟨0,a2⟩:jB)],.exact 1,nM,rfl,lN⟩:Row jB),zt⟩
 refine aA ?_
 refine a6 ?_
 exact xG ⟨(kI:Row jB),zt⟩
def P82 (_a0:bS) (_a1:Row iu) (v:AV):Prop:=∃ r0:Bool,((r0=true->0 < _a1.l.length/\∀ x∈_a1.l,pS _a0 x.elem))/\v=.bool r0
def t82 (a0:bS) (a1:Row iu) :Ct 82 [.agg (bS.af a0),ld a1] (P82 a0 a1):=by
 refine ja Lr ?_
 refine bb ?_
 refine ah ?_
 have hL1:=a1.lk
 refine jb a1 ?_
 refine aL ?_
 have hNk2:=a1.lk
 refine iF a1.l.length (λk2 e h=>(∀ (i:Nat) (h:i<a1.l.length),i<k2->pS a0 (a1.l[i]).elem)/\At [1,2,13,14,15] [ld a1,.la 2 0,ld a1,ir a1.l.length,ir k2] aT.empty [(2,(bS.af a0))] e h) ?_ (k0:=0) dT ⟨eE,atR⟩
 rintro k2 e h hkk2 ⟨hCh,hA⟩
 refine aO ?_
 refine iV (λh3=>?_) (λh3=>?_)
 refine ap ?_
 refine bT ?_
 have hx4:k2<a1.l.length:=by omega
 refine kH k2 a1 hx4 ?_
 generalize hqx5:a1.l[k2]=x5
 refine cg ?_
 refine aP ?_
 refine oC (t54 a0 x5.elem) ?_
 rintro _ ⟨r7,hc6,rfl⟩
 have hK:=hc6
 refine ab ?_
 refine qs ?_
 refine bX ?_
 refine mK (λh8=>?_) (λh8=>?_)
 refine rV ?_
 refine rS ?_
 refine c6 ?_
 refine rS ?_
 refine aY ?_
 exact g9
 refine a7 ?_
 refine rC (t109 r7) ?_
 rintro _ ⟨r10,hc9,rfl⟩
 refine kN (λh11=>?_) (λh11=>?_)
 refine bM ?_
 refine rS ?_
 refine aY ?_
 exact g9
 refine bf ?_
 refine lE (λh12=>?_) (λh12=>?_)
 refine ay ?_
 refine zG (λh13=>?_) (λh13=>?_)
 refine rV ?_
 iterate 3 refine rS ?_
 refine ay ?_
 refine c8 ?_
 exact g9
 refine ay ?_
 have hL14:=a1.lk
 refine Ca a1 ?_
 refine lE (λh15=>?_) (λh15=>?_)
 refine ay ?_
 refine c8 ?_
 exact g9
 refine ay ?_
 refine bD ?_
 refine ah ?_
 refine iY (λh16=>?_) (λh16=>?_)
 refine az ?_
 refine qe ?_
 refine qg ?_
 refine jc ?_
 refine ab ?_
 exact hZ
 refine aC ?_
 refine cY ?_
 refine Qx ?_
 have hx17:((k2:Int) - 1).toNat<a1.l.length:=by omega
 refine iN rfl rfl (λ_=>jh (n:=(k2:Int) - 1) (r:=a1) (enc:=iu.af) rfl rfl rfl rfl rfl dT hx17 rfl) ?_
 generalize hqx18:a1.l[((k2:Int) - 1).toNat]=x18
 refine rV ?_
 refine rC (t84 a0 x18) ?_
 rintro _ ⟨r20,r21,hc19,rfl⟩
 have hN:=hc19
 cases r21
 refine bG ?_
 refine ah ?_
 refine bw ?_
 refine aq ?_
 exact g9
 refine bG ?_
 refine aQ ?_
 refine ci ?_
 refine kE (λh22=>?_) (λh22=>?_)
 refine aq ?_
 exact g9
 refine aA ?_
 refine bN ?_
 refine bk ?_
 refine oC (t159 a0 r20.elem r20.en) ?_
 rintro _ ⟨r24,hc23,rfl⟩
 have hL25:=r24.lk
 refine jb r24 ?_
 refine aL ?_
 have hNk26:=r24.lk
 refine iF r24.l.length (λkG e h=>∃ b27:Bool,At [1,2,6,10,13,14,15,73,74,75] [ld a1,.la 2 0,.la 6 0,.bool b27,ld a1,ir a1.l.length,ir k2,p5 r24,ir r24.l.length,ir kG] aT.empty [(2,(bS.af a0)),(6,(iu.af x5))] e h) ?_ (k0:=0) dT ⟨false,atR⟩
 rintro kG e h hkk26 ⟨b27,hA⟩
 refine aO ?_
 refine iV (λh28=>?_) (λh28=>?_)
 refine b5 ?_
 have hx29:kG<r24.l.length:=by omega
 refine kH kG r24 hx29 ?_
 generalize hqx30:r24.l[kG]=x30
 refine aK ?_
 refine cV ?_
 refine kS (b:=b27) rfl (λ_=>rfl) (λh31=>?_) (λh31=>?_)
 refine bB ?_
 refine aj ?_
 refine cV ?_
 refine jc ?_
 refine ab ?_
 exact ia
 refine ci ?_
 refine iY (λh32=>?_) (λh32=>?_)
 refine aj ?_
 refine cV ?_
 refine jc ?_
 refine ab ?_
 exact ia
 refine aj ?_
 refine cV ?_
 refine jc ?_
 refine ab ?_
 exact ⟨by omega,false,atR⟩
 refine ao ?_
 refine aa ?_
 refine kS (b:=b27) rfl (λ_=>rfl) (λh33=>?_) (λh33=>?_)
 refine cD ?_
 refine jc ?_
 refine ab ?_
 exact hZ
 refine aq ?_
 exact g9
 refine rV ?_
 iterate 7 refine rS ?_
 refine rV ?_
 refine bD ?_
 refine ah ?_
 refine iY (λh34=>?_) (λh34=>?_)
 refine az ?_
 refine qe ?_
 refine qg ?_
 refine jc ?_
 refine ab ?_
 exact hZ
 refine aC ?_
 refine cY ?_
 refine Qx ?_
 have hx35:((k2:Int) - 1).toNat<a1.l.length:=by omega
 refine iN rfl rfl (λ_=>jh (n:=(k2:Int) - 1) (r:=a1) (enc:=iu.af) rfl rfl rfl rfl rfl dT hx35 rfl) ?_
 generalize hqx36:a1.l[((k2:Int) - 1).toNat]=x36
 refine rV ?_
 refine rC (t84 a0 x36) ?_
 rintro _ ⟨r38,r39,hc37,rfl⟩
 have hN:=hc37
 cases r39
 refine bG ?_
 refine ah ?_
 refine bw ?_
 refine aq ?_
 exact g9
 refine bG ?_
 refine aQ ?_
 refine ci ?_
 refine kE (λh40=>?_) (λh40=>?_)
 refine aq ?_
 exact g9
 refine aA ?_
 refine bN ?_
 refine bk ?_
 refine oC (t159 a0 r38.elem r38.en) ?_
 rintro _ ⟨r42,hc41,rfl⟩
 have hL43:=r42.lk
 refine jb r42 ?_
 refine aL ?_
 have hNk44:=r42.lk
 refine iF r42.l.length (λCl e h=>∃ b45:Bool,At [1,2,6,10,13,14,15,73,74,75] [ld a1,.la 2 0,.la 6 0,.bool b45,ld a1,ir a1.l.length,ir k2,p5 r42,ir r42.l.length,ir Cl] aT.empty [(2,(bS.af a0)),(6,(iu.af x5))] e h) ?_ (k0:=0) dT ⟨false,atR⟩
 rintro Cl e h hkk44 ⟨b45,hA⟩
 refine aO ?_
 refine iV (λh46=>?_) (λh46=>?_)
 refine b5 ?_
 have hx47:Cl<r42.l.length:=by omega
 refine kH Cl r42 hx47 ?_
 generalize hqx48:r42.l[Cl]=x48
 refine aK ?_
 refine cV ?_
 refine kS (b:=b45) rfl (λ_=>rfl) (λh49=>?_) (λh49=>?_)
 refine bB ?_
 refine aj ?_
 refine cV ?_
 refine jc ?_
 refine ab ?_
 exact ia
 refine ci ?_
 refine iY (λh50=>?_) (λh50=>?_)
 refine aj ?_
 refine cV ?_
 refine jc ?_
 refine ab ?_
 exact ia
 refine aj ?_
 refine cV ?_
 refine jc ?_
 refine ab ?_
 exact ⟨by omega,false,atR⟩
 refine ao ?_
 refine aa ?_
 refine kS (b:=b45) rfl (λ_=>rfl) (λh51=>?_) (λh51=>?_)
 refine cD ?_
 refine jc ?_
 refine ab ?_
 exact hZ
 refine aq ?_
 exact g9
 refine ao ?_
 refine aE ?_
 have hL52:=a1.lk
 refine jb a1 ?_
 refine jI (λh53=>?_) (λh53=>?_)
 refine ai ?_
 exact xB ⟨true,ef,rfl⟩
 refine ai ?_
 exact g9
end Go.Sx
