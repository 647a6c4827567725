/- Proves what some functions of the program answer, by walking through them. -/
import Derived.Test.YtmnmenklbegmeaaGreatHag
import Derived.Test.YtmnmenklbegmeaaGreatHak
import Derived.Test.YtmnmenklbegmeaaGreatHam
import Derived.Test.YtmnmenklbegmeaaGreatHan
import Derived.Test.YtmnmenklbegmeaaGreatHao
set_option linter.all false
set_option maxRecDepth 100000
set_option maxHeartbeats 0
namespace Go.Sx
open Go Go.Proofs
def adN (_a0:iD) (_a1:iG) (v:AV):Prop:=∃ r0:iG,(r0.steps.l = _a1.steps.l/\r0.jK.l = _a1.jK.l/\r0.my.l.length<=12/\(∀ x∈r0.my.l,yq x)/\r0.guards.l.length<=1000/\r0.holds.l.length<=1000/\∀ x∈r0.guards.l,zf _a0.p x)/\v=.agg (iG.af r0)
def t101 (a0:iD) (a1:iG) (q1:lD a0.p) (q2:a0.next.length<=240) (q3:a1.steps.l.length<=12) (q4:a1.jK.l.length<=1000) (q6:∀ y∈univ a0,pC a0.p y):Ct 101 [.ip (iD.af a0) 0 false,.agg (iG.af a1)] (adN a0 a1):=by
 refine iY HP ?_
 have q5:(univ a0).length<=241:=by simp only [univ,List.length_cons,List.length_map]; omega
 refine b8 ?_
 rintro _ H2 ⟨b1,rfl,hS3⟩
 refine jt (H:=H2) rfl (wb hS3 rfl rfl rfl rfl rfl) ?_
 rintro _ H5 ⟨b4,rfl,hS6⟩
 refine ab ?_
 refine va ?_
 refine aL ?_
 refine qS 0 hS6 ?_
 refine rE 0 hS6 (jc a1.steps) ?_
 refine rC (t194 (Row.oo a1.steps) dj) ?_
 rintro _ ⟨r8,hc7,rfl⟩
 have hC93:=congrArg List.length hc7; try simp only [Row.oo] at hC93
 refine qS 0 hS6 ?_
 refine rE 0 hS6 (jf a1.jK) ?_
 refine rC (t195 (Row.oo a1.jK) dj) ?_
 rintro _ ⟨r10,hc9,rfl⟩
 have hC94:=congrArg List.length hc9; try simp only [Row.oo] at hC94
 refine qS 0 hS6 ?_
 refine rSt 0 hS6 (jc r8) λH11 hS12=>?_
 refine qS 0 hS12 ?_
 refine rSt 0 hS12 (jf r10) λH13 hS14=>?_
 refine rN ?_
 refine aa ?_
 refine pz 0 hS14 ?_
 refine Hf 0 hS14 iJ λH15 hS16=>?_
 refine pz 0 hS16 ?_
 refine Hf 0 hS16 iJ λH17 hS18=>?_
 refine pz 0 hS18 ?_
 refine Hf 0 hS18 iJ λH19 hS20=>?_
 refine pz 0 hS20 ?_
 refine Hf 0 hS20 (.bool false) λH21 hS22=>?_
 refine oN ?_
 refine aa ?_
 refine mH 1 hS22 (.ip (iD.af a0) 0 false) ?_
 refine oC (t102 a0 dj) ?_
 rintro _ ⟨r24,hc23,rfl⟩
 have hPl:=hc23.2.2.2.2.2
 refine bb ?_
 refine aa ?_
 refine jt (H:=H21) rfl (oi hS22) ?_
 rintro _ H26 ⟨b25,rfl,hS27⟩
 refine ab ?_
 refine aa ?_
 refine jt (H:=H26) rfl (Dm hS27 rfl rfl) ?_
 rintro _ H29 ⟨b28,rfl,hS30⟩
 refine oN ?_
 refine aa ?_
 refine mH 3 hS30 (.ip (iD.af a0) 0 false) ?_
 refine mH 2 hS30 (.agg [iv a1.from_,iv a1.to,iv a1.end_,jc r8,jf r10,iJ,iJ,iJ,iF]) ?_
 refine oC (t196 a0 (⟨a1.from_,a1.to,a1.end_,r8,r10,(kF:Row iu),(kF:Row Int),(kF:Row Int),false⟩:iG) dj) ?_
 rintro _ ⟨r32,hc31,rfl⟩
 dsimp only at hc31
 refine ab ?_
 refine ao ?_
 have hL33:=r32.lk
 refine jy r32 ?_
 have hL34:=r32.lk
 refine oP ?_
 refine aG ?_
 have hS35:=Sep.lX hS30 2
 refine mw (λm41 e h=>∃ v36:AV,∃ l37:List iz,∃ n38:Int,∃ H39:aT,m41=(n38+1).toNat/\(-1<=n38)/\(n38<(r32.l.length:Int))/\((l37.length:Int)+n38+1<=r32.l.length)/\((∀ y∈(l37:List iz),y∈univ a0))/\Sep H39 (kW iz.af 2 v36 l37::j8 b28 [v36]::lO b25 pK bK []::j8 b4 [iv a1.from_,iv a1.to,iv a1.end_,jc r8,jf r10,iJ,iJ,iJ,iF]::j8 b1 [.ip (iD.af a0) 0 false]::[])/\At [2,3,4,5,6,7,8,9] [(iV b1),(iV b4),.la 4 0,.bool r24.j9,(.hm b25),(iV b28),pT r32,iv n38] H39 [(4,[iv 0,iv 0,iv 0,iJ,iJ,iJ,iJ,iJ,iF])] e h) ?_ _ _ _ ⟨iJ,(([]:List iz)),((r32.l.length:Int) - 1),H29,rfl,dq,dq,dq,eH,hS35,atR⟩
 rintro m41 e h ⟨v36,l37,n38,H39,hmm41,hA1,hA2,hA3,hTu,hS40,hA⟩
 refine c9 ?_
 refine lI (λh42=>?_) (λh42=>?_)
 refine aZ ?_
 refine wz [(iV b1),(iV b4),.la 4 0,.bool r24.j9,(.hm b25),(iV b28),pT r32,iv n38] H39 [(4,[iv 0,iv 0,iv 0,iJ,iJ,iJ,iJ,iJ,iF])] ?_
 refine aw ?_
 refine aL ?_
 refine rE 4 hS40 (.ip (iD.af a0) 0 false) ?_
 refine aJ ?_
 have hx43:(n38).toNat<r32.l.length:=by omega
 refine iU rfl rfl (λ_=>jo (n:=n38) (r:=r32) (enc:=iz.af) rfl rfl rfl rfl rfl du hx43 rfl) ?_
 generalize hqx44:r32.l[(n38).toNat]=x44
 refine rV ?_
 refine rC (t197 a0 x44) ?_
 rintro _ ⟨r46,r47,hc45,rfl⟩
 have hN:=hc45
 cases r47
 refine bX ?_
 refine qg ?_
 refine mH 1 hS40 v36 ?_
 refine am ?_
 refine xP 0 [r46] hS40 λv48 H49 hS50=>?_
 refine jt (H:=H49) rfl (mP (H:=H49) (i:=1) (o:=0) (r:=v48) hS50 rfl rfl rfl rfl (nN rfl rfl (Sep.cell (i:=0) hS50 rfl)) (iN (Sep.cell (i:=0) hS50 rfl) jD) rfl) ?_
 rintro _ H51 ⟨rfl,hS52⟩
 refine oN ?_
 refine wz [(iV b1),(iV b4),.la 4 0,.bool r24.j9,(.hm b25),(iV b28),pT r32,iv n38] H51 [(4,[iv 0,iv 0,iv 0,iJ,iJ,iJ,iJ,iJ,iF])] ?_
 refine aI ?_
 refine oP ?_
 refine ab ?_
 refine ⟨_,?_,v48,((l37++[r46])),(n38 - 1),H51,rfl,dq,dq,dq,(by exact oe hTu (uC dl)),hS52,atR⟩
 omega
 refine bX ?_
 refine qg ?_
 refine mH 1 hS40 v36 ?_
 refine am ?_
 refine xP 0 [r46] hS40 λv53 H54 hS55=>?_
 refine jt (H:=H54) rfl (mP (H:=H54) (i:=1) (o:=0) (r:=v53) hS55 rfl rfl rfl rfl (nN rfl rfl (Sep.cell (i:=0) hS55 rfl)) (iN (Sep.cell (i:=0) hS55 rfl) jD) rfl) ?_
 rintro _ H56 ⟨rfl,hS57⟩
 refine oN ?_
 refine wz [(iV b1),(iV b4),.la 4 0,.bool r24.j9,(.hm b25),(iV b28),pT r32,iv n38] H56 [(4,[iv 0,iv 0,iv 0,iJ,iJ,iJ,iJ,iJ,iF])] ?_
 refine aI ?_
 refine oP ?_
 refine ab ?_
 refine ⟨_,?_,v53,((l37++[r46])),(n38 - 1),H56,rfl,dq,dq,dq,(by exact oe hTu (uC dl)),hS57,atR⟩
 omega
 refine aD ?_
 refine wz [(iV b1),(iV b4),.la 4 0,.bool r24.j9,(.hm b25),(iV b28)] H39 [(4,[iv 0,iv 0,iv 0,iJ,iJ,iJ,iJ,iJ,iF])] ?_
 refine aa ?_
 refine iI rfl (λ_=>w4 rfl rfl (xI rfl rfl)) ?_
 refine ab ?_
 refine qq ?_
 refine ql ?_
 refine aw ?_
 have hS58:=Sep.lX hS40 2
 have hS59:=Sep.lX hS58 1
 have hS60:=Sep.lX hS59 1
 have hS61:=Sep.tZ (i:=3) hS60 rfl
 refine mw (λm77 e h=>∃ v62:AV,∃ l63:List Int,∃ v64:AV,∃ l65:List Int,∃ v66:AV,∃ l67:List iu,∃ v68:AV,∃ l69:List iz,∃ l70:List (iz×Bool),∃ n71:Int,∃ n72:Int,∃ n73:Int,∃ b74:Bool,∃ H75:aT,m77=3*((univ a0).length - l70.length)+l69.length/\(wC l70)/\(∀ k∈l70.map Prod.fst,k∈univ a0)/\(∀ y∈(l70:List (iz×Bool)),y.2=true)/\((∀ y∈(l69:List iz),y∈univ a0))/\(l69.length+3*((univ a0).length - l70.length)<=1000)/\(l67.length<=l70.length)/\(l63.length<=l70.length)/\(l65.length<=12)/\(∀ x∈(l65:List Int),yq x)/\(∀ x∈(l67:List iu),zf a0.p x)/\(l70.length<=(univ a0).length)/\Sep H75 (qt v62 l63::qt v64 l65::kW iu.af 2 v66 l67::lK iz.af 2 v68 l69::j8 b28 [v68]::lO b25 pK bK l70::j8 b4 [iv n71,iv n72,iv n73,jc r8,jf r10,v66,v64,v62,.bool b74]::j8 b1 [.ip (iD.af a0) 0 false]::[])/\At [2,3,4,5,6,7,12] [(iV b1),(iV b4),.la 4 0,.bool r24.j9,(.hm b25),(iV b28),.jz 198 [] [(iV b1),(iV b28)]] H75 [(4,[iv 0,iv 0,iv 0,iJ,iJ,iJ,iJ,iJ,iF])] e h) ?_ _ _ _ ⟨iJ,(([]:List Int)),iJ,(([]:List Int)),iJ,(([]:List iu)),v36,l37,([]),a1.from_,a1.to,a1.end_,false,H39,rfl,(by simp [wC]),eH,eH,eR,dq,eH,eH,eH,eH,eH,eH,hS61,atR⟩
 rintro m77 e h ⟨v62,l63,v64,l65,v66,l67,v68,l69,l70,n71,n72,n73,b74,H75,hmm77,hKd,hKu,hT,hTu,hB1,hB2,hB3,hB4,hZr,hGd,hB5,hS76,hA⟩
 refine rz hA ?_
 refine cC ?_
 refine mH 4 hS76 v68 ?_
 refine iI rfl (λ_=>mZ (H:=H75) (i:=3) (l:=l69) (enc:=iz.af) hS76 rfl rfl rfl rfl rfl rfl rfl) ?_
 refine ki (λh78=>?_) (λh78=>?_)
 refine aZ ?_
 refine wz [(iV b1),(iV b4),.la 4 0,.bool r24.j9,(.hm b25),(iV b28),.jz 198 [] [(iV b1),(iV b28)]] H75 [(4,[iv 0,iv 0,iv 0,iJ,iJ,iJ,iJ,iJ,iF])] ?_
 refine qb ?_
 refine ca ?_
 refine oP ?_
 have hk79:((((l69.length:Int) - 1).toNat:Nat):Int)=(l69.length:Int) - 1:=Int.toNat_of_nonneg dm
 have hx80:((l69.length:Int) - 1).toNat<l69.length:=by first | omega | (simp<;>omega) | (simp_all; omega)
 obtain ⟨x81,hqx81⟩:∃ x,l69[((l69.length:Int) - 1).toNat]=x:=⟨_,rfl⟩
 have hinx81:x81∈l69:=by rw [<- hqx81]; exact List.getElem_mem _
 have hmx81:=hTu x81 hinx81
 refine mX rfl (lS (H:=H75) (i:=3) (m:=((l69.length:Int) - 1).toNat) (cs:=iz.af x81) hS76 rfl rfl rfl rfl rfl rfl (congrArg (AV.int .i64) hk79.symm) (jU hx80 hqx81)) ?_
 rintro a82 ⟨ha83,hea84⟩
 refine iI rfl (λ_=>lZ (H:=H75) (i:=3) (m:=((l69.length:Int) - 1).toNat) (o:=0) (r:=.agg (iz.af x81)) (cs:=iz.af x81) hS76 rfl (jU hx80 hqx81) hea84 rfl rfl ha83) ?_
 refine bb ?_
 refine ca ?_
 refine oP ?_
 have hk85:((((l69.length:Int) - 1).toNat:Nat):Int)=(l69.length:Int) - 1:=Int.toNat_of_nonneg dm
 have hx86:((l69.length:Int) - 1).toNat<=l69.length:=by first | omega | (simp<;>omega) | (simp_all; omega)
 have hTl:(l69.take (((l69.length:Int) - 1).toNat)).length+1=l69.length:=by rw [List.length_take]; omega
 have hTu:∀ y∈l69.take (((l69.length:Int) - 1).toNat),y∈univ a0:=λy hy=>hTu y (List.mem_of_mem_take hy)
 refine jt (H:=H75) rfl (sm (H:=H75) (i:=3) (k:=((l69.length:Int) - 1).toNat) hS76 rfl rfl rfl rfl rfl rfl (congrArg (AV.int .i64) hk85.symm) hx86) ?_
 rintro v87 H88 ⟨hc89,hS90⟩
 refine jt (H:=H88) rfl (mP (H:=H88) (i:=4) (o:=0) (r:=v87) hS90 rfl rfl rfl rfl (nN rfl rfl (Sep.cell (i:=3) hS90 rfl)) (iN (Sep.cell (i:=3) hS90 rfl) jD) rfl) ?_
 rintro _ H91 ⟨rfl,hS92⟩
 refine oN ?_
 refine cC ?_
 refine mH 6 hS92 (.agg [iv n71,iv n72,iv n73,jc r8,jf r10,v66,v64,v62,.bool b74]) ?_
 refine am ?_
 refine nU hS92 2 λr93 hl94 hln97 hz96=>?_
 refine nU hS92 1 λr98 hl99 hln102 hz101=>?_
 refine nU hS92 0 λr103 hl104 hln107 hz106=>?_
 refine mR (args:=[.agg [iv n71,iv n72,iv n73,jc r8,jf r10,v66,v64,v62,.bool b74],iv x81.elem]) (p:=[]) (r:=[]) (args':=[.agg [iv n71,iv n72,iv n73,jc r8,jf r10,jn.av iu.af r93,py r98,py r103,.bool b74],iv x81.elem]) (R:=VT (⟨n71,n72,n73,(Row.oo r8),(Row.oo r10),r93,r98,r103,b74⟩:sZ) x81.elem) rfl rfl rfl rfl rfl rfl rfl e8 (kH (by show js (freeze true { H91 with iq:=[] } 8) [.agg [iv n71,iv n72,iv n73,jc r8,jf r10,v66,v64,v62,.bool b74],iv x81.elem] = _; simp only [FZ,hz96,hz101,hz106]) (iN (abu (iN rfl (iN rfl (iN rfl (iN rfl (iN rfl (iN (Sep.cell (i:=2) hS92 rfl) (iN (Sep.cell (i:=1) hS92 rfl) (iN (Sep.cell (i:=0) hS92 rfl) (iN rfl jD)))))))))) (iN rfl jD))) (kH eT (iN rfl (iN rfl jD))) (λh=>t199 (⟨n71,n72,n73,(Row.oo r8),(Row.oo r10),r93,r98,r103,b74⟩:sZ) x81.elem  h) ?_
 rintro _ ⟨r109,hc108,rfl⟩
 cases r109
 refine aC ?_
 refine mB (H:=H91) (i:=5) (ek:=pK) (ev:=bK) (l:=l70) x81 rfl rfl hS92 rfl rfl rfl rfl rfl rfl rfl rfl lq (λy110 h111=>?_) (λh112=>?_)
 cases y110
 exact absurd (hT _ (od h111)) eH
 refine bJ ?_
 refine ⟨_,?_,v62,l63,v64,l65,v66,l67,v87,((l69.take (((l69.length:Int) - 1).toNat))),l70,n71,n72,n73,b74,H91,rfl,eW,eV,eY,eR,dw,dq,dq,dq,eU,dP,d7,hS92,atR⟩
 first | omega | (simp only [List.length_append,List.length_cons,List.length_nil,List.length_take] at *; omega)
 refine aq ?_
 refine wz [(iV b1),(iV b4),.la 4 0,.bool r24.j9,(.hm b25),(iV b28),.jz 198 [] [(iV b1),(iV b28)],.la 13 0] H91 [(4,[iv 0,iv 0,iv 0,iJ,iJ,iJ,iJ,iJ,iF]),(13,(iz.af x81))] ?_
 refine ae ?_
 have hPl:(put x81 true l70).length=l70.length+1:=by rw [GV dl]; simp
 have hKd:wC (put x81 true l70):=Ny hKd dl
 have hKu:∀ k∈(put x81 true l70).map Prod.fst,k∈univ a0:=Le hKu dl
 have hPle:(put x81 true l70).length<=(univ a0).length:=by rw [<- List.length_map Prod.fst]; exact Dr hKd hKu
 have hT:∀ y∈(put x81 true l70),y.2=true:=rk (P:=λy:Bool=>y=true) hT rfl
 refine jt (H:=H91) rfl (nV (H:=H91) (i:=5) (ek:=pK) (ev:=bK) (l:=l70) x81 true hS92 rfl rfl rfl rfl rfl rfl lq) ?_
 rintro _ H113 ⟨rfl,hS114⟩
 refine oN ?_
 refine Av (λE Z=>(E=[(2,(iV b1)),(3,(iV b4)),(4,.la 4 0),(5,.bool r24.j9),(6,(.hm b25)),(7,(iV b28)),(12,.jz 198 [] [(iV b1),(iV b28)]),(13,.la 13 0)]/\Z = { H113 with iq:=[(4,[iv 0,iv 0,iv 0,iJ,iJ,iJ,iJ,iJ,iF]),(13,(iz.af x81))] })) ?_ ?_
 rintro _ _ ⟨rfl,rfl⟩
 refine aa ?_
 refine mH 7 hS114 (.ip (iD.af a0) 0 false) ?_
 refine am ?_
 refine oC (t131 a0 x81.elem) ?_
 rintro _ ⟨r116,hc115,rfl⟩
 have hK:=hc115
 refine cz ?_
 refine jG (λh117=>?_) (λh117=>?_)
 refine aE ?_
 refine qg ?_
 refine pz 6 hS114 ?_
 refine Hf 6 hS114 (.bool true) λH118 hS119=>?_
 refine oN ?_
 refine ⟨_,?_,v62,l63,v64,l65,v66,l67,v87,((l69.take (((l69.length:Int) - 1).toNat))),((put x81 true l70)),n71,n72,n73,true,H118,rfl,eW,eV,eY,eR,dw,dq,dq,dq,eU,dP,d7,hS119,atR⟩
 first | omega | (simp only [List.length_append,List.length_cons,List.length_nil,List.length_take] at *; omega)
 refine ba ?_
 refine jG (λh120=>?_) (λh120=>?_)
 refine aE ?_
 refine aH ?_
 refine jG (λh121=>?_) (λh121=>?_)
 refine au ?_
 refine aH ?_
 have hS122:=Sep.pick hS114 [6,2,1,0,3,4,5,7] 8 dt dt
 refine jQ (H:=H113) (args:=[(iV b4),iv x81.elem]) (p:=[]) (r:=[]) rfl rfl rfl rfl rfl rfl rfl (QD b4 n71 n72 n73 r8 r10 v66 l67 v64 l65 v62 l63 b74 x81.elem (lK iz.af 2 v87 (l69.take (((l69.length:Int) - 1).toNat))::j8 b28 [v87]::lO b25 pK bK (put x81 true l70)::j8 b1 [.ip (iD.af a0) 0 false]::[]) hS122 dj) ?_
 rintro _ H123 ⟨r129,vzo126,zoneo127,bareo128,hc125,hS124,rfl⟩
 have hZr:∀ x∈zoneo127,yq x:=λx hx=>(hc125.2 x hx).elim (hZr x) (λe=>by rw [e]; exact (q6 _ dl).1)
 have hc125:=hc125.1
 cases r129
 refine aB ?_
 refine wz [(iV b1),(iV b4),.la 4 0,.bool r24.j9,(.hm b25),(iV b28),.jz 198 [] [(iV b1),(iV b28)]] H123 [(4,[iv 0,iv 0,iv 0,iJ,iJ,iJ,iJ,iJ,iF])] ?_
 refine qe ?_
 have hS130:=Sep.pick hS124 [3,2,1,4,5,6,0,7] 8 dt dt
 refine ⟨_,?_,v62,l63,vzo126,zoneo127,v66,l67,v87,((l69.take (((l69.length:Int) - 1).toNat))),((put x81 true l70)),n71,n72,n73,bareo128,H123,rfl,eW,eV,eY,eR,dw,dq,dq,dq,eU,dP,d7,hS130,atR⟩
 first | omega | (simp only [List.length_append,List.length_cons,List.length_nil,List.length_take] at *; omega)
 refine au ?_
 refine ap ?_
 have hS131:=Sep.pick hS124 [7,5,4,0,1,2,3,6] 8 dt dt
 refine jQ (H:=H123) (args:=[iv x81.elem,iv 2]) (p:=[]) (r:=[(iV b1),(iV b28)]) rfl rfl rfl rfl rfl rfl rfl (Lz x81.elem 2 b1 a0 b28 v87 (l69.take (((l69.length:Int) - 1).toNat)) (j8 b4 [iv n71,iv n72,iv n73,jc r8,jf r10,v66,vzo126,v62,.bool bareo128]::kW iu.af 2 v66 l67::qt vzo126 zoneo127::qt v62 l63::lO b25 pK bK (put x81 true l70)::[]) hS131 dj) ?_
 rintro _ H132 ⟨vto135,todoo136,hc134,hS133,rfl⟩
 have hTu:∀ y∈todoo136,y∈univ a0:=λy hy=>(hc134.2 y hy).elim (hTu y) id
 refine oN ?_
 refine bv ?_
 have hS137:=Sep.pick hS133 [0,1,2,3,4,5,6,7] 8 dt dt
 refine jQ (H:=H132) (args:=[iv x81.elem,iv 1]) (p:=[]) (r:=[(iV b1),(iV b28)]) rfl rfl rfl rfl rfl rfl rfl (Lz x81.elem 1 b1 a0 b28 vto135 todoo136 (j8 b4 [iv n71,iv n72,iv n73,jc r8,jf r10,v66,vzo126,v62,.bool bareo128]::kW iu.af 2 v66 l67::qt vzo126 zoneo127::qt v62 l63::lO b25 pK bK (put x81 true l70)::[]) hS137 dj) ?_
 rintro _ H138 ⟨vto141,todoo142,hc140,hS139,rfl⟩
 have hTu:∀ y∈todoo142,y∈univ a0:=λy hy=>(hc140.2 y hy).elim (hTu y) id
 refine oN ?_
 refine wz [(iV b1),(iV b4),.la 4 0,.bool r24.j9,(.hm b25),(iV b28),.jz 198 [] [(iV b1),(iV b28)]] H138 [(4,[iv 0,iv 0,iv 0,iJ,iJ,iJ,iJ,iJ,iF])] ?_
 refine qe ?_
 have hS143:=Sep.pick hS139 [6,5,4,2,1,7,3,0] 8 dt dt
 refine ⟨_,?_,v62,l63,vzo126,zoneo127,v66,l67,vto141,todoo142,((put x81 true l70)),n71,n72,n73,bareo128,H138,rfl,eW,eV,eY,eR,dw,dq,dq,dq,eU,dP,d7,hS143,atR⟩
 first | omega | (simp only [List.length_append,List.length_cons,List.length_nil,List.length_take] at *; omega)
 refine aB ?_
 refine wz [(iV b1),(iV b4),.la 4 0,.bool r24.j9,(.hm b25),(iV b28),.jz 198 [] [(iV b1),(iV b28)],.la 13 0] H113 [(4,[iv 0,iv 0,iv 0,iJ,iJ,iJ,iJ,iJ,iF]),(13,(iz.af x81))] ?_
 refine aj ?_
 refine az ?_
 refine cC ?_
 refine pz 6 hS114 ?_
 refine mH 6 hS114 (jf r10) ?_
 refine oV ?_
 refine oC (t201 (Row.oo r10) (⟨x81.elem,x81.en⟩:iu)) ?_
 rintro _ ⟨r145,hc144,rfl⟩
 cases r145
 refine oV ?_
 refine da ?_
 refine oV ?_
 refine nU hS114 2 λr146 hl147 hln150 hz149=>?_
 refine mR (args:=[v66,.agg (iz.af x81)]) (p:=[]) (r:=[]) (args':=[jn.av iu.af r146,.agg (iz.af x81)]) (R:=OB r146 (⟨x81.elem,x81.en⟩:iu)) rfl rfl rfl rfl rfl (iN (Sep.arg (i:=2) hS114 rfl) (iN rfl jD)) rfl e8 (kH (by show js (freeze true { H113 with iq:=[] } 8) [v66,.agg (iz.af x81)] = _; simp only [FZ,hz149]) (iN (Sep.oW (i:=2) hS114 rfl) (iN rfl jD))) (kH eT (iN rfl (iN rfl jD))) (λh=>t201 r146 (⟨x81.elem,x81.en⟩:iu)  h) ?_
 rintro _ ⟨r152,hc151,rfl⟩
 cases r152
 refine aq ?_
 refine wz [(iV b1),(iV b4),.la 4 0,.bool r24.j9,(.hm b25),(iV b28),.jz 198 [] [(iV b1),(iV b28)],.la 13 0] H113 [(4,[iv 0,iv 0,iv 0,iJ,iJ,iJ,iJ,iJ,iF]),(13,(iz.af x81))] ?_
 refine aR ?_
 refine iI rfl (λ_=>kj rfl rfl rfl (pb .i64 3 x81.en)) ?_
 refine aS ?_
 refine aa ?_
 refine da ?_
 refine oV ?_
 refine nU hS114 2 λr153 hl154 hln157 hz156=>?_
 refine mR (args:=[v66,.agg [iv x81.elem,iv (IntKind.i64.wrap (3 - x81.en))]]) (p:=[]) (r:=[]) (args':=[jn.av iu.af r153,.agg [iv x81.elem,iv (IntKind.i64.wrap (3 - x81.en))]]) (R:=OB r153 (⟨x81.elem,(IntKind.i64.wrap (3 - x81.en))⟩:iu)) rfl rfl rfl rfl rfl (iN (Sep.arg (i:=2) hS114 rfl) (iN rfl jD)) rfl e8 (kH (by show js (freeze true { H113 with iq:=[] } 8) [v66,.agg [iv x81.elem,iv (IntKind.i64.wrap (3 - x81.en))]] = _; simp only [FZ,hz156]) (iN (Sep.oW (i:=2) hS114 rfl) (iN rfl jD))) (kH eT (iN rfl (iN rfl jD))) (λh=>t201 r153 (⟨x81.elem,(IntKind.i64.wrap (3 - x81.en))⟩:iu)  h) ?_
 rintro _ ⟨r159,hc158,rfl⟩
 cases r159
 refine aE ?_
 refine qg ?_
 refine da ?_
 refine am ?_
 refine xP 2 [(⟨x81.elem,(IntKind.i64.wrap (3 - x81.en))⟩:iu)] hS114 λv160 H161 hS162=>?_
 refine pz 6 hS162 ?_
 refine jt (H:=H161) rfl (mP (H:=H161) (i:=6) (o:=5) (r:=v160) hS162 rfl rfl rfl rfl (nN rfl rfl (Sep.cell (i:=2) hS162 rfl)) (iN (Sep.cell (i:=2) hS162 rfl) jD) rfl) ?_
 rintro _ H163 ⟨rfl,hS164⟩
 refine oN ?_
 refine ⟨_,?_,v62,l63,v64,l65,v160,((l67++[(⟨x81.elem,(IntKind.i64.wrap (3 - x81.en))⟩:iu)])),v87,((l69.take (((l69.length:Int) - 1).toNat))),((put x81 true l70)),n71,n72,n73,b74,H163,rfl,eW,eV,eY,eR,dw,dq,dq,dq,eU,dP,d7,hS164,atR⟩
 first | omega | (simp only [List.length_append,List.length_cons,List.length_nil,List.length_take] at *; omega)
 refine aq ?_
 refine ⟨_,?_,v62,l63,v64,l65,v66,l67,v87,((l69.take (((l69.length:Int) - 1).toNat))),((put x81 true l70)),n71,n72,n73,b74,H113,rfl,eW,eV,eY,eR,dw,dq,dq,dq,eU,dP,d7,hS114,atR⟩
 first | omega | (simp only [List.length_append,List.length_cons,List.length_nil,List.length_take] at *; omega)
 refine aE ?_
 refine aH ?_
 have hS165:=Sep.pick hS114 [6,2,1,0,3,4,5,7] 8 dt dt
 refine jQ (H:=H113) (args:=[(iV b4),iv x81.elem]) (p:=[]) (r:=[]) rfl rfl rfl rfl rfl rfl rfl (QD b4 n71 n72 n73 r8 r10 v66 l67 v64 l65 v62 l63 b74 x81.elem (lK iz.af 2 v87 (l69.take (((l69.length:Int) - 1).toNat))::j8 b28 [v87]::lO b25 pK bK (put x81 true l70)::j8 b1 [.ip (iD.af a0) 0 false]::[]) hS165 dj) ?_
 rintro _ H166 ⟨r172,vzo169,zoneo170,bareo171,hc168,hS167,rfl⟩
 have hZr:∀ x∈zoneo170,yq x:=λx hx=>(hc168.2 x hx).elim (hZr x) (λe=>by rw [e]; exact (q6 _ dl).1)
 have hc168:=hc168.1
 cases r172
 refine aB ?_
 refine wz [(iV b1),(iV b4),.la 4 0,.bool r24.j9,(.hm b25),(iV b28),.jz 198 [] [(iV b1),(iV b28)]] H166 [(4,[iv 0,iv 0,iv 0,iJ,iJ,iJ,iJ,iJ,iF])] ?_
 refine qe ?_
 have hS173:=Sep.pick hS167 [3,2,1,4,5,6,0,7] 8 dt dt
 refine ⟨_,?_,v62,l63,vzo169,zoneo170,v66,l67,v87,((l69.take (((l69.length:Int) - 1).toNat))),((put x81 true l70)),n71,n72,n73,bareo171,H166,rfl,eW,eV,eY,eR,dw,dq,dq,dq,eU,dP,d7,hS173,atR⟩
 first | omega | (simp only [List.length_append,List.length_cons,List.length_nil,List.length_take] at *; omega)
 refine au ?_
 refine bv ?_
 have hS174:=Sep.pick hS167 [7,5,4,0,1,2,3,6] 8 dt dt
 refine jQ (H:=H166) (args:=[iv x81.elem,iv 0]) (p:=[]) (r:=[(iV b1),(iV b28)]) rfl rfl rfl rfl rfl rfl rfl (Lz x81.elem 0 b1 a0 b28 v87 (l69.take (((l69.length:Int) - 1).toNat)) (j8 b4 [iv n71,iv n72,iv n73,jc r8,jf r10,v66,vzo169,v62,.bool bareo171]::kW iu.af 2 v66 l67::qt vzo169 zoneo170::qt v62 l63::lO b25 pK bK (put x81 true l70)::[]) hS174 dj) ?_
 rintro _ H175 ⟨vto178,todoo179,hc177,hS176,rfl⟩
 have hTu:∀ y∈todoo179,y∈univ a0:=λy hy=>(hc177.2 y hy).elim (hTu y) id
 refine oN ?_
 refine wz [(iV b1),(iV b4),.la 4 0,.bool r24.j9,(.hm b25),(iV b28),.jz 198 [] [(iV b1),(iV b28)]] H175 [(4,[iv 0,iv 0,iv 0,iJ,iJ,iJ,iJ,iJ,iF])] ?_
 refine qe ?_
 have hS180:=Sep.pick hS176 [6,5,4,2,1,7,3,0] 8 dt dt
 refine ⟨_,?_,v62,l63,vzo169,zoneo170,v66,l67,vto178,todoo179,((put x81 true l70)),n71,n72,n73,bareo171,H175,rfl,eW,eV,eY,eR,dw,dq,dq,dq,eU,dP,d7,hS180,atR⟩
 first | omega | (simp only [List.length_append,List.length_cons,List.length_nil,List.length_take] at *; omega)
 refine bl ?_
 refine aE ?_
 refine aH ?_
 have hS181:=Sep.pick hS114 [6,2,1,0,3,4,5,7] 8 dt dt
 refine jQ (H:=H113) (args:=[(iV b4),iv x81.elem]) (p:=[]) (r:=[]) rfl rfl rfl rfl rfl rfl rfl (QD b4 n71 n72 n73 r8 r10 v66 l67 v64 l65 v62 l63 b74 x81.elem (lK iz.af 2 v87 (l69.take (((l69.length:Int) - 1).toNat))::j8 b28 [v87]::lO b25 pK bK (put x81 true l70)::j8 b1 [.ip (iD.af a0) 0 false]::[]) hS181 dj) ?_
 rintro _ H182 ⟨r188,vzo185,zoneo186,bareo187,hc184,hS183,rfl⟩
 have hZr:∀ x∈zoneo186,yq x:=λx hx=>(hc184.2 x hx).elim (hZr x) (λe=>by rw [e]; exact (q6 _ dl).1)
 have hc184:=hc184.1
 cases r188
 refine aB ?_
 refine wz [(iV b1),(iV b4),.la 4 0,.bool r24.j9,(.hm b25),(iV b28),.jz 198 [] [(iV b1),(iV b28)]] H182 [(4,[iv 0,iv 0,iv 0,iJ,iJ,iJ,iJ,iJ,iF])] ?_
 refine qe ?_
 have hS189:=Sep.pick hS183 [3,2,1,4,5,6,0,7] 8 dt dt
 refine ⟨_,?_,v62,l63,vzo185,zoneo186,v66,l67,v87,((l69.take (((l69.length:Int) - 1).toNat))),((put x81 true l70)),n71,n72,n73,bareo187,H182,rfl,eW,eV,eY,eR,dw,dq,dq,dq,eU,dP,d7,hS189,atR⟩
 first | omega | (simp only [List.length_append,List.length_cons,List.length_nil,List.length_take] at *; omega)
 refine au ?_
 refine bv ?_
 have hS190:=Sep.pick hS183 [7,5,4,0,1,2,3,6] 8 dt dt
 refine jQ (H:=H182) (args:=[iv x81.elem,iv 0]) (p:=[]) (r:=[(iV b1),(iV b28)]) rfl rfl rfl rfl rfl rfl rfl (Lz x81.elem 0 b1 a0 b28 v87 (l69.take (((l69.length:Int) - 1).toNat)) (j8 b4 [iv n71,iv n72,iv n73,jc r8,jf r10,v66,vzo185,v62,.bool bareo187]::kW iu.af 2 v66 l67::qt vzo185 zoneo186::qt v62 l63::lO b25 pK bK (put x81 true l70)::[]) hS190 dj) ?_
 rintro _ H191 ⟨vto194,todoo195,hc193,hS192,rfl⟩
 have hTu:∀ y∈todoo195,y∈univ a0:=λy hy=>(hc193.2 y hy).elim (hTu y) id
 refine oN ?_
 refine wz [(iV b1),(iV b4),.la 4 0,.bool r24.j9,(.hm b25),(iV b28),.jz 198 [] [(iV b1),(iV b28)]] H191 [(4,[iv 0,iv 0,iv 0,iJ,iJ,iJ,iJ,iJ,iF])] ?_
 refine qe ?_
 have hS196:=Sep.pick hS192 [6,5,4,2,1,7,3,0] 8 dt dt
 refine ⟨_,?_,v62,l63,vzo185,zoneo186,v66,l67,vto194,todoo195,((put x81 true l70)),n71,n72,n73,bareo187,H191,rfl,eW,eV,eY,eR,dw,dq,dq,dq,eU,dP,d7,hS196,atR⟩
 first | omega | (simp only [List.length_append,List.length_cons,List.length_nil,List.length_take] at *; omega)
 refine ba ?_
 refine mH 7 hS114 (.ip (iD.af a0) 0 false) ?_
 refine aQ ?_
 refine oC (t202 a0 x81.elem x81.en 0) ?_
 rintro _ ⟨r198,r199,hc197,rfl⟩
 cases r199
 refine bC ?_
 refine aa ?_
 refine cF ?_
 refine aq ?_
 refine ⟨_,?_,v62,l63,v64,l65,v66,l67,v87,((l69.take (((l69.length:Int) - 1).toNat))),((put x81 true l70)),n71,n72,n73,b74,H113,rfl,eW,eV,eY,eR,dw,dq,dq,dq,eU,dP,d7,hS114,atR⟩
 first | omega | (simp only [List.length_append,List.length_cons,List.length_nil,List.length_take] at *; omega)
 refine bC ?_
 refine aR ?_
 have hS200:=Sep.pick hS114 [6,2,1,0,3,4,5,7] 8 dt dt
 refine jQ (H:=H113) (args:=[(iV b4),iv x81.elem]) (p:=[]) (r:=[]) rfl rfl rfl rfl rfl rfl rfl (QD b4 n71 n72 n73 r8 r10 v66 l67 v64 l65 v62 l63 b74 x81.elem (lK iz.af 2 v87 (l69.take (((l69.length:Int) - 1).toNat))::j8 b28 [v87]::lO b25 pK bK (put x81 true l70)::j8 b1 [.ip (iD.af a0) 0 false]::[]) hS200 dj) ?_
 rintro _ H201 ⟨r207,vzo204,zoneo205,bareo206,hc203,hS202,rfl⟩
 have hZr:∀ x∈zoneo205,yq x:=λx hx=>(hc203.2 x hx).elim (hZr x) (λe=>by rw [e]; exact (q6 _ dl).1)
 have hc203:=hc203.1
 cases r207
 refine aq ?_
 have hS208:=Sep.pick hS202 [3,2,1,4,5,6,0,7] 8 dt dt
 refine ⟨_,?_,v62,l63,vzo204,zoneo205,v66,l67,v87,((l69.take (((l69.length:Int) - 1).toNat))),((put x81 true l70)),n71,n72,n73,bareo206,H201,rfl,eW,eV,eY,eR,dw,dq,dq,dq,eU,dP,d7,hS208,atR⟩
 first | omega | (simp only [List.length_append,List.length_cons,List.length_nil,List.length_take] at *; omega)
 refine aE ?_
 refine qg ?_
 refine aQ ?_
 have hS209:=Sep.pick hS202 [7,5,4,0,1,2,3,6] 8 dt dt
 refine jQ (H:=H201) (args:=[iv x81.elem,iv r198]) (p:=[]) (r:=[(iV b1),(iV b28)]) rfl rfl rfl rfl rfl rfl rfl (Lz x81.elem r198 b1 a0 b28 v87 (l69.take (((l69.length:Int) - 1).toNat)) (j8 b4 [iv n71,iv n72,iv n73,jc r8,jf r10,v66,vzo204,v62,.bool bareo206]::kW iu.af 2 v66 l67::qt vzo204 zoneo205::qt v62 l63::lO b25 pK bK (put x81 true l70)::[]) hS209 dj) ?_
 rintro _ H210 ⟨vto213,todoo214,hc212,hS211,rfl⟩
 have hTu:∀ y∈todoo214,y∈univ a0:=λy hy=>(hc212.2 y hy).elim (hTu y) id
 refine oN ?_
 have hS215:=Sep.pick hS211 [6,5,4,2,1,7,3,0] 8 dt dt
 refine ⟨_,?_,v62,l63,vzo204,zoneo205,v66,l67,vto213,todoo214,((put x81 true l70)),n71,n72,n73,bareo206,H210,rfl,eW,eV,eY,eR,dw,dq,dq,dq,eU,dP,d7,hS215,atR⟩
 first | omega | (simp only [List.length_append,List.length_cons,List.length_nil,List.length_take] at *; omega)
 refine aa ?_
 refine mH 7 hS114 (.ip (iD.af a0) 0 false) ?_
 refine oV ?_
 refine oC (t132 a0 x81) ?_
 rintro _ ⟨r217,hc216,rfl⟩
 have hR:=hc216
 refine ab ?_
 refine aj ?_
 refine lI (λh218=>?_) (λh218=>?_)
 refine oV ?_
 refine kY (b:=r24.j9) rfl (λ_=>rfl) (λh219=>?_) (λh219=>?_)
 refine bV ?_
 exact ⟨rfl,rfl⟩
 refine oV ?_
 refine aE ?_
 refine cC ?_
 refine pz 6 hS114 ?_
 refine mH 6 hS114 v62 ?_
 refine oV ?_
 refine nU hS114 0 λr220 hl221 hln224 hz223=>?_
 refine mR (args:=[v62,iv r217]) (p:=[]) (r:=[]) (args':=[py r220,iv r217]) (R:=VP r220 r217) rfl rfl rfl rfl rfl (iN (Sep.arg (i:=0) hS114 rfl) (iN rfl jD)) rfl e8 (kH (by show js (freeze true { H113 with iq:=[] } 8) [v62,iv r217] = _; simp only [FZ,hz223]) (iN (Sep.oW (i:=0) hS114 rfl) (iN rfl jD))) (kH eT (iN rfl (iN rfl jD))) (λh=>t63 r220 r217  h) ?_
 rintro _ ⟨r226,hc225,rfl⟩
 have hIn:=hc225
 cases r226
 refine aE ?_
 refine qg ?_
 refine pz 6 hS114 ?_
 refine mH 6 hS114 v62 ?_
 refine am ?_
 refine xP 0 [r217] hS114 λv227 H228 hS229=>?_
 refine pz 6 hS229 ?_
 refine jt (H:=H228) rfl (mP (H:=H228) (i:=6) (o:=7) (r:=v227) hS229 rfl rfl rfl rfl (nN rfl rfl (Sep.cell (i:=0) hS229 rfl)) (iN (Sep.cell (i:=0) hS229 rfl) jD) rfl) ?_
 rintro _ H230 ⟨rfl,hS231⟩
 refine oN ?_
 refine wz [(iV b1),(iV b4),.la 4 0,.bool r24.j9,(.hm b25),(iV b28),.jz 198 [] [(iV b1),(iV b28)]] H230 [(4,[iv 0,iv 0,iv 0,iJ,iJ,iJ,iJ,iJ,iF])] ?_
 refine qe ?_
 refine ⟨_,?_,v227,((l63++[r217])),v64,l65,v66,l67,v87,((l69.take (((l69.length:Int) - 1).toNat))),((put x81 true l70)),n71,n72,n73,b74,H230,rfl,eW,eV,eY,eR,dw,dq,dq,dq,eU,dP,d7,hS231,atR⟩
 first | omega | (simp only [List.length_append,List.length_cons,List.length_nil,List.length_take] at *; omega)
 refine aq ?_
 refine wz [(iV b1),(iV b4),.la 4 0,.bool r24.j9,(.hm b25),(iV b28),.jz 198 [] [(iV b1),(iV b28)]] H113 [(4,[iv 0,iv 0,iv 0,iJ,iJ,iJ,iJ,iJ,iF])] ?_
 refine qe ?_
 refine ⟨_,?_,v62,l63,v64,l65,v66,l67,v87,((l69.take (((l69.length:Int) - 1).toNat))),((put x81 true l70)),n71,n72,n73,b74,H113,rfl,eW,eV,eY,eR,dw,dq,dq,dq,eU,dP,d7,hS114,atR⟩
 first | omega | (simp only [List.length_append,List.length_cons,List.length_nil,List.length_take] at *; omega)
 refine bj ?_
 refine aq ?_
 exact ⟨rfl,rfl⟩
 refine b5 ?_
 refine bJ ?_
 refine ⟨_,?_,v62,l63,v64,l65,v66,l67,v87,((l69.take (((l69.length:Int) - 1).toNat))),l70,n71,n72,n73,b74,H91,rfl,eW,eV,eY,eR,dw,dq,dq,dq,eU,dP,d7,hS92,atR⟩
 first | omega | (simp only [List.length_append,List.length_cons,List.length_nil,List.length_take] at *; omega)
 refine aD ?_
 refine wz [(iV b4),.la 4 0,.la 4 0] H75 [(4,[iv 0,iv 0,iv 0,iJ,iJ,iJ,iJ,iJ,iF]),(4,[iv 0,iv 0,iv 0,iJ,iJ,iJ,iJ,iJ,iF])] ?_
 refine aa ?_
 refine mH 6 hS76 (.agg [iv n71,iv n72,iv n73,jc r8,jf r10,v66,v64,v62,.bool b74]) ?_
 refine iI rfl (λ_=>BL rfl rfl rfl rfl (iN rfl (iN rfl (iN rfl (iN rfl (iN rfl (iN (Sep.cell (i:=2) hS76 rfl) (iN (Sep.cell (i:=1) hS76 rfl) (iN (Sep.cell (i:=0) hS76 rfl) (iN rfl jD))))))))) rfl rfl) ?_
 refine oN ?_
 refine qr ?_
 obtain ⟨r232,hl233,hf234⟩:=lA (H:=H75) (i:=2) (l:=l67) (enc:=iu.af) hS76 rfl dn
 have hlq:=hl233; have hln236:=congrArg List.length hl233
 have hz235:∀ m,freeze false { H75 with iq:=[(4,[iv n71,iv n72,iv n73,jc r8,jf r10,v66,v64,v62,.bool b74])] } (m+2) v66=some (jf r232):=λm=>hf234 _ _ (λ_=>rfl)
 obtain ⟨r237,hl238,hf239⟩:=lA (H:=H75) (i:=1) (l:=l65) (enc:=jL) hS76 rfl dn
 have hlq:=hl238; have hln241:=congrArg List.length hl238
 have hz240:∀ m,freeze false { H75 with iq:=[(4,[iv n71,iv n72,iv n73,jc r8,jf r10,v66,v64,v62,.bool b74])] } (m+2) v64=some (j3 r237):=λm=>hf239 _ _ (λ_=>rfl)
 obtain ⟨r242,hl243,hf244⟩:=lA (H:=H75) (i:=0) (l:=l63) (enc:=jL) hS76 rfl dn
 have hlq:=hl243; have hln246:=congrArg List.length hl243
 have hz245:∀ m,freeze false { H75 with iq:=[(4,[iv n71,iv n72,iv n73,jc r8,jf r10,v66,v64,v62,.bool b74])] } (m+2) v62=some (j3 r242):=λm=>hf244 _ _ (λ_=>rfl)
 exact ⟨.agg [iv n71,iv n72,iv n73,jc r8,jf r10,v66,v64,v62,.bool b74],(kr (vs:=[.agg [iv n71,iv n72,iv n73,jc r8,jf r10,v66,v64,v62,.bool b74]]) rfl rfl),.agg [iv n71,iv n72,iv n73,jc r8,jf r10,jf r232,j3 r237,j3 r242,.bool b74],(show freeze false { H75 with iq:=[(4,[iv n71,iv n72,iv n73,jc r8,jf r10,v66,v64,v62,.bool b74])] } 8 (.agg [iv n71,iv n72,iv n73,jc r8,jf r10,v66,v64,v62,.bool b74])=some (.agg [iv n71,iv n72,iv n73,jc r8,jf r10,jf r232,j3 r237,j3 r242,.bool b74]) by simp only [FZ,hz235,hz240,hz245]),(⟨n71,n72,n73,r8,r10,r232,r237,r242,b74⟩:iG),(by refine ⟨by simp_all [Row.oo],by simp_all [Row.oo],by dsimp only; omega,?_,by dsimp only; omega,by dsimp only; omega,?_⟩<;>simp_all),rfl⟩
def agY (_a0:bY) (v:AV):Prop:=∃ r0:jh,∃ r1:Int,((r1=0->((∀ r∈(r0.roads.l:List iG),0<r.steps.l.length/\r.steps.l.length<=12/\r.jK.l.length<=12/\lV _a0 r)/\r0.roads.l.length<=64)/\(r0.qj = _a0.canon/\∃ n:iD,o9 n _a0/\rs 37 [.agg (bY.af _a0)]=.je [.ip (iD.af n) 0 false,iv 0])))/\v=.je [.agg (jh.af r0),iv r1]
def agQ (a0:bY) (q1:lD a0):Ct 49 [.agg (bY.af a0)] (agY a0):=by
 refine iY Md ?_
 refine bz ?_
 refine aj ?_
 refine oC (t37 a0 dj) ?_
 rintro _ (⟨r2,⟨hc1,hc1r⟩,rfl⟩ | ⟨r3,⟨hc1,hc1r⟩,rfl⟩)
 have hFw:=hc1.Ht; have hFs:=hc1.Ht.signals; have hFl:=hc1.len; have hRg:=hc1.rg; have hNe:=hc1; have hNr:=hc1r
 refine bD ?_
 refine aq ?_
 refine aj ?_
 refine jQ (H:=aT.empty) (args:=[.ip (iD.af r2) 0 false]) (p:=[]) (r:=[]) rfl rfl rfl rfl rfl rfl rfl (s52 r2 ([]) jW dj dj) ?_
 rintro _ H5 ⟨ov8,ol9,eo10,hc7,hS6,rfl⟩
 have hR:=hc7.1
 rw [hNe.qj] at hR
 have hI:=hc7.2
 refine bD ?_
 refine lg (λh11=>?_) (λh11=>?_)
 refine au ?_
 refine cw ?_
 exact xG ⟨(⟨(⟨(kF:Row jZ),(kF:Row jX),(kF:Row jY),(kF:Row ju),0,0,0,0,false⟩:bY),(kF:Row iG)⟩:jh),eo10,dB,rfl⟩
 refine aB ?_
 refine wz [.la 2 0,.ip (iD.af r2) 0 false,ov8] H5 [(2,[iJ,iJ,iJ,iJ,iv 0,iv 0,iv 0,iv 0,iF,iJ])] ?_ (iO hS6 [(6,0)])
 refine ao ?_
 refine iI rfl (λ_=>mZ (i:=0) hS6 rfl rfl rfl rfl rfl rfl rfl) ?_
 refine aG ?_
 refine iL ol9.length (λp9 e h=>∃ v13:AV,∃ l14:List iG,∃ H15:aT,((∀ r∈(l14:List iG),0<r.steps.l.length/\r.steps.l.length<=12/\r.jK.l.length<=12/\lV a0 r))/\(l14.length<=64/\(l14.length:Int)=(ol9.length:Int))/\Sep H15 (kW iG.af 9 v13 l14::[])/\At [2,4,6,27,28] [.la 2 0,.ip (iD.af r2) 0 false,v13,cb ol9.length,cb p9] H15 [(2,[iJ,iJ,iJ,iJ,iv 0,iv 0,iv 0,iv 0,iF,iJ])] e h) ?_ (k0:=0) du ⟨ov8,ol9,H5,(by exact hR),du,hS6,(iO hS6 [(6,0)])⟩
 rintro p9 e h hkk12 ⟨v13,l14,H15,hR,hI,hS16,hA⟩
 refine aF ?_
 refine iX (λh17=>?_) (λh17=>?_)
 refine ak ?_
 refine wz [.la 2 0,.ip (iD.af r2) 0 false,v13,cb ol9.length,cb p9] H15 [(2,[iJ,iJ,iJ,iJ,iv 0,iv 0,iv 0,iv 0,iF,iJ])] ?_ (iO hS16 [(6,0)])
 refine bH ?_
 refine qg ?_
 refine bU ?_
 have hx18:p9<l14.length:=by first | omega | (simp<;>omega) | (simp_all; omega)
 obtain ⟨x19,hqx19⟩:∃ x,l14[p9]=x:=⟨_,rfl⟩
 have hinx19:x19∈l14:=by rw [<- hqx19]; exact List.getElem_mem _
 have hsx19:=hR x19 hinx19; have hsG:=hsx19
 refine mX rfl (lS (i:=0) (m:=p9) (cs:=iG.af x19) hS16 rfl rfl rfl rfl rfl rfl rfl (jU hx18 hqx19)) ?_
 rintro a20 ⟨ha21,hea22⟩
 refine iI rfl (λ_=>lZ (i:=0) (m:=p9) (o:=0) (r:=.agg (iG.af x19)) (cs:=iG.af x19) hS16 rfl (jU hx18 hqx19) hea22 rfl rfl ha21) ?_
 refine oC (t101 r2 x19 dj dj dj dj dj) ?_
 rintro _ ⟨r24,hc23,rfl⟩
 have hC53:=hc23
 rw [hNe.qj] at hC53
 have hx25:p9<l14.length:=by first | omega | (simp<;>omega) | (simp_all; omega)
 refine mX rfl (lS (i:=0) (m:=p9) (cs:=iG.af x19) hS16 rfl rfl rfl rfl rfl rfl rfl (jU hx25 hqx19)) ?_
 rintro a26 ⟨ha27,hea28⟩
 refine jt rfl (si (i:=0) (m:=p9) (o:=0) x19 r24 hS16 rfl hx25 hqx19 hea28 rfl ha27 rfl rfl rfl rfl) ?_
 rintro _ H29 ⟨rfl,hS30⟩
 refine oN ?_
 refine wz [.la 2 0,.ip (iD.af r2) 0 false,v13,cb ol9.length,cb p9] H29 [(2,[iJ,iJ,iJ,iJ,iv 0,iv 0,iv 0,iv 0,iF,iJ])] ?_ (iO hS30 [(6,0)])
 refine qg ?_
 refine jd ?_
 refine ab ?_
 exact ⟨by omega,v13,((l14.set p9 r24)),H29,(by exact zv hR (by rw [hC53.1,hC53.2.1]; exact ⟨hsG.1,hsG.2.1,hsG.2.2.1,ME hC53.1 hC53.2.1 hsG.2.2.2 ⟨hC53.2.2.1,hC53.2.2.2.1,hC53.2.2.2.2.1,hC53.2.2.2.2.2.1⟩ hC53.2.2.2.2.2.2⟩)),fR,hS30,(iO hS30 [(6,0)])⟩
 refine ai ?_
 refine wz [.la 2 0,.la 2 0,.ip (iD.af r2) 0 false,v13] H15 [(2,[iJ,iJ,iJ,iJ,iv 0,iv 0,iv 0,iv 0,iF,iJ]),(2,[iJ,iJ,iJ,iJ,iv 0,iv 0,iv 0,iv 0,iF,iJ])] ?_ (iO hS16 [(6,0)])
 refine aj ?_
 refine oC (t102 r2 dj) ?_
 rintro _ ⟨r32,hc31,rfl⟩
 have hPl:=hc31.2.2.2.2.2
 refine oV ?_
 rcases Sep.Xp (i:=0) hS16 rfl with ⟨rfl,hx35⟩ | ⟨rfl,hx35⟩ | ⟨b33,g34,rfl⟩
 refine bN ?_
 exact xG ⟨(⟨r32,(kF:Row iG)⟩:jh),0,dB,rfl⟩
 refine bN ?_
 obtain ⟨r36,hl37,hf38⟩:=lA (H:=H15) (i:=0) (l:=l14) (enc:=iG.af) hS16 rfl dn
 have hlq:=hl37; have hln40:=congrArg List.length hl37
 have hz39:∀ m,freeze false { H15 with iq:=[(2,[jw r32.elems,jA r32.iQ,jB r32.signals,jr r32.lines,iv r32.top,iv r32.jT,iv r32.jS,iv r32.j4,.bool r32.j9,(.sl [] (.exact 0))])] } (m+2) (.sl [] (.exact 0))=some (iT r36):=λm=>hf38 _ _ (λ_=>by simp only [iG.af,js,so,sB,tY,sg,tW])
 exact ⟨.je [.agg [jw r32.elems,jA r32.iQ,jB r32.signals,jr r32.lines,iv r32.top,iv r32.jT,iv r32.jS,iv r32.j4,.bool r32.j9,(.sl [] (.exact 0))],iv 0],rfl,.je [.agg [jw r32.elems,jA r32.iQ,jB r32.signals,jr r32.lines,iv r32.top,iv r32.jT,iv r32.jS,iv r32.j4,.bool r32.j9,iT r36],iv 0],(show freeze false { H15 with iq:=[(2,[jw r32.elems,jA r32.iQ,jB r32.signals,jr r32.lines,iv r32.top,iv r32.jT,iv r32.jS,iv r32.j4,.bool r32.j9,(.sl [] (.exact 0))])] } 8 (.je [.agg [jw r32.elems,jA r32.iQ,jB r32.signals,jr r32.lines,iv r32.top,iv r32.jT,iv r32.jS,iv r32.j4,.bool r32.j9,(.sl [] (.exact 0))],iv 0])=some (.je [.agg [jw r32.elems,jA r32.iQ,jB r32.signals,jr r32.lines,iv r32.top,iv r32.jT,iv r32.jS,iv r32.j4,.bool r32.j9,iT r36],iv 0]) by simp only [FZ,hz39]),(⟨r32,r36⟩:jh),0,dB,rfl⟩
 refine bN ?_
 obtain ⟨r41,hl42,hf43⟩:=lA (H:=H15) (i:=0) (l:=l14) (enc:=iG.af) hS16 rfl dn
 have hlq:=hl42; have hln45:=congrArg List.length hl42
 have hz44:∀ m,freeze false { H15 with iq:=[(2,[jw r32.elems,jA r32.iQ,jB r32.signals,jr r32.lines,iv r32.top,iv r32.jT,iv r32.jS,iv r32.j4,.bool r32.j9,(.hs b33 g34 0 (List.map iG.af l14).length)])] } (m+2) (.hs b33 g34 0 (List.map iG.af l14).length)=some (iT r41):=λm=>hf43 _ _ (λ_=>by simp only [iG.af,js,so,sB,tY,sg,tW])
 exact ⟨.je [.agg [jw r32.elems,jA r32.iQ,jB r32.signals,jr r32.lines,iv r32.top,iv r32.jT,iv r32.jS,iv r32.j4,.bool r32.j9,(.hs b33 g34 0 (List.map iG.af l14).length)],iv 0],rfl,.je [.agg [jw r32.elems,jA r32.iQ,jB r32.signals,jr r32.lines,iv r32.top,iv r32.jT,iv r32.jS,iv r32.j4,.bool r32.j9,iT r41],iv 0],(show freeze false { H15 with iq:=[(2,[jw r32.elems,jA r32.iQ,jB r32.signals,jr r32.lines,iv r32.top,iv r32.jT,iv r32.jS,iv r32.j4,.bool r32.j9,(.hs b33 g34 0 (List.map iG.af l14).length)])] } 8 (.je [.agg [jw r32.elems,jA r32.iQ,jB r32.signals,jr r32.lines,iv r32.top,iv r32.jT,iv r32.jS,iv r32.j4,.bool r32.j9,(.hs b33 g34 0 (List.map iG.af l14).length)],iv 0])=some (.je [.agg [jw r32.elems,jA r32.iQ,jB r32.signals,jr r32.lines,iv r32.top,iv r32.jT,iv r32.jS,iv r32.j4,.bool r32.j9,iT r41],iv 0]) by simp only [FZ,hz44]),(⟨r32,r41⟩:jh),0,dB,rfl⟩
 refine bD ?_
 refine lg (λh46=>?_) (λh46=>?_)
 refine au ?_
 refine cw ?_
 exact xG ⟨(⟨(⟨(kF:Row jZ),(kF:Row jX),(kF:Row jY),(kF:Row ju),0,0,0,0,false⟩:bY),(kF:Row iG)⟩:jh),r3,dB,rfl⟩
 refine aB ?_
 refine aj ?_
 exfalso; omega
def P49 (_a0:bY) (v:AV):Prop:=∃ r0:jh,∃ r1:Int,(((r1=0->((∀ r∈(r0.roads.l:List iG),0<r.steps.l.length/\r.steps.l.length<=12/\r.jK.l.length<=12/\lV _a0 r)/\r0.roads.l.length<=64)/\(r0.qj = _a0.canon/\∃ n:iD,o9 n _a0/\rs 37 [.agg (bY.af _a0)]=.je [.ip (iD.af n) 0 false,iv 0])))/\rs 49 [.agg (bY.af _a0)]=.je [.agg (jh.af r0),iv r1])/\v=.je [.agg (jh.af r0),iv r1]
def t49 (a0:bY) (q1:lD a0) (h:aT):∃ v,iZ cfg FT jx false 49 [.agg (bY.af a0)] h v h/\P49 a0 v:=by
 obtain ⟨v,hc,hP,hr⟩:=qG w9 (agQ a0 q1) h
 obtain ⟨r0,r1,hp,rfl⟩:=hP
 exact ⟨_,hc,r0,r1,⟨hp,hr⟩,rfl⟩
def P18 (_a0:bY) (v:AV):Prop:=∃ r0:jh,∃ r1:Bool,((r1=true->lD _a0/\r0.roads.l.length<=64/\(r0.qj = _a0.canon/\∃ n:iD,o9 n _a0/\rs 37 [.agg (bY.af _a0)]=.je [.ip (iD.af n) 0 false,iv 0])/\rs 49 [.agg (bY.af _a0)]=.je [.agg (jh.af r0),iv 0]/\rs 33 [.agg (bY.af _a0)]=.bool true/\(∀ r∈(r0.roads.l:List iG),0<r.steps.l.length/\r.steps.l.length<=12/\r.jK.l.length<=12/\lV _a0 r)))/\v=.je [.agg (jh.af r0),.bool r1]
def t18 (a0:bY) (hJg:JG a0):Ct 18 [.agg (bY.af a0)] (P18 a0):=by
 refine iY NQ ?_
 refine bz ?_
 refine ao ?_
 refine oC (t33 a0 dj) ?_
 rintro _ ⟨r2,⟨hc1,hc1r⟩,rfl⟩
 have hFr:=hc1r
 cases r2
 clear hc1
 refine cg ?_
 exact xG ⟨(⟨(⟨(kF:Row jZ),(kF:Row jX),(kF:Row jY),(kF:Row ju),0,0,0,0,false⟩:bY),(kF:Row iG)⟩:jh),false,ej,rfl⟩
 have hc1t:=hc1 rfl
 refine aq ?_
 refine aj ?_
 refine oC (t49 a0 dj) ?_
 rintro _ ⟨r4,r5,⟨hc3,hc3r⟩,rfl⟩
 have hBd:=hc3; have hBr:=hc3r
 refine aC ?_
 refine cN ?_
 refine jG (λh6=>?_) (λh6=>?_)
 refine bk ?_
 exact xG ⟨r4,true,ej,rfl⟩
 refine bk ?_
 exact xG ⟨r4,false,ej,rfl⟩
def P32 (_a0:iB) (v:AV):Prop:=∃ r0:Bool,((r0=true->_a0.jb.l.length<=10))/\v=.bool r0
def t32 (a0:iB) :Ct 32 [.agg (iB.af a0)] (P32 a0):=by
 refine iY Mh ?_
 refine aN ?_
 refine aH ?_
 have hL1:=a0.jb.lk
 refine jy a0.jb ?_
 refine ki (λh2=>?_) (λh2=>?_)
 refine bl ?_
 refine ac ?_
 exact gR
 refine aC ?_
 have hL3:=a0.runs.lk
 refine jy a0.runs ?_
 refine ki (λh4=>?_) (λh4=>?_)
 refine ac ?_
 exact gR
 refine aq ?_
 refine aH ?_
 have hL5:=a0.runs.lk
 refine jy a0.runs ?_
 refine aG ?_
 have hNk6:=a0.runs.lk
 refine iL a0.runs.l.length (λk6 e h=>At [1,18,19,20] [.la 1 0,mi a0.runs,cb a0.runs.l.length,cb k6] aT.empty [(1,(iB.af a0))] e h) ?_ (k0:=0) du atR
 rintro k6 e h hkk6 hA
 refine aF ?_
 refine iX (λh7=>?_) (λh7=>?_)
 refine ak ?_
 refine bc ?_
 have hx8:k6<a0.runs.l.length:=by omega
 refine kM k6 a0.runs hx8 ?_
 generalize hqx9:a0.runs.l[k6]=x9
 refine cN ?_
 have hL10:=x9.iS.lk
 refine jy x9.iS ?_
 refine ki (λh11=>?_) (λh11=>?_)
 refine bl ?_
 refine ac ?_
 exact gR
 refine aQ ?_
 refine ki (λh12=>?_) (λh12=>?_)
 refine ac ?_
 exact gR
 refine oV ?_
 refine cq ?_
 refine jd ?_
 refine ab ?_
 exact gf
 refine ai ?_
 refine aH ?_
 have hL13:=a0.jb.lk
 refine jy a0.jb ?_
 refine aG ?_
 have hNk14:=a0.jb.lk
 refine iL a0.jb.l.length (λot e h=>At [36,37,38] [kb a0.jb,cb a0.jb.l.length,cb ot] aT.empty [] e h) ?_ (k0:=0) du atR
 rintro ot e h hkk14 hA
 refine aF ?_
 refine iX (λh15=>?_) (λh15=>?_)
 refine ak ?_
 refine bc ?_
 have hx16:ot<a0.jb.l.length:=by omega
 refine kM ot a0.jb hx16 ?_
 generalize hqx17:a0.jb.l[ot]=x17
 refine aS ?_
 refine ap ?_
 refine ki (λh18=>?_) (λh18=>?_)
 refine be ?_
 exact gR
 refine cq ?_
 refine jd ?_
 refine ab ?_
 exact gf
 refine cQ ?_
 exact xB ⟨true,eM,rfl⟩
def aeu (_a0:Int) (_a1:Int) (_a2:Int) (v:AV):Prop:=∃ r0:Bool,((r0=true->_a1<=_a0/\_a0<=_a2))/\v=.bool r0
def t301 (a0:Int) (a1:Int) (a2:Int) :Ct 301 [iv a0,iv a1,iv a2] (aeu a0 a1 a2):=by
 refine iY JK ?_
 refine cP ?_
 refine lI (λh1=>?_) (λh1=>?_)
 refine aC ?_
 refine tc (λh2=>?_) (λh2=>?_)
 refine bk ?_
 exact gv
 refine bk ?_
 exact gw
 refine b5 ?_
 refine bk ?_
 exact gw
def af7 (_a0:jF) (v:AV):Prop:=∃ r0:Bool,((r0=true->zk _a0))/\v=.bool r0
def t246 (a0:jF) :Ct 246 [.agg (jF.af a0)] (af7 a0):=by
 refine iY IY ?_
 refine aN ?_
 refine ae ?_
 refine oC (t75 a0.name) ?_
 rintro _ ⟨r2,hc1,rfl⟩
 cases r2
 clear hc1
 refine b5 ?_
 refine cH ?_
 refine bk ?_
 exact gz
 have hc1t:=hc1 rfl
 have hNm:=hc1t
 refine aC ?_
 refine oC (t301 a0.len 1 4000) ?_
 rintro _ ⟨r4,hc3,rfl⟩
 cases r4
 clear hc3
 refine cH ?_
 refine bk ?_
 exact gz
 have hc3t:=hc3 rfl
 refine aQ ?_
 refine oC (t301 a0.top 1 60) ?_
 rintro _ ⟨r6,hc5,rfl⟩
 cases r6
 clear hc5
 refine cF ?_
 refine cF ?_
 refine bk ?_
 exact gz
 have hc5t:=hc5 rfl
 refine aQ ?_
 refine oC (t301 a0.acc 1 10) ?_
 rintro _ ⟨r8,hc7,rfl⟩
 cases r8
 clear hc7
 refine cF ?_
 refine bk ?_
 exact gz
 have hc7t:=hc7 rfl
 refine aQ ?_
 refine oC (t301 a0.jT 1 10) ?_
 rintro _ ⟨r10,hc9,rfl⟩
 cases r10
 clear hc9
 refine bk ?_
 exact gz
 have hc9t:=hc9 rfl
 refine bk ?_
 exact xB ⟨true,dZ,rfl⟩
def ahm (_a0:Row jF) (_a1:nu) (v:AV):Prop:=∃ r0:Int,((∀ (j:Nat) (h:j < _a0.l.length),(j:Int)<r0->¬ (_a0.l[j]).name.l = _a1.l))/\v=iv r0
def t247 (a0:Row jF) (a1:nu) :Ct 247 [kb a0,.str a1.l] (ahm a0 a1):=by
 refine iY Jo ?_
 refine bo ?_
 have hL1:=a0.lk
 refine jy a0 ?_
 refine aG ?_
 have hNk2:=a0.lk
 refine iL a0.l.length (λk2 e h=>(∀ (j:Nat) (h:j<a0.l.length),j<k2->¬ (a0.l[j]).name.l=a1.l)/\At [1,7,8,9] [.str a1.l,kb a0,cb a0.l.length,cb k2] aT.empty [] e h) ?_ (k0:=0) du ⟨ee,atR⟩
 rintro k2 e h hkk2 ⟨hU,hA⟩
 refine aF ?_
 refine iX (λh3=>?_) (λh3=>?_)
 refine ak ?_
 refine wy [.str a1.l,kb a0,cb a0.l.length,cb k2] [] ?_
 refine bQ ?_
 have hx4:k2<a0.l.length:=by omega
 refine kM k2 a0 hx4 ?_
 generalize hqx5:a0.l[k2]=x5
 refine bW ?_
 refine ap ?_
 refine oJ rfl (λ_=>zo rfl rfl) (λh6=>?_) (λh6=>?_)
 refine ci ?_
 exact xB ⟨((k2:Int)),fQ,rfl⟩
 refine aB ?_
 refine wy [.str a1.l,kb a0,cb a0.l.length,cb k2] [] ?_
 refine qg ?_
 refine jd ?_
 refine ab ?_
 exact ⟨by omega,(by exact nI (P:=λx:jF=>¬ x.name.l=a1.l) dl hU dl),atR⟩
 refine ai ?_
 refine cJ ?_
 exact xB ⟨(-1),fQ,rfl⟩
def afJ (_a0:Row jF) (v:AV):Prop:=∃ r0:Int,((r0=0->QJ _a0.l))/\v=iv r0
def t152 (a0:Row jF) :Ct 152 [kb a0] (afJ a0):=by
 refine iY I4 ?_
 refine bo ?_
 have hL1:=a0.lk
 refine jy a0 ?_
 refine ki (λh2=>?_) (λh2=>?_)
 refine be ?_
 exact xB ⟨3,ez,rfl⟩
 refine aB ?_
 refine wy [kb a0] [] ?_
 refine ao ?_
 have hL3:=a0.lk
 refine jy a0 ?_
 refine aG ?_
 have hNk4:=a0.lk
 refine iL a0.l.length (λk4 e h=>(∀ (i:Nat) (h:i<a0.l.length),i<k4->zk (a0.l[i]))/\At [0,10,11,12] [kb a0,kb a0,cb a0.l.length,cb k4] aT.empty [] e h) ?_ (k0:=0) du ⟨ee,atR⟩
 rintro k4 e h hkk4 ⟨hU,hA⟩
 refine aF ?_
 refine iX (λh5=>?_) (λh5=>?_)
 refine ak ?_
 refine wy [kb a0,kb a0,cb a0.l.length,cb k4] [] ?_
 refine bc ?_
 have hx6:k4<a0.l.length:=by omega
 refine kM k4 a0 hx6 ?_
 generalize hqx7:a0.l[k4]=x7
 refine aS ?_
 refine aj ?_
 refine oC (t246 x7) ?_
 rintro _ ⟨r9,hc8,rfl⟩
 cases r9
 clear hc8
 refine ac ?_
 exact xB ⟨1,ez,rfl⟩
 have hc8t:=hc8 rfl
 have hMk:=hc8t
 refine aq ?_
 refine wy [kb a0,kb a0,cb a0.l.length,cb k4] [] ?_
 refine qg ?_
 refine jd ?_
 refine ab ?_
 exact ⟨by omega,(by exact nI (P:=zk) dl hU hMk),atR⟩
 refine ai ?_
 refine wy [kb a0] [] ?_
 refine ao ?_
 have hL10:=a0.lk
 refine jy a0 ?_
 refine aG ?_
 have hNk11:=a0.lk
 refine iL a0.l.length (λja e h=>(∀ (i j:Nat) (h:j<a0.l.length) (hij:i<j),j<ja->¬ (a0.l[i]).name.l=(a0.l[j]).name.l)/\At [0,20,21,22] [kb a0,kb a0,cb a0.l.length,cb ja] aT.empty [] e h) ?_ (k0:=0) du ⟨(by (intro i j h hij h2; omega)),atR⟩
 rintro ja e h hkk11 ⟨hNe,hA⟩
 refine aF ?_
 refine iX (λh12=>?_) (λh12=>?_)
 refine ak ?_
 refine wy [kb a0,kb a0,cb a0.l.length,cb ja] [] ?_
 refine bQ ?_
 have hx13:ja<a0.l.length:=by omega
 refine kM ja a0 hx13 ?_
 generalize hqx14:a0.l[ja]=x14
 refine bW ?_
 refine ap ?_
 refine oC (t247 a0 x14.name) ?_
 rintro _ ⟨r16,hc15,rfl⟩
 have hFn:=hc15
 refine oV ?_
 refine lg (λh17=>?_) (λh17=>?_)
 refine be ?_
 exact xB ⟨4,ez,rfl⟩
 refine aB ?_
 refine wy [kb a0,kb a0,cb a0.l.length,cb ja] [] ?_
 refine qg ?_
 refine jd ?_
 refine ab ?_
 exact ⟨by omega,(by exact N0 dl hNe hFn dl),atR⟩
 refine ai ?_
 refine cJ ?_
 exact xB ⟨0,ez,rfl⟩
def P73 (_a0:bY) (_a1:Row jF) (v:AV):Prop:=∃ r0:Int,((r0=0->FB _a0 _a1.l))/\v=iv r0
def t73 (a0:bY) (a1:Row jF) :Ct 73 [.agg (bY.af a0),kb a1] (P73 a0 a1):=by
 refine iY Mi ?_
 refine aN ?_
 refine ao ?_
 refine oC (t152 a1) ?_
 rintro _ ⟨r2,hc1,rfl⟩
 have hPl2:=hc1
 refine ab ?_
 refine aj ?_
 refine lg (λh3=>?_) (λh3=>?_)
 refine ci ?_
 exact xB ⟨r2,eJ,rfl⟩
 refine aB ?_
 refine wy [kb a1,.la 2 0] [(2,(bY.af a0))] ?_
 refine ao ?_
 have hL4:=a1.lk
 refine jy a1 ?_
 refine aG ?_
 have hNk5:=a1.lk
 refine iL a1.l.length (λk5 e h=>(∀ (i:Nat) (h:i<a1.l.length),i<k5->(a1.l[i]).top<=a0.top/\a0.jT<=(a1.l[i]).jT)/\At [2,13,14,15] [.la 2 0,kb a1,cb a1.l.length,cb k5] aT.empty [(2,(bY.af a0))] e h) ?_ (k0:=0) du ⟨ee,atR⟩
 rintro k5 e h hkk5 ⟨hU,hA⟩
 refine aF ?_
 refine iX (λh6=>?_) (λh6=>?_)
 refine ak ?_
 refine wy [.la 2 0,kb a1,cb a1.l.length,cb k5] [(2,(bY.af a0))] ?_
 refine bc ?_
 have hx7:k5<a1.l.length:=by omega
 refine kM k5 a1 hx7 ?_
 generalize hqx8:a1.l[k5]=x8
 refine aS ?_
 refine aR ?_
 refine ki (λh9=>?_) (λh9=>?_)
 refine a8 ?_
 refine ac ?_
 exact xB ⟨9,eJ,rfl⟩
 refine bU ?_
 refine iX (λh10=>?_) (λh10=>?_)
 refine ac ?_
 exact xB ⟨9,eJ,rfl⟩
 refine aq ?_
 refine wy [.la 2 0,kb a1,cb a1.l.length,cb k5] [(2,(bY.af a0))] ?_
 refine qg ?_
 refine jd ?_
 refine ab ?_
 exact ⟨by omega,(by exact nI (P:=λs:jF=>s.top<=a0.top/\a0.jT<=s.jT) dl hU du),atR⟩
 refine ai ?_
 refine cJ ?_
 exact xB ⟨0,eJ,rfl⟩
def P74 (_a0:Int) (_a1:Int) (_a2:Int) (v:AV):Prop:=∃ r0:Bool,((r0=true->_a1<=_a0/\_a0<=_a2))/\v=.bool r0
def t74 (a0:Int) (a1:Int) (a2:Int) :Ct 74 [iv a0,iv a1,iv a2] (P74 a0 a1 a2):=by
 refine iY Og ?_
 refine cP ?_
 refine lI (λh1=>?_) (λh1=>?_)
 refine aC ?_
 refine tc (λh2=>?_) (λh2=>?_)
 refine bk ?_
 exact gv
 refine bk ?_
 exact gw
 refine b5 ?_
 refine bk ?_
 exact gw
def P42 (_a0:bY) (_a1:Int) (v:AV):Prop:=∃ r0:Int,(r0=kn _a0 _a1)/\v=iv r0
def t42 (a0:bY) (a1:Int) :Ct 42 [.agg (bY.af a0),iv a1] (P42 a0 a1):=by
 refine iY Ov ?_
 refine aN ?_
 refine ae ?_
 refine oC (t93 a0 a1) ?_
 rintro _ ⟨r2,hc1,rfl⟩
 refine ag ?_
 exact xB ⟨r2,dl,rfl⟩
def P76 (_a0:bY) (_a1:Row jJ) (v:AV):Prop:=∃ r0:Bool,((r0=true->Kn _a0 _a1.l))/\v=.bool r0
def t76 (a0:bY) (a1:Row jJ) :Ct 76 [.agg (bY.af a0),oL a1] (P76 a0 a1):=by
 refine iY MW ?_
 refine aN ?_
 refine bo ?_
 have hL1:=a1.lk
 refine jy a1 ?_
 refine aG ?_
 have hNk2:=a1.lk
 refine iL a1.l.length (λk2 e h=>∃ n3:Int,(n3=Eu a1.l k2)/\(∀ (i:Nat) (h:i<a1.l.length),i<k2->zG a0 a1.l i (a1.l[i]))/\At [2,5,8,9,10] [.la 2 0,iv n3,oL a1,cb a1.l.length,cb k2] aT.empty [(2,(bY.af a0))] e h) ?_ (k0:=0) du ⟨0,fW,ee,atR⟩
 rintro k2 e h hkk2 ⟨n3,hAt,hU,hA⟩
 refine aF ?_
 refine iX (λh4=>?_) (λh4=>?_)
 refine ak ?_
 refine wy [.la 2 0,iv n3,oL a1,cb a1.l.length,cb k2] [(2,(bY.af a0))] ?_
 refine bc ?_
 have hx5:k2<a1.l.length:=by omega
 refine kM k2 a1 hx5 ?_
 generalize hqx6:a1.l[k2]=x6
 refine aS ?_
 refine aV ?_
 refine oC (t74 x6.at_ n3 2000) ?_
 rintro _ ⟨r8,hc7,rfl⟩
 cases r8
 clear hc7
 refine ac ?_
 exact ia
 have hc7t:=hc7 rfl
 refine aq ?_
 refine wy [.la 2 0,.la 7 0,oL a1,cb a1.l.length,cb k2] [(2,(bY.af a0)),(7,(jJ.af x6))] ?_
 refine aa ?_
 refine cN ?_
 refine cz ?_
 refine jG (λh9=>?_) (λh9=>?_)
 refine aE ?_
 refine aR ?_
 have hL10:=a0.signals.lk
 refine jy a0.signals ?_
 have hL11:=a0.signals.lk
 refine oP ?_
 refine oC (t74 x6.to 0 ((a0.signals.l.length:Int) - 1)) ?_
 rintro _ ⟨r13,hc12,rfl⟩
 cases r13
 clear hc12
 refine ac ?_
 exact ia
 have hc12t:=hc12 rfl
 refine aq ?_
 refine bR ?_
 refine jd ?_
 refine ab ?_
 exact ib
 refine ba ?_
 refine jG (λh14=>?_) (λh14=>?_)
 refine aE ?_
 refine ap ?_
 refine oC (t42 a0 x6.to) ?_
 rintro _ ⟨r16,hc15,rfl⟩
 have hK:=hc15
 refine lg (λh17=>?_) (λh17=>?_)
 refine be ?_
 exact ia
 refine aB ?_
 refine bR ?_
 refine jd ?_
 refine ab ?_
 exact ib
 refine ba ?_
 refine jG (λh18=>?_) (λh18=>?_)
 refine aE ?_
 refine ap ?_
 refine oC (t42 a0 x6.to) ?_
 rintro _ ⟨r20,hc19,rfl⟩
 have hK:=hc19
 refine lg (λh21=>?_) (λh21=>?_)
 refine be ?_
 exact ia
 refine aB ?_
 refine bR ?_
 refine jd ?_
 refine ab ?_
 exact ib
 refine ba ?_
 refine ag ?_
 exact ia
 refine ai ?_
 refine cJ ?_
 exact xB ⟨true,eA,rfl⟩
def aeS (_a0:bY) (_a1:iB) (v:AV):Prop:=∃ r0:Int,((r0=0->tA _a1/\yO _a0 _a1))/\v=iv r0
def UB (a0:bY) (a1:iB) :Ct 34 [.agg (bY.af a0),.agg (iB.af a1)] (aeS a0 a1):=by
 refine iY Of ?_
 have hqb:=a1.jb.ok
 simp only [rT] at hqb
 refine bz ?_
 refine aH ?_
 have hL1:=a1.runs.lk
 refine jy a1.runs ?_
 refine ki (λh2=>?_) (λh2=>?_)
 refine be ?_
 exact xB ⟨3,dH,rfl⟩
 refine aB ?_
 refine cD ?_
 have hL3:=a1.runs.lk
 refine jy a1.runs ?_
 refine aG ?_
 have hNk4:=a1.runs.lk
 refine iL a1.runs.l.length (λk4 e h=>(∀ (i:Nat) (h:i<a1.runs.l.length),i<k4->(a1.runs.l[i]).iS.l.length<=12)/\At [2,3,19,20,21] [.la 2 0,.la 3 0,mi a1.runs,cb a1.runs.l.length,cb k4] aT.empty [(2,(bY.af a0)),(3,(iB.af a1))] e h) ?_ (k0:=0) du ⟨ee,atR⟩
 rintro k4 e h hkk4 ⟨hA,hA⟩
 refine rz hA ?_
 clear hA
 refine aa ?_
 refine iX (λh5=>?_) (λh5=>?_)
 refine ak ?_
 refine wy [.la 2 0,.la 3 0,mi a1.runs,cb a1.runs.l.length,cb k4] [(2,(bY.af a0)),(3,(iB.af a1))] ?_
 refine bc ?_
 have hx6:k4<a1.runs.l.length:=by omega
 refine kM k4 a1.runs hx6 ?_
 generalize hqx7:a1.runs.l[k4]=x7
 refine cN ?_
 have hL8:=x7.iS.lk
 refine jy x7.iS ?_
 refine ki (λh9=>?_) (λh9=>?_)
 refine be ?_
 exact xB ⟨3,dH,rfl⟩
 refine aB ?_
 refine wy [.la 2 0,.la 3 0,mi a1.runs,cb a1.runs.l.length,cb k4] [(2,(bY.af a0)),(3,(iB.af a1))] ?_
 refine qg ?_
 refine jd ?_
 refine ab ?_
 exact ⟨by omega,(by exact nI (P:=λr:j7=>r.iS.l.length<=12) dl hA du),atR⟩
 refine ai ?_
 refine cD ?_
 refine oV ?_
 refine oC (t73 a0 a1.jb) ?_
 rintro _ ⟨r11,hc10,rfl⟩
 have hSo:=hc10
 refine ab ?_
 refine aj ?_
 refine lg (λh12=>?_) (λh12=>?_)
 refine ci ?_
 exact xB ⟨r11,dH,rfl⟩
 refine aB ?_
 refine cD ?_
 refine oC (t74 a1.yb 0 86399) ?_
 rintro _ ⟨r14,hc13,rfl⟩
 cases r14
 clear hc13
 refine ac ?_
 exact gS
 have hc13t:=hc13 rfl
 refine aq ?_
 refine cD ?_
 have hL15:=a1.runs.lk
 refine jy a1.runs ?_
 refine aG ?_
 have hNk16:=a1.runs.lk
 refine iL a1.runs.l.length (λoH e h=>(∀ (i:Nat) (h:i<a1.runs.l.length),i<oH->HU a0 a1 (a1.runs.l[i]))/\At [2,3,42,43,44] [.la 2 0,.la 3 0,mi a1.runs,cb a1.runs.l.length,cb oH] aT.empty [(2,(bY.af a0)),(3,(iB.af a1))] e h) ?_ (k0:=0) du ⟨ee,atR⟩
 rintro oH e h hkk16 ⟨hB,hA⟩
 refine rz hA ?_
 clear hA
 refine aa ?_
 refine iX (λh17=>?_) (λh17=>?_)
 refine ak ?_
 refine wy [.la 2 0,.la 3 0,mi a1.runs,cb a1.runs.l.length,cb oH] [(2,(bY.af a0)),(3,(iB.af a1))] ?_
 refine bc ?_
 have hx18:oH<a1.runs.l.length:=by omega
 refine kM oH a1.runs hx18 ?_
 generalize hqx19:a1.runs.l[oH]=x19
 refine cN ?_
 refine oC (t75 x19.name) ?_
 rintro _ ⟨r21,hc20,rfl⟩
 cases r21
 clear hc20
 refine am ?_
 refine cr ?_
 refine am ?_
 refine cr ?_
 refine aP ?_
 refine bE ?_
 refine ac ?_
 exact gS
 have hc20t:=hc20 rfl
 have hNm:=hc20t
 refine cX ?_
 have hL22:=a1.jb.lk
 refine jy a1.jb ?_
 have hL23:=a1.jb.lk
 refine oP ?_
 refine oC (t74 x19.jb 0 ((a1.jb.l.length:Int) - 1)) ?_
 rintro _ ⟨r25,hc24,rfl⟩
 cases r25
 clear hc24
 refine aC ?_
 refine cr ?_
 refine aP ?_
 refine bE ?_
 refine ac ?_
 exact gS
 have hc24t:=hc24 rfl
 iterate 7 refine oV ?_
 have hL26:=a0.signals.lk
 refine jy a0.signals ?_
 have hL27:=a0.signals.lk
 refine oP ?_
 refine oC (t74 x19.from_ 0 ((a0.signals.l.length:Int) - 1)) ?_
 rintro _ ⟨r29,hc28,rfl⟩
 cases r29
 clear hc28
 refine oV ?_
 refine aP ?_
 refine bE ?_
 refine ac ?_
 exact gS
 have hc28t:=hc28 rfl
 refine bU ?_
 refine oC (t74 x19.left 0 4000) ?_
 rintro _ ⟨r31,hc30,rfl⟩
 cases r31
 clear hc30
 refine oV ?_
 refine bE ?_
 refine ac ?_
 exact gS
 have hc30t:=hc30 rfl
 refine cX ?_
 refine oC (t76 a0 x19.iS) ?_
 rintro _ ⟨r33,hc32,rfl⟩
 cases r33
 clear hc32
 refine bf ?_
 exact gS
 have hc32t:=hc32 rfl
 have hLg:=hc32t
 refine bV ?_
 refine wy [.la 2 0,.la 3 0,mi a1.runs,cb a1.runs.l.length,cb oH] [(2,(bY.af a0)),(3,(iB.af a1))] ?_
 refine qg ?_
 refine jd ?_
 refine ab ?_
 exact ⟨by omega,(by exact nI (P:=HU a0 a1) dl hB ⟨hNm,by omega,by omega,by omega,hLg⟩),atR⟩
 refine ai ?_
 refine wy [.la 3 0] [(3,(iB.af a1))] ?_
 refine aH ?_
 have hL34:=a1.runs.lk
 refine jy a1.runs ?_
 refine aG ?_
 have hNk35:=a1.runs.lk
 refine iL a1.runs.l.length (λlJ e h=>(∀ (i j:Nat) (h:j<a1.runs.l.length) (hij:i<j),j<lJ->¬ (a1.runs.l[i]).name.l=(a1.runs.l[j]).name.l)/\At [3,87,88,89] [.la 3 0,mi a1.runs,cb a1.runs.l.length,cb lJ] aT.empty [(3,(iB.af a1))] e h) ?_ (k0:=0) du ⟨(by (intro i j h hij h2; omega)),atR⟩
 rintro lJ e h hkk35 ⟨hNe,hA⟩
 refine rz hA ?_
 clear hA
 refine aa ?_
 refine iX (λh36=>?_) (λh36=>?_)
 refine ak ?_
 refine wy [.la 3 0,mi a1.runs,cb a1.runs.l.length,cb lJ] [(3,(iB.af a1))] ?_
 refine bQ ?_
 have hx37:lJ<a1.runs.l.length:=by omega
 refine kM lJ a1.runs hx37 ?_
 generalize hqx38:a1.runs.l[lJ]=x38
 refine bW ?_
 refine ap ?_
 have hx39:lJ<=a1.runs.l.length:=by omega
 refine iI rfl (λ_=>Nz (k:=lJ) (r:=a1.runs) (enc:=j7.af) (n:=5) rfl rfl rfl rfl rfl rfl hx39 (λ_=>rfl)) ?_
 have hL40:=(Row.take a1.runs lJ).lk
 refine jy ((Row.take a1.runs lJ)) ?_
 refine aG ?_
 have hNk41:=(Row.take a1.runs lJ).lk
 refine iL ((Row.take a1.runs lJ).l.length) (λp8 e h=>(∀ y∈(a1.runs.l.take lJ).take p8,∀ x,a1.runs.l[lJ]?=some x->¬ y.name.l=x.name.l)/\At [3,11,87,88,89,97,98,99] [.la 3 0,.la 11 0,mi a1.runs,cb a1.runs.l.length,cb lJ,mi (Row.take a1.runs lJ),iv ((Row.take a1.runs lJ).l.length:Int),cb p8] aT.empty [(3,(iB.af a1)),(11,(j7.af x38))] e h) ?_ (k0:=0) du ⟨eH,atR⟩
 rintro p8 e h hkk41 ⟨hN3,hA⟩
 refine rz hA ?_
 clear hA
 refine aa ?_
 refine iX (λh42=>?_) (λh42=>?_)
 refine ak ?_
 refine wy [.la 3 0,.la 11 0,mi a1.runs,cb a1.runs.l.length,cb lJ,mi (Row.take a1.runs lJ),iv ((Row.take a1.runs lJ).l.length:Int),cb p8] [(3,(iB.af a1)),(11,(j7.af x38))] ?_
 refine bc ?_
 have hx43:p8<(Row.take a1.runs lJ).l.length:=by omega
 refine kM p8 ((Row.take a1.runs lJ)) hx43 ?_
 generalize hqx44:(Row.take a1.runs lJ).l[p8]=x44
 refine aS ?_
 refine aR ?_
 refine oJ rfl (λ_=>zo rfl rfl) (λh45=>?_) (λh45=>?_)
 refine be ?_
 exact xB ⟨4,dH,rfl⟩
 refine aB ?_
 refine wy [.la 3 0,.la 11 0,mi a1.runs,cb a1.runs.l.length,cb lJ,mi (Row.take a1.runs lJ),iv ((Row.take a1.runs lJ).l.length:Int),cb p8] [(3,(iB.af a1)),(11,(j7.af x38))] ?_
 refine qg ?_
 refine jd ?_
 refine ab ?_
 exact ⟨by omega,(by exact N9 dl dl hN3 dl),atR⟩
 refine ai ?_
 refine wy [.la 3 0,mi a1.runs,cb a1.runs.l.length,cb lJ] [(3,(iB.af a1))] ?_
 refine qg ?_
 refine jd ?_
 refine ab ?_
 exact ⟨by omega,(by exact Mc dl hNe hN3 dl),atR⟩
 refine ai ?_
 refine cJ ?_
 exact xB ⟨0,dH,rfl⟩
def P34 (_a0:bY) (_a1:iB) (v:AV):Prop:=∃ r0:Int,(((r0=0->tA _a1/\yO _a0 _a1))/\rs 34 [.agg (bY.af _a0),.agg (iB.af _a1)]=iv r0)/\v=iv r0
def t34 (a0:bY) (a1:iB)  (h:aT):∃ v,iZ cfg FT jx false 34 [.agg (bY.af a0),.agg (iB.af a1)] h v h/\P34 a0 a1 v:=by
 obtain ⟨v,hc,hP,hr⟩:=qG w9 (UB a0 a1) h
 obtain ⟨r0,hp,rfl⟩:=hP
 exact gB
def afu (a0:bY) (a1:iB)  {V:AV} (hV:rs 34 [.agg (bY.af a0),.agg (iB.af a1)]=V) (h:aT):∃ v,iZ cfg FT jx false 34 [.agg (bY.af a0),.agg (iB.af a1)] h v h/\v=V:=by
 obtain ⟨v,hc,hP,hr⟩:=qG w9 (UB a0 a1) h
 exact ⟨v,hc,hr.symm.trans hV⟩
def P35 (_a0:bY) (v:AV):Prop:=(∃ r0:iD,(o9 r0 _a0/\lD _a0)/\v=.ip (iD.af r0) 0 false)\/((True)/\v=.jV)
def t35 (a0:bY) (hJg:JG a0):Ct 35 [.agg (bY.af a0)] (P35 a0):=by
 refine iY M4 ?_
 refine aN ?_
 refine ao ?_
 refine oC (t33 a0 dj) ?_
 rintro _ ⟨r2,⟨hc1,hc1r⟩,rfl⟩
 have hFr:=hc1r
 cases r2
 clear hc1
 refine ac ?_
 refine xB (.inr (⟨zT,rfl⟩))
 have hc1t:=hc1 rfl
 refine aq ?_
 refine wy [.la 1 0] [(1,(bY.af a0))] ?_
 refine aj ?_
 refine oC (t37 a0 dj) ?_
 rintro _ (⟨r4,⟨hc3,hc3r⟩,rfl⟩ | ⟨r5,⟨hc3,hc3r⟩,rfl⟩)
 have hFw:=hc3.Ht; have hFs:=hc3.Ht.signals; have hFl:=hc3.len; have hRg:=hc3.rg; have hNe:=hc3; have hNr:=hc3r
 refine bD ?_
 refine aq ?_
 refine wy [.ip (iD.af r4) 0 false] [] ?_
 refine aO ?_
 refine xG (.inl ⟨r4,(by first | assumption | exact ⟨by assumption,by assumption⟩),rfl⟩)
 refine bD ?_
 refine lg (λh6=>?_) (λh6=>?_)
 refine be ?_
 refine xB (.inr (⟨zT,rfl⟩))
 refine aB ?_
 refine wy [.jV] [] ?_
 refine aO ?_
 refine xB (.inr (⟨zT,rfl⟩))
def P11 (_a0:bY) (_a1:iB) (v:AV):Prop:=(∃ r0:jh,∃ r1:iD,(o9 r1 _a0/\lD _a0/\tA _a1/\_a1.jb.l.length<=10/\(∀ r∈(r0.roads.l:List iG),0<r.steps.l.length/\r.steps.l.length<=12/\r.jK.l.length<=12/\lV _a0 r)/\r0.roads.l.length<=64/\(r0.qj = _a0.canon/\∃ n:iD,o9 n _a0/\rs 37 [.agg (bY.af _a0)]=.je [.ip (iD.af n) 0 false,iv 0])/\rs 49 [.agg (bY.af _a0)]=.je [.agg (jh.af r0),iv 0]/\yO _a0 _a1/\rs 34 [.agg (bY.af _a0),.agg (iB.af _a1)]=iv 0)/\v=.je [.agg (jh.af r0),.ip (iD.af r1) 0 false,.bool true])\/(∃ r0:jh,∃ r1:AV,(True)/\v=.je [.agg (jh.af r0),r1,iF])
def t11 (a0:bY) (a1:iB) (hJg:JG a0):Ct 11 [.agg (bY.af a0),.agg (iB.af a1)] (P11 a0 a1):=by
 refine iY NW ?_
 refine aa ?_
 refine bD ?_
 refine oC (t32 a1) ?_
 rintro _ ⟨r2,hc1,rfl⟩
 cases r2
 clear hc1
 refine cF ?_
 refine aP ?_
 refine aE ?_
 refine cw ?_
 refine xG (.inr (⟨((⟨(⟨(kF:Row jZ),(kF:Row jX),(kF:Row jY),(kF:Row ju),0,0,0,0,false⟩:bY),(kF:Row iG)⟩:jh)),.jV,zt⟩))
 have hc1t:=hc1 rfl
 have hF3:=hc1t
 refine aC ?_
 refine oC (t33 a0 dj) ?_
 rintro _ ⟨r4,⟨hc3,hc3r⟩,rfl⟩
 have hFr:=hc3r
 cases r4
 clear hc3
 refine oV ?_
 refine aP ?_
 refine aE ?_
 refine cw ?_
 refine xG (.inr (⟨((⟨(⟨(kF:Row jZ),(kF:Row jX),(kF:Row jY),(kF:Row ju),0,0,0,0,false⟩:bY),(kF:Row iG)⟩:jh)),.jV,zt⟩))
 have hc3t:=hc3 rfl
 refine bU ?_
 refine oC (t34 a0 a1) ?_
 rintro _ ⟨r6,⟨hc5,hc5r⟩,rfl⟩
 have hC35:=λhz=>(hc5 hz).1; have hDV:=λhz=>(hc5 hz).2; have hPre:=λ(hz : _=(0:Int))=>tA.Vq (hc5 hz).1; have hCk3:=hc5r
 refine lg (λh7=>?_) (λh7=>?_)
 refine aE ?_
 refine cw ?_
 refine xG (.inr (⟨((⟨(⟨(kF:Row jZ),(kF:Row jX),(kF:Row jY),(kF:Row ju),0,0,0,0,false⟩:bY),(kF:Row iG)⟩:jh)),.jV,zt⟩))
 refine aq ?_
 refine aj ?_
 refine oC (t18 a0 dj) ?_
 rintro _ ⟨r9,r10,hc8,rfl⟩
 cases r10
 clear hc8
 refine az ?_
 refine aj ?_
 refine oC (t35 a0 dj) ?_
 rintro _ (⟨r12,hc11,rfl⟩ | ⟨hc11,rfl⟩)
 have hN36:=hc11.1; have hP36:=hc11.2
 refine ab ?_
 refine ae ?_
 refine aU ?_
 refine bB ?_
 refine xG (.inr (⟨r9,(.ip (iD.af r12) 0 false),zt⟩))
 refine ab ?_
 refine ae ?_
 refine aU ?_
 refine bB ?_
 refine xG (.inr (⟨r9,.jV,zt⟩))
 have hc8t:=hc8 rfl
 have hBt:=hc8t
 refine az ?_
 refine aj ?_
 refine oC (t35 a0 dj) ?_
 rintro _ (⟨r14,hc13,rfl⟩ | ⟨hc13,rfl⟩)
 have hN36:=hc13.1; have hP36:=hc13.2
 refine ab ?_
 refine cm ?_
 refine bB ?_
 refine xG (.inl ⟨r9,r14,(by first | assumption | exact ⟨by assumption,by assumption,hC35 du,hF3,hBt.2.2.2.2.2,hBt.2.1,hBt.2.2.1,hBt.2.2.2.1,hDV du,hCk3.trans (congrArg (AV.int .i64) du)⟩),rfl⟩)
 refine ab ?_
 refine cm ?_
 refine bB ?_
 refine xG (.inr (⟨r9,.jV,zt⟩))
def P89 (_a0:bY) (_a1:Int) (v:AV):Prop:=∃ r0:iz,∃ r1:Bool,((((r1=true->nr _a0.signals.l _a1=some r0)/\(r1=false->nr _a0.signals.l _a1=none))/\(r1=false->r0=⟨0,0⟩)))/\v=.je [.agg (iz.af r0),.bool r1]
def t89 (a0:bY) (a1:Int) :Ct 89 [.agg (bY.af a0),iv a1] (P89 a0 a1):=by
 refine iY Nv ?_
 refine bz ?_
 refine ao ?_
 refine iX (λh1=>?_) (λh1=>?_)
 refine a8 ?_
 refine cg ?_
 exact gt
 refine aQ ?_
 have hL2:=a0.signals.lk
 refine jy a0.signals ?_
 refine lI (λh3=>?_) (λh3=>?_)
 refine cg ?_
 exact gt
 refine aq ?_
 refine ap ?_
 have hx4:(a1).toNat<a0.signals.l.length:=by omega
 refine iI rfl (λ_=>jo (n:=a1) (r:=a0.signals) (enc:=jY.af) rfl rfl rfl rfl rfl du hx4 rfl) ?_
 generalize hqx5:a0.signals.l[(a1).toNat]=x5
 refine bB ?_
 exact xG ⟨x5.at_,true,dU,rfl⟩
def P40 (_a0:bY) (_a1:iB) (_a2:Int) (v:AV):Prop:=∃ r0:kU,∃ r1:Bool,((0<=_a2->_a2<(_a1.runs.l.length:Int)->r0=rF _a0 _a1 _a2.toNat))/\v=.je [.agg (kU.af r0),.bool r1]
def t40 (a0:bY) (a1:iB) (a2:Int) :Ct 40 [.agg (bY.af a0),.agg (iB.af a1),iv a2] (P40 a0 a1 a2):=by
 refine iY MY ?_
 refine aa ?_
 refine bW ?_
 refine ao ?_
 refine iX (λh1=>?_) (λh1=>?_)
 refine a8 ?_
 refine cg ?_
 exact gT
 refine aQ ?_
 have hL2:=a1.runs.lk
 refine jy a1.runs ?_
 refine lI (λh3=>?_) (λh3=>?_)
 refine cg ?_
 exact gT
 refine aq ?_
 refine ap ?_
 have hx4:(a2).toNat<a1.runs.l.length:=by omega
 refine iI rfl (λ_=>jo (n:=a2) (r:=a1.runs) (enc:=j7.af) rfl rfl rfl rfl rfl du hx4 rfl) ?_
 generalize hqx5:a1.runs.l[(a2).toNat]=x5
 refine aS ?_
 refine ap ?_
 refine oC (t89 a0 x5.from_) ?_
 rintro _ ⟨r7,r8,hc6,rfl⟩
 have hA:=hc6.1; have hA0:=hc6.2
 cases r8
 refine az ?_
 refine aR ?_
 refine az ?_
 refine aV ?_
 refine oC (t42 a0 r7.elem) ?_
 rintro _ ⟨r10,hc9,rfl⟩
 have hK:=hc9
 refine jG (λh11=>?_) (λh11=>?_)
 refine au ?_
 refine qg ?_
 refine bb ?_
 refine a6 ?_
 exact gU
 refine aB ?_
 refine a6 ?_
 exact gV
 refine az ?_
 refine aR ?_
 refine az ?_
 refine aV ?_
 refine oC (t42 a0 r7.elem) ?_
 rintro _ ⟨r13,hc12,rfl⟩
 have hK:=hc12
 refine jG (λh14=>?_) (λh14=>?_)
 refine au ?_
 refine qg ?_
 refine bb ?_
 refine a6 ?_
 exact gU
 refine aB ?_
 refine a6 ?_
 exact gV
def P41 (_a0:bY) (_a1:Int) (_a2:kU) (v:AV):Prop:=∃ r0:nS,∃ r1:Int,(r1=uK _a0 _a1 _a2)/\v=.je [.agg (nS.af r0),iv r1]
def t41 (a0:bY) (a1:Int) (a2:kU) (q9:∀ e,kn a0 e=4->rU a0 e=0):Ct 41 [.agg (bY.af a0),iv a1,.agg (kU.af a2)] (P41 a0 a1 a2):=by
 refine iY NS ?_
 refine aa ?_
 refine bW ?_
 refine aR ?_
 refine oC (t42 a0 a2.at_.elem) ?_
 rintro _ ⟨r2,hc1,rfl⟩
 have hK:=hc1
 refine ab ?_
 refine qs ?_
 refine cM ?_
 refine rr (λh3=>?_) (λh3=>?_)
 refine rV ?_
 iterate 2 refine rS ?_
 refine ce ?_
 refine cy ?_
 refine rS ?_
 refine ce ?_
 refine bm ?_
 refine a6 ?_
 exact gW
 refine aJ ?_
 refine agC (λh4=>?_) (λh4=>?_)
 refine ce ?_
 refine cy ?_
 refine rS ?_
 refine ce ?_
 refine bm ?_
 refine a6 ?_
 exact gW
 refine bw ?_
 refine Aw (λh5=>?_) (λh5=>?_)
 refine aJ ?_
 refine Aw (λh6=>?_) (λh6=>?_)
 refine bw ?_
 iterate 4 refine rS ?_
 refine ce ?_
 refine bm ?_
 refine a6 ?_
 exact gW
 refine cZ ?_
 refine rr (λh7=>?_) (λh7=>?_)
 refine ce ?_
 refine bm ?_
 refine a6 ?_
 exact gW
 refine cZ ?_
 refine rC (t90 r2) ?_
 rintro _ ⟨r9,hc8,rfl⟩
 refine xJ (λh10=>?_) (λh10=>?_)
 refine bm ?_
 refine a6 ?_
 exact gW
 refine bh ?_
 refine aV ?_
 refine oC (t91 a0 a2.at_) ?_
 rintro _ ⟨r12,hc11,rfl⟩
 have hR:=hc11
 refine iX (λh13=>?_) (λh13=>?_)
 refine au ?_
 refine a6 ?_
 exact gX
 refine aB ?_
 refine aR ?_
 refine oC (t92 a0 a2.at_.elem) ?_
 rintro _ ⟨r15,hc14,rfl⟩
 have hLen:=hc14
 refine ab ?_
 refine aH ?_
 refine iX (λh16=>?_) (λh16=>?_)
 refine bl ?_
 refine cg ?_
 exact gW
 refine aQ ?_
 refine ki (λh17=>?_) (λh17=>?_)
 refine cg ?_
 exact gW
 refine aq ?_
 refine ao ?_
 refine jG (λh18=>?_) (λh18=>?_)
 refine au ?_
 refine ae ?_
 refine bB ?_
 exact gY
 refine aB ?_
 refine aV ?_
 refine c3 ?_
 refine ki (λh19=>?_) (λh19=>?_)
 refine au ?_
 refine a6 ?_
 exact gZ
 refine aB ?_
 refine aR ?_
 refine bB ?_
 exact g5
 refine rV ?_
 iterate 2 refine rS ?_
 refine cZ ?_
 refine rr (λh20=>?_) (λh20=>?_)
 refine ce ?_
 refine bm ?_
 refine a6 ?_
 exact gW
 refine cZ ?_
 refine rC (t90 r2) ?_
 rintro _ ⟨r22,hc21,rfl⟩
 refine xJ (λh23=>?_) (λh23=>?_)
 refine bm ?_
 refine a6 ?_
 exact gW
 refine bh ?_
 refine aV ?_
 refine oC (t91 a0 a2.at_) ?_
 rintro _ ⟨r25,hc24,rfl⟩
 have hR:=hc24
 refine iX (λh26=>?_) (λh26=>?_)
 refine au ?_
 refine a6 ?_
 exact gX
 refine aB ?_
 refine aR ?_
 refine oC (t92 a0 a2.at_.elem) ?_
 rintro _ ⟨r28,hc27,rfl⟩
 have hLen:=hc27
 refine ab ?_
 refine aH ?_
 refine iX (λh29=>?_) (λh29=>?_)
 refine bl ?_
 refine cg ?_
 exact gW
 refine aQ ?_
 refine ki (λh30=>?_) (λh30=>?_)
 refine cg ?_
 exact gW
 refine aq ?_
 refine ao ?_
 refine jG (λh31=>?_) (λh31=>?_)
 refine au ?_
 refine ae ?_
 refine bB ?_
 exact gY
 refine aB ?_
 refine aV ?_
 refine c3 ?_
 refine ki (λh32=>?_) (λh32=>?_)
 refine au ?_
 refine a6 ?_
 exact gZ
 refine aB ?_
 refine aR ?_
 refine bB ?_
 exact g5
def afI (_a0:bY) (_a1:iB) (_a2:Int) (_a3:Int) (v:AV):Prop:=∃ r0:iz,∃ r1:Bool,(((r1=true->0<=_a2/\_a2<(_a1.runs.l.length:Int)/\0<=_a3)/\(r1=true->kN true (nr _a0.signals.l) (lj _a0.iQ.l) _a1 _a2 _a3=some r0)/\(r1=false->kN true (nr _a0.signals.l) (lj _a0.iQ.l) _a1 _a2 _a3=none)))/\v=.je [.agg (iz.af r0),.bool r1]
def t189 (a0:bY) (a1:iB) (a2:Int) (a3:Int) :Ct 189 [.agg (bY.af a0),.agg (iB.af a1),iv a2,iv a3] (afI a0 a1 a2 a3):=by
 refine iY J1 ?_
 refine aa ?_
 refine bW ?_
 refine ao ?_
 refine iX (λh1=>?_) (λh1=>?_)
 refine a8 ?_
 refine aU ?_
 refine bI ?_
 refine cg ?_
 exact gr
 refine aQ ?_
 have hL2:=a1.runs.lk
 refine jy a1.runs ?_
 refine lI (λh3=>?_) (λh3=>?_)
 refine aU ?_
 refine bI ?_
 refine cg ?_
 exact gr
 refine aC ?_
 refine iX (λh4=>?_) (λh4=>?_)
 refine bI ?_
 refine cg ?_
 exact gr
 refine cX ?_
 have hx5:(a2).toNat<a1.runs.l.length:=by omega
 refine iI rfl (λ_=>jo (n:=a2) (r:=a1.runs) (enc:=j7.af) rfl rfl rfl rfl rfl du hx5 rfl) ?_
 generalize hqx6:a1.runs.l[(a2).toNat]=x6
 refine am ?_
 have hL7:=x6.iS.lk
 refine jy x6.iS ?_
 refine ki (λh8=>?_) (λh8=>?_)
 refine cg ?_
 exact gr
 refine aq ?_
 refine ap ?_
 have hx9:(a2).toNat<a1.runs.l.length:=by omega
 refine iI rfl (λ_=>jo (n:=a2) (r:=a1.runs) (enc:=j7.af) rfl rfl rfl rfl rfl du hx9 rfl) ?_
 rw [hqx6]
 refine aS ?_
 refine ao ?_
 refine jG (λh11=>?_) (λh11=>?_)
 refine au ?_
 refine ap ?_
 refine oC (t89 a0 x6.from_) ?_
 rintro _ ⟨r13,r14,hc12,rfl⟩
 have hA:=hc12.1; have hA0:=hc12.2
 cases r14
 refine bB ?_
 exact xG ⟨r13,false,dD,rfl⟩
 refine bB ?_
 exact xG ⟨r13,true,dD,rfl⟩
 refine aB ?_
 refine ap ?_
 refine oP ?_
 have hx15:(a3 - 1).toNat<x6.iS.l.length:=by omega
 refine iI rfl (λ_=>jo (n:=a3 - 1) (r:=x6.iS) (enc:=jJ.af) rfl rfl rfl rfl rfl du hx15 rfl) ?_
 generalize hqx16:x6.iS.l[(a3 - 1).toNat]=x16
 refine aS ?_
 refine aH ?_
 refine cz ?_
 refine jG (λh17=>?_) (λh17=>?_)
 refine aE ?_
 refine ap ?_
 refine oC (t89 a0 x16.to) ?_
 rintro _ ⟨r19,r20,hc18,rfl⟩
 have hA:=hc18.1; have hA0:=hc18.2
 cases r20
 refine bB ?_
 exact xG ⟨r19,false,dD,rfl⟩
 refine bB ?_
 exact xG ⟨r19,true,dD,rfl⟩
 refine ba ?_
 refine jG (λh21=>?_) (λh21=>?_)
 refine aE ?_
 refine aR ?_
 refine oC (t98 a0 (⟨x16.to,0⟩:iz)) ?_
 rintro _ ⟨r23,r24,hc22,rfl⟩
 have hN:=hc22
 cases r24
 refine az ?_
 refine aR ?_
 refine oC (t98 a0 (⟨x16.to,1⟩:iz)) ?_
 rintro _ ⟨r26,r27,hc25,rfl⟩
 have hN:=hc25
 cases r27
 refine ct ?_
 refine bj ?_
 refine aq ?_
 refine cC ?_
 refine aU ?_
 refine aq ?_
 refine aj ?_
 refine bB ?_
 exact xG ⟨(⟨x16.to,(-1)⟩:iz),true,dD,rfl⟩
 refine ct ?_
 refine bj ?_
 refine aq ?_
 refine qs ?_
 refine aR ?_
 refine aE ?_
 refine aj ?_
 refine bB ?_
 exact xG ⟨(⟨x16.to,0⟩:iz),true,dD,rfl⟩
 refine az ?_
 refine aR ?_
 refine oC (t98 a0 (⟨x16.to,1⟩:iz)) ?_
 rintro _ ⟨r29,r30,hc28,rfl⟩
 have hN:=hc28
 cases r30
 refine ct ?_
 refine aC ?_
 refine aE ?_
 refine aj ?_
 refine bB ?_
 exact xG ⟨(⟨x16.to,1⟩:iz),true,dD,rfl⟩
 refine az ?_
 refine aV ?_
 refine bV ?_
 refine aV ?_
 refine bV ?_
 refine aj ?_
 refine bB ?_
 exact xG ⟨(⟨x16.to,(-1)⟩:iz),true,dD,rfl⟩
 refine aq ?_
 refine a6 ?_
 exact gr
def P94 (_a0:bY) (_a1:iB) (_a2:Int) (_a3:Int) (v:AV):Prop:=∃ r0:Int,(((0<=r0->0<=_a2/\_a2<(_a1.runs.l.length:Int)/\0<=_a3/\∀ h : _a2.toNat < _a1.runs.l.length,_a3<((_a1.runs.l[_a2.toNat]).iS.l.length:Int))/\r0=nk true (nr _a0.signals.l) (lj _a0.iQ.l) (kn _a0) (λx=>(nK _a0.signals.l x).getD (-1)) _a1 _a2 _a3))/\v=iv r0
def t94 (a0:bY) (a1:iB) (a2:Int) (a3:Int) :Ct 94 [.agg (bY.af a0),.agg (iB.af a1),iv a2,iv a3] (P94 a0 a1 a2 a3):=by
 refine iY NT ?_
 refine bz ?_
 refine aR ?_
 refine oC (t189 a0 a1 a2 a3) ?_
 rintro _ ⟨r2,r3,hc1,rfl⟩
 have hG:=hc1
 cases r3
 refine ct ?_
 refine bI ?_
 refine cF ?_
 refine ac ?_
 exact im
 have hG1:=hG.1 rfl
 refine ct ?_
 refine cX ?_
 have hx4:(a2).toNat<a1.runs.l.length:=by omega
 refine iI rfl (λ_=>jo (n:=a2) (r:=a1.runs) (enc:=j7.af) rfl rfl rfl rfl rfl du hx4 rfl) ?_
 generalize hqx5:a1.runs.l[(a2).toNat]=x5
 refine am ?_
 have hL6:=x5.iS.lk
 refine jy x5.iS ?_
 refine lI (λh7=>?_) (λh7=>?_)
 refine cF ?_
 refine ac ?_
 exact im
 refine aQ ?_
 refine iX (λh8=>?_) (λh8=>?_)
 refine ac ?_
 exact im
 refine aq ?_
 refine aV ?_
 have hx9:(a2).toNat<a1.runs.l.length:=by omega
 refine iI rfl (λ_=>jo (n:=a2) (r:=a1.runs) (enc:=j7.af) rfl rfl rfl rfl rfl du hx9 rfl) ?_
 rw [hqx5]
 refine aC ?_
 have hx11:(a3).toNat<x5.iS.l.length:=by omega
 refine iI rfl (λ_=>jo (n:=a3) (r:=x5.iS) (enc:=jJ.af) rfl rfl rfl rfl rfl du hx11 rfl) ?_
 generalize hqx12:x5.iS.l[(a3).toNat]=x12
 refine oV ?_
 refine kY (b:=x12.Ax) rfl (λ_=>rfl) (λh13=>?_) (λh13=>?_)
 refine au ?_
 refine aV ?_
 refine oC (t42 a0 r2.elem) ?_
 rintro _ ⟨r15,hc14,rfl⟩
 have hK:=hc14
 refine lg (λh16=>?_) (λh16=>?_)
 refine be ?_
 exact im
 refine cq ?_
 refine am ?_
 refine iI rfl (λ_=>kj rfl rfl rfl (pb .i64 1 r2.en)) ?_
 refine bb ?_
 refine ae ?_
 refine oC (t91 a0 (⟨r2.elem,(IntKind.i64.wrap (1 - r2.en))⟩:iz)) ?_
 rintro _ ⟨r18,hc17,rfl⟩
 have hR:=hc17
 refine ag ?_
 exact xB ⟨r18,dI,rfl⟩
 refine aB ?_
 refine ae ?_
 refine oC (t91 a0 r2) ?_
 rintro _ ⟨r20,hc19,rfl⟩
 have hR:=hc19
 refine ag ?_
 exact xB ⟨r20,dI,rfl⟩
def P95 (_a0:bY) (_a1:iB) (_a2:Int) (_a3:Int) (v:AV):Prop:=∃ r0:Int,(r0=yP (th _a0.signals.l) _a1 _a2 _a3)/\v=iv r0
def t95 (a0:bY) (a1:iB) (a2:Int) (a3:Int) :Ct 95 [.agg (bY.af a0),.agg (iB.af a1),iv a2,iv a3] (P95 a0 a1 a2 a3):=by
 refine iY NV ?_
 refine bz ?_
 refine aR ?_
 refine oC (t189 a0 a1 a2 a3) ?_
 rintro _ ⟨r2,r3,hc1,rfl⟩
 have hG:=hc1
 cases r3
 refine ct ?_
 refine ac ?_
 exact xB ⟨(-1),fM,rfl⟩
 have hG1:=hG.1 rfl
 refine ct ?_
 refine aq ?_
 refine a6 ?_
 exact xB ⟨r2.elem,fM,rfl⟩
def P96 (_a0:bY) (_a1:jF) (_a2:Int) (v:AV):Prop:=∃ r0:Bool,(r0=vv _a0 _a1 _a2)/\v=.bool r0
def t96 (a0:bY) (a1:jF) (a2:Int) :Ct 96 [.agg (bY.af a0),.agg (jF.af a1),iv a2] (P96 a0 a1 a2):=by
 refine iY MQ ?_
 refine bz ?_
 refine aH ?_
 refine oC (t42 a0 a2) ?_
 rintro _ ⟨r2,hc1,rfl⟩
 have hK:=hc1
 refine cz ?_
 refine jG (λh3=>?_) (λh3=>?_)
 refine aE ?_
 refine bG ?_
 refine rC (t92 a0 a2) ?_
 rintro _ ⟨r5,hc4,rfl⟩
 have hLen:=hc4
 refine cu ?_
 refine iU rfl rfl (λ_=>kj rfl rfl rfl (uR .i64 a1.len a0.jS)) ?_
 refine xJ (λh6=>?_) (λh6=>?_)
 refine bP ?_
 exact xB ⟨true,fX,rfl⟩
 refine bP ?_
 exact xB ⟨false,fX,rfl⟩
 refine ba ?_
 refine jG (λh7=>?_) (λh7=>?_)
 refine ac ?_
 exact xB ⟨true,fX,rfl⟩
 refine aq ?_
 refine aA ?_
 exact xB ⟨false,fX,rfl⟩
def P44 (_a0:bY) (_a1:Row iG) (_a2:iB) (_a3:Int) (_a4:Int) (v:AV):Prop:=∃ r0:Row Int,((r0.l.length<=_a1.l.length/\r0.l=lY _a0 _a1.l _a2 _a3 _a4))/\v=j3 r0
def t44 (a0:bY) (a1:Row iG) (a2:iB) (a3:Int) (a4:Int) (q1:(∀ r∈a1.l,0<r.steps.l.length)) (q2:a1.l.length<=64) (q3:∀ r∈a2.runs.l,0<=r.jb/\r.jb<(a2.jb.l.length:Int)):Ct 44 [.agg (bY.af a0),iT a1,.agg (iB.af a2),iv a3,iv a4] (P44 a0 a1 a2 a3 a4):=by
 refine iY Mu ?_
 refine bz ?_
 refine aR ?_
 refine oC (t94 a0 a2 a3 a4) ?_
 rintro _ ⟨r2,hc1,rfl⟩
 have hC22:=hc1.1; have hF:=hc1.2
 refine ab ?_
 refine ao ?_
 refine iX (λh3=>?_) (λh3=>?_)
 refine be ?_
 exact xG ⟨(kF:Row Int),fh,rfl⟩
 refine aB ?_
 refine ap ?_
 have hx4:(a3).toNat<a2.runs.l.length:=by omega
 refine iI rfl (λ_=>jo (n:=a3) (r:=a2.runs) (enc:=j7.af) rfl rfl rfl rfl rfl du hx4 rfl) ?_
 generalize hqx5:a2.runs.l[(a3).toNat]=x5
 have hinx5:x5∈a2.runs.l:=by rw [<- hqx5]; exact List.getElem_mem _
 have hsx5:=q3 x5 hinx5; have hlx5:=(hC22 du).2.2.2 dl; rw [hqx5] at hlx5
 refine aC ?_
 have hx6:(a4).toNat<x5.iS.l.length:=by omega
 refine iI rfl (λ_=>jo (n:=a4) (r:=x5.iS) (enc:=jJ.af) rfl rfl rfl rfl rfl du hx6 rfl) ?_
 generalize hqx7:x5.iS.l[(a4).toNat]=x7
 refine aS ?_
 refine bo ?_
 have hL8:=a1.lk
 refine jy a1 ?_
 refine aG ?_
 have hS9:=Sep.lX jW 1
 have hNk10:=a1.lk
 refine iL a1.l.length (λke e h=>∃ v11:AV,∃ l12:List Int,∃ H13:aT,(l12.length<=0+ke)/\(l12=rj (po a0 a2 a3 a4) 0 (a1.l.take ke))/\Sep H13 (qt v11 l12::[])/\At [3,4,5,7,11,12,13,33,34,35] [iv a3,iv a4,.la 5 0,.la 7 0,iv r2,.la 12 0,v11,iT a1,cb a1.l.length,cb ke] H13 [(5,(bY.af a0)),(7,(iB.af a2)),(12,(jJ.af x7))] e h) ?_ (k0:=0) du ⟨iJ,(([]:List Int)),aT.empty,d3,fW,hS9,atR⟩
 rintro ke e h hkk10 ⟨v11,l12,H13,hl15,hX,hS14,hA⟩
 refine aF ?_
 refine iX (λh16=>?_) (λh16=>?_)
 refine ak ?_
 refine wz [iv a3,iv a4,.la 5 0,.la 7 0,iv r2,.la 12 0,v11,iT a1,cb a1.l.length,cb ke] H13 [(5,(bY.af a0)),(7,(iB.af a2)),(12,(jJ.af x7))] ?_ (iO hS14 [(13,0)])
 refine bQ ?_
 have hx17:ke<a1.l.length:=by omega
 refine kM ke a1 hx17 ?_
 generalize hqx18:a1.l[ke]=x18
 have hinx18:x18∈a1.l:=by rw [<- hqx18]; exact List.getElem_mem _
 have hsx18:=q1 x18 hinx18
 refine bW ?_
 refine aR ?_
 have hL19:=x18.steps.lk
 refine jy x18.steps ?_
 have hL20:=x18.steps.lk
 refine oP ?_
 have hx21:((x18.steps.l.length:Int) - 1).toNat<x18.steps.l.length:=by omega
 refine iI rfl (λ_=>jo (n:=(x18.steps.l.length:Int) - 1) (r:=x18.steps) (enc:=iR.af) rfl rfl rfl rfl rfl du hx21 rfl) ?_
 generalize hqx22:x18.steps.l[((x18.steps.l.length:Int) - 1).toNat]=x22
 refine aS ?_
 refine aV ?_
 refine lg (λh23=>?_) (λh23=>?_)
 refine a8 ?_
 refine aU ?_
 refine cr ?_
 refine bI ?_
 refine aU ?_
 refine bJ ?_
 refine wz [iv a3,iv a4,.la 5 0,.la 7 0,iv r2,.la 12 0,v11,iT a1,cb a1.l.length,cb ke] H13 [(5,(bY.af a0)),(7,(iB.af a2)),(12,(jJ.af x7))] ?_ (iO hS14 [(13,0)])
 refine qg ?_
 refine jd ?_
 refine ab ?_
 exact g6
 refine bU ?_
 refine lg (λh24=>?_) (λh24=>?_)
 refine aU ?_
 refine cr ?_
 refine bI ?_
 refine aU ?_
 refine bJ ?_
 refine wz [iv a3,iv a4,.la 5 0,.la 7 0,iv r2,.la 12 0,v11,iT a1,cb a1.l.length,cb ke] H13 [(5,(bY.af a0)),(7,(iB.af a2)),(12,(jJ.af x7))] ?_ (iO hS14 [(13,0)])
 refine qg ?_
 refine jd ?_
 refine ab ?_
 exact g6
 refine aQ ?_
 refine jG (λh25=>?_) (λh25=>?_)
 refine bU ?_
 refine lg (λh26=>?_) (λh26=>?_)
 refine oV ?_
 refine bI ?_
 refine aU ?_
 refine bJ ?_
 refine wz [iv a3,iv a4,.la 5 0,.la 7 0,iv r2,.la 12 0,v11,iT a1,cb a1.l.length,cb ke] H13 [(5,(bY.af a0)),(7,(iB.af a2)),(12,(jJ.af x7))] ?_ (iO hS14 [(13,0)])
 refine qg ?_
 refine jd ?_
 refine ab ?_
 exact g6
 refine bU ?_
 refine lg (λh27=>?_) (λh27=>?_)
 refine aQ ?_
 refine lg (λh28=>?_) (λh28=>?_)
 refine oV ?_
 refine aU ?_
 refine bJ ?_
 refine wz [iv a3,iv a4,.la 5 0,.la 7 0,iv r2,.la 12 0,v11,iT a1,cb a1.l.length,cb ke] H13 [(5,(bY.af a0)),(7,(iB.af a2)),(12,(jJ.af x7))] ?_ (iO hS14 [(13,0)])
 refine qg ?_
 refine jd ?_
 refine ab ?_
 exact g6
 refine aQ ?_
 refine kY (b:=x18.bare) rfl (λ_=>rfl) (λh29=>?_) (λh29=>?_)
 refine bJ ?_
 refine wz [iv a3,iv a4,.la 5 0,.la 7 0,iv r2,.la 12 0,v11,iT a1,cb a1.l.length,cb ke] H13 [(5,(bY.af a0)),(7,(iB.af a2)),(12,(jJ.af x7))] ?_ (iO hS14 [(13,0)])
 refine qg ?_
 refine jd ?_
 refine ab ?_
 exact g6
 refine aq ?_
 refine wz [iv a3,iv a4,.la 5 0,.la 7 0,iv r2,.la 12 0,v11,cb ke,.la 15 0,iv x22.elem,iT a1,cb a1.l.length,cb ke] H13 [(5,(bY.af a0)),(7,(iB.af a2)),(12,(jJ.af x7)),(15,(iG.af x18))] ?_ (iO hS14 [(13,0)])
 refine bZ ?_
 rintro _ ⟨r31,hc30,rfl⟩
 have hStn:=hc30
 refine rC (t43 (Row.oo x18.my) r31) ?_
 rintro _ ⟨r33,hc32,rfl⟩
 have hIn:=hc32
 cases r33
 iterate 8 refine rV ?_
 have hx34:(a3).toNat<a2.runs.l.length:=by omega
 refine iU rfl rfl (λ_=>jo (n:=a3) (r:=a2.runs) (enc:=j7.af) rfl rfl rfl rfl rfl du hx34 rfl) ?_
 rw [hqx5]
 refine aJ ?_
 have hx36:(x5.jb).toNat<a2.jb.l.length:=by omega
 refine iU rfl rfl (λ_=>jo (n:=x5.jb) (r:=a2.jb) (enc:=jF.af) rfl rfl rfl rfl rfl du hx36 rfl) ?_
 generalize hqx37:a2.jb.l[(x5.jb).toNat]=x37
 refine aJ ?_
 refine rC (t96 a0 x37 x22.elem) ?_
 rintro _ ⟨r39,hc38,rfl⟩
 have hFt:=hc38
 cases r39
 refine bh ?_
 refine wz [iv a3,iv a4,.la 5 0,.la 7 0,iv r2,.la 12 0,v11,iT a1,cb a1.l.length,cb ke] H13 [(5,(bY.af a0)),(7,(iB.af a2)),(12,(jJ.af x7))] ?_ (iO hS14 [(13,0)])
 refine qg ?_
 refine jd ?_
 refine ab ?_
 exact g6
 refine bm ?_
 refine bv ?_
 refine jt rfl (kq (i:=0) [((ke:Int))] hS14 rfl rfl rfl rfl rfl rfl rfl rfl rfl (λ_=>rfl) (.inl rfl) dy (λ_=>rfl)) ?_
 rintro v40 H41 hS42
 refine ab ?_
 refine wz [iv a3,iv a4,.la 5 0,.la 7 0,iv r2,.la 12 0,v40,iT a1,cb a1.l.length,cb ke] H41 [(5,(bY.af a0)),(7,(iB.af a2)),(12,(jJ.af x7))] ?_ (iO hS42 [(13,0)])
 refine qg ?_
 refine jd ?_
 refine ab ?_
 exact ⟨by omega,v40,((l12++[((ke:Int))])),H41,dm,dC,hS42,(iO hS42 [(13,0)])⟩
 refine ce ?_
 refine cR ?_
 refine bh ?_
 refine wz [iv a3,iv a4,.la 5 0,.la 7 0,iv r2,.la 12 0,v11,iT a1,cb a1.l.length,cb ke] H13 [(5,(bY.af a0)),(7,(iB.af a2)),(12,(jJ.af x7))] ?_ (iO hS14 [(13,0)])
 refine qg ?_
 refine jd ?_
 refine ab ?_
 exact g6
 refine bl ?_
 refine aQ ?_
 refine kY (b:=x18.bare) rfl (λ_=>rfl) (λh43=>?_) (λh43=>?_)
 refine bJ ?_
 refine wz [iv a3,iv a4,.la 5 0,.la 7 0,iv r2,.la 12 0,v11,iT a1,cb a1.l.length,cb ke] H13 [(5,(bY.af a0)),(7,(iB.af a2)),(12,(jJ.af x7))] ?_ (iO hS14 [(13,0)])
 refine qg ?_
 refine jd ?_
 refine ab ?_
 exact g6
 refine aq ?_
 refine wz [iv a3,iv a4,.la 5 0,.la 7 0,iv r2,.la 12 0,v11,cb ke,.la 15 0,iv x22.elem,iT a1,cb a1.l.length,cb ke] H13 [(5,(bY.af a0)),(7,(iB.af a2)),(12,(jJ.af x7)),(15,(iG.af x18))] ?_ (iO hS14 [(13,0)])
 refine bZ ?_
 rintro _ ⟨r45,hc44,rfl⟩
 have hStn:=hc44
 refine rC (t43 (Row.oo x18.my) r45) ?_
 rintro _ ⟨r47,hc46,rfl⟩
 have hIn:=hc46
 cases r47
 iterate 8 refine rV ?_
 have hx48:(a3).toNat<a2.runs.l.length:=by omega
 refine iU rfl rfl (λ_=>jo (n:=a3) (r:=a2.runs) (enc:=j7.af) rfl rfl rfl rfl rfl du hx48 rfl) ?_
 rw [hqx5]
 refine aJ ?_
 have hx50:(x5.jb).toNat<a2.jb.l.length:=by omega
 refine iU rfl rfl (λ_=>jo (n:=x5.jb) (r:=a2.jb) (enc:=jF.af) rfl rfl rfl rfl rfl du hx50 rfl) ?_
 generalize hqx51:a2.jb.l[(x5.jb).toNat]=x51
 refine aJ ?_
 refine rC (t96 a0 x51 x22.elem) ?_
 rintro _ ⟨r53,hc52,rfl⟩
 have hFt:=hc52
 cases r53
 refine bh ?_
 refine wz [iv a3,iv a4,.la 5 0,.la 7 0,iv r2,.la 12 0,v11,iT a1,cb a1.l.length,cb ke] H13 [(5,(bY.af a0)),(7,(iB.af a2)),(12,(jJ.af x7))] ?_ (iO hS14 [(13,0)])
 refine qg ?_
 refine jd ?_
 refine ab ?_
 exact g6
 refine bm ?_
 refine bv ?_
 refine jt rfl (kq (i:=0) [((ke:Int))] hS14 rfl rfl rfl rfl rfl rfl rfl rfl rfl (λ_=>rfl) (.inl rfl) dy (λ_=>rfl)) ?_
 rintro v54 H55 hS56
 refine ab ?_
 refine wz [iv a3,iv a4,.la 5 0,.la 7 0,iv r2,.la 12 0,v54,iT a1,cb a1.l.length,cb ke] H55 [(5,(bY.af a0)),(7,(iB.af a2)),(12,(jJ.af x7))] ?_ (iO hS56 [(13,0)])
 refine qg ?_
 refine jd ?_
 refine ab ?_
 exact ⟨by omega,v54,((l12++[((ke:Int))])),H55,dm,dC,hS56,(iO hS56 [(13,0)])⟩
 refine ce ?_
 refine cR ?_
 refine bh ?_
 refine wz [iv a3,iv a4,.la 5 0,.la 7 0,iv r2,.la 12 0,v11,iT a1,cb a1.l.length,cb ke] H13 [(5,(bY.af a0)),(7,(iB.af a2)),(12,(jJ.af x7))] ?_ (iO hS14 [(13,0)])
 refine qg ?_
 refine jd ?_
 refine ab ?_
 exact g6
 refine a8 ?_
 refine bU ?_
 refine lg (λh57=>?_) (λh57=>?_)
 refine aQ ?_
 refine lg (λh58=>?_) (λh58=>?_)
 refine oV ?_
 refine aU ?_
 refine bJ ?_
 refine wz [iv a3,iv a4,.la 5 0,.la 7 0,iv r2,.la 12 0,v11,iT a1,cb a1.l.length,cb ke] H13 [(5,(bY.af a0)),(7,(iB.af a2)),(12,(jJ.af x7))] ?_ (iO hS14 [(13,0)])
 refine qg ?_
 refine jd ?_
 refine ab ?_
 exact g6
 refine aQ ?_
 refine kY (b:=x18.bare) rfl (λ_=>rfl) (λh59=>?_) (λh59=>?_)
 refine bJ ?_
 refine wz [iv a3,iv a4,.la 5 0,.la 7 0,iv r2,.la 12 0,v11,iT a1,cb a1.l.length,cb ke] H13 [(5,(bY.af a0)),(7,(iB.af a2)),(12,(jJ.af x7))] ?_ (iO hS14 [(13,0)])
 refine qg ?_
 refine jd ?_
 refine ab ?_
 exact g6
 refine aq ?_
 refine wz [iv a3,iv a4,.la 5 0,.la 7 0,iv r2,.la 12 0,v11,cb ke,.la 15 0,iv x22.elem,iT a1,cb a1.l.length,cb ke] H13 [(5,(bY.af a0)),(7,(iB.af a2)),(12,(jJ.af x7)),(15,(iG.af x18))] ?_ (iO hS14 [(13,0)])
 refine bZ ?_
 rintro _ ⟨r61,hc60,rfl⟩
 have hStn:=hc60
 refine rC (t43 (Row.oo x18.my) r61) ?_
 rintro _ ⟨r63,hc62,rfl⟩
 have hIn:=hc62
 cases r63
 iterate 8 refine rV ?_
 have hx64:(a3).toNat<a2.runs.l.length:=by omega
 refine iU rfl rfl (λ_=>jo (n:=a3) (r:=a2.runs) (enc:=j7.af) rfl rfl rfl rfl rfl du hx64 rfl) ?_
 rw [hqx5]
 refine aJ ?_
 have hx66:(x5.jb).toNat<a2.jb.l.length:=by omega
 refine iU rfl rfl (λ_=>jo (n:=x5.jb) (r:=a2.jb) (enc:=jF.af) rfl rfl rfl rfl rfl du hx66 rfl) ?_
 generalize hqx67:a2.jb.l[(x5.jb).toNat]=x67
 refine aJ ?_
 refine rC (t96 a0 x67 x22.elem) ?_
 rintro _ ⟨r69,hc68,rfl⟩
 have hFt:=hc68
 cases r69
 refine bh ?_
 refine wz [iv a3,iv a4,.la 5 0,.la 7 0,iv r2,.la 12 0,v11,iT a1,cb a1.l.length,cb ke] H13 [(5,(bY.af a0)),(7,(iB.af a2)),(12,(jJ.af x7))] ?_ (iO hS14 [(13,0)])
 refine qg ?_
 refine jd ?_
 refine ab ?_
 exact g6
 refine bm ?_
 refine bv ?_
 refine jt rfl (kq (i:=0) [((ke:Int))] hS14 rfl rfl rfl rfl rfl rfl rfl rfl rfl (λ_=>rfl) (.inl rfl) dy (λ_=>rfl)) ?_
 rintro v70 H71 hS72
 refine ab ?_
 refine wz [iv a3,iv a4,.la 5 0,.la 7 0,iv r2,.la 12 0,v70,iT a1,cb a1.l.length,cb ke] H71 [(5,(bY.af a0)),(7,(iB.af a2)),(12,(jJ.af x7))] ?_ (iO hS72 [(13,0)])
 refine qg ?_
 refine jd ?_
 refine ab ?_
 exact ⟨by omega,v70,((l12++[((ke:Int))])),H71,dm,dC,hS72,(iO hS72 [(13,0)])⟩
 refine ce ?_
 refine cR ?_
 refine bh ?_
 refine wz [iv a3,iv a4,.la 5 0,.la 7 0,iv r2,.la 12 0,v11,iT a1,cb a1.l.length,cb ke] H13 [(5,(bY.af a0)),(7,(iB.af a2)),(12,(jJ.af x7))] ?_ (iO hS14 [(13,0)])
 refine qg ?_
 refine jd ?_
 refine ab ?_
 exact g6
 refine bl ?_
 refine aQ ?_
 refine kY (b:=x18.bare) rfl (λ_=>rfl) (λh73=>?_) (λh73=>?_)
 refine bJ ?_
 refine wz [iv a3,iv a4,.la 5 0,.la 7 0,iv r2,.la 12 0,v11,iT a1,cb a1.l.length,cb ke] H13 [(5,(bY.af a0)),(7,(iB.af a2)),(12,(jJ.af x7))] ?_ (iO hS14 [(13,0)])
 refine qg ?_
 refine jd ?_
 refine ab ?_
 exact g6
 refine aq ?_
 refine wz [iv a3,iv a4,.la 5 0,.la 7 0,iv r2,.la 12 0,v11,cb ke,.la 15 0,iv x22.elem,iT a1,cb a1.l.length,cb ke] H13 [(5,(bY.af a0)),(7,(iB.af a2)),(12,(jJ.af x7)),(15,(iG.af x18))] ?_ (iO hS14 [(13,0)])
 refine bZ ?_
 rintro _ ⟨r75,hc74,rfl⟩
 have hStn:=hc74
 refine rC (t43 (Row.oo x18.my) r75) ?_
 rintro _ ⟨r77,hc76,rfl⟩
 have hIn:=hc76
 cases r77
 iterate 8 refine rV ?_
 have hx78:(a3).toNat<a2.runs.l.length:=by omega
 refine iU rfl rfl (λ_=>jo (n:=a3) (r:=a2.runs) (enc:=j7.af) rfl rfl rfl rfl rfl du hx78 rfl) ?_
 rw [hqx5]
 refine aJ ?_
 have hx80:(x5.jb).toNat<a2.jb.l.length:=by omega
 refine iU rfl rfl (λ_=>jo (n:=x5.jb) (r:=a2.jb) (enc:=jF.af) rfl rfl rfl rfl rfl du hx80 rfl) ?_
 generalize hqx81:a2.jb.l[(x5.jb).toNat]=x81
 refine aJ ?_
 refine rC (t96 a0 x81 x22.elem) ?_
 rintro _ ⟨r83,hc82,rfl⟩
 have hFt:=hc82
 cases r83
 refine bh ?_
 refine wz [iv a3,iv a4,.la 5 0,.la 7 0,iv r2,.la 12 0,v11,iT a1,cb a1.l.length,cb ke] H13 [(5,(bY.af a0)),(7,(iB.af a2)),(12,(jJ.af x7))] ?_ (iO hS14 [(13,0)])
 refine qg ?_
 refine jd ?_
 refine ab ?_
 exact g6
 refine bm ?_
 refine bv ?_
 refine jt rfl (kq (i:=0) [((ke:Int))] hS14 rfl rfl rfl rfl rfl rfl rfl rfl rfl (λ_=>rfl) (.inl rfl) dy (λ_=>rfl)) ?_
 rintro v84 H85 hS86
 refine ab ?_
 refine wz [iv a3,iv a4,.la 5 0,.la 7 0,iv r2,.la 12 0,v84,iT a1,cb a1.l.length,cb ke] H85 [(5,(bY.af a0)),(7,(iB.af a2)),(12,(jJ.af x7))] ?_ (iO hS86 [(13,0)])
 refine qg ?_
 refine jd ?_
 refine ab ?_
 exact ⟨by omega,v84,((l12++[((ke:Int))])),H85,dm,dC,hS86,(iO hS86 [(13,0)])⟩
 refine ce ?_
 refine cR ?_
 refine bh ?_
 refine wz [iv a3,iv a4,.la 5 0,.la 7 0,iv r2,.la 12 0,v11,iT a1,cb a1.l.length,cb ke] H13 [(5,(bY.af a0)),(7,(iB.af a2)),(12,(jJ.af x7))] ?_ (iO hS14 [(13,0)])
 refine qg ?_
 refine jd ?_
 refine ab ?_
 exact g6
 refine ai ?_
 refine wz [v11] H13 [] ?_ (iO hS14 [(13,0)])
 refine aO ?_
 obtain ⟨r87,hl88,hf89⟩:=lA (H:=H13) (i:=0) (l:=l12) (enc:=jL) hS14 rfl dn
 have hlq:=hl88; have hln91:=congrArg List.length hl88
 have hz90:∀ m,freeze false { H13 with iq:=[] } (m+2) v11=some (j3 r87):=λm=>hf89 _ _ (λ_=>rfl)
 exact ⟨v11,(kr (vs:=[v11]) rfl (iN (Sep.arg (i:=0) hS14 rfl) jD)),j3 r87,(show freeze false { H13 with iq:=[] } 8 v11=some (j3 r87) by simp only [FZ,hz90]),r87,fh,rfl⟩
def P14 (_a0:bY) (_a1:Row iG) (_a2:iB) (v:AV):Prop:=∃ r0:Int,(s5 _a0 _a1.l _a2 r0)/\v=iv r0
def t14 (a0:bY) (a1:Row iG) (a2:iB) (q1:(∀ r∈a1.l,0<r.steps.l.length)) (q2:a1.l.length<=64) (q9:∀ e,kn a0 e=4->rU a0 e=0) (qv:rs 34 [.agg (bY.af a0),.agg (iB.af a2)]=iv 0) (q7:yO a0 a2):Ct 14 [.agg (bY.af a0),iT a1,.agg (iB.af a2)] (P14 a0 a1 a2):=by
 refine iY Mk ?_
 have hPr2:=tA.Vq q7.oW
 refine bz ?_
 refine aH ?_
 have hL1:=a0.signals.lk
 refine cT ?_
 have hNk2:=a0.signals.lk
 refine iL a0.signals.l.length (λk2 e h=>(∀ (i:Nat) (h:i<a0.signals.l.length),i<k2->(a0.signals.l[i]).auto=false)/\At [1,3,5,23,24,25] [iT a1,.la 3 0,.la 5 0,jB a0.signals,cb a0.signals.l.length,cb k2] aT.empty [(3,(bY.af a0)),(5,(iB.af a2))] e h) ?_ (k0:=0) du ⟨ee,atR⟩
 rintro k2 e h hkk2 ⟨hSg,hA⟩
 refine aF ?_
 refine iX (λh3=>?_) (λh3=>?_)
 refine ak ?_
 refine bc ?_
 have hx4:k2<a0.signals.l.length:=by omega
 refine kM k2 a0.signals hx4 ?_
 generalize hqx5:a0.signals.l[k2]=x5
 refine aS ?_
 refine aj ?_
 refine kY (b:=x5.auto) rfl (λ_=>rfl) (λh6=>?_) (λh6=>?_)
 refine be ?_
 exact xB ⟨7,dE,rfl⟩
 refine cq ?_
 refine jd ?_
 refine ab ?_
 exact ⟨by omega,(by exact nI (P:=λx:jY=>x.auto=false) dl hSg dl),atR⟩
 refine ai ?_
 refine aH ?_
 refine oC (afu a0 a2  qv) ?_
 rintro _ rfl
 refine ab ?_
 refine aa ?_
 refine bV ?_
 refine ah ?_
 refine aH ?_
 have hL8:=a2.runs.lk
 refine jy a2.runs ?_
 refine aG ?_
 have hNk9:=a2.runs.lk
 refine iL a2.runs.l.length (λk9 e h=>(∀ i,i<k9->xc a0 a2 i=0)/\At [1,3,5,10,40,41] [iT a1,.la 3 0,.la 5 0,iJ,cb a2.runs.l.length,cb k9] aT.empty [(3,(bY.af a0)),(5,(iB.af a2))] e h) ?_ (k0:=0) du ⟨(by (intro i h; omega)),atR⟩
 rintro k9 e h hkk9 ⟨hEr,hA⟩
 refine aF ?_
 refine iX (λh10=>?_) (λh10=>?_)
 refine ak ?_
 refine bH ?_
 refine ap ?_
 refine oC (t40 a0 a2 ((k9:Int))) ?_
 rintro _ ⟨r12,r13,hc11,rfl⟩
 have hTr:=hc11
 cases r13
 refine az ?_
 refine aL ?_
 refine cZ ?_
 have hx14:k9<a2.runs.l.length:=by omega
 refine pM k9 a2.runs hx14 ?_
 generalize hqx15:a2.runs.l[k9]=x15
 have hinx15:x15∈a2.runs.l:=by rw [<- hqx15]; exact List.getElem_mem _
 have hsx15:=q7.oW.2 x15 hinx15
 refine aJ ?_
 have hx16:(x15.jb).toNat<a2.jb.l.length:=by omega
 refine iU rfl rfl (λ_=>jo (n:=x15.jb) (r:=a2.jb) (enc:=jF.af) rfl rfl rfl rfl rfl du hx16 rfl) ?_
 generalize hqx17:a2.jb.l[(x15.jb).toNat]=x17
 refine bw ?_
 refine rC (t41 a0 x17.len r12 dj) ?_
 rintro _ ⟨r19,r20,hc18,rfl⟩
 have hSw:=hc18
 refine bX ?_
 refine aj ?_
 refine lg (λh21=>?_) (λh21=>?_)
 refine ci ?_
 exact xB ⟨r20,dE,rfl⟩
 refine cq ?_
 refine jd ?_
 refine ab ?_
 exact ⟨by omega,fK,atR⟩
 refine az ?_
 refine aL ?_
 refine cZ ?_
 have hx22:k9<a2.runs.l.length:=by omega
 refine pM k9 a2.runs hx22 ?_
 generalize hqx23:a2.runs.l[k9]=x23
 have hinx23:x23∈a2.runs.l:=by rw [<- hqx23]; exact List.getElem_mem _
 have hsx23:=q7.oW.2 x23 hinx23
 refine aJ ?_
 have hx24:(x23.jb).toNat<a2.jb.l.length:=by omega
 refine iU rfl rfl (λ_=>jo (n:=x23.jb) (r:=a2.jb) (enc:=jF.af) rfl rfl rfl rfl rfl du hx24 rfl) ?_
 generalize hqx25:a2.jb.l[(x23.jb).toNat]=x25
 refine bw ?_
 refine rC (t41 a0 x25.len r12 dj) ?_
 rintro _ ⟨r27,r28,hc26,rfl⟩
 have hSw:=hc26
 refine bX ?_
 refine aj ?_
 refine lg (λh29=>?_) (λh29=>?_)
 refine ci ?_
 exact xB ⟨r28,dE,rfl⟩
 refine cq ?_
 refine jd ?_
 refine ab ?_
 exact ⟨by omega,fK,atR⟩
 refine ai ?_
 refine aH ?_
 have hL30:=a2.runs.lk
 refine jy a2.runs ?_
 refine aG ?_
 have hS31:=Sep.lX jW 1
 have hNk32:=a2.runs.lk
 refine iL a2.runs.l.length (λpJ e h=>∃ v33:AV,∃ l34:List Int,∃ H35:aT,(l34.length<=0+pJ)/\(AtK a0 a2 pJ l34)/\(¬ pD (qK a0 a2) pJ)/\Sep H35 (qt v33 l34::[])/\At [1,3,5,10,74,75] [iT a1,.la 3 0,.la 5 0,v33,cb a2.runs.l.length,cb pJ] H35 [(3,(bY.af a0)),(5,(iB.af a2))] e h) ?_ (k0:=0) du ⟨iJ,(([]:List Int)),aT.empty,d3,(by exact AtK.zero),(by (rintro ⟨i,j,h1,h2,h3⟩; omega)),hS31,atR⟩
 rintro pJ e h hkk32 ⟨v33,l34,H35,hl37,hAtk,hNM,hS36,hA⟩
 refine rz hA ?_
 have hd8:=q7.runs
 refine aa ?_
 refine iX (λh38=>?_) (λh38=>?_)
 refine ak ?_
 refine wz [iT a1,.la 3 0,.la 5 0,v33,cb a2.runs.l.length,cb pJ] H35 [(3,(bY.af a0)),(5,(iB.af a2))] ?_ (iO hS36 [(10,0)])
 refine bH ?_
 refine ap ?_
 refine oC (t40 a0 a2 ((pJ:Int))) ?_
 rintro _ ⟨r40,r41,hc39,rfl⟩
 have hTr:=hc39
 cases r41
 refine az ?_
 refine aR ?_
 refine oC (t42 a0 r40.at_.elem) ?_
 rintro _ ⟨r43,hc42,rfl⟩
 have hK:=hc42
 refine jG (λh44=>?_) (λh44=>?_)
 refine au ?_
 refine qs ?_
 refine aR ?_
 refine nU hS36 0 λr45 hl46 hln49 hz48=>?_
 refine mR (args:=[v33,iv r40.at_.elem]) (p:=[]) (r:=[]) (args':=[py r45,iv r40.at_.elem]) (R:=Rr r45 r40.at_.elem) rfl rfl rfl rfl rfl (iN (Sep.arg (i:=0) hS36 rfl) (iN rfl jD)) rfl e8 (kH (by show js (freeze true { H35 with iq:=[] } 8) [v33,iv r40.at_.elem] = _; simp only [FZ,hz48]) (iN (Sep.oW (i:=0) hS36 rfl) (iN rfl jD))) (kH eT (iN rfl (iN rfl jD))) (λh=>t43 r45 r40.at_.elem  h) ?_
 rintro _ ⟨r51,hc50,rfl⟩
 have hIn:=hc50
 cases r51
 refine aB ?_
 refine wz [iT a1,.la 3 0,.la 5 0,v33,.la 17 0,cb a2.runs.l.length,cb pJ] H35 [(3,(bY.af a0)),(5,(iB.af a2)),(17,(kU.af r40))] ?_ (iO hS36 [(10,0)])
 refine qg ?_
 refine bU ?_
 refine jt rfl (kq (i:=0) [r40.at_.elem] hS36 rfl rfl rfl rfl rfl rfl rfl rfl rfl (λ_=>rfl) (.inl rfl) dy (λ_=>rfl)) ?_
 rintro v52 H53 hS54
 refine ab ?_
 refine wz [iT a1,.la 3 0,.la 5 0,v52,cb a2.runs.l.length,cb pJ] H53 [(3,(bY.af a0)),(5,(iB.af a2))] ?_ (iO hS54 [(10,0)])
 refine qg ?_
 refine jd ?_
 refine ab ?_
 exact ⟨by omega,v52,((l34++[r40.at_.elem])),H53,dm,ew,ed,hS54,(iO hS54 [(10,0)])⟩
 refine be ?_
 exact xB ⟨18,dE,rfl⟩
 refine aB ?_
 refine wz [iT a1,.la 3 0,.la 5 0,v33,cb a2.runs.l.length,cb pJ] H35 [(3,(bY.af a0)),(5,(iB.af a2))] ?_ (iO hS36 [(10,0)])
 refine qg ?_
 refine jd ?_
 refine ab ?_
 exact gd
 refine az ?_
 refine aR ?_
 refine oC (t42 a0 r40.at_.elem) ?_
 rintro _ ⟨r56,hc55,rfl⟩
 have hK:=hc55
 refine jG (λh57=>?_) (λh57=>?_)
 refine au ?_
 refine qs ?_
 refine aR ?_
 refine nU hS36 0 λr58 hl59 hln62 hz61=>?_
 refine mR (args:=[v33,iv r40.at_.elem]) (p:=[]) (r:=[]) (args':=[py r58,iv r40.at_.elem]) (R:=Rr r58 r40.at_.elem) rfl rfl rfl rfl rfl (iN (Sep.arg (i:=0) hS36 rfl) (iN rfl jD)) rfl e8 (kH (by show js (freeze true { H35 with iq:=[] } 8) [v33,iv r40.at_.elem] = _; simp only [FZ,hz61]) (iN (Sep.oW (i:=0) hS36 rfl) (iN rfl jD))) (kH eT (iN rfl (iN rfl jD))) (λh=>t43 r58 r40.at_.elem  h) ?_
 rintro _ ⟨r64,hc63,rfl⟩
 have hIn:=hc63
 cases r64
 refine aB ?_
 refine wz [iT a1,.la 3 0,.la 5 0,v33,.la 17 0,cb a2.runs.l.length,cb pJ] H35 [(3,(bY.af a0)),(5,(iB.af a2)),(17,(kU.af r40))] ?_ (iO hS36 [(10,0)])
 refine qg ?_
 refine bU ?_
 refine jt rfl (kq (i:=0) [r40.at_.elem] hS36 rfl rfl rfl rfl rfl rfl rfl rfl rfl (λ_=>rfl) (.inl rfl) dy (λ_=>rfl)) ?_
 rintro v65 H66 hS67
 refine ab ?_
 refine wz [iT a1,.la 3 0,.la 5 0,v65,cb a2.runs.l.length,cb pJ] H66 [(3,(bY.af a0)),(5,(iB.af a2))] ?_ (iO hS67 [(10,0)])
 refine qg ?_
 refine jd ?_
 refine ab ?_
 exact ⟨by omega,v65,((l34++[r40.at_.elem])),H66,dm,ew,ed,hS67,(iO hS67 [(10,0)])⟩
 refine be ?_
 exact xB ⟨18,dE,rfl⟩
 refine aB ?_
 refine wz [iT a1,.la 3 0,.la 5 0,v33,cb a2.runs.l.length,cb pJ] H35 [(3,(bY.af a0)),(5,(iB.af a2))] ?_ (iO hS36 [(10,0)])
 refine qg ?_
 refine jd ?_
 refine ab ?_
 exact gd
 refine ai ?_
 refine aH ?_
 have hL68:=a2.runs.lk
 refine jy a2.runs ?_
 refine aG ?_
 have hNk69:=a2.runs.lk
 refine iL a2.runs.l.length (λsa e h=>(∀ i,i<sa->¬ rl a0 a1.l a2 i)/\At [1,3,5,104,105,106] [iT a1,.la 3 0,.la 5 0,mi a2.runs,cb a2.runs.l.length,cb sa] H35 [(3,(bY.af a0)),(5,(iB.af a2))] e h) ?_ (k0:=0) du ⟨(by (intro i h; omega)),atR⟩
 rintro sa e h hkk69 ⟨hBd,hA⟩
 refine aF ?_
 refine iX (λh70=>?_) (λh70=>?_)
 refine ak ?_
 refine bQ ?_
 have hx71:sa<a2.runs.l.length:=by omega
 refine kM sa a2.runs hx71 ?_
 generalize hqx72:a2.runs.l[sa]=x72
 have hinx72:x72∈a2.runs.l:=by rw [<- hqx72]; exact List.getElem_mem _
 have hsx72:=q7.oW.2 x72 hinx72
 refine bW ?_
 refine aH ?_
 have hL73:=x72.iS.lk
 refine jy x72.iS ?_
 refine jG (λh74=>?_) (λh74=>?_)
 refine bj ?_
 refine cr ?_
 refine ac ?_
 exact xB ⟨10,dE,rfl⟩
 refine bU ?_
 have hL75:=x72.iS.lk
 refine jy x72.iS ?_
 have hL76:=x72.iS.lk
 refine oP ?_
 have hx77:((x72.iS.l.length:Int) - 1).toNat<x72.iS.l.length:=by omega
 refine iI rfl (λ_=>jo (n:=(x72.iS.l.length:Int) - 1) (r:=x72.iS) (enc:=jJ.af) rfl rfl rfl rfl rfl du hx77 rfl) ?_
 generalize hqx78:x72.iS.l[((x72.iS.l.length:Int) - 1).toNat]=x78
 refine am ?_
 refine lg (λh79=>?_) (λh79=>?_)
 refine ac ?_
 exact xB ⟨10,dE,rfl⟩
 refine aq ?_
 refine ae ?_
 have hL80:=x72.iS.lk
 refine jy x72.iS ?_
 refine aG ?_
 have hNk81:=x72.iS.lk
 refine iL x72.iS.l.length (λoQ e h=>(∀ i:Nat,i<oQ->lY a0 a1.l a2 (sa:Nat) (i:Nat)≠[])/\At [1,3,5,19,104,105,106,129,130] [iT a1,.la 3 0,.la 5 0,cb sa,mi a2.runs,cb a2.runs.l.length,cb sa,cb x72.iS.l.length,cb oQ] H35 [(3,(bY.af a0)),(5,(iB.af a2))] e h) ?_ (k0:=0) du ⟨(by (intro i h; omega)),atR⟩
 rintro oQ e h hkk81 ⟨hRn,hA⟩
 refine aF ?_
 refine iX (λh82=>?_) (λh82=>?_)
 refine ak ?_
 refine bH ?_
 refine aa ?_
 refine bU ?_
 refine oC (t44 a0 a1 a2 ((sa:Int)) ((oQ:Int)) dj dj dj) ?_
 rintro _ ⟨r84,hc83,rfl⟩
 have hRl:=hc83.1; have hRe:=hc83.2
 have hL85:=r84.lk
 refine jy r84 ?_
 refine jG (λh86=>?_) (λh86=>?_)
 refine be ?_
 exact xB ⟨10,dE,rfl⟩
 refine cq ?_
 refine jd ?_
 refine ab ?_
 exact ⟨by omega,(by exact CC hRn (ne_nil hRe dl)),atR⟩
 refine ai ?_
 refine qg ?_
 refine jd ?_
 refine ab ?_
 exact ⟨by omega,(by exact CC hBd (Vb dl dl dl dl hRn du)),atR⟩
 refine cQ ?_
 exact xB ⟨0,dE,rfl⟩
def P6 (_a0:bY) (_a1:iB) (v:AV):Prop:=(∃ r0:jh,∃ r1:iD,(o9 r1 _a0/\lD _a0/\tA _a1/\_a1.jb.l.length<=10/\(∀ r∈(r0.roads.l:List iG),0<r.steps.l.length/\r.steps.l.length<=12/\r.jK.l.length<=12/\lV _a0 r)/\r0.roads.l.length<=64/\(r0.qj = _a0.canon/\∃ n:iD,o9 n _a0/\rs 37 [.agg (bY.af _a0)]=.je [.ip (iD.af n) 0 false,iv 0])/\rs 49 [.agg (bY.af _a0)]=.je [.agg (jh.af r0),iv 0]/\yO _a0 _a1/\rs 34 [.agg (bY.af _a0),.agg (iB.af _a1)]=iv 0)/\v=.je [.agg (jh.af r0),.ip (iD.af r1) 0 false,.bool true])\/(∃ r0:jh,∃ r1:AV,(True)/\v=.je [.agg (jh.af r0),r1,iF])
def t6 (a0:bY) (a1:iB) (hJg:JG a0):Ct 6 [.agg (bY.af a0),.agg (iB.af a1)] (P6 a0 a1):=by
 refine iY UA ?_
 refine ae ?_
 refine cN ?_
 refine oC (t11 a0 a1 dj) ?_
 rintro _ (⟨r2,r3,hc1,rfl⟩ | ⟨r4,r5,hc1,rfl⟩)
 have hAO:=hc1
 obtain ⟨hNn,hFw,hDf,hSt,hSn,h64,⟨hPl0,nx,hnk,hnx⟩,hBd,hDv,hCv⟩:=hAO
 have hx1:∀ r∈r2.roads.l,0<r.steps.l.length:=λr hr=>(hSn r hr).1
 have hx2:=Lq hnk.x.kd
 refine am ?_
 refine ct ?_
 refine cX ?_
 refine oC (t14 a0 r2.roads a1 dj dj dj dj dj) ?_
 rintro _ ⟨r7,hc6,rfl⟩
 have hCh:=hc6
 refine lg (λh8=>?_) (λh8=>?_)
 refine aE ?_
 refine cw ?_
 refine xG (.inr (⟨((⟨(⟨(kF:Row jZ),(kF:Row jX),(kF:Row jY),(kF:Row ju),0,0,0,0,false⟩:bY),(kF:Row iG)⟩:jh)),.jV,zt⟩))
 refine aq ?_
 refine aj ?_
 refine bB ?_
 refine xG (.inl ⟨r2,r3,dl,rfl⟩)
 refine am ?_
 refine ct ?_
 refine bE ?_
 refine oS ?_
 refine aE ?_
 refine cw ?_
 refine xG (.inr (⟨((⟨(⟨(kF:Row jZ),(kF:Row jX),(kF:Row jY),(kF:Row ju),0,0,0,0,false⟩:bY),(kF:Row iG)⟩:jh)),.jV,zt⟩))
def afx (_a0:iB) (_a1:Int) (_a2:Int) (v:AV):Prop:=∃ r0:Row jJ,∃ r1:Bool,((((r1=true->0<=_a1/\_a1<(_a0.runs.l.length:Int)/\0<=_a2/\(∀ h : _a1.toNat < _a0.runs.l.length,r0=(_a0.runs.l[_a1.toNat]).iS)/\_a2<=(r0.l.length:Int))/\(r1=false->Co _a0 _a1 _a2))/\r0.l.length<=9223372036854775807))/\v=.je [oL r0,.bool r1]
def t129 (a0:iB) (a1:Int) (a2:Int) :Ct 129 [.agg (iB.af a0),iv a1,iv a2] (afx a0 a1 a2):=by
 refine iY Jj ?_
 refine bz ?_
 refine ao ?_
 refine iX (λh1=>?_) (λh1=>?_)
 refine a8 ?_
 refine aU ?_
 refine bI ?_
 refine bS ?_
 exact gc
 refine aQ ?_
 have hL2:=a0.runs.lk
 refine jy a0.runs ?_
 refine lI (λh3=>?_) (λh3=>?_)
 refine aU ?_
 refine bI ?_
 refine bS ?_
 exact gc
 refine aC ?_
 refine iX (λh4=>?_) (λh4=>?_)
 refine bI ?_
 refine bS ?_
 exact gc
 refine cX ?_
 have hx5:(a1).toNat<a0.runs.l.length:=by omega
 refine iI rfl (λ_=>jo (n:=a1) (r:=a0.runs) (enc:=j7.af) rfl rfl rfl rfl rfl du hx5 rfl) ?_
 generalize hqx6:a0.runs.l[(a1).toNat]=x6
 refine am ?_
 have hL7:=x6.iS.lk
 refine jy x6.iS ?_
 refine ki (λh8=>?_) (λh8=>?_)
 refine bS ?_
 exact gc
 refine aq ?_
 refine ap ?_
 have hx9:(a1).toNat<a0.runs.l.length:=by omega
 refine iI rfl (λ_=>jo (n:=a1) (r:=a0.runs) (enc:=j7.af) rfl rfl rfl rfl rfl du hx9 rfl) ?_
 rw [hqx6]
 refine bB ?_
 exact xG ⟨x6.iS,true,dK,rfl⟩
def adD (_a0:iD) (_a1:iB) (_a2:Int) (_a3:Int) (v:AV):Prop:=∃ r0:iz,∃ r1:Bool,(((r1=true->kN false (nr _a0.p.signals.l) (λx=>look x _a0.next) _a1 _a2 _a3=some r0)/\(r1=false->kN false (nr _a0.p.signals.l) (λx=>look x _a0.next) _a1 _a2 _a3=none)))/\v=.je [.agg (iz.af r0),.bool r1]
def t130 (a0:iD) (a1:iB) (a2:Int) (a3:Int) (q1:0<=a2) (q2:a2<(a1.runs.l.length:Int)) (q3:0<=a3) (q4:∀ h:a2.toNat<a1.runs.l.length,a3<=((a1.runs.l[a2.toNat]).iS.l.length:Int)):Ct 130 [.ip (iD.af a0) 0 false,.agg (iB.af a1),iv a2,iv a3] (adD a0 a1 a2 a3):=by
 refine iY Jz ?_
 refine bz ?_
 refine ao ?_
 refine jG (λh1=>?_) (λh1=>?_)
 refine au ?_
 refine aR ?_
 have hx2:(a2).toNat<a1.runs.l.length:=by omega
 refine iI rfl (λ_=>jo (n:=a2) (r:=a1.runs) (enc:=j7.af) rfl rfl rfl rfl rfl du hx2 rfl) ?_
 generalize hqx3:a1.runs.l[(a2).toNat]=x3
 have hinx3:x3∈a1.runs.l:=by rw [<- hqx3]; exact List.getElem_mem _
 have hsx3:=q4 dl; rw [hqx3] at hsx3; have hkx3:=x3.iS.ok; simp only [rT] at hkx3
 refine am ?_
 refine oC (t203 a0 x3.from_) ?_
 rintro _ ⟨r5,r6,hc4,rfl⟩
 have hA:=hc4.1; have hA0:=hc4.2
 cases r6
 refine bB ?_
 exact xG ⟨r5,false,dF,rfl⟩
 refine bB ?_
 exact xG ⟨r5,true,dF,rfl⟩
 refine aB ?_
 refine aV ?_
 have hx7:(a2).toNat<a1.runs.l.length:=by omega
 refine iI rfl (λ_=>jo (n:=a2) (r:=a1.runs) (enc:=j7.af) rfl rfl rfl rfl rfl du hx7 rfl) ?_
 generalize hqx8:a1.runs.l[(a2).toNat]=x8
 have hinx8:x8∈a1.runs.l:=by rw [<- hqx8]; exact List.getElem_mem _
 have hsx8:=q4 dl; rw [hqx8] at hsx8; have hkx8:=x8.iS.ok; simp only [rT] at hkx8
 refine aC ?_
 refine oP ?_
 have hx9:(a3 - 1).toNat<x8.iS.l.length:=by omega
 refine iI rfl (λ_=>jo (n:=a3 - 1) (r:=x8.iS) (enc:=jJ.af) rfl rfl rfl rfl rfl du hx9 rfl) ?_
 generalize hqx10:x8.iS.l[(a3 - 1).toNat]=x10
 refine cN ?_
 refine cz ?_
 refine jG (λh11=>?_) (λh11=>?_)
 refine aE ?_
 refine ap ?_
 refine oC (t203 a0 x10.to) ?_
 rintro _ ⟨r13,r14,hc12,rfl⟩
 have hA:=hc12.1; have hA0:=hc12.2
 cases r14
 refine bB ?_
 exact xG ⟨r13,false,dF,rfl⟩
 refine bB ?_
 exact xG ⟨r13,true,dF,rfl⟩
 refine ba ?_
 refine jG (λh15=>?_) (λh15=>?_)
 refine aE ?_
 refine aR ?_
 refine oC (t197 a0 (⟨x10.to,0⟩:iz)) ?_
 rintro _ ⟨r17,r18,hc16,rfl⟩
 have hN:=hc16
 cases r18
 refine az ?_
 refine aR ?_
 refine oC (t197 a0 (⟨x10.to,1⟩:iz)) ?_
 rintro _ ⟨r20,r21,hc19,rfl⟩
 have hN:=hc19
 cases r21
 refine az ?_
 refine aV ?_
 refine bV ?_
 refine ap ?_
 refine aU ?_
 refine bN ?_
 exact xG ⟨(⟨x10.to,1⟩:iz),false,dF,rfl⟩
 refine ct ?_
 refine aC ?_
 refine aE ?_
 refine aj ?_
 refine bB ?_
 exact xG ⟨(⟨x10.to,0⟩:iz),true,dF,rfl⟩
 refine az ?_
 refine aR ?_
 refine oC (t197 a0 (⟨x10.to,1⟩:iz)) ?_
 rintro _ ⟨r23,r24,hc22,rfl⟩
 have hN:=hc22
 cases r24
 refine az ?_
 refine aV ?_
 refine oS ?_
 refine aq ?_
 refine cm ?_
 refine bB ?_
 exact xG ⟨(⟨x10.to,1⟩:iz),true,dF,rfl⟩
 refine az ?_
 refine aV ?_
 refine oS ?_
 refine aq ?_
 refine cm ?_
 refine bB ?_
 exact xG ⟨(⟨x10.to,1⟩:iz),false,dF,rfl⟩
 refine aq ?_
 refine a6 ?_
 exact xG ⟨(⟨0,0⟩:iz),false,dF,rfl⟩
def P60 (_a0:iD) (_a1:iB) (_a2:Int) (_a3:Int) (v:AV):Prop:=∃ r0:Int,(((0<=r0->0<=_a2/\_a2<(_a1.runs.l.length:Int)/\0<=_a3/\∀ h : _a2.toNat < _a1.runs.l.length,_a3<((_a1.runs.l[_a2.toNat]).iS.l.length:Int))/\r0=nk false (nr _a0.p.signals.l) (λx=>look x _a0.next) (kn _a0.p) (λx=>(look x _a0.reads).getD (-1)) _a1 _a2 _a3))/\v=iv r0
def t60 (a0:iD) (a1:iB) (a2:Int) (a3:Int) :Ct 60 [.ip (iD.af a0) 0 false,.agg (iB.af a1),iv a2,iv a3] (P60 a0 a1 a2 a3):=by
 refine iY N7 ?_
 refine aN ?_
 refine ap ?_
 refine oC (t129 a1 a2 a3) ?_
 rintro _ ⟨r2,r3,hc1,rfl⟩
 have hL:=hc1.1; have hLz:=hc1.2
 cases r3
 refine bD ?_
 refine bM ?_
 exact g7
 have hLt:=hL.1 rfl; have hLL:=hLt.2.2.2.1
 refine bD ?_
 refine aQ ?_
 have hL4:=r2.lk
 refine jy r2 ?_
 refine jG (λh5=>?_) (λh5=>?_)
 refine ac ?_
 exact g7
 refine aq ?_
 refine wy [.ip (iD.af a0) 0 false,iv a2,iv a3,.la 5 0,oL r2] [(5,(iB.af a1))] ?_
 refine aR ?_
 refine oC (t130 a0 a1 a2 a3 dj dj dj dj) ?_
 rintro _ ⟨r7,r8,hc6,rfl⟩
 have hG:=hc6
 cases r8
 refine ct ?_
 refine aP ?_
 refine cr ?_
 refine ac ?_
 exact g7
 refine ct ?_
 refine aQ ?_
 have hx9:(a3).toNat<r2.l.length:=by omega
 refine iI rfl (λ_=>jo (n:=a3) (r:=r2) (enc:=jJ.af) rfl rfl rfl rfl rfl du hx9 rfl) ?_
 generalize hqx10:r2.l[(a3).toNat]=x10
 refine oV ?_
 refine kY (b:=x10.Ax) rfl (λ_=>rfl) (λh11=>?_) (λh11=>?_)
 refine aQ ?_
 refine oC (t131 a0 r7.elem) ?_
 rintro _ ⟨r13,hc12,rfl⟩
 have hK:=hc12
 refine lg (λh14=>?_) (λh14=>?_)
 refine bf ?_
 exact g7
 refine bV ?_
 refine wy [.ip (iD.af a0) 0 false,iv a3,oL r2,.la 11 0] [(11,(iz.af r7))] ?_
 refine aH ?_
 have hx15:(a3).toNat<r2.l.length:=by omega
 refine iI rfl (λ_=>jo (n:=a3) (r:=r2) (enc:=jJ.af) rfl rfl rfl rfl rfl du hx15 rfl) ?_
 rw [hqx10]
 refine oV ?_
 refine kY (b:=x10.Ax) rfl (λ_=>rfl) (λh17=>?_) (λh17=>?_)
 refine bF ?_
 rintro _ ⟨r19,hc18,rfl⟩
 have hR:=hc18
 refine ag ?_
 exact xB ⟨r19,dG,rfl⟩
 refine aB ?_
 refine de ?_
 rintro _ ⟨r21,hc20,rfl⟩
 have hR:=hc20
 refine ag ?_
 exact xB ⟨r21,dG,rfl⟩
 refine a8 ?_
 refine bV ?_
 refine wy [.ip (iD.af a0) 0 false,iv a3,oL r2,.la 11 0] [(11,(iz.af r7))] ?_
 refine aH ?_
 have hx22:(a3).toNat<r2.l.length:=by omega
 refine iI rfl (λ_=>jo (n:=a3) (r:=r2) (enc:=jJ.af) rfl rfl rfl rfl rfl du hx22 rfl) ?_
 rw [hqx10]
 refine oV ?_
 refine kY (b:=x10.Ax) rfl (λ_=>rfl) (λh24=>?_) (λh24=>?_)
 refine bF ?_
 rintro _ ⟨r26,hc25,rfl⟩
 have hR:=hc25
 refine ag ?_
 exact xB ⟨r26,dG,rfl⟩
 refine aB ?_
 refine de ?_
 rintro _ ⟨r28,hc27,rfl⟩
 have hR:=hc27
 refine ag ?_
 exact xB ⟨r28,dG,rfl⟩
def agW (_a0:iD) (_a1:Int) (v:AV):Prop:=∃ r0:Int,∃ r1:Bool,(((r1=true->r0=th _a0.p.signals.l _a1)/\(r1=false->th _a0.p.signals.l _a1 = -1)))/\v=.je [iv r0,.bool r1]
def t238 (a0:iD) (a1:Int) :Ct 238 [.ip (iD.af a0) 0 false,iv a1] (agW a0 a1):=by
 refine iY JA ?_
 refine aN ?_
 refine ae ?_
 refine oC (t203 a0 a1) ?_
 rintro _ ⟨r2,r3,hc1,rfl⟩
 have hA:=hc1.1; have hA0:=hc1.2
 cases r3
 refine az ?_
 refine aj ?_
 refine bB ?_
 exact xG ⟨r2.elem,false,(by grind [th]),rfl⟩
 refine az ?_
 refine aj ?_
 refine bB ?_
 exact xG ⟨r2.elem,true,(by grind [th]),rfl⟩
def ad8 (_a0:iD) (_a1:Int) (v:AV):Prop:=∃ r0:Int,(r0=th _a0.p.signals.l _a1)/\v=iv r0
def t133 (a0:iD) (a1:Int) :Ct 133 [.ip (iD.af a0) 0 false,iv a1] (ad8 a0 a1):=by
 refine iY Il ?_
 refine cP ?_
 refine oC (t238 a0 a1) ?_
 rintro _ ⟨r2,r3,hc1,rfl⟩
 have hBt2:=hc1
 cases r3
 refine bD ?_
 refine ac ?_
 exact xB ⟨(-1),(by grind),rfl⟩
 refine bD ?_
 refine aq ?_
 refine aO ?_
 exact xB ⟨r2,(by grind),rfl⟩
def P61 (_a0:iD) (_a1:iB) (_a2:Int) (_a3:Int) (v:AV):Prop:=∃ r0:Int,(r0=yP (th _a0.p.signals.l) _a1 _a2 _a3)/\v=iv r0
def t61 (a0:iD) (a1:iB) (a2:Int) (a3:Int) :Ct 61 [.ip (iD.af a0) 0 false,.agg (iB.af a1),iv a2,iv a3] (P61 a0 a1 a2 a3):=by
 refine iY Nj ?_
 refine aN ?_
 refine ap ?_
 refine oC (t129 a1 a2 a3) ?_
 rintro _ ⟨r2,r3,hc1,rfl⟩
 have hL:=hc1.1; have hLz:=hc1.2
 cases r3
 refine bD ?_
 refine ac ?_
 exact xB ⟨(-1),dW,rfl⟩
 have hLt:=hL.1 rfl; have hLL:=hLt.2.2.2.1
 refine bD ?_
 refine aq ?_
 refine wy [.ip (iD.af a0) 0 false,iv a2,iv a3,.la 5 0,oL r2] [(5,(iB.af a1))] ?_
 refine ao ?_
 refine jG (λh4=>?_) (λh4=>?_)
 refine au ?_
 refine aR ?_
 have hx5:(a2).toNat<a1.runs.l.length:=by omega
 refine iI rfl (λ_=>jo (n:=a2) (r:=a1.runs) (enc:=j7.af) rfl rfl rfl rfl rfl du hx5 rfl) ?_
 generalize hqx6:a1.runs.l[(a2).toNat]=x6
 refine am ?_
 refine oC (t133 a0 x6.from_) ?_
 rintro _ ⟨r8,hc7,rfl⟩
 have hBth:=hc7
 refine ag ?_
 exact xB ⟨r8,dW,rfl⟩
 refine aB ?_
 refine wy [.ip (iD.af a0) 0 false,iv a3,oL r2] [] ?_
 refine aH ?_
 refine oP ?_
 have hx9:(a3 - 1).toNat<r2.l.length:=by omega
 refine iI rfl (λ_=>jo (n:=a3 - 1) (r:=r2) (enc:=jJ.af) rfl rfl rfl rfl rfl du hx9 rfl) ?_
 generalize hqx10:r2.l[(a3 - 1).toNat]=x10
 refine cN ?_
 refine cz ?_
 refine jG (λh11=>?_) (λh11=>?_)
 refine aE ?_
 refine ap ?_
 refine oC (t133 a0 x10.to) ?_
 rintro _ ⟨r13,hc12,rfl⟩
 have hBth:=hc12
 refine ag ?_
 exact xB ⟨r13,dW,rfl⟩
 refine ba ?_
 refine jG (λh14=>?_) (λh14=>?_)
 refine cg ?_
 exact xB ⟨x10.to,dW,rfl⟩
 refine aq ?_
 refine cJ ?_
 exact xB ⟨(-1),dW,rfl⟩
end Go.Sx
