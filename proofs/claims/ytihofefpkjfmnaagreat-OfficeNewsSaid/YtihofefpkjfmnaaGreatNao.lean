/- Proves what some functions of the program answer, by walking through them. -/
import Derived.Test.YtihofefpkjfmnaaGreatNag
import Derived.Test.YtihofefpkjfmnaaGreatNaj
import Derived.Test.YtihofefpkjfmnaaGreatNal
import Derived.Test.YtihofefpkjfmnaaGreatNam
import Derived.Test.YtihofefpkjfmnaaGreatNan
set_option linter.all false
set_option maxRecDepth 100000
set_option maxHeartbeats 0
namespace Go.Sx
open Go Go.Proofs
def abr (_a0:kb) (_a1:kq) (v:AV):Prop:=∃ r0:kq,(r0.steps.l = _a1.steps.l/\r0.nq.l = _a1.nq.l/\r0.mf.l.length<=12/\(∀ x∈r0.mf.l,pN x)/\r0.guards.l.length<=1000/\r0.holds.l.length<=1000)/\v=.agg (kq.af r0)
def t119 (a0:kb) (a1:kq) (q1:mU a0.p) (q2:a0.next.length<=240) (q3:a1.steps.l.length<=12) (q4:a1.nq.l.length<=1000) (q6:∀ y∈univ a0,pN y.elem):Ct 119 [.ip (kb.af a0) 0 false,.agg (kq.af a1)] (abr a0 a1):=by
 refine kA HS ?_
 have q5:(univ a0).length<=241:=by simp only [univ,List.length_cons,List.length_map]; omega
 refine bR ?_
 rintro _ H2 ⟨b1,rfl,hS3⟩
 refine kM (H:=H2) rfl (sa hS3 rfl rfl rfl rfl rfl) ?_
 rintro _ H5 ⟨b4,rfl,hS6⟩
 refine ab ?_
 refine ur ?_
 refine aO ?_
 refine sV 0 hS6 ?_
 refine sZ 0 hS6 (kQ a1.steps) ?_
 refine rC (t78 (Row.mi a1.steps) dS) ?_
 rintro _ ⟨r8,hc7,rfl⟩
 have hC93:=congrArg List.length hc7; try simp only [Row.mi] at hC93
 refine sV 0 hS6 ?_
 refine sZ 0 hS6 (lX a1.nq) ?_
 refine rC (t79 (Row.mi a1.nq) dS) ?_
 rintro _ ⟨r10,hc9,rfl⟩
 have hC94:=congrArg List.length hc9; try simp only [Row.mi] at hC94
 refine sV 0 hS6 ?_
 refine Zt 0 hS6 (kQ r8) λH11 hS12=>?_
 refine sV 0 hS12 ?_
 refine Zt 0 hS12 (lX r10) λH13 hS14=>?_
 refine rN ?_
 refine aa ?_
 refine pC 0 hS14 ?_
 refine F4 0 hS14 iN λH15 hS16=>?_
 refine pC 0 hS16 ?_
 refine F4 0 hS16 iN λH17 hS18=>?_
 refine pC 0 hS18 ?_
 refine F4 0 hS18 iN λH19 hS20=>?_
 refine pC 0 hS20 ?_
 refine F4 0 hS20 (.bool false) λH21 hS22=>?_
 refine oN ?_
 refine aa ?_
 refine nB 1 hS22 (.ip (kb.af a0) 0 false) ?_
 refine oC (t99 a0 dS) ?_
 rintro _ ⟨r24,hc23,rfl⟩
 have hPl:=hc23.2.2.2.2.2
 refine bF ?_
 refine aa ?_
 refine kM (H:=H21) rfl (pX hS22) ?_
 rintro _ H26 ⟨b25,rfl,hS27⟩
 refine ab ?_
 refine aa ?_
 refine kM (H:=H26) rfl (zm hS27 rfl rfl) ?_
 rintro _ H29 ⟨b28,rfl,hS30⟩
 refine oN ?_
 refine aa ?_
 refine nB 3 hS30 (.ip (kb.af a0) 0 false) ?_
 refine nB 2 hS30 (.agg [iv a1.from_,iv a1.to,iv a1.end_,kQ r8,lX r10,iN,iN,iN,kh]) ?_
 refine oC (t187 a0 (⟨a1.from_,a1.to,a1.end_,r8,r10,(mu:Row lI),(mu:Row Int),(mu:Row Int),false⟩:kq) dS) ?_
 rintro _ ⟨r32,hc31,rfl⟩
 dsimp only at hc31
 refine ak ?_
 have hL33:=r32.lk
 refine lx r32 ?_
 have hL34:=r32.lk
 refine pW ?_
 refine aC ?_
 have hS35:=Sep.m3 hS30 2
 refine nw (λm41 e h=>∃ v36:AV,∃ l37:List j7,∃ n38:Int,∃ H39:bV,m41=(n38+1).toNat/\(-1<=n38)/\(n38<(r32.l.length:Int))/\((l37.length:Int)+n38+1<=r32.l.length)/\((∀ y∈(l37:List j7),y∈univ a0))/\Sep H39 (nu j7.af 2 v36 l37::lE b28 [v36]::m5 b25 pK bK []::lE b4 [iv a1.from_,iv a1.to,iv a1.end_,kQ r8,lX r10,iN,iN,iN,kh]::lE b1 [.ip (kb.af a0) 0 false]::[])/\At [2,3,4,5,6,7,8,9] [(ki b1),(ki b4),.la 4 0,.bool r24.lZ,(.hm b25),(ki b28),pG r32,iv n38] H39 [(4,[iv 0,iv 0,iv 0,iN,iN,iN,iN,iN,kh])] e h) ?_ _ _ _ ⟨iN,(([]:List j7)),((r32.l.length:Int) - 1),H29,rfl,d7,d7,d7,fQ,hS35,atR⟩
 rintro m41 e h ⟨v36,l37,n38,H39,hmm41,hA1,hA2,hA3,hTu,hS40,hA⟩
 refine rR hA ?_
 refine am ?_
 refine mW (λh42=>?_) (λh42=>?_)
 refine cb ?_
 refine wz [(ki b1),(ki b4),.la 4 0,.bool r24.lZ,(.hm b25),(ki b28),pG r32,iv n38] H39 [(4,[iv 0,iv 0,iv 0,iN,iN,iN,iN,iN,kh])] ?_
 refine aw ?_
 refine aO ?_
 refine sZ 4 hS40 (.ip (kb.af a0) 0 false) ?_
 refine aK ?_
 have hx43:(n38).toNat<r32.l.length:=by omega
 refine kG rfl rfl (λ_=>kW (n:=n38) (r:=r32) (enc:=j7.af) rfl rfl rfl rfl rfl d4 hx43 rfl) ?_
 generalize hqx44:r32.l[(n38).toNat]=x44
 refine rV ?_
 refine rC (t188 a0 x44) ?_
 rintro _ ⟨r46,r47,hc45,rfl⟩
 have hN:=hc45
 cases r47
 refine bG ?_
 refine qg ?_
 refine nB 1 hS40 v36 ?_
 refine ao ?_
 refine KG 0 [r46] hS40 λv48 H49 hS50=>?_
 refine kM (H:=H49) rfl (nZ (H:=H49) (i:=1) (o:=0) (r:=v48) hS50 rfl rfl rfl rfl (nG rfl rfl (Sep.cell (i:=0) hS50 rfl)) (j8 (Sep.cell (i:=0) hS50 rfl) kK) rfl) ?_
 rintro _ H51 ⟨rfl,hS52⟩
 refine oN ?_
 refine wz [(ki b1),(ki b4),.la 4 0,.bool r24.lZ,(.hm b25),(ki b28),pG r32,iv n38] H51 [(4,[iv 0,iv 0,iv 0,iN,iN,iN,iN,iN,kh])] ?_
 refine aJ ?_
 refine pW ?_
 refine ab ?_
 refine ⟨_,?_,v48,((l37++[r46])),(n38 - 1),H51,rfl,d7,d7,d7,(by exact qx hTu (vI dT)),hS52,atR⟩
 omega
 refine bG ?_
 refine qg ?_
 refine nB 1 hS40 v36 ?_
 refine ao ?_
 refine KG 0 [r46] hS40 λv53 H54 hS55=>?_
 refine kM (H:=H54) rfl (nZ (H:=H54) (i:=1) (o:=0) (r:=v53) hS55 rfl rfl rfl rfl (nG rfl rfl (Sep.cell (i:=0) hS55 rfl)) (j8 (Sep.cell (i:=0) hS55 rfl) kK) rfl) ?_
 rintro _ H56 ⟨rfl,hS57⟩
 refine oN ?_
 refine wz [(ki b1),(ki b4),.la 4 0,.bool r24.lZ,(.hm b25),(ki b28),pG r32,iv n38] H56 [(4,[iv 0,iv 0,iv 0,iN,iN,iN,iN,iN,kh])] ?_
 refine aJ ?_
 refine pW ?_
 refine ab ?_
 refine ⟨_,?_,v53,((l37++[r46])),(n38 - 1),H56,rfl,d7,d7,d7,(by exact qx hTu (vI dT)),hS57,atR⟩
 omega
 refine aL ?_
 refine wz [(ki b1),(ki b4),.la 4 0,.bool r24.lZ,(.hm b25),(ki b28)] H39 [(4,[iv 0,iv 0,iv 0,iN,iN,iN,iN,iN,kh])] ?_
 refine aa ?_
 refine iS rfl (λ_=>tn rfl rfl (tv rfl rfl)) ?_
 refine ab ?_
 refine qq ?_
 refine ql ?_
 refine aw ?_
 have hS58:=Sep.m3 hS40 1
 have hS59:=Sep.m3 hS58 1
 have hS60:=Sep.m3 hS59 2
 have hS61:=Sep.vn (i:=3) hS60 rfl
 refine nw (λm77 e h=>∃ v62:AV,∃ l63:List lI,∃ v64:AV,∃ l65:List Int,∃ v66:AV,∃ l67:List Int,∃ v68:AV,∃ l69:List j7,∃ l70:List (j7×Bool),∃ n71:Int,∃ n72:Int,∃ n73:Int,∃ b74:Bool,∃ H75:bV,m77=3*((univ a0).length - l70.length)+l69.length/\(nc l70)/\(∀ k∈l70.map Prod.fst,k∈univ a0)/\(∀ y∈(l70:List (j7×Bool)),y.2=true)/\((∀ y∈(l69:List j7),y∈univ a0))/\(l69.length+3*((univ a0).length - l70.length)<=1000)/\(l63.length<=l70.length)/\(l65.length<=l70.length)/\(l67.length<=12)/\(∀ x∈(l67:List Int),pN x)/\(l70.length<=(univ a0).length)/\Sep H75 (nu lI.af 2 v62 l63::om v64 l65::om v66 l67::oT j7.af 2 v68 l69::lE b28 [v68]::m5 b25 pK bK l70::lE b4 [iv n71,iv n72,iv n73,kQ r8,lX r10,v62,v66,v64,.bool b74]::lE b1 [.ip (kb.af a0) 0 false]::[])/\At [2,3,4,5,6,7,12] [(ki b1),(ki b4),.la 4 0,.bool r24.lZ,(.hm b25),(ki b28),.ly 189 [] [(ki b1),(ki b28)]] H75 [(4,[iv 0,iv 0,iv 0,iN,iN,iN,iN,iN,kh])] e h) ?_ _ _ _ ⟨iN,(([]:List lI)),iN,(([]:List Int)),iN,(([]:List Int)),v36,l37,([]),a1.from_,a1.to,a1.end_,false,H39,rfl,(by simp [nc]),fQ,fQ,gf,d7,fQ,fQ,fQ,fQ,fQ,hS61,atR⟩
 rintro m77 e h ⟨v62,l63,v64,l65,v66,l67,v68,l69,l70,n71,n72,n73,b74,H75,hmm77,hKd,hKu,hT,hTu,hB1,hB2,hB3,hB4,hZr,hB5,hS76,hA⟩
 refine rR hA ?_
 refine bp ?_
 refine nB 4 hS76 v68 ?_
 refine iS rfl (λ_=>nO (H:=H75) (i:=3) (l:=l69) (enc:=j7.af) hS76 rfl rfl rfl rfl rfl rfl rfl) ?_
 refine mc (λh78=>?_) (λh78=>?_)
 refine cb ?_
 refine wz [(ki b1),(ki b4),.la 4 0,.bool r24.lZ,(.hm b25),(ki b28),.ly 189 [] [(ki b1),(ki b28)]] H75 [(4,[iv 0,iv 0,iv 0,iN,iN,iN,iN,iN,kh])] ?_
 refine qb ?_
 refine cQ ?_
 refine pW ?_
 have hk79:((((l69.length:Int) - 1).toNat:Nat):Int)=(l69.length:Int) - 1:=Int.toNat_of_nonneg dX
 have hx80:((l69.length:Int) - 1).toNat<l69.length:=by first | omega | (simp<;>omega) | (simp_all; omega)
 obtain ⟨x81,hqx81⟩:∃ x,l69[((l69.length:Int) - 1).toNat]=x:=⟨_,rfl⟩
 have hinx81:x81∈l69:=by rw [<- hqx81]; exact List.getElem_mem _
 have hmx81:=hTu x81 hinx81
 refine nM rfl (mS (H:=H75) (i:=3) (m:=((l69.length:Int) - 1).toNat) (cs:=j7.af x81) hS76 rfl rfl rfl rfl rfl rfl (congrArg (AV.int .i64) hk79.symm) (mq hx80 hqx81)) ?_
 rintro a82 ⟨ha83,hea84⟩
 refine iS rfl (λ_=>pr (H:=H75) (i:=3) (m:=((l69.length:Int) - 1).toNat) (o:=0) (r:=.agg (j7.af x81)) (cs:=j7.af x81) hS76 rfl (mq hx80 hqx81) hea84 rfl rfl ha83) ?_
 refine bF ?_
 refine cQ ?_
 refine pW ?_
 have hk85:((((l69.length:Int) - 1).toNat:Nat):Int)=(l69.length:Int) - 1:=Int.toNat_of_nonneg dX
 have hx86:((l69.length:Int) - 1).toNat<=l69.length:=by first | omega | (simp<;>omega) | (simp_all; omega)
 have hTl:(l69.take (((l69.length:Int) - 1).toNat)).length+1=l69.length:=by rw [List.length_take]; omega
 have hTu:∀ y∈l69.take (((l69.length:Int) - 1).toNat),y∈univ a0:=λy hy=>hTu y (List.mem_of_mem_take hy)
 refine kM (H:=H75) rfl (vG (H:=H75) (i:=3) (k:=((l69.length:Int) - 1).toNat) hS76 rfl rfl rfl rfl rfl rfl (congrArg (AV.int .i64) hk85.symm) hx86) ?_
 rintro v87 H88 ⟨hc89,hS90⟩
 refine kM (H:=H88) rfl (nZ (H:=H88) (i:=4) (o:=0) (r:=v87) hS90 rfl rfl rfl rfl (nG rfl rfl (Sep.cell (i:=3) hS90 rfl)) (j8 (Sep.cell (i:=3) hS90 rfl) kK) rfl) ?_
 rintro _ H91 ⟨rfl,hS92⟩
 refine oN ?_
 refine bp ?_
 refine nB 6 hS92 (.agg [iv n71,iv n72,iv n73,kQ r8,lX r10,v62,v66,v64,.bool b74]) ?_
 refine ao ?_
 refine nd hS92 0 λr93 hl94 hln97 hz96=>?_
 refine nd hS92 2 λr98 hl99 hln102 hz101=>?_
 refine nd hS92 1 λr103 hl104 hln107 hz106=>?_
 refine ns (args:=[.agg [iv n71,iv n72,iv n73,kQ r8,lX r10,v62,v66,v64,.bool b74],iv x81.elem]) (p:=[]) (r:=[]) (args':=[.agg [iv n71,iv n72,iv n73,kQ r8,lX r10,ka.av lI.af r93,lG r98,lG r103,.bool b74],iv x81.elem]) (R:=Ul (⟨n71,n72,n73,(Row.mi r8),(Row.mi r10),r93,r98,r103,b74⟩:uA) x81.elem) rfl rfl rfl rfl rfl rfl rfl fh (lj (by show kP (freeze true { H91 with cT:=[] } 8) [.agg [iv n71,iv n72,iv n73,kQ r8,lX r10,v62,v66,v64,.bool b74],iv x81.elem] = _; simp only [FZ,hz96,hz101,hz106]) (j8 (WH (j8 rfl (j8 rfl (j8 rfl (j8 rfl (j8 rfl (j8 (Sep.cell (i:=0) hS92 rfl) (j8 (Sep.cell (i:=2) hS92 rfl) (j8 (Sep.cell (i:=1) hS92 rfl) (j8 rfl kK)))))))))) (j8 rfl kK))) (lj e9 (j8 rfl (j8 rfl kK))) (λh=>t190 (⟨n71,n72,n73,(Row.mi r8),(Row.mi r10),r93,r98,r103,b74⟩:uA) x81.elem  h) ?_
 rintro _ ⟨r109,hc108,rfl⟩
 cases r109
 refine aD ?_
 refine nK (H:=H91) (i:=5) (ek:=pK) (ev:=bK) (l:=l70) x81 rfl rfl hS92 rfl rfl rfl rfl rfl rfl rfl rfl nk (λy110 h111=>?_) (λh112=>?_)
 cases y110
 exact absurd (hT _ (pJ h111)) fQ
 refine cZ ?_
 refine ⟨_,?_,v62,l63,v64,l65,v66,l67,v87,((l69.take (((l69.length:Int) - 1).toNat))),l70,n71,n72,n73,b74,H91,rfl,gk,gj,gp,gf,eb,d7,d7,d7,gi,fd,hS92,atR⟩
 first | omega | (simp only [List.length_append,List.length_cons,List.length_nil,List.length_take] at *; omega)
 refine ap ?_
 refine wz [(ki b1),(ki b4),.la 4 0,.bool r24.lZ,(.hm b25),(ki b28),.ly 189 [] [(ki b1),(ki b28)],.la 13 0] H91 [(4,[iv 0,iv 0,iv 0,iN,iN,iN,iN,iN,kh]),(13,(j7.af x81))] ?_
 refine ae ?_
 have hPl:(put x81 true l70).length=l70.length+1:=by rw [Hs dT]; simp
 have hKd:nc (put x81 true l70):=Gk hKd dT
 have hKu:∀ k∈(put x81 true l70).map Prod.fst,k∈univ a0:=LU hKu dT
 have hPle:(put x81 true l70).length<=(univ a0).length:=by rw [<- List.length_map Prod.fst]; exact Dg hKd hKu
 have hT:∀ y∈(put x81 true l70),y.2=true:=sW (P:=λy:Bool=>y=true) hT rfl
 refine kM (H:=H91) rfl (oK (H:=H91) (i:=5) (ek:=pK) (ev:=bK) (l:=l70) x81 true hS92 rfl rfl rfl rfl rfl rfl nk) ?_
 rintro _ H113 ⟨rfl,hS114⟩
 refine oN ?_
 refine A7 (λE Z=>(E=[(2,(ki b1)),(3,(ki b4)),(4,.la 4 0),(5,.bool r24.lZ),(6,(.hm b25)),(7,(ki b28)),(12,.ly 189 [] [(ki b1),(ki b28)]),(13,.la 13 0)]/\Z = { H113 with cT:=[(4,[iv 0,iv 0,iv 0,iN,iN,iN,iN,iN,kh]),(13,(j7.af x81))] })) ?_ ?_
 rintro _ _ ⟨rfl,rfl⟩
 refine aa ?_
 refine nB 7 hS114 (.ip (kb.af a0) 0 false) ?_
 refine ao ?_
 refine oC (t102 a0 x81.elem) ?_
 rintro _ ⟨r116,hc115,rfl⟩
 have hK:=hc115
 refine dh ?_
 refine kZ (λh117=>?_) (λh117=>?_)
 refine ba ?_
 refine qg ?_
 refine pC 6 hS114 ?_
 refine F4 6 hS114 (.bool true) λH118 hS119=>?_
 refine oN ?_
 refine ⟨_,?_,v62,l63,v64,l65,v66,l67,v87,((l69.take (((l69.length:Int) - 1).toNat))),((put x81 true l70)),n71,n72,n73,true,H118,rfl,gk,gj,gp,gf,eb,d7,d7,d7,gi,fd,hS119,atR⟩
 first | omega | (simp only [List.length_append,List.length_cons,List.length_nil,List.length_take] at *; omega)
 refine be ?_
 refine kZ (λh120=>?_) (λh120=>?_)
 refine ba ?_
 refine aR ?_
 refine kZ (λh121=>?_) (λh121=>?_)
 refine ay ?_
 refine aR ?_
 have hS122:=Sep.pick hS114 [6,0,2,1,3,4,5,7] 8 dW dW
 refine lB (H:=H113) (args:=[(ki b4),iv x81.elem]) (p:=[]) (r:=[]) rfl rfl rfl rfl rfl rfl rfl (Qx b4 n71 n72 n73 r8 r10 v62 l63 v66 l67 v64 l65 b74 x81.elem (oT j7.af 2 v87 (l69.take (((l69.length:Int) - 1).toNat))::lE b28 [v87]::m5 b25 pK bK (put x81 true l70)::lE b1 [.ip (kb.af a0) 0 false]::[]) hS122 dS) ?_
 rintro _ H123 ⟨r129,vzo126,zoneo127,bareo128,hc125,hS124,rfl⟩
 have hZr:∀ x∈zoneo127,pN x:=λx hx=>(hc125.2 x hx).elim (hZr x) (λe=>by rw [e]; exact q6 _ dT)
 have hc125:=hc125.1
 cases r129
 refine au ?_
 refine wz [(ki b1),(ki b4),.la 4 0,.bool r24.lZ,(.hm b25),(ki b28),.ly 189 [] [(ki b1),(ki b28)]] H123 [(4,[iv 0,iv 0,iv 0,iN,iN,iN,iN,iN,kh])] ?_
 refine qe ?_
 have hS130:=Sep.pick hS124 [1,3,2,4,5,6,0,7] 8 dW dW
 refine ⟨_,?_,v62,l63,v64,l65,vzo126,zoneo127,v87,((l69.take (((l69.length:Int) - 1).toNat))),((put x81 true l70)),n71,n72,n73,bareo128,H123,rfl,gk,gj,gp,gf,eb,d7,d7,d7,gi,fd,hS130,atR⟩
 first | omega | (simp only [List.length_append,List.length_cons,List.length_nil,List.length_take] at *; omega)
 refine ay ?_
 refine aI ?_
 have hS131:=Sep.pick hS124 [7,5,4,0,1,2,3,6] 8 dW dW
 refine lB (H:=H123) (args:=[iv x81.elem,iv 2]) (p:=[]) (r:=[(ki b1),(ki b28)]) rfl rfl rfl rfl rfl rfl rfl (LZ x81.elem 2 b1 a0 b28 v87 (l69.take (((l69.length:Int) - 1).toNat)) (lE b4 [iv n71,iv n72,iv n73,kQ r8,lX r10,v62,vzo126,v64,.bool bareo128]::nu lI.af 2 v62 l63::om vzo126 zoneo127::om v64 l65::m5 b25 pK bK (put x81 true l70)::[]) hS131 dS) ?_
 rintro _ H132 ⟨vto135,todoo136,hc134,hS133,rfl⟩
 have hTu:∀ y∈todoo136,y∈univ a0:=λy hy=>(hc134.2 y hy).elim (hTu y) id
 refine oN ?_
 refine bu ?_
 have hS137:=Sep.pick hS133 [0,1,2,3,4,5,6,7] 8 dW dW
 refine lB (H:=H132) (args:=[iv x81.elem,iv 1]) (p:=[]) (r:=[(ki b1),(ki b28)]) rfl rfl rfl rfl rfl rfl rfl (LZ x81.elem 1 b1 a0 b28 vto135 todoo136 (lE b4 [iv n71,iv n72,iv n73,kQ r8,lX r10,v62,vzo126,v64,.bool bareo128]::nu lI.af 2 v62 l63::om vzo126 zoneo127::om v64 l65::m5 b25 pK bK (put x81 true l70)::[]) hS137 dS) ?_
 rintro _ H138 ⟨vto141,todoo142,hc140,hS139,rfl⟩
 have hTu:∀ y∈todoo142,y∈univ a0:=λy hy=>(hc140.2 y hy).elim (hTu y) id
 refine oN ?_
 refine wz [(ki b1),(ki b4),.la 4 0,.bool r24.lZ,(.hm b25),(ki b28),.ly 189 [] [(ki b1),(ki b28)]] H138 [(4,[iv 0,iv 0,iv 0,iN,iN,iN,iN,iN,kh])] ?_
 refine qe ?_
 have hS143:=Sep.pick hS139 [4,6,5,2,1,7,3,0] 8 dW dW
 refine ⟨_,?_,v62,l63,v64,l65,vzo126,zoneo127,vto141,todoo142,((put x81 true l70)),n71,n72,n73,bareo128,H138,rfl,gk,gj,gp,gf,eb,d7,d7,d7,gi,fd,hS143,atR⟩
 first | omega | (simp only [List.length_append,List.length_cons,List.length_nil,List.length_take] at *; omega)
 refine au ?_
 refine wz [(ki b1),(ki b4),.la 4 0,.bool r24.lZ,(.hm b25),(ki b28),.ly 189 [] [(ki b1),(ki b28)],.la 13 0] H113 [(4,[iv 0,iv 0,iv 0,iN,iN,iN,iN,iN,kh]),(13,(j7.af x81))] ?_
 refine ae ?_
 refine dg ?_
 refine bp ?_
 refine pC 6 hS114 ?_
 refine nB 6 hS114 (lX r10) ?_
 refine oV ?_
 refine oC (t192 (Row.mi r10) (⟨x81.elem,x81.en⟩:lI)) ?_
 rintro _ ⟨r145,hc144,rfl⟩
 cases r145
 refine oV ?_
 refine dE ?_
 refine oV ?_
 refine nd hS114 0 λr146 hl147 hln150 hz149=>?_
 refine ns (args:=[v62,.agg (j7.af x81)]) (p:=[]) (r:=[]) (args':=[ka.av lI.af r146,.agg (j7.af x81)]) (R:=M3 r146 (⟨x81.elem,x81.en⟩:lI)) rfl rfl rfl rfl rfl (j8 (Sep.arg (i:=0) hS114 rfl) (j8 rfl kK)) rfl fh (lj (by show kP (freeze true { H113 with cT:=[] } 8) [v62,.agg (j7.af x81)] = _; simp only [FZ,hz149]) (j8 (Sep.ot (i:=0) hS114 rfl) (j8 rfl kK))) (lj e9 (j8 rfl (j8 rfl kK))) (λh=>t192 r146 (⟨x81.elem,x81.en⟩:lI)  h) ?_
 rintro _ ⟨r152,hc151,rfl⟩
 cases r152
 refine ap ?_
 refine wz [(ki b1),(ki b4),.la 4 0,.bool r24.lZ,(.hm b25),(ki b28),.ly 189 [] [(ki b1),(ki b28)],.la 13 0] H113 [(4,[iv 0,iv 0,iv 0,iN,iN,iN,iN,iN,kh]),(13,(j7.af x81))] ?_
 refine bJ ?_
 refine iS rfl (λ_=>ml rfl rfl rfl (rW .i64 3 x81.en)) ?_
 refine bM ?_
 refine aa ?_
 refine dE ?_
 refine oV ?_
 refine nd hS114 0 λr153 hl154 hln157 hz156=>?_
 refine ns (args:=[v62,.agg [iv x81.elem,iv (IntKind.i64.wrap (3 - x81.en))]]) (p:=[]) (r:=[]) (args':=[ka.av lI.af r153,.agg [iv x81.elem,iv (IntKind.i64.wrap (3 - x81.en))]]) (R:=M3 r153 (⟨x81.elem,(IntKind.i64.wrap (3 - x81.en))⟩:lI)) rfl rfl rfl rfl rfl (j8 (Sep.arg (i:=0) hS114 rfl) (j8 rfl kK)) rfl fh (lj (by show kP (freeze true { H113 with cT:=[] } 8) [v62,.agg [iv x81.elem,iv (IntKind.i64.wrap (3 - x81.en))]] = _; simp only [FZ,hz156]) (j8 (Sep.ot (i:=0) hS114 rfl) (j8 rfl kK))) (lj e9 (j8 rfl (j8 rfl kK))) (λh=>t192 r153 (⟨x81.elem,(IntKind.i64.wrap (3 - x81.en))⟩:lI)  h) ?_
 rintro _ ⟨r159,hc158,rfl⟩
 cases r159
 refine ba ?_
 refine qg ?_
 refine dE ?_
 refine ao ?_
 refine KG 0 [(⟨x81.elem,(IntKind.i64.wrap (3 - x81.en))⟩:lI)] hS114 λv160 H161 hS162=>?_
 refine pC 6 hS162 ?_
 refine kM (H:=H161) rfl (nZ (H:=H161) (i:=6) (o:=5) (r:=v160) hS162 rfl rfl rfl rfl (nG rfl rfl (Sep.cell (i:=0) hS162 rfl)) (j8 (Sep.cell (i:=0) hS162 rfl) kK) rfl) ?_
 rintro _ H163 ⟨rfl,hS164⟩
 refine oN ?_
 refine ⟨_,?_,v160,((l63++[(⟨x81.elem,(IntKind.i64.wrap (3 - x81.en))⟩:lI)])),v64,l65,v66,l67,v87,((l69.take (((l69.length:Int) - 1).toNat))),((put x81 true l70)),n71,n72,n73,b74,H163,rfl,gk,gj,gp,gf,eb,d7,d7,d7,gi,fd,hS164,atR⟩
 first | omega | (simp only [List.length_append,List.length_cons,List.length_nil,List.length_take] at *; omega)
 refine ap ?_
 refine ⟨_,?_,v62,l63,v64,l65,v66,l67,v87,((l69.take (((l69.length:Int) - 1).toNat))),((put x81 true l70)),n71,n72,n73,b74,H113,rfl,gk,gj,gp,gf,eb,d7,d7,d7,gi,fd,hS114,atR⟩
 first | omega | (simp only [List.length_append,List.length_cons,List.length_nil,List.length_take] at *; omega)
 refine ba ?_
 refine aR ?_
 have hS165:=Sep.pick hS114 [6,0,2,1,3,4,5,7] 8 dW dW
 refine lB (H:=H113) (args:=[(ki b4),iv x81.elem]) (p:=[]) (r:=[]) rfl rfl rfl rfl rfl rfl rfl (Qx b4 n71 n72 n73 r8 r10 v62 l63 v66 l67 v64 l65 b74 x81.elem (oT j7.af 2 v87 (l69.take (((l69.length:Int) - 1).toNat))::lE b28 [v87]::m5 b25 pK bK (put x81 true l70)::lE b1 [.ip (kb.af a0) 0 false]::[]) hS165 dS) ?_
 rintro _ H166 ⟨r172,vzo169,zoneo170,bareo171,hc168,hS167,rfl⟩
 have hZr:∀ x∈zoneo170,pN x:=λx hx=>(hc168.2 x hx).elim (hZr x) (λe=>by rw [e]; exact q6 _ dT)
 have hc168:=hc168.1
 cases r172
 refine au ?_
 refine wz [(ki b1),(ki b4),.la 4 0,.bool r24.lZ,(.hm b25),(ki b28),.ly 189 [] [(ki b1),(ki b28)]] H166 [(4,[iv 0,iv 0,iv 0,iN,iN,iN,iN,iN,kh])] ?_
 refine qe ?_
 have hS173:=Sep.pick hS167 [1,3,2,4,5,6,0,7] 8 dW dW
 refine ⟨_,?_,v62,l63,v64,l65,vzo169,zoneo170,v87,((l69.take (((l69.length:Int) - 1).toNat))),((put x81 true l70)),n71,n72,n73,bareo171,H166,rfl,gk,gj,gp,gf,eb,d7,d7,d7,gi,fd,hS173,atR⟩
 first | omega | (simp only [List.length_append,List.length_cons,List.length_nil,List.length_take] at *; omega)
 refine ay ?_
 refine bu ?_
 have hS174:=Sep.pick hS167 [7,5,4,0,1,2,3,6] 8 dW dW
 refine lB (H:=H166) (args:=[iv x81.elem,iv 0]) (p:=[]) (r:=[(ki b1),(ki b28)]) rfl rfl rfl rfl rfl rfl rfl (LZ x81.elem 0 b1 a0 b28 v87 (l69.take (((l69.length:Int) - 1).toNat)) (lE b4 [iv n71,iv n72,iv n73,kQ r8,lX r10,v62,vzo169,v64,.bool bareo171]::nu lI.af 2 v62 l63::om vzo169 zoneo170::om v64 l65::m5 b25 pK bK (put x81 true l70)::[]) hS174 dS) ?_
 rintro _ H175 ⟨vto178,todoo179,hc177,hS176,rfl⟩
 have hTu:∀ y∈todoo179,y∈univ a0:=λy hy=>(hc177.2 y hy).elim (hTu y) id
 refine oN ?_
 refine wz [(ki b1),(ki b4),.la 4 0,.bool r24.lZ,(.hm b25),(ki b28),.ly 189 [] [(ki b1),(ki b28)]] H175 [(4,[iv 0,iv 0,iv 0,iN,iN,iN,iN,iN,kh])] ?_
 refine qe ?_
 have hS180:=Sep.pick hS176 [4,6,5,2,1,7,3,0] 8 dW dW
 refine ⟨_,?_,v62,l63,v64,l65,vzo169,zoneo170,vto178,todoo179,((put x81 true l70)),n71,n72,n73,bareo171,H175,rfl,gk,gj,gp,gf,eb,d7,d7,d7,gi,fd,hS180,atR⟩
 first | omega | (simp only [List.length_append,List.length_cons,List.length_nil,List.length_take] at *; omega)
 refine bk ?_
 refine ba ?_
 refine aR ?_
 have hS181:=Sep.pick hS114 [6,0,2,1,3,4,5,7] 8 dW dW
 refine lB (H:=H113) (args:=[(ki b4),iv x81.elem]) (p:=[]) (r:=[]) rfl rfl rfl rfl rfl rfl rfl (Qx b4 n71 n72 n73 r8 r10 v62 l63 v66 l67 v64 l65 b74 x81.elem (oT j7.af 2 v87 (l69.take (((l69.length:Int) - 1).toNat))::lE b28 [v87]::m5 b25 pK bK (put x81 true l70)::lE b1 [.ip (kb.af a0) 0 false]::[]) hS181 dS) ?_
 rintro _ H182 ⟨r188,vzo185,zoneo186,bareo187,hc184,hS183,rfl⟩
 have hZr:∀ x∈zoneo186,pN x:=λx hx=>(hc184.2 x hx).elim (hZr x) (λe=>by rw [e]; exact q6 _ dT)
 have hc184:=hc184.1
 cases r188
 refine au ?_
 refine wz [(ki b1),(ki b4),.la 4 0,.bool r24.lZ,(.hm b25),(ki b28),.ly 189 [] [(ki b1),(ki b28)]] H182 [(4,[iv 0,iv 0,iv 0,iN,iN,iN,iN,iN,kh])] ?_
 refine qe ?_
 have hS189:=Sep.pick hS183 [1,3,2,4,5,6,0,7] 8 dW dW
 refine ⟨_,?_,v62,l63,v64,l65,vzo185,zoneo186,v87,((l69.take (((l69.length:Int) - 1).toNat))),((put x81 true l70)),n71,n72,n73,bareo187,H182,rfl,gk,gj,gp,gf,eb,d7,d7,d7,gi,fd,hS189,atR⟩
 first | omega | (simp only [List.length_append,List.length_cons,List.length_nil,List.length_take] at *; omega)
 refine ay ?_
 refine bu ?_
 have hS190:=Sep.pick hS183 [7,5,4,0,1,2,3,6] 8 dW dW
 refine lB (H:=H182) (args:=[iv x81.elem,iv 0]) (p:=[]) (r:=[(ki b1),(ki b28)]) rfl rfl rfl rfl rfl rfl rfl (LZ x81.elem 0 b1 a0 b28 v87 (l69.take (((l69.length:Int) - 1).toNat)) (lE b4 [iv n71,iv n72,iv n73,kQ r8,lX r10,v62,vzo185,v64,.bool bareo187]::nu lI.af 2 v62 l63::om vzo185 zoneo186::om v64 l65::m5 b25 pK bK (put x81 true l70)::[]) hS190 dS) ?_
 rintro _ H191 ⟨vto194,todoo195,hc193,hS192,rfl⟩
 have hTu:∀ y∈todoo195,y∈univ a0:=λy hy=>(hc193.2 y hy).elim (hTu y) id
 refine oN ?_
 refine wz [(ki b1),(ki b4),.la 4 0,.bool r24.lZ,(.hm b25),(ki b28),.ly 189 [] [(ki b1),(ki b28)]] H191 [(4,[iv 0,iv 0,iv 0,iN,iN,iN,iN,iN,kh])] ?_
 refine qe ?_
 have hS196:=Sep.pick hS192 [4,6,5,2,1,7,3,0] 8 dW dW
 refine ⟨_,?_,v62,l63,v64,l65,vzo185,zoneo186,vto194,todoo195,((put x81 true l70)),n71,n72,n73,bareo187,H191,rfl,gk,gj,gp,gf,eb,d7,d7,d7,gi,fd,hS196,atR⟩
 first | omega | (simp only [List.length_append,List.length_cons,List.length_nil,List.length_take] at *; omega)
 refine be ?_
 refine nB 7 hS114 (.ip (kb.af a0) 0 false) ?_
 refine aM ?_
 refine oC (t193 a0 x81.elem x81.en 0) ?_
 rintro _ ⟨r198,r199,hc197,rfl⟩
 cases r199
 refine dg ?_
 refine aa ?_
 refine dj ?_
 refine ap ?_
 refine ⟨_,?_,v62,l63,v64,l65,v66,l67,v87,((l69.take (((l69.length:Int) - 1).toNat))),((put x81 true l70)),n71,n72,n73,b74,H113,rfl,gk,gj,gp,gf,eb,d7,d7,d7,gi,fd,hS114,atR⟩
 first | omega | (simp only [List.length_append,List.length_cons,List.length_nil,List.length_take] at *; omega)
 refine dg ?_
 refine bJ ?_
 have hS200:=Sep.pick hS114 [6,0,2,1,3,4,5,7] 8 dW dW
 refine lB (H:=H113) (args:=[(ki b4),iv x81.elem]) (p:=[]) (r:=[]) rfl rfl rfl rfl rfl rfl rfl (Qx b4 n71 n72 n73 r8 r10 v62 l63 v66 l67 v64 l65 b74 x81.elem (oT j7.af 2 v87 (l69.take (((l69.length:Int) - 1).toNat))::lE b28 [v87]::m5 b25 pK bK (put x81 true l70)::lE b1 [.ip (kb.af a0) 0 false]::[]) hS200 dS) ?_
 rintro _ H201 ⟨r207,vzo204,zoneo205,bareo206,hc203,hS202,rfl⟩
 have hZr:∀ x∈zoneo205,pN x:=λx hx=>(hc203.2 x hx).elim (hZr x) (λe=>by rw [e]; exact q6 _ dT)
 have hc203:=hc203.1
 cases r207
 refine ap ?_
 have hS208:=Sep.pick hS202 [1,3,2,4,5,6,0,7] 8 dW dW
 refine ⟨_,?_,v62,l63,v64,l65,vzo204,zoneo205,v87,((l69.take (((l69.length:Int) - 1).toNat))),((put x81 true l70)),n71,n72,n73,bareo206,H201,rfl,gk,gj,gp,gf,eb,d7,d7,d7,gi,fd,hS208,atR⟩
 first | omega | (simp only [List.length_append,List.length_cons,List.length_nil,List.length_take] at *; omega)
 refine ba ?_
 refine dz ?_
 have hS209:=Sep.pick hS202 [7,5,4,0,1,2,3,6] 8 dW dW
 refine lB (H:=H201) (args:=[iv x81.elem,iv r198]) (p:=[]) (r:=[(ki b1),(ki b28)]) rfl rfl rfl rfl rfl rfl rfl (LZ x81.elem r198 b1 a0 b28 v87 (l69.take (((l69.length:Int) - 1).toNat)) (lE b4 [iv n71,iv n72,iv n73,kQ r8,lX r10,v62,vzo204,v64,.bool bareo206]::nu lI.af 2 v62 l63::om vzo204 zoneo205::om v64 l65::m5 b25 pK bK (put x81 true l70)::[]) hS209 dS) ?_
 rintro _ H210 ⟨vto213,todoo214,hc212,hS211,rfl⟩
 have hTu:∀ y∈todoo214,y∈univ a0:=λy hy=>(hc212.2 y hy).elim (hTu y) id
 refine oN ?_
 have hS215:=Sep.pick hS211 [4,6,5,2,1,7,3,0] 8 dW dW
 refine ⟨_,?_,v62,l63,v64,l65,vzo204,zoneo205,vto213,todoo214,((put x81 true l70)),n71,n72,n73,bareo206,H210,rfl,gk,gj,gp,gf,eb,d7,d7,d7,gi,fd,hS215,atR⟩
 first | omega | (simp only [List.length_append,List.length_cons,List.length_nil,List.length_take] at *; omega)
 refine aa ?_
 refine nB 7 hS114 (.ip (kb.af a0) 0 false) ?_
 refine oV ?_
 refine oC (t181 a0 x81) ?_
 rintro _ ⟨r217,hc216,rfl⟩
 have hR:=hc216
 refine aN ?_
 refine mW (λh218=>?_) (λh218=>?_)
 refine oV ?_
 refine mh (b:=r24.lZ) rfl (λ_=>rfl) (λh219=>?_) (λh219=>?_)
 refine cf ?_
 exact ⟨rfl,rfl⟩
 refine oV ?_
 refine ba ?_
 refine bp ?_
 refine pC 6 hS114 ?_
 refine nB 6 hS114 v64 ?_
 refine oV ?_
 refine nd hS114 1 λr220 hl221 hln224 hz223=>?_
 refine ns (args:=[v64,iv r217]) (p:=[]) (r:=[]) (args':=[lG r220,iv r217]) (R:=Ns r220 r217) rfl rfl rfl rfl rfl (j8 (Sep.arg (i:=1) hS114 rfl) (j8 rfl kK)) rfl fh (lj (by show kP (freeze true { H113 with cT:=[] } 8) [v64,iv r217] = _; simp only [FZ,hz223]) (j8 (Sep.ot (i:=1) hS114 rfl) (j8 rfl kK))) (lj e9 (j8 rfl (j8 rfl kK))) (λh=>t113 r220 r217  h) ?_
 rintro _ ⟨r226,hc225,rfl⟩
 have hIn:=hc225
 cases r226
 refine ba ?_
 refine qg ?_
 refine pC 6 hS114 ?_
 refine nB 6 hS114 v64 ?_
 refine ao ?_
 refine KG 1 [r217] hS114 λv227 H228 hS229=>?_
 refine pC 6 hS229 ?_
 refine kM (H:=H228) rfl (nZ (H:=H228) (i:=6) (o:=7) (r:=v227) hS229 rfl rfl rfl rfl (nG rfl rfl (Sep.cell (i:=1) hS229 rfl)) (j8 (Sep.cell (i:=1) hS229 rfl) kK) rfl) ?_
 rintro _ H230 ⟨rfl,hS231⟩
 refine oN ?_
 refine wz [(ki b1),(ki b4),.la 4 0,.bool r24.lZ,(.hm b25),(ki b28),.ly 189 [] [(ki b1),(ki b28)]] H230 [(4,[iv 0,iv 0,iv 0,iN,iN,iN,iN,iN,kh])] ?_
 refine qe ?_
 refine ⟨_,?_,v62,l63,v227,((l65++[r217])),v66,l67,v87,((l69.take (((l69.length:Int) - 1).toNat))),((put x81 true l70)),n71,n72,n73,b74,H230,rfl,gk,gj,gp,gf,eb,d7,d7,d7,gi,fd,hS231,atR⟩
 first | omega | (simp only [List.length_append,List.length_cons,List.length_nil,List.length_take] at *; omega)
 refine ap ?_
 refine wz [(ki b1),(ki b4),.la 4 0,.bool r24.lZ,(.hm b25),(ki b28),.ly 189 [] [(ki b1),(ki b28)]] H113 [(4,[iv 0,iv 0,iv 0,iN,iN,iN,iN,iN,kh])] ?_
 refine qe ?_
 refine ⟨_,?_,v62,l63,v64,l65,v66,l67,v87,((l69.take (((l69.length:Int) - 1).toNat))),((put x81 true l70)),n71,n72,n73,b74,H113,rfl,gk,gj,gp,gf,eb,d7,d7,d7,gi,fd,hS114,atR⟩
 first | omega | (simp only [List.length_append,List.length_cons,List.length_nil,List.length_take] at *; omega)
 refine bj ?_
 refine ap ?_
 exact ⟨rfl,rfl⟩
 refine bX ?_
 refine cZ ?_
 refine ⟨_,?_,v62,l63,v64,l65,v66,l67,v87,((l69.take (((l69.length:Int) - 1).toNat))),l70,n71,n72,n73,b74,H91,rfl,gk,gj,gp,gf,eb,d7,d7,d7,gi,fd,hS92,atR⟩
 first | omega | (simp only [List.length_append,List.length_cons,List.length_nil,List.length_take] at *; omega)
 refine aL ?_
 refine wz [(ki b4),.la 4 0,.la 4 0] H75 [(4,[iv 0,iv 0,iv 0,iN,iN,iN,iN,iN,kh]),(4,[iv 0,iv 0,iv 0,iN,iN,iN,iN,iN,kh])] ?_
 refine aa ?_
 refine nB 6 hS76 (.agg [iv n71,iv n72,iv n73,kQ r8,lX r10,v62,v66,v64,.bool b74]) ?_
 refine iS rfl (λ_=>pd rfl rfl rfl rfl (j8 rfl (j8 rfl (j8 rfl (j8 rfl (j8 rfl (j8 (Sep.cell (i:=0) hS76 rfl) (j8 (Sep.cell (i:=2) hS76 rfl) (j8 (Sep.cell (i:=1) hS76 rfl) (j8 rfl kK))))))))) rfl rfl) ?_
 refine cN ?_
 obtain ⟨r232,hl233,hf234⟩:=mz (H:=H75) (i:=0) (l:=l63) (enc:=lI.af) hS76 rfl dV
 have hlq:=hl233; have hln236:=congrArg List.length hl233
 have hz235:∀ m,freeze false { H75 with cT:=[(4,[iv n71,iv n72,iv n73,kQ r8,lX r10,v62,v66,v64,.bool b74])] } (m+2) v62=some (lX r232):=λm=>hf234 _ _ (λ_=>rfl)
 obtain ⟨r237,hl238,hf239⟩:=mz (H:=H75) (i:=2) (l:=l67) (enc:=kX) hS76 rfl dV
 have hlq:=hl238; have hln241:=congrArg List.length hl238
 have hz240:∀ m,freeze false { H75 with cT:=[(4,[iv n71,iv n72,iv n73,kQ r8,lX r10,v62,v66,v64,.bool b74])] } (m+2) v66=some (kU r237):=λm=>hf239 _ _ (λ_=>rfl)
 obtain ⟨r242,hl243,hf244⟩:=mz (H:=H75) (i:=1) (l:=l65) (enc:=kX) hS76 rfl dV
 have hlq:=hl243; have hln246:=congrArg List.length hl243
 have hz245:∀ m,freeze false { H75 with cT:=[(4,[iv n71,iv n72,iv n73,kQ r8,lX r10,v62,v66,v64,.bool b74])] } (m+2) v64=some (kU r242):=λm=>hf244 _ _ (λ_=>rfl)
 exact ⟨.agg [iv n71,iv n72,iv n73,kQ r8,lX r10,v62,v66,v64,.bool b74],(lQ (vs:=[.agg [iv n71,iv n72,iv n73,kQ r8,lX r10,v62,v66,v64,.bool b74]]) rfl rfl),.agg [iv n71,iv n72,iv n73,kQ r8,lX r10,lX r232,kU r237,kU r242,.bool b74],(show freeze false { H75 with cT:=[(4,[iv n71,iv n72,iv n73,kQ r8,lX r10,v62,v66,v64,.bool b74])] } 8 (.agg [iv n71,iv n72,iv n73,kQ r8,lX r10,v62,v66,v64,.bool b74])=some (.agg [iv n71,iv n72,iv n73,kQ r8,lX r10,lX r232,kU r237,kU r242,.bool b74]) by simp only [FZ,hz235,hz240,hz245]),(⟨n71,n72,n73,r8,r10,r232,r237,r242,b74⟩:kq),(by refine ⟨by simp_all [Row.mi],by simp_all [Row.mi],by dsimp only; omega,?_,by dsimp only; omega,by dsimp only; omega⟩; simp_all),rfl⟩
def acQ (_a0:bY) (v:AV):Prop:=∃ r0:kV,∃ r1:Int,((r1=0->((∀ r∈(r0.roads.l:List kq),0<r.steps.l.length/\r.steps.l.length<=12/\r.nq.l.length<=12/\pT r)/\r0.roads.l.length<=64)/\(r0.kH = _a0.canon/\∃ n:kb,qo n _a0/\rs 31 [.agg (bY.af _a0)]=.kO [.ip (kb.af n) 0 false,iv 0])))/\v=.kO [.agg (kV.af r0),iv r1]
def aaV (a0:bY) (q1:mU a0):Ct 57 [.agg (bY.af a0)] (acQ a0):=by
 refine kA MI ?_
 refine ae ?_
 refine aN ?_
 refine oC (t31 a0 dS) ?_
 rintro _ (⟨r2,⟨hc1,hc1r⟩,rfl⟩ | ⟨r3,⟨hc1,hc1r⟩,rfl⟩)
 have hFw:=hc1.Dm; have hFs:=hc1.Dm.signals; have hFl:=hc1.len; have hRg:=hc1.rg; have hNe:=hc1; have hNr:=hc1r
 refine cP ?_
 refine ap ?_
 refine aj ?_
 refine lB (H:=bV.empty) (args:=[.ip (kb.af r2) 0 false]) (p:=[]) (r:=[]) rfl rfl rfl rfl rfl rfl rfl (s52 r2 ([]) lJ dS dS) ?_
 rintro _ H5 ⟨ov8,ol9,eo10,hc7,hS6,rfl⟩
 have hR:=hc7.1
 have hI:=hc7.2
 refine cP ?_
 refine mg (λh11=>?_) (λh11=>?_)
 refine ay ?_
 refine dw ?_
 exact xG ⟨(⟨(⟨(mu:Row my),(mu:Row mr),(mu:Row lY),(mu:Row lq),0,0,0,0,false⟩:bY),(mu:Row kq)⟩:kV),eo10,eI,rfl⟩
 refine au ?_
 refine wz [.la 2 0,.ip (kb.af r2) 0 false,ov8] H5 [(2,[iN,iN,iN,iN,iv 0,iv 0,iv 0,iv 0,kh,iN])] ?_ (kF hS6 [(6,0)])
 refine am ?_
 refine iS rfl (λ_=>nO (i:=0) hS6 rfl rfl rfl rfl rfl rfl rfl) ?_
 refine aC ?_
 refine ke ol9.length (λk12 e h=>∃ v13:AV,∃ l14:List kq,∃ H15:bV,((∀ r∈(l14:List kq),0<r.steps.l.length/\r.steps.l.length<=12/\r.nq.l.length<=12/\pT r))/\(l14.length<=64/\(l14.length:Int)=(ol9.length:Int))/\Sep H15 (nu kq.af 9 v13 l14::[])/\At [2,4,6,27,28] [.la 2 0,.ip (kb.af r2) 0 false,v13,ck ol9.length,ck k12] H15 [(2,[iN,iN,iN,iN,iv 0,iv 0,iv 0,iv 0,kh,iN])] e h) ?_ (k0:=0) d4 ⟨ov8,ol9,H5,(by exact hR),d4,hS6,(kF hS6 [(6,0)])⟩
 rintro k12 e h hkk12 ⟨v13,l14,H15,hR,hI,hS16,hA⟩
 refine aE ?_
 refine kE (λh17=>?_) (λh17=>?_)
 refine ai ?_
 refine wz [.la 2 0,.ip (kb.af r2) 0 false,v13,ck ol9.length,ck k12] H15 [(2,[iN,iN,iN,iN,iv 0,iv 0,iv 0,iv 0,kh,iN])] ?_ (kF hS16 [(6,0)])
 refine aw ?_
 refine ae ?_
 refine dC ?_
 refine aQ ?_
 have hx18:k12<l14.length:=by first | omega | (simp<;>omega) | (simp_all; omega)
 obtain ⟨x19,hqx19⟩:∃ x,l14[k12]=x:=⟨_,rfl⟩
 have hinx19:x19∈l14:=by rw [<- hqx19]; exact List.getElem_mem _
 have hsx19:=hR x19 hinx19; have hsG:=hsx19
 refine nM rfl (mS (i:=0) (m:=k12) (cs:=kq.af x19) hS16 rfl rfl rfl rfl rfl rfl rfl (mq hx18 hqx19)) ?_
 rintro a20 ⟨ha21,hea22⟩
 refine iS rfl (λ_=>pr (i:=0) (m:=k12) (o:=0) (r:=.agg (kq.af x19)) (cs:=kq.af x19) hS16 rfl (mq hx18 hqx19) hea22 rfl rfl ha21) ?_
 refine oC (t119 r2 x19 dS dS dS dS dS) ?_
 rintro _ ⟨r24,hc23,rfl⟩
 have hC53:=hc23
 have hx25:k12<l14.length:=by first | omega | (simp<;>omega) | (simp_all; omega)
 refine nM rfl (mS (i:=0) (m:=k12) (cs:=kq.af x19) hS16 rfl rfl rfl rfl rfl rfl rfl (mq hx25 hqx19)) ?_
 rintro a26 ⟨ha27,hea28⟩
 refine kM rfl (oY (i:=0) (m:=k12) (o:=0) x19 r24 hS16 rfl hx25 hqx19 hea28 rfl ha27 rfl rfl rfl rfl) ?_
 rintro _ H29 ⟨rfl,hS30⟩
 refine oN ?_
 refine wz [.la 2 0,.ip (kb.af r2) 0 false,v13,ck ol9.length,ck k12] H29 [(2,[iN,iN,iN,iN,iv 0,iv 0,iv 0,iv 0,kh,iN])] ?_ (kF hS30 [(6,0)])
 refine qg ?_
 refine kI ?_
 refine ab ?_
 exact ⟨by omega,v13,((l14.set k12 r24)),H29,(by exact AG hR (by rw [hC53.1,hC53.2.1]; exact ⟨hsG.1,hsG.2.1,hsG.2.2.1,MP hC53.1 hsG.2.2.2 hC53.2.2⟩)),eZ,hS30,(kF hS30 [(6,0)])⟩
 refine ah ?_
 refine wz [.la 2 0,.la 2 0,.ip (kb.af r2) 0 false,v13] H15 [(2,[iN,iN,iN,iN,iv 0,iv 0,iv 0,iv 0,kh,iN]),(2,[iN,iN,iN,iN,iv 0,iv 0,iv 0,iv 0,kh,iN])] ?_ (kF hS16 [(6,0)])
 refine aj ?_
 refine oC (t99 r2 dS) ?_
 rintro _ ⟨r32,hc31,rfl⟩
 have hPl:=hc31.2.2.2.2.2
 refine oV ?_
 rcases Sep.Ym (i:=0) hS16 rfl with ⟨rfl,hx35⟩ | ⟨rfl,hx35⟩ | ⟨b33,g34,rfl⟩
 refine cr ?_
 exact xG ⟨(⟨r32,(mu:Row kq)⟩:kV),0,eI,rfl⟩
 refine cr ?_
 obtain ⟨r36,hl37,hf38⟩:=mz (H:=H15) (i:=0) (l:=l14) (enc:=kq.af) hS16 rfl dV
 have hlq:=hl37; have hln40:=congrArg List.length hl37
 have hz39:∀ m,freeze false { H15 with cT:=[(2,[ld r32.elems,lv r32.kB,lz r32.signals,kD r32.lines,iv r32.top,iv r32.lC,iv r32.lN,iv r32.lU,.bool r32.lZ,(.sl [] (.exact 0))])] } (m+2) (.sl [] (.exact 0))=some (kx r36):=λm=>hf38 _ _ (λ_=>by simp only [kq.af,kP,oD,oZ,pB,oz,pE])
 exact ⟨.kO [.agg [ld r32.elems,lv r32.kB,lz r32.signals,kD r32.lines,iv r32.top,iv r32.lC,iv r32.lN,iv r32.lU,.bool r32.lZ,(.sl [] (.exact 0))],iv 0],rfl,.kO [.agg [ld r32.elems,lv r32.kB,lz r32.signals,kD r32.lines,iv r32.top,iv r32.lC,iv r32.lN,iv r32.lU,.bool r32.lZ,kx r36],iv 0],(show freeze false { H15 with cT:=[(2,[ld r32.elems,lv r32.kB,lz r32.signals,kD r32.lines,iv r32.top,iv r32.lC,iv r32.lN,iv r32.lU,.bool r32.lZ,(.sl [] (.exact 0))])] } 8 (.kO [.agg [ld r32.elems,lv r32.kB,lz r32.signals,kD r32.lines,iv r32.top,iv r32.lC,iv r32.lN,iv r32.lU,.bool r32.lZ,(.sl [] (.exact 0))],iv 0])=some (.kO [.agg [ld r32.elems,lv r32.kB,lz r32.signals,kD r32.lines,iv r32.top,iv r32.lC,iv r32.lN,iv r32.lU,.bool r32.lZ,kx r36],iv 0]) by simp only [FZ,hz39]),(⟨r32,r36⟩:kV),0,eI,rfl⟩
 refine cr ?_
 obtain ⟨r41,hl42,hf43⟩:=mz (H:=H15) (i:=0) (l:=l14) (enc:=kq.af) hS16 rfl dV
 have hlq:=hl42; have hln45:=congrArg List.length hl42
 have hz44:∀ m,freeze false { H15 with cT:=[(2,[ld r32.elems,lv r32.kB,lz r32.signals,kD r32.lines,iv r32.top,iv r32.lC,iv r32.lN,iv r32.lU,.bool r32.lZ,(.hs b33 g34 0 (List.map kq.af l14).length)])] } (m+2) (.hs b33 g34 0 (List.map kq.af l14).length)=some (kx r41):=λm=>hf43 _ _ (λ_=>by simp only [kq.af,kP,oD,oZ,pB,oz,pE])
 exact ⟨.kO [.agg [ld r32.elems,lv r32.kB,lz r32.signals,kD r32.lines,iv r32.top,iv r32.lC,iv r32.lN,iv r32.lU,.bool r32.lZ,(.hs b33 g34 0 (List.map kq.af l14).length)],iv 0],rfl,.kO [.agg [ld r32.elems,lv r32.kB,lz r32.signals,kD r32.lines,iv r32.top,iv r32.lC,iv r32.lN,iv r32.lU,.bool r32.lZ,kx r41],iv 0],(show freeze false { H15 with cT:=[(2,[ld r32.elems,lv r32.kB,lz r32.signals,kD r32.lines,iv r32.top,iv r32.lC,iv r32.lN,iv r32.lU,.bool r32.lZ,(.hs b33 g34 0 (List.map kq.af l14).length)])] } 8 (.kO [.agg [ld r32.elems,lv r32.kB,lz r32.signals,kD r32.lines,iv r32.top,iv r32.lC,iv r32.lN,iv r32.lU,.bool r32.lZ,(.hs b33 g34 0 (List.map kq.af l14).length)],iv 0])=some (.kO [.agg [ld r32.elems,lv r32.kB,lz r32.signals,kD r32.lines,iv r32.top,iv r32.lC,iv r32.lN,iv r32.lU,.bool r32.lZ,kx r41],iv 0]) by simp only [FZ,hz44]),(⟨r32,r41⟩:kV),0,eI,rfl⟩
 refine cP ?_
 refine mg (λh46=>?_) (λh46=>?_)
 refine ay ?_
 refine dw ?_
 exact xG ⟨(⟨(⟨(mu:Row my),(mu:Row mr),(mu:Row lY),(mu:Row lq),0,0,0,0,false⟩:bY),(mu:Row kq)⟩:kV),r3,eI,rfl⟩
 refine au ?_
 refine aj ?_
 exfalso; omega
def P57 (_a0:bY) (v:AV):Prop:=∃ r0:kV,∃ r1:Int,(((r1=0->((∀ r∈(r0.roads.l:List kq),0<r.steps.l.length/\r.steps.l.length<=12/\r.nq.l.length<=12/\pT r)/\r0.roads.l.length<=64)/\(r0.kH = _a0.canon/\∃ n:kb,qo n _a0/\rs 31 [.agg (bY.af _a0)]=.kO [.ip (kb.af n) 0 false,iv 0])))/\rs 57 [.agg (bY.af _a0)]=.kO [.agg (kV.af r0),iv r1])/\v=.kO [.agg (kV.af r0),iv r1]
def t57 (a0:bY) (q1:mU a0) (h:bV):∃ v,kC cfg FT kJ false 57 [.agg (bY.af a0)] h v h/\P57 a0 v:=by
 obtain ⟨v,hc,hP,hr⟩:=pa rY (aaV a0 q1) h
 obtain ⟨r0,r1,hp,rfl⟩:=hP
 exact iY
def P22 (_a0:bY) (v:AV):Prop:=∃ r0:kV,∃ r1:Bool,((r1=true->mU _a0/\r0.roads.l.length<=64/\(r0.kH = _a0.canon/\∃ n:kb,qo n _a0/\rs 31 [.agg (bY.af _a0)]=.kO [.ip (kb.af n) 0 false,iv 0])/\rs 57 [.agg (bY.af _a0)]=.kO [.agg (kV.af r0),iv 0]/\rs 27 [.agg (bY.af _a0)]=.bool true/\(∀ r∈(r0.roads.l:List kq),0<r.steps.l.length/\r.steps.l.length<=12/\r.nq.l.length<=12/\pT r)))/\v=.kO [.agg (kV.af r0),.bool r1]
def t22 (a0:bY) (hJg:JG a0):Ct 22 [.agg (bY.af a0)] (P22 a0):=by
 refine kA MT ?_
 refine ae ?_
 refine ak ?_
 refine oC (t27 a0 dS) ?_
 rintro _ ⟨r2,⟨hc1,hc1r⟩,rfl⟩
 have hFr:=hc1r
 cases r2
 clear hc1
 refine cB ?_
 exact xG ⟨(⟨(⟨(mu:Row my),(mu:Row mr),(mu:Row lY),(mu:Row lq),0,0,0,0,false⟩:bY),(mu:Row kq)⟩:kV),false,fq,rfl⟩
 have hc1t:=hc1 rfl
 refine ap ?_
 refine aj ?_
 refine oC (t57 a0 dS) ?_
 rintro _ ⟨r4,r5,⟨hc3,hc3r⟩,rfl⟩
 have hBd:=hc3; have hBr:=hc3r
 refine aD ?_
 refine dq ?_
 refine kZ (λh6=>?_) (λh6=>?_)
 refine bd ?_
 exact xG ⟨r4,true,fq,rfl⟩
 refine bd ?_
 exact xG ⟨r4,false,fq,rfl⟩
def P26 (_a0:dO) (v:AV):Prop:=∃ r0:Bool,((r0=true->_a0.ko.l.length<=10))/\v=.bool r0
def t26 (a0:dO) :Ct 26 [.agg (dO.af a0)] (P26 a0):=by
 refine kA Ml ?_
 refine aV ?_
 refine aR ?_
 have hL1:=a0.ko.lk
 refine lx a0.ko ?_
 refine mc (λh2=>?_) (λh2=>?_)
 refine bk ?_
 refine aq ?_
 exact jB
 refine aD ?_
 have hL3:=a0.runs.lk
 refine lx a0.runs ?_
 refine mc (λh4=>?_) (λh4=>?_)
 refine aq ?_
 exact jB
 refine ap ?_
 refine aR ?_
 have hL5:=a0.runs.lk
 refine lx a0.runs ?_
 refine aC ?_
 have hNk6:=a0.runs.lk
 refine ke a0.runs.l.length (λk6 e h=>At [1,18,19,20] [.la 1 0,lW a0.runs,ck a0.runs.l.length,ck k6] bV.empty [(1,(dO.af a0))] e h) ?_ (k0:=0) d4 atR
 rintro k6 e h hkk6 hA
 refine aE ?_
 refine kE (λh7=>?_) (λh7=>?_)
 refine cm ?_
 have hx8:k6<a0.runs.l.length:=by omega
 refine mB k6 a0.runs hx8 ?_
 generalize hqx9:a0.runs.l[k6]=x9
 refine dq ?_
 have hL10:=x9.kr.lk
 refine lx x9.kr ?_
 refine mc (λh11=>?_) (λh11=>?_)
 refine bk ?_
 refine aq ?_
 exact jB
 refine aM ?_
 refine mc (λh12=>?_) (λh12=>?_)
 refine aq ?_
 exact jB
 refine cE ?_
 refine kI ?_
 refine ab ?_
 exact iJ
 refine ah ?_
 refine aR ?_
 have hL13:=a0.ko.lk
 refine lx a0.ko ?_
 refine aC ?_
 have hNk14:=a0.ko.lk
 refine ke a0.ko.l.length (λk14 e h=>At [36,37,38] [lH a0.ko,ck a0.ko.l.length,ck k14] bV.empty [] e h) ?_ (k0:=0) d4 atR
 rintro k14 e h hkk14 hA
 refine aE ?_
 refine kE (λh15=>?_) (λh15=>?_)
 refine cm ?_
 have hx16:k14<a0.ko.l.length:=by omega
 refine mB k14 a0.ko hx16 ?_
 generalize hqx17:a0.ko.l[k14]=x17
 refine bM ?_
 refine aI ?_
 refine mc (λh18=>?_) (λh18=>?_)
 refine aZ ?_
 exact jB
 refine bv ?_
 refine kI ?_
 refine ab ?_
 exact iJ
 refine bE ?_
 exact xB ⟨true,fX,rfl⟩
def adF (_a0:Int) (_a1:Int) (_a2:Int) (v:AV):Prop:=∃ r0:Bool,((r0=true->_a1<=_a0/\_a0<=_a2))/\v=.bool r0
def t242 (a0:Int) (a1:Int) (a2:Int) :Ct 242 [iv a0,iv a1,iv a2] (adF a0 a1 a2):=by
 refine kA Jt ?_
 refine cO ?_
 refine mW (λh1=>?_) (λh1=>?_)
 refine aD ?_
 refine tX (λh2=>?_) (λh2=>?_)
 refine bd ?_
 exact jn
 refine bd ?_
 exact jo
 refine bX ?_
 refine bd ?_
 exact jo
def aah (_a0:kR) (v:AV):Prop:=∃ r0:Bool,((r0=true->xq _a0))/\v=.bool r0
def t209 (a0:kR) :Ct 209 [.agg (kR.af a0)] (aah a0):=by
 refine kA II ?_
 refine dl ?_
 refine oC (t69 a0.name) ?_
 rintro _ ⟨r2,hc1,rfl⟩
 cases r2
 clear hc1
 refine bX ?_
 refine ao ?_
 refine aB ?_
 refine bd ?_
 exact jr
 have hc1t:=hc1 rfl
 have hNm:=hc1t
 refine aD ?_
 refine oC (t242 a0.len 1 4000) ?_
 rintro _ ⟨r4,hc3,rfl⟩
 cases r4
 clear hc3
 refine ao ?_
 refine aB ?_
 refine bd ?_
 exact jr
 have hc3t:=hc3 rfl
 refine aM ?_
 refine oC (t242 a0.top 1 60) ?_
 rintro _ ⟨r6,hc5,rfl⟩
 cases r6
 clear hc5
 refine az ?_
 refine bd ?_
 exact jr
 have hc5t:=hc5 rfl
 refine aM ?_
 refine oC (t242 a0.acc 1 10) ?_
 rintro _ ⟨r8,hc7,rfl⟩
 cases r8
 clear hc7
 refine dj ?_
 refine bd ?_
 exact jr
 have hc7t:=hc7 rfl
 refine aM ?_
 refine oC (t242 a0.lC 1 10) ?_
 rintro _ ⟨r10,hc9,rfl⟩
 cases r10
 clear hc9
 refine bd ?_
 exact jr
 have hc9t:=hc9 rfl
 refine bd ?_
 exact xB ⟨true,eW,rfl⟩
def acj (_a0:Row kR) (_a1:pL) (v:AV):Prop:=∃ r0:Int,((∀ (j:Nat) (h:j < _a0.l.length),(j:Int)<r0->¬ (_a0.l[j]).name.l = _a1.l))/\v=iv r0
def t210 (a0:Row kR) (a1:pL) :Ct 210 [lH a0,.str a1.l] (acj a0 a1):=by
 refine kA IS ?_
 refine aY ?_
 have hL1:=a0.lk
 refine dL ?_
 have hNk2:=a0.lk
 refine ke a0.l.length (λk2 e h=>(∀ (j:Nat) (h:j<a0.l.length),j<k2->¬ (a0.l[j]).name.l=a1.l)/\At [1,7,8,9] [.str a1.l,lH a0,ck a0.l.length,ck k2] bV.empty [] e h) ?_ (k0:=0) d4 ⟨eX,atR⟩
 rintro k2 e h hkk2 ⟨hU,hA⟩
 refine aE ?_
 refine kE (λh3=>?_) (λh3=>?_)
 refine ai ?_
 refine cw ?_
 have hx4:k2<a0.l.length:=by omega
 refine mB k2 a0 hx4 ?_
 generalize hqx5:a0.l[k2]=x5
 refine cG ?_
 refine aI ?_
 refine qf rfl (λ_=>vf rfl rfl) (λh6=>?_) (λh6=>?_)
 refine aH ?_
 exact xB ⟨((k2:Int)),iu,rfl⟩
 refine bv ?_
 refine kI ?_
 refine ab ?_
 exact ⟨by omega,(by exact ng (P:=λx:kR=>¬ x.name.l=a1.l) dT hU dT),atR⟩
 refine bE ?_
 exact xB ⟨(-1),iu,rfl⟩
def abU (_a0:Row kR) (v:AV):Prop:=∃ r0:Int,((r0=0->Cb _a0.l))/\v=iv r0
def t139 (a0:Row kR) :Ct 139 [lH a0] (abU a0):=by
 refine kA HV ?_
 refine aY ?_
 have hL1:=a0.lk
 refine lx a0 ?_
 refine mc (λh2=>?_) (λh2=>?_)
 refine aZ ?_
 exact xB ⟨3,fz,rfl⟩
 refine au ?_
 refine am ?_
 have hL3:=a0.lk
 refine dL ?_
 have hNk4:=a0.lk
 refine ke a0.l.length (λk4 e h=>(∀ (i:Nat) (h:i<a0.l.length),i<k4->xq (a0.l[i]))/\At [0,10,11,12] [lH a0,lH a0,ck a0.l.length,ck k4] bV.empty [] e h) ?_ (k0:=0) d4 ⟨eX,atR⟩
 rintro k4 e h hkk4 ⟨hU,hA⟩
 refine aE ?_
 refine kE (λh5=>?_) (λh5=>?_)
 refine cm ?_
 have hx6:k4<a0.l.length:=by omega
 refine mB k4 a0 hx6 ?_
 generalize hqx7:a0.l[k4]=x7
 refine ao ?_
 refine aN ?_
 refine oC (t209 x7) ?_
 rintro _ ⟨r9,hc8,rfl⟩
 cases r9
 clear hc8
 refine aq ?_
 exact xB ⟨1,fz,rfl⟩
 have hc8t:=hc8 rfl
 have hMk:=hc8t
 refine cE ?_
 refine kI ?_
 refine ab ?_
 exact ⟨by omega,(by exact ng (P:=xq) dT hU hMk),atR⟩
 refine ah ?_
 refine am ?_
 have hL10:=a0.lk
 refine dL ?_
 have hNk11:=a0.lk
 refine ke a0.l.length (λk11 e h=>(∀ (i j:Nat) (h:j<a0.l.length) (hij:i<j),j<k11->¬ (a0.l[i]).name.l=(a0.l[j]).name.l)/\At [0,20,21,22] [lH a0,lH a0,ck a0.l.length,ck k11] bV.empty [] e h) ?_ (k0:=0) d4 ⟨ir,atR⟩
 rintro k11 e h hkk11 ⟨hNe,hA⟩
 refine aE ?_
 refine kE (λh12=>?_) (λh12=>?_)
 refine ai ?_
 refine cw ?_
 have hx13:k11<a0.l.length:=by omega
 refine mB k11 a0 hx13 ?_
 generalize hqx14:a0.l[k11]=x14
 refine cG ?_
 refine aI ?_
 refine oC (t210 a0 x14.name) ?_
 rintro _ ⟨r16,hc15,rfl⟩
 have hFn:=hc15
 refine oV ?_
 refine mg (λh17=>?_) (λh17=>?_)
 refine aZ ?_
 exact xB ⟨4,fz,rfl⟩
 refine bv ?_
 refine kI ?_
 refine ab ?_
 exact ⟨by omega,(by exact MO dT hNe hFn dT),atR⟩
 refine bE ?_
 exact xB ⟨0,fz,rfl⟩
def P67 (_a0:bY) (_a1:Row kR) (v:AV):Prop:=∃ r0:Int,((r0=0->yM _a0 _a1.l))/\v=iv r0
def t67 (a0:bY) (a1:Row kR) :Ct 67 [.agg (bY.af a0),lH a1] (P67 a0 a1):=by
 refine kA Pb ?_
 refine aj ?_
 refine ak ?_
 refine oC (t139 a1) ?_
 rintro _ ⟨r2,hc1,rfl⟩
 have hPl2:=hc1
 refine aN ?_
 refine mg (λh3=>?_) (λh3=>?_)
 refine aH ?_
 exact xB ⟨r2,fV,rfl⟩
 refine au ?_
 refine am ?_
 have hL4:=a1.lk
 refine lx a1 ?_
 refine aC ?_
 have hNk5:=a1.lk
 refine ke a1.l.length (λk5 e h=>(∀ (i:Nat) (h:i<a1.l.length),i<k5->(a1.l[i]).top<=a0.top/\a0.lC<=(a1.l[i]).lC)/\At [2,13,14,15] [.la 2 0,lH a1,ck a1.l.length,ck k5] bV.empty [(2,(bY.af a0))] e h) ?_ (k0:=0) d4 ⟨eX,atR⟩
 rintro k5 e h hkk5 ⟨hU,hA⟩
 refine aE ?_
 refine kE (λh6=>?_) (λh6=>?_)
 refine cm ?_
 have hx7:k5<a1.l.length:=by omega
 refine mB k5 a1 hx7 ?_
 generalize hqx8:a1.l[k5]=x8
 refine bM ?_
 refine bJ ?_
 refine mc (λh9=>?_) (λh9=>?_)
 refine b5 ?_
 refine aq ?_
 exact xB ⟨9,fV,rfl⟩
 refine aQ ?_
 refine kE (λh10=>?_) (λh10=>?_)
 refine aq ?_
 exact xB ⟨9,fV,rfl⟩
 refine cE ?_
 refine kI ?_
 refine ab ?_
 exact ⟨by omega,(by exact ng (P:=λs:kR=>s.top<=a0.top/\a0.lC<=s.lC) dT hU d4),atR⟩
 refine bE ?_
 exact xB ⟨0,fV,rfl⟩
def P68 (_a0:Int) (_a1:Int) (_a2:Int) (v:AV):Prop:=∃ r0:Bool,((r0=true->_a1<=_a0/\_a0<=_a2))/\v=.bool r0
def t68 (a0:Int) (a1:Int) (a2:Int) :Ct 68 [iv a0,iv a1,iv a2] (P68 a0 a1 a2):=by
 refine kA ML ?_
 refine cO ?_
 refine mW (λh1=>?_) (λh1=>?_)
 refine aD ?_
 refine tX (λh2=>?_) (λh2=>?_)
 refine bd ?_
 exact jn
 refine bd ?_
 exact jo
 refine bX ?_
 refine bd ?_
 exact jo
def P38 (_a0:bY) (_a1:Int) (v:AV):Prop:=∃ r0:Int,(r0=lR _a0 _a1)/\v=iv r0
def t38 (a0:bY) (a1:Int) :Ct 38 [.agg (bY.af a0),iv a1] (P38 a0 a1):=by
 refine kA Mo ?_
 refine dl ?_
 refine oC (t89 a0 a1) ?_
 rintro _ ⟨r2,hc1,rfl⟩
 refine ag ?_
 exact xB ⟨r2,dT,rfl⟩
def P70 (_a0:bY) (_a1:Row lD) (v:AV):Prop:=∃ r0:Bool,((r0=true->EH _a0 _a1.l))/\v=.bool r0
def t70 (a0:bY) (a1:Row lD) :Ct 70 [.agg (bY.af a0),nF a1] (P70 a0 a1):=by
 refine kA NA ?_
 refine aV ?_
 refine aY ?_
 have hL1:=a1.lk
 refine lx a1 ?_
 refine aC ?_
 have hNk2:=a1.lk
 refine ke a1.l.length (λk2 e h=>∃ n3:Int,(n3=BA a1.l k2)/\(∀ (i:Nat) (h:i<a1.l.length),i<k2->An a0 a1.l i (a1.l[i]))/\At [2,5,8,9,10] [.la 2 0,iv n3,nF a1,ck a1.l.length,ck k2] bV.empty [(2,(bY.af a0))] e h) ?_ (k0:=0) d4 ⟨0,iy,eX,atR⟩
 rintro k2 e h hkk2 ⟨n3,hAt,hU,hA⟩
 refine aE ?_
 refine kE (λh4=>?_) (λh4=>?_)
 refine cm ?_
 have hx5:k2<a1.l.length:=by omega
 refine mB k2 a1 hx5 ?_
 generalize hqx6:a1.l[k2]=x6
 refine bM ?_
 refine cq ?_
 refine oC (t68 x6.at_ n3 2000) ?_
 rintro _ ⟨r8,hc7,rfl⟩
 cases r8
 clear hc7
 refine aq ?_
 exact jX
 have hc7t:=hc7 rfl
 refine ap ?_
 refine aa ?_
 refine dq ?_
 refine dh ?_
 refine kZ (λh9=>?_) (λh9=>?_)
 refine ba ?_
 refine bJ ?_
 have hL10:=a0.signals.lk
 refine lx a0.signals ?_
 have hL11:=a0.signals.lk
 refine pW ?_
 refine oC (t68 x6.to 0 ((a0.signals.l.length:Int) - 1)) ?_
 rintro _ ⟨r13,hc12,rfl⟩
 cases r13
 clear hc12
 refine aq ?_
 exact jX
 have hc12t:=hc12 rfl
 refine cE ?_
 refine kI ?_
 refine ab ?_
 exact jY
 refine be ?_
 refine kZ (λh14=>?_) (λh14=>?_)
 refine dH ?_
 refine oC (t38 a0 x6.to) ?_
 rintro _ ⟨r16,hc15,rfl⟩
 have hK:=hc15
 refine mg (λh17=>?_) (λh17=>?_)
 refine aZ ?_
 exact jX
 refine bv ?_
 refine kI ?_
 refine ab ?_
 exact jY
 refine be ?_
 refine kZ (λh18=>?_) (λh18=>?_)
 refine dH ?_
 refine oC (t38 a0 x6.to) ?_
 rintro _ ⟨r20,hc19,rfl⟩
 have hK:=hc19
 refine mg (λh21=>?_) (λh21=>?_)
 refine aZ ?_
 exact jX
 refine bv ?_
 refine kI ?_
 refine ab ?_
 exact jY
 refine be ?_
 refine ag ?_
 exact jX
 refine bE ?_
 exact xB ⟨true,fA,rfl⟩
def abM (_a0:bY) (_a1:dO) (v:AV):Prop:=∃ r0:Int,((r0=0->ug _a1/\uG _a0 _a1))/\v=iv r0
def Sm (a0:bY) (a1:dO) :Ct 28 [.agg (bY.af a0),.agg (dO.af a1)] (abM a0 a1):=by
 refine kA Oz ?_
 have hqb:=a1.ko.ok
 simp only [s9] at hqb
 refine cy ?_
 refine aR ?_
 have hL1:=a1.runs.lk
 refine lx a1.runs ?_
 refine mc (λh2=>?_) (λh2=>?_)
 refine aZ ?_
 exact xB ⟨3,eu,rfl⟩
 refine au ?_
 refine aR ?_
 have hL3:=a1.runs.lk
 refine dm ?_
 have hNk4:=a1.runs.lk
 refine ke a1.runs.l.length (λk4 e h=>(∀ (i:Nat) (h:i<a1.runs.l.length),i<k4->(a1.runs.l[i]).kr.l.length<=12)/\At [2,3,19,20,21] [.la 2 0,.la 3 0,lW a1.runs,ck a1.runs.l.length,ck k4] bV.empty [(2,(bY.af a0)),(3,(dO.af a1))] e h) ?_ (k0:=0) d4 ⟨eX,atR⟩
 rintro k4 e h hkk4 ⟨hA,hA⟩
 refine rR hA ?_
 clear hA
 refine aa ?_
 refine kE (λh5=>?_) (λh5=>?_)
 refine cm ?_
 have hx6:k4<a1.runs.l.length:=by omega
 refine mB k4 a1.runs hx6 ?_
 generalize hqx7:a1.runs.l[k4]=x7
 refine dq ?_
 have hL8:=x7.kr.lk
 refine lx x7.kr ?_
 refine mc (λh9=>?_) (λh9=>?_)
 refine aZ ?_
 exact xB ⟨3,eu,rfl⟩
 refine bv ?_
 refine kI ?_
 refine ab ?_
 exact ⟨by omega,(by exact ng (P:=λr:kS=>r.kr.l.length<=12) dT hA d4),atR⟩
 refine ah ?_
 refine cq ?_
 refine oC (t67 a0 a1.ko) ?_
 rintro _ ⟨r11,hc10,rfl⟩
 have hSo:=hc10
 refine aN ?_
 refine mg (λh12=>?_) (λh12=>?_)
 refine aH ?_
 exact xB ⟨r11,eu,rfl⟩
 refine au ?_
 refine aR ?_
 refine oC (t68 a1.nP 0 86399) ?_
 rintro _ ⟨r14,hc13,rfl⟩
 cases r14
 clear hc13
 refine aq ?_
 exact jC
 have hc13t:=hc13 rfl
 refine ap ?_
 refine aR ?_
 have hL15:=a1.runs.lk
 refine dm ?_
 have hNk16:=a1.runs.lk
 refine ke a1.runs.l.length (λk16 e h=>(∀ (i:Nat) (h:i<a1.runs.l.length),i<k16->yk a0 a1 (a1.runs.l[i]))/\At [2,3,42,43,44] [.la 2 0,.la 3 0,lW a1.runs,ck a1.runs.l.length,ck k16] bV.empty [(2,(bY.af a0)),(3,(dO.af a1))] e h) ?_ (k0:=0) d4 ⟨eX,atR⟩
 rintro k16 e h hkk16 ⟨hB,hA⟩
 refine rR hA ?_
 clear hA
 refine aa ?_
 refine kE (λh17=>?_) (λh17=>?_)
 refine cm ?_
 have hx18:k16<a1.runs.l.length:=by omega
 refine mB k16 a1.runs hx18 ?_
 generalize hqx19:a1.runs.l[k16]=x19
 refine dq ?_
 refine oC (t69 x19.name) ?_
 rintro _ ⟨r21,hc20,rfl⟩
 cases r21
 clear hc20
 refine cD ?_
 refine cD ?_
 refine aS ?_
 refine bL ?_
 refine aq ?_
 exact jC
 have hc20t:=hc20 rfl
 have hNm:=hc20t
 refine c7 ?_
 have hL22:=a1.ko.lk
 refine lx a1.ko ?_
 have hL23:=a1.ko.lk
 refine pW ?_
 refine oC (t68 x19.ko 0 ((a1.ko.l.length:Int) - 1)) ?_
 rintro _ ⟨r25,hc24,rfl⟩
 cases r25
 clear hc24
 refine oV ?_
 refine cD ?_
 refine aS ?_
 refine bL ?_
 refine aq ?_
 exact jC
 have hc24t:=hc24 rfl
 iterate 7 refine oV ?_
 have hL26:=a0.signals.lk
 refine lx a0.signals ?_
 have hL27:=a0.signals.lk
 refine pW ?_
 refine oC (t68 x19.from_ 0 ((a0.signals.l.length:Int) - 1)) ?_
 rintro _ ⟨r29,hc28,rfl⟩
 cases r29
 clear hc28
 refine oV ?_
 refine aS ?_
 refine bL ?_
 refine aq ?_
 exact jC
 have hc28t:=hc28 rfl
 refine aQ ?_
 refine oC (t68 x19.left 0 4000) ?_
 rintro _ ⟨r31,hc30,rfl⟩
 cases r31
 clear hc30
 refine oV ?_
 refine bL ?_
 refine aq ?_
 exact jC
 have hc30t:=hc30 rfl
 refine c7 ?_
 refine oC (t70 a0 x19.kr) ?_
 rintro _ ⟨r33,hc32,rfl⟩
 cases r33
 clear hc32
 refine bw ?_
 exact jC
 have hc32t:=hc32 rfl
 have hLg:=hc32t
 refine oV ?_
 refine cE ?_
 refine kI ?_
 refine ab ?_
 exact ⟨by omega,(by exact ng (P:=yk a0 a1) dT hB ⟨hNm,by omega,by omega,by omega,hLg⟩),atR⟩
 refine ah ?_
 refine aR ?_
 have hL34:=a1.runs.lk
 refine dm ?_
 have hNk35:=a1.runs.lk
 refine ke a1.runs.l.length (λk35 e h=>(∀ (i j:Nat) (h:j<a1.runs.l.length) (hij:i<j),j<k35->¬ (a1.runs.l[i]).name.l=(a1.runs.l[j]).name.l)/\At [3,87,88,89] [.la 3 0,lW a1.runs,ck a1.runs.l.length,ck k35] bV.empty [(3,(dO.af a1))] e h) ?_ (k0:=0) d4 ⟨ir,atR⟩
 rintro k35 e h hkk35 ⟨hNe,hA⟩
 refine rR hA ?_
 clear hA
 refine aa ?_
 refine kE (λh36=>?_) (λh36=>?_)
 refine ai ?_
 refine cw ?_
 have hx37:k35<a1.runs.l.length:=by omega
 refine mB k35 a1.runs hx37 ?_
 generalize hqx38:a1.runs.l[k35]=x38
 refine cG ?_
 refine aI ?_
 have hx39:k35<=a1.runs.l.length:=by omega
 refine iS rfl (λ_=>Bg (k:=k35) (r:=a1.runs) (enc:=kS.af) (n:=5) rfl rfl rfl rfl rfl rfl hx39 (λ_=>rfl)) ?_
 have hL40:=(Row.take a1.runs k35).lk
 refine lx ((Row.take a1.runs k35)) ?_
 refine aC ?_
 have hNk41:=(Row.take a1.runs k35).lk
 refine ke ((Row.take a1.runs k35).l.length) (λk41 e h=>(∀ y∈(a1.runs.l.take k35).take k41,∀ x,a1.runs.l[k35]?=some x->¬ y.name.l=x.name.l)/\At [3,11,87,88,89,97,98,99] [.la 3 0,.la 11 0,lW a1.runs,ck a1.runs.l.length,ck k35,lW (Row.take a1.runs k35),iv ((Row.take a1.runs k35).l.length:Int),ck k41] bV.empty [(3,(dO.af a1)),(11,(kS.af x38))] e h) ?_ (k0:=0) d4 ⟨fQ,atR⟩
 rintro k41 e h hkk41 ⟨hN3,hA⟩
 refine rR hA ?_
 clear hA
 refine aa ?_
 refine kE (λh42=>?_) (λh42=>?_)
 refine cm ?_
 have hx43:k41<(Row.take a1.runs k35).l.length:=by omega
 refine mB k41 ((Row.take a1.runs k35)) hx43 ?_
 generalize hqx44:(Row.take a1.runs k35).l[k41]=x44
 refine bM ?_
 refine bJ ?_
 refine qf rfl (λ_=>vf rfl rfl) (λh45=>?_) (λh45=>?_)
 refine aZ ?_
 exact xB ⟨4,eu,rfl⟩
 refine bv ?_
 refine kI ?_
 refine ab ?_
 exact ⟨by omega,(by exact Mm dT dT hN3 dT),atR⟩
 refine ah ?_
 refine qg ?_
 refine kI ?_
 refine ab ?_
 exact ⟨by omega,(by exact MN dT hNe hN3 dT),atR⟩
 refine bE ?_
 exact xB ⟨0,eu,rfl⟩
def P28 (_a0:bY) (_a1:dO) (v:AV):Prop:=∃ r0:Int,(((r0=0->ug _a1/\uG _a0 _a1))/\rs 28 [.agg (bY.af _a0),.agg (dO.af _a1)]=iv r0)/\v=iv r0
def t28 (a0:bY) (a1:dO)  (h:bV):∃ v,kC cfg FT kJ false 28 [.agg (bY.af a0),.agg (dO.af a1)] h v h/\P28 a0 a1 v:=by
 obtain ⟨v,hc,hP,hr⟩:=pa rY (Sm a0 a1) h
 obtain ⟨r0,hp,rfl⟩:=hP
 exact iR
def acN (a0:bY) (a1:dO)  {V:AV} (hV:rs 28 [.agg (bY.af a0),.agg (dO.af a1)]=V) (h:bV):∃ v,kC cfg FT kJ false 28 [.agg (bY.af a0),.agg (dO.af a1)] h v h/\v=V:=by
 obtain ⟨v,hc,hP,hr⟩:=pa rY (Sm a0 a1) h
 exact ⟨v,hc,hr.symm.trans hV⟩
def P29 (_a0:bY) (v:AV):Prop:=(∃ r0:kb,(qo r0 _a0/\mU _a0)/\v=.ip (kb.af r0) 0 false)\/((True)/\v=.l3)
def t29 (a0:bY) (hJg:JG a0):Ct 29 [.agg (bY.af a0)] (P29 a0):=by
 refine kA NK ?_
 refine aj ?_
 refine ak ?_
 refine oC (t27 a0 dS) ?_
 rintro _ ⟨r2,⟨hc1,hc1r⟩,rfl⟩
 have hFr:=hc1r
 cases r2
 clear hc1
 refine aq ?_
 refine xB (.inr (⟨zT,rfl⟩))
 have hc1t:=hc1 rfl
 refine ap ?_
 refine aj ?_
 refine oC (t31 a0 dS) ?_
 rintro _ (⟨r4,⟨hc3,hc3r⟩,rfl⟩ | ⟨r5,⟨hc3,hc3r⟩,rfl⟩)
 have hFw:=hc3.Dm; have hFs:=hc3.Dm.signals; have hFl:=hc3.len; have hRg:=hc3.rg; have hNe:=hc3; have hNr:=hc3r
 refine cP ?_
 refine ap ?_
 refine bT ?_
 refine xG (.inl ⟨r4,(by first | assumption | exact ⟨by assumption,by assumption⟩),rfl⟩)
 refine cP ?_
 refine mg (λh6=>?_) (λh6=>?_)
 refine aZ ?_
 refine xB (.inr (⟨zT,rfl⟩))
 refine au ?_
 refine bT ?_
 refine xB (.inr (⟨zT,rfl⟩))
def P6 (_a0:bY) (_a1:dO) (v:AV):Prop:=(∃ r0:kV,∃ r1:kb,(qo r1 _a0/\mU _a0/\ug _a1/\_a1.ko.l.length<=10/\(∀ r∈(r0.roads.l:List kq),0<r.steps.l.length/\r.steps.l.length<=12/\r.nq.l.length<=12/\pT r)/\r0.roads.l.length<=64/\(r0.kH = _a0.canon/\∃ n:kb,qo n _a0/\rs 31 [.agg (bY.af _a0)]=.kO [.ip (kb.af n) 0 false,iv 0])/\rs 57 [.agg (bY.af _a0)]=.kO [.agg (kV.af r0),iv 0]/\uG _a0 _a1/\rs 28 [.agg (bY.af _a0),.agg (dO.af _a1)]=iv 0)/\v=.kO [.agg (kV.af r0),.ip (kb.af r1) 0 false,.bool true])\/(∃ r0:kV,∃ r1:AV,(True)/\v=.kO [.agg (kV.af r0),r1,kh])
def t6 (a0:bY) (a1:dO) (hJg:JG a0):Ct 6 [.agg (bY.af a0),.agg (dO.af a1)] (P6 a0 a1):=by
 refine kA Sz ?_
 refine aa ?_
 refine cP ?_
 refine oC (t26 a1) ?_
 rintro _ ⟨r2,hc1,rfl⟩
 cases r2
 clear hc1
 refine dj ?_
 refine aS ?_
 refine ba ?_
 refine dw ?_
 refine xG (.inr (⟨((⟨(⟨(mu:Row my),(mu:Row mr),(mu:Row lY),(mu:Row lq),0,0,0,0,false⟩:bY),(mu:Row kq)⟩:kV)),.l3,zt⟩))
 have hc1t:=hc1 rfl
 have hF3:=hc1t
 refine aD ?_
 refine oC (t27 a0 dS) ?_
 rintro _ ⟨r4,⟨hc3,hc3r⟩,rfl⟩
 have hFr:=hc3r
 cases r4
 clear hc3
 refine oV ?_
 refine aS ?_
 refine ba ?_
 refine dw ?_
 refine xG (.inr (⟨((⟨(⟨(mu:Row my),(mu:Row mr),(mu:Row lY),(mu:Row lq),0,0,0,0,false⟩:bY),(mu:Row kq)⟩:kV)),.l3,zt⟩))
 have hc3t:=hc3 rfl
 refine aQ ?_
 refine oC (t28 a0 a1) ?_
 rintro _ ⟨r6,⟨hc5,hc5r⟩,rfl⟩
 have hC35:=λhz=>(hc5 hz).1; have hDV:=λhz=>(hc5 hz).2; have hPre:=λ(hz : _=(0:Int))=>ug.QP (hc5 hz).1; have hCk3:=hc5r
 refine mg (λh7=>?_) (λh7=>?_)
 refine ba ?_
 refine dw ?_
 refine xG (.inr (⟨((⟨(⟨(mu:Row my),(mu:Row mr),(mu:Row lY),(mu:Row lq),0,0,0,0,false⟩:bY),(mu:Row kq)⟩:kV)),.l3,zt⟩))
 refine ap ?_
 refine aj ?_
 refine oC (t22 a0 dS) ?_
 rintro _ ⟨r9,r10,hc8,rfl⟩
 cases r10
 clear hc8
 refine bB ?_
 refine oC (t29 a0 dS) ?_
 rintro _ (⟨r12,hc11,rfl⟩ | ⟨hc11,rfl⟩)
 have hN36:=hc11.1; have hP36:=hc11.2
 refine bi ?_
 refine bb ?_
 refine bU ?_
 refine xG (.inr (⟨r9,(.ip (kb.af r12) 0 false),zt⟩))
 refine bi ?_
 refine bb ?_
 refine bU ?_
 refine xG (.inr (⟨r9,.l3,zt⟩))
 have hc8t:=hc8 rfl
 have hBt:=hc8t
 refine bB ?_
 refine oC (t29 a0 dS) ?_
 rintro _ (⟨r14,hc13,rfl⟩ | ⟨hc13,rfl⟩)
 have hN36:=hc13.1; have hP36:=hc13.2
 refine aN ?_
 refine aQ ?_
 refine bU ?_
 refine xG (.inl ⟨r9,r14,(by first | assumption | exact ⟨by assumption,by assumption,hC35 d4,hF3,hBt.2.2.2.2.2,hBt.2.1,hBt.2.2.1,hBt.2.2.2.1,hDV d4,hCk3.trans (congrArg (AV.int .i64) d4)⟩),rfl⟩)
 refine aN ?_
 refine aQ ?_
 refine bU ?_
 refine xG (.inr (⟨r9,.l3,zt⟩))
def P96 (_a0:dO) (_a1:Int) (_a2:Int) (v:AV):Prop:=∃ r0:Row lD,∃ r1:Bool,((((r1=true->0<=_a1/\_a1<(_a0.runs.l.length:Int)/\0<=_a2/\(∀ h : _a1.toNat < _a0.runs.l.length,r0=(_a0.runs.l[_a1.toNat]).kr)/\_a2<=(r0.l.length:Int))/\(r1=false->AE _a0 _a1 _a2))/\r0.l.length<=9223372036854775807))/\v=.kO [nF r0,.bool r1]
def t96 (a0:dO) (a1:Int) (a2:Int) :Ct 96 [.agg (dO.af a0),iv a1,iv a2] (P96 a0 a1 a2):=by
 refine kA NS ?_
 refine ae ?_
 refine ak ?_
 refine kE (λh1=>?_) (λh1=>?_)
 refine b5 ?_
 refine bb ?_
 refine bN ?_
 refine cA ?_
 exact j6
 refine aM ?_
 have hL2:=a0.runs.lk
 refine lx a0.runs ?_
 refine mW (λh3=>?_) (λh3=>?_)
 refine bb ?_
 refine bN ?_
 refine cA ?_
 exact j6
 refine aD ?_
 refine kE (λh4=>?_) (λh4=>?_)
 refine bN ?_
 refine cA ?_
 exact j6
 refine c7 ?_
 have hx5:(a1).toNat<a0.runs.l.length:=by omega
 refine iS rfl (λ_=>kW (n:=a1) (r:=a0.runs) (enc:=kS.af) rfl rfl rfl rfl rfl d4 hx5 rfl) ?_
 generalize hqx6:a0.runs.l[(a1).toNat]=x6
 refine ao ?_
 have hL7:=x6.kr.lk
 refine lx x6.kr ?_
 refine mc (λh8=>?_) (λh8=>?_)
 refine cA ?_
 exact j6
 refine ap ?_
 refine aI ?_
 have hx9:(a1).toNat<a0.runs.l.length:=by omega
 refine iS rfl (λ_=>kW (n:=a1) (r:=a0.runs) (enc:=kS.af) rfl rfl rfl rfl rfl d4 hx9 rfl) ?_
 rw [hqx6]
 refine bU ?_
 exact xG ⟨x6.kr,true,eA,rfl⟩
def P97 (_a0:kb) (_a1:Int) (v:AV):Prop:=∃ r0:Int,(r0=if lR _a0.p _a1=4 then -1 else _a1)/\v=iv r0
def t97 (a0:kb) (a1:Int) :Ct 97 [.ip (kb.af a0) 0 false,iv a1] (P97 a0 a1):=by
 refine kA Nj ?_
 refine bC ?_
 refine aR ?_
 refine oC (t102 a0 a1) ?_
 rintro _ ⟨r2,hc1,rfl⟩
 have hK:=hc1
 refine kZ (λh3=>?_) (λh3=>?_)
 refine aZ ?_
 exact xB ⟨(-1),(by grind),rfl⟩
 refine au ?_
 refine bT ?_
 exact xB ⟨a1,(by grind),rfl⟩
def aaC (_a0:kb) (_a1:Int) (v:AV):Prop:=∃ r0:Int,∃ r1:Bool,(((r1=true->r0=sk _a0.p.signals.l _a1)/\(r1=false->sk _a0.p.signals.l _a1 = -1)))/\v=.kO [iv r0,.bool r1]
def t217 (a0:kb) (a1:Int) :Ct 217 [.ip (kb.af a0) 0 false,iv a1] (aaC a0 a1):=by
 refine kA Jw ?_
 refine dl ?_
 refine oC (t101 a0 a1) ?_
 rintro _ ⟨r2,r3,hc1,rfl⟩
 have hA:=hc1.1; have hA0:=hc1.2
 cases r3
 refine bB ?_
 refine bU ?_
 exact xG ⟨r2.elem,false,(by grind [sk]),rfl⟩
 refine bB ?_
 refine bU ?_
 exact xG ⟨r2.elem,true,(by grind [sk]),rfl⟩
def Zx (_a0:kb) (_a1:Int) (v:AV):Prop:=∃ r0:Int,(r0=sk _a0.p.signals.l _a1)/\v=iv r0
def t168 (a0:kb) (a1:Int) :Ct 168 [.ip (kb.af a0) 0 false,iv a1] (Zx a0 a1):=by
 refine kA IL ?_
 refine cO ?_
 refine oC (t217 a0 a1) ?_
 rintro _ ⟨r2,r3,hc1,rfl⟩
 have hBt2:=hc1
 cases r3
 refine cP ?_
 refine aq ?_
 exact xB ⟨(-1),(by grind),rfl⟩
 refine cP ?_
 refine ap ?_
 refine bT ?_
 exact xB ⟨r2,(by grind),rfl⟩
def P98 (_a0:kb) (_a1:dO) (_a2:Int) (_a3:Int) (v:AV):Prop:=∃ r0:Int,(r0=uO (sk _a0.p.signals.l) _a1 _a2 _a3)/\v=iv r0
def t98 (a0:kb) (a1:dO) (a2:Int) (a3:Int) :Ct 98 [.ip (kb.af a0) 0 false,.agg (dO.af a1),iv a2,iv a3] (P98 a0 a1 a2 a3):=by
 refine kA Pj ?_
 refine aV ?_
 refine aI ?_
 refine oC (t96 a1 a2 a3) ?_
 rintro _ ⟨r2,r3,hc1,rfl⟩
 have hL:=hc1.1; have hLz:=hc1.2
 cases r3
 refine cP ?_
 refine aq ?_
 exact xB ⟨(-1),eQ,rfl⟩
 have hLt:=hL.1 rfl; have hLL:=hLt.2.2.2.1
 refine cP ?_
 refine ap ?_
 refine am ?_
 refine kZ (λh4=>?_) (λh4=>?_)
 refine ay ?_
 refine bJ ?_
 have hx5:(a2).toNat<a1.runs.l.length:=by omega
 refine iS rfl (λ_=>kW (n:=a2) (r:=a1.runs) (enc:=kS.af) rfl rfl rfl rfl rfl d4 hx5 rfl) ?_
 generalize hqx6:a1.runs.l[(a2).toNat]=x6
 refine ao ?_
 refine oC (t168 a0 x6.from_) ?_
 rintro _ ⟨r8,hc7,rfl⟩
 have hBth:=hc7
 refine ag ?_
 exact xB ⟨r8,eQ,rfl⟩
 refine au ?_
 refine aR ?_
 refine pW ?_
 have hx9:(a3 - 1).toNat<r2.l.length:=by omega
 refine iS rfl (λ_=>kW (n:=a3 - 1) (r:=r2) (enc:=lD.af) rfl rfl rfl rfl rfl d4 hx9 rfl) ?_
 generalize hqx10:r2.l[(a3 - 1).toNat]=x10
 refine dq ?_
 refine dh ?_
 refine kZ (λh11=>?_) (λh11=>?_)
 refine dH ?_
 refine oC (t168 a0 x10.to) ?_
 rintro _ ⟨r13,hc12,rfl⟩
 have hBth:=hc12
 refine ag ?_
 exact xB ⟨r13,eQ,rfl⟩
 refine be ?_
 refine kZ (λh14=>?_) (λh14=>?_)
 refine cB ?_
 exact xB ⟨x10.to,eQ,rfl⟩
 refine ap ?_
 refine aU ?_
 exact xB ⟨(-1),eQ,rfl⟩
def adA (_a0:kb) (_a1:dO) (_a2:Int) (_a3:Int) (v:AV):Prop:=∃ r0:j7,∃ r1:Bool,(((r1=true->mT false (pe _a0.p.signals.l) (λx=>look x _a0.next) _a1 _a2 _a3=some r0)/\(r1=false->mT false (pe _a0.p.signals.l) (λx=>look x _a0.next) _a1 _a2 _a3=none)))/\v=.kO [.agg (j7.af r0),.bool r1]
def t180 (a0:kb) (a1:dO) (a2:Int) (a3:Int) (q1:0<=a2) (q2:a2<(a1.runs.l.length:Int)) (q3:0<=a3) (q4:∀ h:a2.toNat<a1.runs.l.length,a3<=((a1.runs.l[a2.toNat]).kr.l.length:Int)):Ct 180 [.ip (kb.af a0) 0 false,.agg (dO.af a1),iv a2,iv a3] (adA a0 a1 a2 a3):=by
 refine kA HU ?_
 refine ae ?_
 refine ak ?_
 refine kZ (λh1=>?_) (λh1=>?_)
 refine ay ?_
 refine bJ ?_
 have hx2:(a2).toNat<a1.runs.l.length:=by omega
 refine iS rfl (λ_=>kW (n:=a2) (r:=a1.runs) (enc:=kS.af) rfl rfl rfl rfl rfl d4 hx2 rfl) ?_
 generalize hqx3:a1.runs.l[(a2).toNat]=x3
 have hinx3:x3∈a1.runs.l:=by rw [<- hqx3]; exact List.getElem_mem _
 have hsx3:=q4 dT; rw [hqx3] at hsx3; have hkx3:=x3.kr.ok; simp only [s9] at hkx3
 refine ao ?_
 refine oC (t101 a0 x3.from_) ?_
 rintro _ ⟨r5,r6,hc4,rfl⟩
 have hA:=hc4.1; have hA0:=hc4.2
 cases r6
 refine bU ?_
 exact xG ⟨r5,false,eg,rfl⟩
 refine bU ?_
 exact xG ⟨r5,true,eg,rfl⟩
 refine au ?_
 refine cq ?_
 have hx7:(a2).toNat<a1.runs.l.length:=by omega
 refine iS rfl (λ_=>kW (n:=a2) (r:=a1.runs) (enc:=kS.af) rfl rfl rfl rfl rfl d4 hx7 rfl) ?_
 generalize hqx8:a1.runs.l[(a2).toNat]=x8
 have hinx8:x8∈a1.runs.l:=by rw [<- hqx8]; exact List.getElem_mem _
 have hsx8:=q4 dT; rw [hqx8] at hsx8; have hkx8:=x8.kr.ok; simp only [s9] at hkx8
 refine aD ?_
 refine pW ?_
 have hx9:(a3 - 1).toNat<x8.kr.l.length:=by omega
 refine iS rfl (λ_=>kW (n:=a3 - 1) (r:=x8.kr) (enc:=lD.af) rfl rfl rfl rfl rfl d4 hx9 rfl) ?_
 generalize hqx10:x8.kr.l[(a3 - 1).toNat]=x10
 refine dq ?_
 refine dh ?_
 refine kZ (λh11=>?_) (λh11=>?_)
 refine dH ?_
 refine oC (t101 a0 x10.to) ?_
 rintro _ ⟨r13,r14,hc12,rfl⟩
 have hA:=hc12.1; have hA0:=hc12.2
 cases r14
 refine bU ?_
 exact xG ⟨r13,false,eg,rfl⟩
 refine bU ?_
 exact xG ⟨r13,true,eg,rfl⟩
 refine be ?_
 refine kZ (λh15=>?_) (λh15=>?_)
 refine ba ?_
 refine bJ ?_
 refine oC (t188 a0 (⟨x10.to,0⟩:j7)) ?_
 rintro _ ⟨r17,r18,hc16,rfl⟩
 have hN:=hc16
 cases r18
 refine bB ?_
 refine aD ?_
 refine oC (t188 a0 (⟨x10.to,1⟩:j7)) ?_
 rintro _ ⟨r20,r21,hc19,rfl⟩
 have hN:=hc19
 cases r21
 refine bO ?_
 refine ao ?_
 refine cf ?_
 refine aI ?_
 refine bb ?_
 refine cr ?_
 exact xG ⟨(⟨x10.to,1⟩:j7),false,eg,rfl⟩
 refine bO ?_
 refine aD ?_
 refine dH ?_
 refine bd ?_
 exact xG ⟨(⟨x10.to,0⟩:j7),true,eg,rfl⟩
 refine bB ?_
 refine aD ?_
 refine oC (t188 a0 (⟨x10.to,1⟩:j7)) ?_
 rintro _ ⟨r23,r24,hc22,rfl⟩
 have hN:=hc22
 cases r24
 refine bO ?_
 refine ao ?_
 refine oS ?_
 refine ap ?_
 refine aa ?_
 refine c7 ?_
 refine bU ?_
 exact xG ⟨(⟨x10.to,1⟩:j7),true,eg,rfl⟩
 refine bO ?_
 refine ao ?_
 refine oS ?_
 refine ap ?_
 refine aa ?_
 refine c7 ?_
 refine bU ?_
 exact xG ⟨(⟨x10.to,1⟩:j7),false,eg,rfl⟩
 refine oV ?_
 refine cz ?_
 exact xG ⟨(⟨0,0⟩:j7),false,eg,rfl⟩
def aav (_a0:kb) (_a1:dO) (_a2:Int) (_a3:Int) (v:AV):Prop:=∃ r0:Int,(((0<=r0->0<=_a2/\_a2<(_a1.runs.l.length:Int)/\0<=_a3/\∀ h : _a2.toNat < _a1.runs.l.length,_a3<((_a1.runs.l[_a2.toNat]).kr.l.length:Int))/\r0=oQ false (pe _a0.p.signals.l) (λx=>look x _a0.next) (lR _a0.p) (λx=>(look x _a0.reads).getD (-1)) _a1 _a2 _a3))/\v=iv r0
def t107 (a0:kb) (a1:dO) (a2:Int) (a3:Int) :Ct 107 [.ip (kb.af a0) 0 false,.agg (dO.af a1),iv a2,iv a3] (aav a0 a1 a2 a3):=by
 refine kA HD ?_
 refine aV ?_
 refine aI ?_
 refine oC (t96 a1 a2 a3) ?_
 rintro _ ⟨r2,r3,hc1,rfl⟩
 have hL:=hc1.1; have hLz:=hc1.2
 cases r3
 refine cP ?_
 refine bP ?_
 exact iI
 have hLt:=hL.1 rfl; have hLL:=hLt.2.2.2.1
 refine cP ?_
 refine aM ?_
 have hL4:=r2.lk
 refine lx r2 ?_
 refine kZ (λh5=>?_) (λh5=>?_)
 refine aq ?_
 exact iI
 refine ap ?_
 refine wy [.ip (kb.af a0) 0 false,iv a2,iv a3,.la 5 0,nF r2] [(5,(dO.af a1))] ?_
 refine bJ ?_
 refine oC (t180 a0 a1 a2 a3 dS dS dS dS) ?_
 rintro _ ⟨r7,r8,hc6,rfl⟩
 have hG:=hc6
 cases r8
 refine bO ?_
 refine dj ?_
 iterate 9 refine oS ?_
 refine aq ?_
 exact iI
 refine bO ?_
 refine aM ?_
 have hx9:(a3).toNat<r2.l.length:=by omega
 refine iS rfl (λ_=>kW (n:=a3) (r:=r2) (enc:=lD.af) rfl rfl rfl rfl rfl d4 hx9 rfl) ?_
 generalize hqx10:r2.l[(a3).toNat]=x10
 refine oV ?_
 refine mh (b:=x10.Bo) rfl (λ_=>rfl) (λh11=>?_) (λh11=>?_)
 refine aM ?_
 refine oC (t102 a0 r7.elem) ?_
 rintro _ ⟨r13,hc12,rfl⟩
 have hK:=hc12
 refine mg (λh14=>?_) (λh14=>?_)
 refine bw ?_
 exact iI
 refine cf ?_
 refine wy [.ip (kb.af a0) 0 false,iv a3,nF r2,.la 11 0] [(11,(j7.af r7))] ?_
 refine aR ?_
 have hx15:(a3).toNat<r2.l.length:=by omega
 refine iS rfl (λ_=>kW (n:=a3) (r:=r2) (enc:=lD.af) rfl rfl rfl rfl rfl d4 hx15 rfl) ?_
 rw [hqx10]
 refine oV ?_
 refine mh (b:=x10.Bo) rfl (λ_=>rfl) (λh17=>?_) (λh17=>?_)
 refine cg ?_
 rintro _ ⟨r19,hc18,rfl⟩
 have hR:=hc18
 refine ag ?_
 exact xB ⟨r19,eq,rfl⟩
 refine au ?_
 refine dK ?_
 rintro _ ⟨r21,hc20,rfl⟩
 have hR:=hc20
 refine ag ?_
 exact xB ⟨r21,eq,rfl⟩
 refine b5 ?_
 refine cf ?_
 refine wy [.ip (kb.af a0) 0 false,iv a3,nF r2,.la 11 0] [(11,(j7.af r7))] ?_
 refine aR ?_
 have hx22:(a3).toNat<r2.l.length:=by omega
 refine iS rfl (λ_=>kW (n:=a3) (r:=r2) (enc:=lD.af) rfl rfl rfl rfl rfl d4 hx22 rfl) ?_
 rw [hqx10]
 refine oV ?_
 refine mh (b:=x10.Bo) rfl (λ_=>rfl) (λh24=>?_) (λh24=>?_)
 refine cg ?_
 rintro _ ⟨r26,hc25,rfl⟩
 have hR:=hc25
 refine ag ?_
 exact xB ⟨r26,eq,rfl⟩
 refine au ?_
 refine dK ?_
 rintro _ ⟨r28,hc27,rfl⟩
 have hR:=hc27
 refine ag ?_
 exact xB ⟨r28,eq,rfl⟩
def abG (_a0:kq) (_a1:lD) (v:AV):Prop:=∃ r0:Bool,(r0=wv _a0 _a1)/\v=.bool r0
def t116 (a0:kq) (a1:lD) :Ct 116 [.agg (kq.af a0),.agg (lD.af a1)] (abG a0 a1):=by
 refine kA IX ?_
 refine cy ?_
 refine qs ?_
 refine bJ ?_
 refine mg (λh1=>?_) (λh1=>?_)
 refine bk ?_
 refine aq ?_
 exact iL
 refine aD ?_
 have hL2:=a0.steps.lk
 refine lx a0.steps ?_
 refine kZ (λh3=>?_) (λh3=>?_)
 refine aq ?_
 exact iL
 refine ap ?_
 refine aR ?_
 refine kZ (λh4=>?_) (λh4=>?_)
 refine ay ?_
 refine bJ ?_
 refine kZ (λh5=>?_) (λh5=>?_)
 refine ag ?_
 exact xB ⟨true,d5,rfl⟩
 refine ag ?_
 exact iL
 refine au ?_
 refine aO ?_
 refine cW ?_
 have hL6:=a0.steps.lk
 refine xQ a0.steps ?_
 have hL7:=a0.steps.lk
 refine SI ?_
 have hx8:((a0.steps.l.length:Int) - 1).toNat<a0.steps.l.length:=by omega
 refine kG rfl rfl (λ_=>kW (n:=(a0.steps.l.length:Int) - 1) (r:=a0.steps) (enc:=kL.af) rfl rfl rfl rfl rfl d4 hx8 rfl) ?_
 generalize hqx9:a0.steps.l[((a0.steps.l.length:Int) - 1).toNat]=x9
 refine cW ?_
 refine w9 (λh10=>?_) (λh10=>?_)
 refine aP ?_
 refine qr ?_
 exact xB ⟨true,d5,rfl⟩
 refine aP ?_
 refine qr ?_
 exact iL
def ZA (_a0:kb) (_a1:Int) (v:AV):Prop:=∃ r0:Int,(r0=tu _a0.p _a1)/\v=iv r0
def t185 (a0:kb) (a1:Int) :Ct 185 [.ip (kb.af a0) 0 false,iv a1] (ZA a0 a1):=by
 refine kA I7 ?_
 refine cO ?_
 refine oC (t174 a0 a1) ?_
 rintro _ ⟨r2,hc1,rfl⟩
 obtain ⟨hEk,hEl⟩:=hc1
 refine bd ?_
 exact xB ⟨r2.len,dT,rfl⟩
def abR (_a0:kb) (_a1:kR) (_a2:Int) (v:AV):Prop:=∃ r0:Bool,(r0=wC _a0.p _a1 _a2)/\v=.bool r0
def t117 (a0:kb) (a1:kR) (a2:Int) (q1:mU a0.p):Ct 117 [.ip (kb.af a0) 0 false,.agg (kR.af a1),iv a2] (abR a0 a1 a2):=by
 refine kA I4 ?_
 refine aV ?_
 refine aR ?_
 refine oC (t102 a0 a2) ?_
 rintro _ ⟨r2,hc1,rfl⟩
 have hK:=hc1
 refine dh ?_
 refine kZ (λh3=>?_) (λh3=>?_)
 refine aq ?_
 exact xB ⟨true,fp,rfl⟩
 refine be ?_
 refine kZ (λh4=>?_) (λh4=>?_)
 refine ba ?_
 refine bZ ?_
 refine rC (t185 a0 a2) ?_
 rintro _ ⟨r6,hc5,rfl⟩
 have hLen:=hc5
 refine bA ?_
 refine rC (t99 a0 dS) ?_
 rintro _ ⟨r8,hc7,rfl⟩
 have hPl:=hc7.2.2.2.2.2
 refine rV ?_
 refine kG rfl rfl (λ_=>ml rfl rfl rfl (uv .i64 a1.len r8.lN)) ?_
 refine xa (λh9=>?_) (λh9=>?_)
 refine aP ?_
 refine qr ?_
 exact xB ⟨true,fp,rfl⟩
 refine aP ?_
 refine qr ?_
 exact xB ⟨false,fp,rfl⟩
 refine ap ?_
 refine aU ?_
 exact xB ⟨false,fp,rfl⟩
def adg (_a0:kb) (_a1:Row kq) (_a2:dO) (_a3:Int) (_a4:Int) (v:AV):Prop:=∃ r0:Row Int,((r0.l.length<=_a1.l.length/\(∀ x∈r0.l,0<=x/\x<(_a1.l.length:Int))/\r0.l=mY _a0.p _a1.l _a2 _a3 _a4))/\v=kU r0
def ZG (a0:kb) (a1:Row kq) (a2:dO) (a3:Int) (a4:Int) (q1:mU a0.p) (q2:a1.l.length<=64) (qn:rB a0):Ct 56 [.ip (kb.af a0) 0 false,kx a1,.agg (dO.af a2),iv a3,iv a4] (adg a0 a1 a2 a3 a4):=by
 refine kA NZ ?_
 refine aV ?_
 refine aO ?_
 refine cW ?_
 refine rC (t107 a0 a2 a3 a4) ?_
 rintro _ ⟨r2,hc1,rfl⟩
 have hFd:=hc1.1
 have hFr:=hc1.2; rw [qn.from_] at hFr
 refine cW ?_
 refine rC (t98 a0 a2 a3 a4) ?_
 rintro _ ⟨r4,hc3,rfl⟩
 have hStn:=hc3
 refine rV ?_
 refine aP ?_
 refine qs ?_
 refine cM ?_
 refine si (λh5=>?_) (λh5=>?_)
 refine dD ?_
 refine rS ?_
 refine c9 ?_
 iterate 6 refine rS ?_
 refine dI ?_
 exact jS
 refine cW ?_
 have hx6:(a3).toNat<a2.runs.l.length:=by omega
 refine kG rfl rfl (λ_=>kW (n:=a3) (r:=a2.runs) (enc:=kS.af) rfl rfl rfl rfl rfl d4 hx6 rfl) ?_
 generalize hqx7:a2.runs.l[(a3).toNat]=x7
 have hinx7:x7∈a2.runs.l:=by rw [<- hqx7]; exact List.getElem_mem _
 have hlx7:=(hFd d4).2.2.2 dT; rw [hqx7] at hlx7
 refine aK ?_
 refine si (λh8=>?_) (λh8=>?_)
 refine c9 ?_
 iterate 6 refine rS ?_
 refine dI ?_
 exact jS
 refine bH ?_
 have hx9:(a3).toNat<a2.runs.l.length:=by omega
 refine kG rfl rfl (λ_=>kW (n:=a3) (r:=a2.runs) (enc:=kS.af) rfl rfl rfl rfl rfl d4 hx9 rfl) ?_
 rw [hqx7]
 refine cW ?_
 have hL11:=a2.ko.lk
 refine xQ a2.ko ?_
 refine xa (λh12=>?_) (λh12=>?_)
 refine dI ?_
 exact jS
 refine bz ?_
 refine aO ?_
 refine bH ?_
 have hx13:(a3).toNat<a2.runs.l.length:=by omega
 refine kG rfl rfl (λ_=>kW (n:=a3) (r:=a2.runs) (enc:=kS.af) rfl rfl rfl rfl rfl d4 hx13 rfl) ?_
 rw [hqx7]
 refine aK ?_
 have hx15:(x7.ko).toNat<a2.ko.l.length:=by omega
 refine kG rfl rfl (λ_=>kW (n:=x7.ko) (r:=a2.ko) (enc:=kR.af) rfl rfl rfl rfl rfl d4 hx15 rfl) ?_
 generalize hqx16:a2.ko.l[(x7.ko).toNat]=x16
 refine aK ?_
 refine aP ?_
 refine aY ?_
 have hL17:=a1.lk
 refine lx a1 ?_
 refine aC ?_
 have hS18:=Sep.m3 lJ 1
 have hNk19:=a1.lk
 refine ke a1.l.length (λk19 e h=>∃ v20:AV,∃ l21:List Int,∃ H22:bV,(l21.length<=0+k19)/\(∀ x∈(l21:List Int),0<=x/\x<(a1.l.length:Int))/\(l21=qW (p3 a0.p a2 a3 a4) 0 (a1.l.take k19))/\Sep H22 (om v20 l21::[])/\At [0,3,4,7,11,12,13,14,60,61,62] [.ip (kb.af a0) 0 false,iv a3,iv a4,.la 7 0,iv r2,iv r4,.la 13 0,v20,kx a1,ck a1.l.length,ck k19] H22 [(7,(dO.af a2)),(13,(kR.af x16))] e h) ?_ (k0:=0) d4 ⟨iN,(([]:List Int)),bV.empty,eR,fQ,iy,hS18,atR⟩
 rintro k19 e h hkk19 ⟨v20,l21,H22,hl24,hRi,hX,hS23,hA⟩
 refine aE ?_
 refine kE (λh25=>?_) (λh25=>?_)
 refine ai ?_
 refine wz [.ip (kb.af a0) 0 false,iv a3,iv a4,.la 7 0,iv r2,iv r4,.la 13 0,v20,kx a1,ck a1.l.length,ck k19] H22 [(7,(dO.af a2)),(13,(kR.af x16))] ?_ (kF hS23 [(14,0)])
 refine cw ?_
 have hx26:k19<a1.l.length:=by omega
 refine mB k19 a1 hx26 ?_
 generalize hqx27:a1.l[k19]=x27
 refine cG ?_
 refine cR ?_
 refine w9 (λh28=>?_) (λh28=>?_)
 refine bH ?_
 have hx29:(a3).toNat<a2.runs.l.length:=by omega
 refine kG rfl rfl (λ_=>kW (n:=a3) (r:=a2.runs) (enc:=kS.af) rfl rfl rfl rfl rfl d4 hx29 rfl) ?_
 rw [hqx7]
 refine bA ?_
 have hx31:(a4).toNat<x7.kr.l.length:=by omega
 refine kG rfl rfl (λ_=>kW (n:=a4) (r:=x7.kr) (enc:=lD.af) rfl rfl rfl rfl rfl d4 hx31 rfl) ?_
 generalize hqx32:x7.kr.l[(a4).toNat]=x32
 refine rV ?_
 refine rC (t116 x27 x32) ?_
 rintro _ ⟨r34,hc33,rfl⟩
 have hEn:=hc33
 cases r34
 refine aK ?_
 iterate 3 refine rS ?_
 refine c9 ?_
 refine rS ?_
 refine c9 ?_
 iterate 8 refine rS ?_
 refine bz ?_
 refine wz [.ip (kb.af a0) 0 false,iv a3,iv a4,.la 7 0,iv r2,iv r4,.la 13 0,v20,kx a1,ck a1.l.length,ck k19] H22 [(7,(dO.af a2)),(13,(kR.af x16))] ?_ (kF hS23 [(14,0)])
 refine qg ?_
 refine kI ?_
 refine ab ?_
 exact jT
 have hEp:=L6 hEn
 refine bA ?_
 refine Fz (b:=x27.bare) rfl rfl (λ_=>rfl) (λh35=>?_) (λh35=>?_)
 refine bA ?_
 iterate 5 refine rS ?_
 refine c9 ?_
 iterate 8 refine rS ?_
 refine bz ?_
 refine wz [.ip (kb.af a0) 0 false,iv a3,iv a4,.la 7 0,iv r2,iv r4,.la 13 0,v20,kx a1,ck a1.l.length,ck k19] H22 [(7,(dO.af a2)),(13,(kR.af x16))] ?_ (kF hS23 [(14,0)])
 refine qg ?_
 refine kI ?_
 refine ab ?_
 exact jT
 refine cH ?_
 refine rC (t113 (Row.mi x27.mf) r4) ?_
 rintro _ ⟨r37,hc36,rfl⟩
 have hIn:=hc36
 cases r37
 iterate 9 refine rV ?_
 have hL38:=x27.steps.lk
 refine xQ x27.steps ?_
 have hL39:=x27.steps.lk
 refine SI ?_
 have hx40:((x27.steps.l.length:Int) - 1).toNat<x27.steps.l.length:=by omega
 refine kG rfl rfl (λ_=>kW (n:=(x27.steps.l.length:Int) - 1) (r:=x27.steps) (enc:=kL.af) rfl rfl rfl rfl rfl d4 hx40 rfl) ?_
 generalize hqx41:x27.steps.l[((x27.steps.l.length:Int) - 1).toNat]=x41
 refine aK ?_
 refine rC (t117 a0 x16 x41.elem dS) ?_
 rintro _ ⟨r43,hc42,rfl⟩
 have hFt:=hc42
 cases r43
 refine bz ?_
 refine wz [.ip (kb.af a0) 0 false,iv a3,iv a4,.la 7 0,iv r2,iv r4,.la 13 0,v20,kx a1,ck a1.l.length,ck k19] H22 [(7,(dO.af a2)),(13,(kR.af x16))] ?_ (kF hS23 [(14,0)])
 refine qg ?_
 refine kI ?_
 refine ab ?_
 exact jT
 refine ce ?_
 refine bu ?_
 refine kM rfl (lO (H:=H22) (i:=0) (l:=l21) (enc:=kX) [((k19:Int))] hS23 rfl rfl rfl rfl rfl rfl rfl rfl rfl (λ_=>rfl) (.inl rfl) dZ (λ_=>rfl)) ?_
 rintro v44 H45 hS46
 refine ab ?_
 refine wz [.ip (kb.af a0) 0 false,iv a3,iv a4,.la 7 0,iv r2,iv r4,.la 13 0,v44,kx a1,ck a1.l.length,ck k19] H45 [(7,(dO.af a2)),(13,(kR.af x16))] ?_ (kF hS46 [(14,0)])
 refine qg ?_
 refine kI ?_
 refine ab ?_
 exact ⟨by omega,v44,((l21++[((k19:Int))])),H45,dX,fW,ey,hS46,(kF hS46 [(14,0)])⟩
 refine bA ?_
 iterate 12 refine rS ?_
 refine bz ?_
 refine wz [.ip (kb.af a0) 0 false,iv a3,iv a4,.la 7 0,iv r2,iv r4,.la 13 0,v20,kx a1,ck a1.l.length,ck k19] H22 [(7,(dO.af a2)),(13,(kR.af x16))] ?_ (kF hS23 [(14,0)])
 refine qg ?_
 refine kI ?_
 refine ab ?_
 exact jT
 refine dD ?_
 iterate 5 refine rS ?_
 refine aK ?_
 iterate 3 refine rS ?_
 refine c9 ?_
 refine rS ?_
 refine c9 ?_
 iterate 8 refine rS ?_
 refine bz ?_
 refine wz [.ip (kb.af a0) 0 false,iv a3,iv a4,.la 7 0,iv r2,iv r4,.la 13 0,v20,kx a1,ck a1.l.length,ck k19] H22 [(7,(dO.af a2)),(13,(kR.af x16))] ?_ (kF hS23 [(14,0)])
 refine qg ?_
 refine kI ?_
 refine ab ?_
 exact jT
 refine ah ?_
 refine wz [v20] H22 [] ?_ (kF hS23 [(14,0)])
 refine bT ?_
 obtain ⟨r47,hl48,hf49⟩:=mz (H:=H22) (i:=0) (l:=l21) (enc:=kX) hS23 rfl dV
 have hlq:=hl48; have hln51:=congrArg List.length hl48
 have hz50:∀ m,freeze false { H22 with cT:=[] } (m+2) v20=some (kU r47):=λm=>hf49 _ _ (λ_=>rfl)
 exact ⟨v20,(lQ (vs:=[v20]) rfl (j8 (Sep.arg (i:=0) hS23 rfl) kK)),kU r47,(show freeze false { H22 with cT:=[] } 8 v20=some (kU r47) by simp only [FZ,hz50]),r47,e8,rfl⟩
def P56 (_a0:kb) (_a1:Row kq) (_a2:dO) (_a3:Int) (_a4:Int) (v:AV):Prop:=∃ r0:Row Int,(((r0.l.length<=_a1.l.length/\(∀ x∈r0.l,0<=x/\x<(_a1.l.length:Int))/\r0.l=mY _a0.p _a1.l _a2 _a3 _a4))/\rs 56 [.ip (kb.af _a0) 0 false,kx _a1,.agg (dO.af _a2),iv _a3,iv _a4]=kU r0)/\v=kU r0
def t56 (a0:kb) (a1:Row kq) (a2:dO) (a3:Int) (a4:Int) (q1:mU a0.p) (q2:a1.l.length<=64) (qn:rB a0) (h:bV):∃ v,kC cfg FT kJ false 56 [.ip (kb.af a0) 0 false,kx a1,.agg (dO.af a2),iv a3,iv a4] h v h/\P56 a0 a1 a2 a3 a4 v:=by
 obtain ⟨v,hc,hP,hr⟩:=pa rY (ZG a0 a1 a2 a3 a4 q1 q2 qn) h
 obtain ⟨r0,hp,rfl⟩:=hP
 exact iR
def aa0 (_a0:kb) (_a1:Int) (v:AV):Prop:=∃ r0:Int,∃ r1:Int,(((∃ q,look _a1 _a0.line=some (r0,q))\/(look _a1 _a0.line=none/\r0 = -1)))/\v=.kO [iv r0,iv r1]
def t170 (a0:kb) (a1:Int) :Ct 170 [.ip (kb.af a0) 0 false,iv a1] (aa0 a0 a1):=by
 refine kA HI ?_
 refine aV ?_
 refine qs ?_
 refine db ?_
 refine vQ (key:=(a1)) (l:=a0.line) (ek:=iK) (ev:=tP) rfl rfl rfl rfl rfl rfl rfl rfl rfl pD (λy1 h2=>?_) (λh3=>?_)
 refine bB ?_
 refine ay ?_
 refine cR ?_
 refine dc ?_
 exact xG ⟨y1.1,y1.2,g9,rfl⟩
 refine bB ?_
 refine au ?_
 refine bT ?_
 exact xG ⟨(-1),(-1),g9,rfl⟩
def TE {H:bV} (x:Int) (bs:Nat) (bm:Nat) (m:List (Int×Bool)) (b:Nat) (nn:kb) (bl:Nat) (ll:Row lq) (F:List lF) (hS:Sep H (lE bs [(.hm bm)]::m5 bm iK bK m::lE b [.ip (kb.af nn) 0 false]::lE bl [kD ll]::F)) (q1:nc m) (q2:∀ y∈m,oM y.1) (q3:oM x) (q4:∀ y∈ll.l,LG y):∃ v H',kC cfg FT kJ true 169 [iv x,(ki bs),(ki b),(ki bl)] { H with cT:=[] } v H'/\(∃ mo:List (Int×Bool),((nc mo/\(∀ y∈mo,oM y.1)/\mo.length<=m.length+61)/\∀ y,qA mo y↔qA m y\/rv nn.line ll.l x y)/\Sep H' (lE bs [(.hm bm)]::m5 bm iK bK mo::lE b [.ip (kb.af nn) 0 false]::lE bl [kD ll]::F)/\v=.kO []):=by
 refine lK Iv ?_
 have hNd:=q1; have hRg:=q2
 refine aa ?_
 refine iS rfl (λ_=>nY (i:=0) (o:=0) (r:=(.hm bm)) hS rfl rfl rfl rfl) ?_
 refine oV ?_
 have hNd:nc (put x true m):=Ly hNd
 have hLp:((put x true m)).length<=(m).length+1:=C3
 have hRg:∀ y∈(put x true m),oM y.1:=GS hRg dT
 refine kM rfl (oK (i:=1) (ek:=iK) (ev:=bK) (l:=m) x true hS rfl rfl rfl rfl rfl rfl pD) ?_
 rintro _ H1 ⟨rfl,hS2⟩
 refine oN ?_
 refine aa ?_
 refine iS rfl (λ_=>nY (i:=2) (o:=0) (r:=.ip (kb.af nn) 0 false) hS2 rfl rfl rfl rfl) ?_
 refine oV ?_
 refine oC (t170 nn x) ?_
 rintro _ ⟨r4,r5,hc3,rfl⟩
 have hLine:=hc3
 refine aM ?_
 refine aN ?_
 refine mW (λh6=>?_) (λh6=>?_)
 refine ao ?_
 refine iS rfl (λ_=>nY (i:=3) (o:=0) (r:=kD ll) hS2 rfl rfl rfl rfl) ?_
 have hL7:=ll.lk
 refine lx ll ?_
 refine kE (λh8=>?_) (λh8=>?_)
 refine ba ?_
 refine aa ?_
 refine iS rfl (λ_=>nY (i:=3) (o:=0) (r:=kD ll) hS2 rfl rfl rfl rfl) ?_
 refine oV ?_
 have hx9:(r4).toNat<ll.l.length:=by omega
 refine iS rfl (λ_=>kW (n:=r4) (r:=ll) (enc:=lq.af) rfl rfl rfl rfl rfl d4 hx9 rfl) ?_
 generalize hqx10:ll.l[(r4).toNat]=x10
 have hinx10:x10∈ll.l:=by rw [<- hqx10]; exact List.getElem_mem _
 obtain ⟨hlx10,hgE⟩:=q4 x10 hinx10
 refine ao ?_
 have hL11:=x10.elems.lk
 refine lx x10.elems ?_
 refine aC ?_
 have hNk12:=x10.elems.lk
 refine ke x10.elems.l.length (λk12 e h=>∃ l13:List (Int×Bool),∃ H14:bV,(nc l13)/\(∀ y∈(l13:List (Int×Bool)),oM y.1)/\(l13.length<=m.length+1+k12)/\(∀ y,qA l13 y↔qA m y\/y=x\/y∈(x10.elems.l).take k12)/\Sep H14 (lE bs [(.hm bm)]::m5 bm iK bK l13::lE b [.ip (kb.af nn) 0 false]::lE bl [kD ll]::F)/\At [1,29,30,31] [(ki bs),kU x10.elems,ck x10.elems.l.length,ck k12] H14 [] e h) ?_ (k0:=0) d4 ⟨((put x true m)),H1,ic,ib,d4,(by (intro y; rw [C1]; simp; grind)),hS2,atR⟩
 rintro k12 e h hkk12 ⟨l13,H14,hNd,hRg,hLm,hKs,hS15,hA⟩
 refine aE ?_
 refine kE (λh16=>?_) (λh16=>?_)
 refine ai ?_
 refine wz [(ki bs),kU x10.elems,ck x10.elems.l.length,ck k12] H14 [] ?_
 refine bQ ?_
 have hx17:k12<x10.elems.l.length:=by omega
 refine mB k12 x10.elems hx17 ?_
 generalize hqx18:x10.elems.l[k12]=x18
 have hinx18:x18∈x10.elems.l:=by rw [<- hqx18]; exact List.getElem_mem _
 have hgx18:=hgE x18 hinx18
 refine ao ?_
 refine dC ?_
 refine iS rfl (λ_=>nY (i:=0) (o:=0) (r:=(.hm bm)) hS15 rfl rfl rfl rfl) ?_
 refine oV ?_
 have hNd:nc (put x18 true l13):=Ly hNd
 have hLp:((put x18 true l13)).length<=(l13).length+1:=C3
 have hRg:∀ y∈(put x18 true l13),oM y.1:=GS hRg dT
 refine kM rfl (oK (i:=1) (ek:=iK) (ev:=bK) (l:=l13) x18 true hS15 rfl rfl rfl rfl rfl rfl pD) ?_
 rintro _ H19 ⟨rfl,hS20⟩
 refine oN ?_
 refine wz [(ki bs),kU x10.elems,ck x10.elems.l.length,ck k12] H19 [] ?_
 refine qg ?_
 refine kI ?_
 refine ab ?_
 exact ⟨by omega,((put x18 true l13)),H19,ic,ib,d4,(by exact OS hKs dT),hS20,atR⟩
 refine ah ?_
 have hS21:=Sep.pick hS15 [0,1,2,3] 4 dW dW
 exact ⟨.kO [],rfl,l13,fu,Sep.cT hS21 _,rfl⟩
 refine ap ?_
 have hS22:=Sep.pick hS2 [0,1,2,3] 4 dW dW
 exact ⟨.kO [],rfl,(put x true m),fu,Sep.cT hS22 _,rfl⟩
 refine bk ?_
 refine ap ?_
 have hS23:=Sep.pick hS2 [0,1,2,3] 4 dW dW
 exact ⟨.kO [],rfl,(put x true m),fu,Sep.cT hS23 _,rfl⟩
def Sv {H:bV} (x:Int) (b:Nat) (nn:kb) (F:List lF) (hS:Sep H (lE b [.ip (kb.af nn) 0 false]::F)) :∃ v H',kC cfg FT kJ true 173 [iv x,(ki b)] { H with cT:=[] } v H'/\(∃ r0:Bool,(((r0=true->qQ nn.p x=false)/\(r0=false->qQ nn.p x=true)))/\Sep H' (lE b [.ip (kb.af nn) 0 false]::F)/\v=.bool r0):=by
 refine lK IQ ?_
 refine bC ?_
 refine aa ?_
 refine iS rfl (λ_=>nY (i:=0) (o:=0) (r:=.ip (kb.af nn) 0 false) hS rfl rfl rfl rfl) ?_
 refine oV ?_
 refine oC (t102 nn x) ?_
 rintro _ ⟨r2,hc1,rfl⟩
 have hK:=hc1
 refine kZ (λh3=>?_) (λh3=>?_)
 refine ag ?_
 have hS4:=Sep.pick hS [0] 1 dW dW
 exact ⟨.bool true,rfl,true,gB,Sep.cT hS4 _,rfl⟩
 refine ag ?_
 have hS5:=Sep.pick hS [0] 1 dW dW
 exact ⟨.bool false,rfl,false,gB,Sep.cT hS5 _,rfl⟩
def adb {H:bV} (vs:AV) (l:List Int) (b:Nat) (nn:kb) (F:List lF) (hS:Sep H (om vs l::lE b [.ip (kb.af nn) 0 false]::F)) (q1:l.length<=1000000):∃ v H',kC cfg FT kJ true 218 [vs,.ly 173 [] [(ki b)]] { H with cT:=[] } v H'/\(∃ r0:Int,(((-1<=r0/\r0<(l.length:Int))/\(∀ (k:Nat) (h:k<l.length),(k:Int)<r0->qQ nn.p l[k]=true)/\(0<=r0->∀ h:r0.toNat<l.length,qQ nn.p l[r0.toNat]=false)/\(r0<0->∀ x∈l,qQ nn.p x=true)))/\Sep H' (om vs l::lE b [.ip (kb.af nn) 0 false]::F)/\v=iv r0):=by
 refine lK HE ?_
 refine dP ?_
 refine aC ?_
 refine ke l.length (λk1 e h=>∃ H2:bV,(∀ (i:Nat) (h:i<l.length),i<k1->qQ nn.p l[i]=true)/\Sep H2 (om vs l::lE b [.ip (kb.af nn) 0 false]::F)/\At [0,1,7,8] [vs,.ly 173 [] [(ki b)],ck l.length,ck k1] H2 [] e h) ?_ (k0:=0) d4 ⟨H,eX,hS,(kF hS [(0,0)])⟩
 rintro k1 e h hkk1 ⟨H2,hP,hS3,hA⟩
 refine aE ?_
 refine kE (λh4=>?_) (λh4=>?_)
 refine ai ?_
 refine wz [vs,.ly 173 [] [(ki b)],ck l.length,ck k1] H2 [] ?_ (kF hS3 [(0,0)])
 refine aw ?_
 refine aV ?_
 refine aI ?_
 have hx5:k1<l.length:=by first | omega | (simp<;>omega) | (simp_all; omega)
 obtain ⟨x6,hqx6⟩:∃ x,l[k1]=x:=⟨_,rfl⟩
 refine nM rfl (mS (i:=0) (m:=k1) (cs:=kX x6) hS3 rfl rfl rfl rfl rfl rfl rfl (mq hx5 hqx6)) ?_
 rintro a7 ⟨ha8,hea9⟩
 refine iS rfl (λ_=>pr (i:=0) (m:=k1) (o:=0) (r:=iv x6) (cs:=kX x6) hS3 rfl (mq hx5 hqx6) hea9 rfl rfl ha8) ?_
 have hS10:=Sep.pick hS3 [1,0] 2 dW dW
 refine lB (H:=H2) (args:=[iv x6]) (p:=[]) (r:=[(ki b)]) rfl rfl rfl rfl rfl rfl rfl (Sv x6 b nn (om vs l::F) hS10) ?_
 rintro _ H11 ⟨r14,hc13,hS12,rfl⟩
 have hGt:=hc13
 cases r14
 refine au ?_
 refine wz [vs,.ly 173 [] [(ki b)],ck l.length,ck k1] H11 [] ?_ (kF hS12 [(0,1)])
 refine qg ?_
 refine kI ?_
 refine ab ?_
 have hS15:=Sep.pick hS12 [1,0] 2 dW dW
 exact ⟨by omega,H11,(by exact ng (P:=λx:Int=>qQ nn.p x=true) dT hP (hGt.2 rfl)),hS15,(kF hS15 [(0,0)])⟩
 refine aH ?_
 have hS16:=Sep.pick hS12 [1,0] 2 dW dW
 exact ⟨ck k1,rfl,((k1:Int)),fT,Sep.cT hS16 _,rfl⟩
 refine bE ?_
 have hS17:=Sep.pick hS3 [0,1] 2 dW dW
 exact ⟨iv (-1),rfl,(-1),fT,Sep.cT hS17 _,rfl⟩
def aaT {H:bV} (vs:AV) (l:List Int) (b:Nat) (nn:kb) (F:List lF) (hS:Sep H (om vs l::lE b [.ip (kb.af nn) 0 false]::F)) (q1:l.length<=1000000):∃ v H',kC cfg FT kJ true 171 [vs,.ly 173 [] [(ki b)]] { H with cT:=[] } v H'/\(∃ vo:AV,∃ lo:List Int,(lo=l.filter (qQ nn.p))/\Sep H' (oT kX 1 vo lo::lE b [.ip (kb.af nn) 0 false]::F)/\v=vo):=by
 refine lK Ka ?_
 refine cO ?_
 have hS1:=Sep.pick hS [0,1] 2 dW dW
 refine lB (H:=H) (args:=[vs,.ly 173 [] [(ki b)]]) (p:=[]) (r:=[]) rfl rfl rfl rfl rfl (j8 (Sep.arg (i:=0) hS rfl) (j8 rfl kK)) rfl (adb vs l b nn F hS1 dS) ?_
 rintro _ H2 ⟨r5,hc4,hS3,rfl⟩
 have hIx:=hc4
 refine ak ?_
 refine kZ (λh6=>?_) (λh6=>?_)
 refine aH ?_
 have hS7:=Sep.vn (i:=0) hS3 rfl
 have hS8:=Sep.pick hS7 [0,1] 2 dW dW
 exact ⟨vs,(lQ (vs:=[vs]) rfl (j8 (Sep.arg (i:=0) hS7 rfl) kK)),vs,l,ik,Sep.cT hS8 _,rfl⟩
 refine au ?_
 refine wz [vs,.ly 173 [] [(ki b)],iv r5] H2 [] ?_ (kF hS3 [(0,0)])
 refine am ?_
 refine kI ?_
 refine aC ?_
 refine nw (λm15 e h=>∃ v9:AV,∃ l10:List Int,∃ n11:Int,∃ n12:Int,∃ H13:bV,m15=((l.length:Int) - n12).toNat/\(l10.length=l.length)/\(0<=n11/\n11<n12/\n12<=(l.length:Int))/\(uK (qQ nn.p) l l10 n11 n12)/\Sep H13 (om v9 l10::lE b [.ip (kb.af nn) 0 false]::F)/\At [0,1,5,6] [v9,.ly 173 [] [(ki b)],iv n11,iv n12] H13 [] e h) ?_ _ _ _ ⟨vs,l,r5,(r5+1),H2,rfl,iy,d4,(by exact uK.start d4 hIx.2.1 d4 (hIx.2.2.1 d4)),hS3,(kF hS3 [(0,0)])⟩
 rintro m15 e h ⟨v9,l10,n11,n12,H13,hmm15,hLl,hij,hDe,hS14,hA⟩
 refine cu ?_
 refine iS rfl (λ_=>nO (i:=0) hS14 rfl rfl rfl rfl rfl rfl rfl) ?_
 refine kE (λh16=>?_) (λh16=>?_)
 refine cb ?_
 refine wz [v9,.ly 173 [] [(ki b)],iv n11,iv n12] H13 [] ?_ (kF hS14 [(0,0)])
 refine aw ?_
 refine ae ?_
 have hk17:(((n12).toNat:Nat):Int)=n12:=Int.toNat_of_nonneg dX
 have hx18:(n12).toNat<l10.length:=by first | omega | (simp<;>omega) | (simp_all; omega)
 obtain ⟨x19,hqx19⟩:∃ x,l10[(n12).toNat]=x:=⟨_,rfl⟩
 refine nM rfl (mS (i:=0) (m:=(n12).toNat) (cs:=kX x19) hS14 rfl rfl rfl rfl rfl rfl (congrArg (AV.int .i64) hk17.symm) (mq hx18 hqx19)) ?_
 rintro a20 ⟨ha21,hea22⟩
 refine iS rfl (λ_=>pr (i:=0) (m:=(n12).toNat) (o:=0) (r:=iv x19) (cs:=kX x19) hS14 rfl (mq hx18 hqx19) hea22 rfl rfl ha21) ?_
 refine bi ?_
 have hS23:=Sep.pick hS14 [1,0] 2 dW dW
 refine lB (H:=H13) (args:=[iv x19]) (p:=[]) (r:=[(ki b)]) rfl rfl rfl rfl rfl rfl rfl (Sv x19 b nn (om v9 l10::F) hS23) ?_
 rintro _ H24 ⟨r27,hc26,hS25,rfl⟩
 have hGt:=hc26
 cases r27
 refine dH ?_
 have hk28:(((n11).toNat:Nat):Int)=n11:=Int.toNat_of_nonneg dX
 have hx29:(n11).toNat<l10.length:=by first | omega | (simp<;>omega) | (simp_all; omega)
 obtain ⟨x30,hqx30⟩:∃ x,l10[(n11).toNat]=x:=⟨_,rfl⟩
 refine nM rfl (mS (i:=1) (m:=(n11).toNat) (cs:=kX x30) hS25 rfl rfl rfl rfl rfl rfl (congrArg (AV.int .i64) hk28.symm) (mq hx29 hqx30)) ?_
 rintro a31 ⟨ha32,hea33⟩
 refine kM rfl (oY (i:=1) (m:=(n11).toNat) (o:=0) x30 x19 hS25 rfl hx29 hqx30 hea33 rfl ha32 rfl rfl rfl rfl) ?_
 rintro _ H34 ⟨rfl,hS35⟩
 refine oN ?_
 refine aJ ?_
 refine kI ?_
 refine ab ?_
 refine wz [v9,.ly 173 [] [(ki b)],iv (n11+1),iv n12] H34 [] ?_ (kF hS35 [(0,1)])
 refine aJ ?_
 refine kI ?_
 refine ab ?_
 have hS36:=Sep.pick hS35 [1,0] 2 dW dW
 refine ⟨_,?_,v9,((l10.set ((n11).toNat) x19)),(n11+1),(n12+1),H34,rfl,eZ,d4,g6,hS36,(kF hS36 [(0,0)])⟩
 omega
 refine ap ?_
 refine wz [v9,.ly 173 [] [(ki b)],iv n11,iv n12] H24 [] ?_ (kF hS25 [(0,1)])
 refine aJ ?_
 refine kI ?_
 refine ab ?_
 have hS37:=Sep.pick hS25 [1,0] 2 dW dW
 refine ⟨_,?_,v9,l10,n11,(n12+1),H24,rfl,eZ,d4,g6,hS37,(kF hS37 [(0,0)])⟩
 omega
 refine aL ?_
 refine wz [v9,iv n11] H13 [] ?_ (kF hS14 [(0,0)])
 refine ae ?_
 have hk38:(((n11).toNat:Nat):Int)=n11:=Int.toNat_of_nonneg dX
 have hx41:(n11).toNat<l10.length:=by first | omega | (simp<;>omega) | (simp_all; omega)
 refine nM rfl (NX (i:=0) (k:=(n11).toNat) hS14 rfl rfl rfl rfl rfl rfl (congrArg (AV.int .i64) hk38.symm) (by simpa using hx41)) ?_
 rintro v39 ht40
 refine kM rfl (RL (i:=0) (l:=l10) (enc:=kX) (z:=(0)) hS14 rfl ht40 rfl rfl rfl rfl rfl rfl rfl rfl dX) ?_
 rintro _ H42 ⟨rfl,hS43⟩
 refine oN ?_
 refine ae ?_
 have hk44:(((n11).toNat:Nat):Int)=n11:=Int.toNat_of_nonneg dX
 have hx45:(n11).toNat<=((l10.take ((n11).toNat)++List.replicate (l10.length - ((n11).toNat)) 0)).length:=by first | omega | (simp<;>omega) | (simp_all; omega)
 refine kM rfl (vG (i:=0) (k:=(n11).toNat) hS43 rfl rfl rfl rfl rfl rfl (congrArg (AV.int .i64) hk44.symm) hx45) ?_
 rintro v46 H47 ⟨hc48,hS49⟩
 refine ag ?_
 have hS50:=Sep.pick hS49 [0,1] 2 dW dW
 exact ⟨v46,(lQ (vs:=[v46]) rfl (j8 (Sep.arg (i:=0) hS49 rfl) kK)),v46,((((l10.take ((n11).toNat)++List.replicate (l10.length - ((n11).toNat)) 0)).take ((n11).toNat))),ik,Sep.cT hS50 _,rfl⟩
def R4:kJ 172=some px:=by rfl
def adB {H:bV} (bm:Nat) (m:List (Int×Bool)) (F:List lF) (hS:Sep H (m5 bm iK bK m::F)) (q1:nc m) (q2:m.length<=1000000) (q3:∀ y∈m,oM y.1):∃ v H',kC cfg FT kJ true 172 [.hm bm] { H with cT:=[] } v H'/\(∃ ro:AV,∃ lo:List Int,(lo=mv (m.map Prod.fst))/\Sep H' (om ro lo::m5 bm iK bK m::F)/\v=ro):=by
 obtain ⟨v,H',hc,lo,hl,hS'⟩:=NH R4 hS q1 q2 q3
 exact ⟨v,H',hc,v,lo,hl,hS',rfl⟩
def ab6 (_a0:kb) (_a1:Row lq) (_a2:Row kq) (_a3:dO) (_a4:Int) (_a5:Int) (v:AV):Prop:=∃ r0:Row Int,((r0.l.length<=1000000/\xe r0.l/\∃ R,R=mY _a0.p _a2.l _a3 _a4 _a5/\∀ y,y∈r0.l↔nI _a0.line _a1.l _a2.l R R.length y/\y≠oe _a0.p _a3 _a4 _a5/\lR _a0.p y≠4))/\v=kU r0
def t100 (a0:kb) (a1:Row lq) (a2:Row kq) (a3:dO) (a4:Int) (a5:Int) (q1:mU a0.p) (q2:a2.l.length<=64) (q3:(∀ r∈(a2.l:List kq),ri r)) (q4:∀ y∈a1.l,LG y) (qn:rB a0):Ct 100 [.ip (kb.af a0) 0 false,kD a1,kx a2,.agg (dO.af a3),iv a4,iv a5] (ab6 a0 a1 a2 a3 a4 a5):=by
 refine kA Ir ?_
 refine aa ?_
 refine kM (H:=bV.empty) rfl (sa (cs:=[.ip (kb.af a0) 0 false]) lJ rfl rfl rfl rfl rfl) ?_
 rintro _ H2 ⟨b1,rfl,hS3⟩
 refine kM (H:=H2) rfl (sa (cs:=[kD a1]) hS3 rfl rfl rfl rfl rfl) ?_
 rintro _ H5 ⟨b4,rfl,hS6⟩
 refine bF ?_
 refine aa ?_
 refine kM (H:=H5) rfl (pX hS6) ?_
 rintro _ H8 ⟨b7,rfl,hS9⟩
 refine kM (H:=H8) rfl (zm hS9 rfl rfl) ?_
 rintro _ H11 ⟨b10,rfl,hS12⟩
 refine F4 0 hS12 ((.hm b7)) λH13 hS14=>?_
 refine oN ?_
 refine aa ?_
 refine iS rfl (λ_=>tn rfl rfl (tv rfl rfl)) ?_
 refine ab ?_
 refine bp ?_
 refine nB 3 hS14 (.ip (kb.af a0) 0 false) ?_
 refine aM ?_
 refine oC (t56 a0 a2 a3 a4 a5 dS dS dS) ?_
 rintro _ ⟨r16,⟨hc15,hc15r⟩,rfl⟩
 have hRo:=hc15.2.1; have hRl:=hc15.1; have hRe:=hc15.2.2
 have hL17:=r16.lk
 refine lx r16 ?_
 refine aC ?_
 have hNk18:=r16.lk
 refine ke r16.l.length (λk18 e h=>∃ l19:List (Int×Bool),∃ H20:bV,(nc l19)/\(∀ y∈(l19:List (Int×Bool)),oM y.1)/\(l19.length<=1464*k18)/\(∀ y,qA l19 y↔nI a0.line a1.l a2.l r16.l k18 y)/\Sep H20 (lE b10 [(.hm b7)]::m5 b7 iK bK l19::lE b4 [kD a1]::lE b1 [.ip (kb.af a0) 0 false]::[])/\At [2,4,5,6,9,13,14,28,29,30] [kx a2,iv a4,iv a5,(ki b1),.la 9 0,(ki b10),.ly 169 [] [(ki b10),(ki b1),(ki b4)],kU r16,ck r16.l.length,ck k18] H20 [(9,(dO.af a3))] e h) ?_ (k0:=0) d4 ⟨([]),H13,(by simp [nc]),fQ,iq,(by exact ac9),hS14,atR⟩
 rintro k18 e h hkk18 ⟨l19,H20,hNd,hRg,hLm,hKo,hS21,hA⟩
 refine aE ?_
 refine kE (λh22=>?_) (λh22=>?_)
 refine ai ?_
 refine wz [kx a2,iv a4,iv a5,(ki b1),.la 9 0,(ki b10),.ly 169 [] [(ki b10),(ki b1),(ki b4)],kU r16,ck r16.l.length,ck k18] H20 [(9,(dO.af a3))] ?_
 refine bQ ?_
 have hx23:k18<r16.l.length:=by omega
 refine mB k18 r16 hx23 ?_
 generalize hqx24:r16.l[k18]=x24
 have hinx24:x24∈r16.l:=by rw [<- hqx24]; exact List.getElem_mem _
 first | have hgx24:=(hgE x24 hinx24).oM | have hgx24:=hRo x24 hinx24
 refine bF ?_
 refine aR ?_
 have hx25:(x24).toNat<a2.l.length:=by omega
 refine iS rfl (λ_=>kW (n:=x24) (r:=a2) (enc:=kq.af) rfl rfl rfl rfl rfl d4 hx25 rfl) ?_
 generalize hqx26:a2.l[(x24).toNat]=x26
 have hinx26:x26∈a2.l:=by rw [<- hqx26]; exact List.getElem_mem _
 obtain ⟨hk1x26,hk2x26,hk3x26,hgS,hk5x26,hgE,hk7x26⟩:=q3 x26 hinx26
 refine ao ?_
 have hL27:=x26.steps.lk
 refine lx x26.steps ?_
 refine aC ?_
 have hNk28:=x26.steps.lk
 refine ke x26.steps.l.length (λk28 e h=>∃ l29:List (Int×Bool),∃ H30:bV,(nc l29)/\(∀ y∈(l29:List (Int×Bool)),oM y.1)/\(l29.length<=1464*k18+61*k28)/\(∀ y,qA l29 y↔nI a0.line a1.l a2.l r16.l k18 y\/C8 a0.line a1.l a2.l r16.l k18 k28 y)/\Sep H30 (lE b10 [(.hm b7)]::m5 b7 iK bK l29::lE b4 [kD a1]::lE b1 [.ip (kb.af a0) 0 false]::[])/\At [2,4,5,6,9,13,14,16,28,29,30,38,39,40] [kx a2,iv a4,iv a5,(ki b1),.la 9 0,(ki b10),.ly 169 [] [(ki b10),(ki b1),(ki b4)],iv x24,kU r16,ck r16.l.length,ck k18,kQ x26.steps,ck x26.steps.l.length,ck k28] H30 [(9,(dO.af a3))] e h) ?_ (k0:=0) d4 ⟨l19,H20,ic,ib,iq,(by exact Ql hKo),hS21,atR⟩
 rintro k28 e h hkk28 ⟨l29,H30,hNd,hRg,hLm,hKm,hS31,hA⟩
 refine aE ?_
 refine kE (λh32=>?_) (λh32=>?_)
 refine ai ?_
 refine wz [kx a2,iv a4,iv a5,(ki b1),.la 9 0,(ki b10),.ly 169 [] [(ki b10),(ki b1),(ki b4)],iv x24,kU r16,ck r16.l.length,ck k18,kQ x26.steps,ck x26.steps.l.length,ck k28] H30 [(9,(dO.af a3))] ?_
 refine bQ ?_
 have hx33:k28<x26.steps.l.length:=by omega
 refine mB k28 x26.steps hx33 ?_
 generalize hqx34:x26.steps.l[k28]=x34
 have hinx34:x34∈x26.steps.l:=by rw [<- hqx34]; exact List.getElem_mem _
 have hgx34:=(hgS x34 hinx34).oM
 refine bM ?_
 refine bu ?_
 have hS35:=Sep.pick hS31 [0,1,3,2] 4 dW dW
 refine lB (H:=H30) (args:=[iv x34.elem]) (p:=[]) (r:=[(ki b10),(ki b1),(ki b4)]) rfl rfl rfl rfl rfl rfl rfl (TE x34.elem b10 b7 l29 b1 a0 b4 a1 ([]) hS35 dS dS dS dS) ?_
 rintro _ H36 ⟨mo39,hc38,hS37,rfl⟩
 obtain ⟨⟨hNd,hRg,hLp⟩,hAdd⟩:=hc38
 refine oN ?_
 refine wz [kx a2,iv a4,iv a5,(ki b1),.la 9 0,(ki b10),.ly 169 [] [(ki b10),(ki b1),(ki b4)],iv x24,kU r16,ck r16.l.length,ck k18,kQ x26.steps,ck x26.steps.l.length,ck k28] H36 [(9,(dO.af a3))] ?_
 refine qg ?_
 refine kI ?_
 refine ab ?_
 have hS40:=Sep.pick hS37 [0,1,3,2] 4 dW dW
 exact ⟨by omega,mo39,H36,ic,ib,d4,(by exact S4 hKm dT dT dT hAdd),hS40,atR⟩
 refine ah ?_
 refine wz [kx a2,iv a4,iv a5,(ki b1),.la 9 0,(ki b10),.ly 169 [] [(ki b10),(ki b1),(ki b4)],iv x24,kU r16,ck r16.l.length,ck k18] H30 [(9,(dO.af a3))] ?_
 refine ae ?_
 have hx41:(x24).toNat<a2.l.length:=by omega
 refine iS rfl (λ_=>kW (n:=x24) (r:=a2) (enc:=kq.af) rfl rfl rfl rfl rfl d4 hx41 rfl) ?_
 rw [hqx26]
 refine ao ?_
 have hL43:=x26.mf.lk
 refine lx x26.mf ?_
 refine aC ?_
 have hNk44:=x26.mf.lk
 refine ke x26.mf.l.length (λk44 e h=>∃ l45:List (Int×Bool),∃ H46:bV,(nc l45)/\(∀ y∈(l45:List (Int×Bool)),oM y.1)/\(l45.length<=1464*k18+732+61*k44)/\(∀ y,qA l45 y↔nI a0.line a1.l a2.l r16.l k18 y\/CU a0.line a1.l a2.l r16.l k18 k44 y)/\Sep H46 (lE b10 [(.hm b7)]::m5 b7 iK bK l45::lE b4 [kD a1]::lE b1 [.ip (kb.af a0) 0 false]::[])/\At [2,4,5,6,9,13,14,28,29,30,53,54,55] [kx a2,iv a4,iv a5,(ki b1),.la 9 0,(ki b10),.ly 169 [] [(ki b10),(ki b1),(ki b4)],kU r16,ck r16.l.length,ck k18,kU x26.mf,ck x26.mf.l.length,ck k44] H46 [(9,(dO.af a3))] e h) ?_ (k0:=0) d4 ⟨l29,H30,ic,ib,iq,(by exact QY hKm dT dT d4),hS31,atR⟩
 rintro k44 e h hkk44 ⟨l45,H46,hNd,hRg,hLm,hKz,hS47,hA⟩
 refine aE ?_
 refine kE (λh48=>?_) (λh48=>?_)
 refine ai ?_
 refine wz [kx a2,iv a4,iv a5,(ki b1),.la 9 0,(ki b10),.ly 169 [] [(ki b10),(ki b1),(ki b4)],kU r16,ck r16.l.length,ck k18,kU x26.mf,ck x26.mf.l.length,ck k44] H46 [(9,(dO.af a3))] ?_
 refine bQ ?_
 have hx49:k44<x26.mf.l.length:=by omega
 refine mB k44 x26.mf hx49 ?_
 generalize hqx50:x26.mf.l[k44]=x50
 have hinx50:x50∈x26.mf.l:=by rw [<- hqx50]; exact List.getElem_mem _
 first | have hgx50:=(hgE x50 hinx50).oM | have hgx50:=hRo x50 hinx50
 refine bF ?_
 refine ci ?_
 have hS51:=Sep.pick hS47 [0,1,3,2] 4 dW dW
 refine lB (H:=H46) (args:=[iv x50]) (p:=[]) (r:=[(ki b10),(ki b1),(ki b4)]) rfl rfl rfl rfl rfl rfl rfl (TE x50 b10 b7 l45 b1 a0 b4 a1 ([]) hS51 dS dS dS dS) ?_
 rintro _ H52 ⟨mo55,hc54,hS53,rfl⟩
 obtain ⟨⟨hNd,hRg,hLp⟩,hAdd⟩:=hc54
 refine oN ?_
 refine wz [kx a2,iv a4,iv a5,(ki b1),.la 9 0,(ki b10),.ly 169 [] [(ki b10),(ki b1),(ki b4)],kU r16,ck r16.l.length,ck k18,kU x26.mf,ck x26.mf.l.length,ck k44] H52 [(9,(dO.af a3))] ?_
 refine qg ?_
 refine kI ?_
 refine ab ?_
 have hS56:=Sep.pick hS53 [0,1,3,2] 4 dW dW
 exact ⟨by omega,mo55,H52,ic,ib,d4,(by exact Sg hKz dT dT dT hAdd),hS56,atR⟩
 refine ah ?_
 refine wz [kx a2,iv a4,iv a5,(ki b1),.la 9 0,(ki b10),.ly 169 [] [(ki b10),(ki b1),(ki b4)],kU r16,ck r16.l.length,ck k18] H46 [(9,(dO.af a3))] ?_
 refine qg ?_
 refine kI ?_
 refine ab ?_
 exact ⟨by omega,l45,H46,ic,ib,d4,(by exact Hf hKz dT dT d4),hS47,atR⟩
 refine ah ?_
 refine wz [iv a4,iv a5,(ki b1),.la 9 0,(ki b10)] H20 [(9,(dO.af a3))] ?_
 refine aO ?_
 refine sZ 0 hS21 ((.hm b7)) ?_
 refine sZ 3 hS21 (.ip (kb.af a0) 0 false) ?_
 refine bA ?_
 refine rC (t98 a0 a3 a4 a5) ?_
 rintro _ ⟨r58,hc57,rfl⟩
 have hStn:=hc57
 refine mP (H:=H20) rfl rfl (R9 (H:=H20) (i:=1) (ek:=iK) (ev:=bK) (l:=l19) r58 hS21 rfl rfl rfl rfl rfl rfl rfl pD) ?_
 rintro _ H59 ⟨rfl,l61,hd62,hS60⟩
 have hNd0:=hNd; have hNd:=Ev hd62.1 hNd; have hRg:=Sb hd62.1 hRg; have hLd:=hd62.1.length_le; have hDel:=hd62
 refine rN ?_
 refine aa ?_
 refine nB 0 hS60 ((.hm b7)) ?_
 have hS63:=Sep.pick hS60 [1,0,2,3] 4 dW dW
 refine lB (H:=H59) (args:=[(.hm b7)]) (p:=[]) (r:=[]) rfl rfl rfl rfl rfl rfl rfl (adB b7 l61 (lE b10 [(.hm b7)]::lE b4 [kD a1]::lE b1 [.ip (kb.af a0) 0 false]::[]) hS63 dS dS dS) ?_
 rintro ro67 H64 ⟨_,lo68,hc66,hS65,rfl⟩
 have hRs:=hc66; have hRsl:=Lv hc66
 refine iS rfl (λ_=>tn rfl rfl (tv rfl rfl)) ?_
 have hS69:=Sep.pick hS65 [0,4,1,2,3] 5 dW dW
 refine lB (H:=H64) (args:=[ro67,.ly 173 [] [(ki b1)]]) (p:=[]) (r:=[]) rfl rfl rfl rfl rfl (j8 (Sep.arg (i:=0) hS65 rfl) (j8 rfl kK)) rfl (aaT ro67 lo68 b1 a0 (m5 b7 iK bK l61::lE b10 [(.hm b7)]::lE b4 [kD a1]::[]) hS69 dS) ?_
 rintro vo73 H70 ⟨_,lo74,hc72,hS71,rfl⟩
 have hDf:=hc72; have hDfl:=Rh hc72
 refine ag ?_
 obtain ⟨r75,hl76,hf77⟩:=mz (H:=H70) (i:=0) (l:=lo74) (enc:=kX) hS71 rfl dV
 have hlq:=hl76; have hln79:=congrArg List.length hl76
 have hz78:∀ ls m,freeze false { H70 with cT:=ls } (m+2) vo73=some (kU r75):=λls m=>hf77 _ _ (λ_=>rfl)
 exact ⟨vo73,(lQ (vs:=[vo73]) rfl (j8 (Sep.arg (i:=0) hS71 rfl) kK)),kU r75,(show freeze false { H70 with cT:=[(9,(dO.af a3))] } 8 vo73=some (kU r75) by simp only [FZ,hz78]),r75,(by (have hfe:=Tl hKo d4 hNd0 (hStn▸hDel) hRs hDf dT); exact ⟨by first | omega | (simp_all; omega),hfe.1,_,hRe,hfe.2⟩),rfl⟩
end Go.Sx
