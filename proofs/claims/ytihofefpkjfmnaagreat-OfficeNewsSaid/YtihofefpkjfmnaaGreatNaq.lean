/- Proves what some functions of the program answer, by walking through them. -/
import Derived.Test.YtihofefpkjfmnaaGreatNag
import Derived.Test.YtihofefpkjfmnaaGreatNaj
import Derived.Test.YtihofefpkjfmnaaGreatNal
import Derived.Test.YtihofefpkjfmnaaGreatNam
import Derived.Test.YtihofefpkjfmnaaGreatNan
import Derived.Test.YtihofefpkjfmnaaGreatNao
import Derived.Test.YtihofefpkjfmnaaGreatNap
set_option linter.all false
set_option maxRecDepth 100000
set_option maxHeartbeats 0
namespace Go.Sx
open Go Go.Proofs
def u7 {H:bV} (a0:kV) (a1:dO) (F:List lF) (hS:Sep H F) (q1:mU a0.kH) (q2:a0.roads.l.length<=64) (q3:(∀ r∈(a0.roads.l:List kq),ri r)) (q4:ug a1) (q5:a1.ko.l.length<=10) (q6n:∃ nx:kb,qo nx a0.kH/\rs 31 [.agg (bY.af a0.kH)]=.kO [.ip (kb.af nx) 0 false,iv 0]) (q7d:uG a0.kH a1) (q8c:a0.kH.canon=a0.kH):∃ v H',kC cfg FT kJ true 7 [.agg (kV.af a0),.agg (dO.af a1)] { H with cT:=[] } v H'/\((∃ e:Int,(e≠0/\y4 a0.kH a0.roads.l a1 e)/\Sep H' (F)/\v=.kO [.l3,iv e])\/(∃ b:Nat,∃ nt:kb,∃ cc:kV,∃ dd:dO,∃ vl:AV,∃ lg:List Int,∃ rd:Row Int,(mU nt.p/\cc.roads.l.length<=64/\(∀ r∈(cc.roads.l:List kq),ri r)/\(∀ r∈dd.runs.l,r.kr.l.length<=12)/\rd.l.length=lg.length/\lg.length=a1.runs.l.length/\lg.length<=8/\(∀ x∈lg,x=0)/\(∀ x∈rd.l,x = -1)/\dd.runs.l.length=lg.length/\rs 30 [.agg (kV.af a0),.agg (dO.af a1)]=iv 0/\rB nt/\nt.p=a0.kH/\cc.roads.l.map ph=a0.roads.l.map ph/\dd.runs.l.map nS=a1.runs.l.map nS/\dd.ko.l=a1.ko.l/\(∀ i:Nat,i<dd.runs.l.length->0<=oe nt.p dd i 0->lR nt.p (oe nt.p dd i 0)≠0)/\y4 a0.kH a0.roads.l a1 0)/\Sep H' (lE b (pk nt cc dd vl (kU rd) iN iN)::om vl lg::F)/\v=.kO [(ki b),iv 0])):=by
 refine lK SC ?_
 have q6:=q4.1
 have q6m:=q6n
 obtain ⟨nx,hnk,hnx⟩:=q6n
 have hNe:=hnk; have hNr:=hnx; have hFw:=hnk.Dm; have hFs:=hnk.Dm.signals; have hFl:=hnk.len; have hRg:=hnk.rg; have hNs:=hnk.self; have hrp:nx.p=a0.kH:=hnk.kH.trans q8c
 refine aa ?_
 refine cG ?_
 refine aR ?_
 refine oC (t30 a0 a1 dS dS dS) ?_
 rintro _ ⟨r2,⟨hc1,hc1r⟩,rfl⟩
 have hCkr:=hc1r; have hCK:=hc1.2
 refine aN ?_
 refine mg (λh3=>?_) (λh3=>?_)
 refine aG ?_
 have hS4:=Sep.pick hS [] 0 dW dW
 exact ⟨.kO [.l3,iv r2],rfl,.inl ⟨r2,gr,Sep.cT hS4 _,rfl⟩⟩
 refine au ?_
 refine wz [.la 2 0,.la 3 0] H [(2,(kV.af a0)),(3,(dO.af a1))] ?_
 refine ae ?_
 refine oC (SE a0.kH dS hnx) ?_
 rintro _ rfl
 refine cP ?_
 refine ap ?_
 refine wz [.la 2 0,.la 3 0,.ip (kb.af nx) 0 false] H [(2,(kV.af a0)),(3,(dO.af a1))] ?_
 refine bZ ?_
 refine rC (t32 a0 dS dS) ?_
 rintro _ ⟨r7,hc6,rfl⟩
 have hCpL:=hc6.2.1; have hCpR:=hc6.2.2.1; have hCpM:=hc6.2.2.2
 refine rV ?_
 refine rC (t33 a1 dS dS) ?_
 rintro _ ⟨r9,hc8,rfl⟩
 have hCdl:=hc8.1.1; have hCdL:=hc8.1.2; have hCdN:=hc8.2.1; have hCdS:=hc8.2.2; have hCdn:=congrArg List.length hCdN; simp only [List.length_map] at hCdn
 refine rV ?_
 refine mP rfl rfl (sa (cs:=(pk nx r7 r9 iN iN iN iN)) hS rfl rfl rfl rfl rfl) ?_
 rintro _ H11 ⟨b10,rfl,hS12⟩
 refine aP ?_
 refine aI ?_
 have hL13:=a1.runs.lk
 refine lx a1.runs ?_
 refine kM rfl (tW (m:=a1.runs.l.length) hS12 rfl rfl rfl rfl rfl dX dW) ?_
 rintro v14 H15 hS16
 have hS18:=Sep.CP (enc:=kX) (z:=(0)) hS16 rfl
 refine iS rfl (λ_=>rl (i:=1) hS18 rfl rfl) ?_
 refine iS rfl (λ_=>qH (i:=1) hS18 rfl rfl rfl rfl rfl) ?_
 refine kM rfl (nZ (i:=1) (o:=14) (r:=v14) hS18 rfl rfl rfl rfl (nG rfl rfl (Sep.cell (i:=0) hS18 rfl)) (j8 (Sep.cell (i:=0) hS18 rfl) kK) rfl) ?_
 rintro _ H19 ⟨rfl,hS20⟩
 refine oN ?_
 refine bJ ?_
 have hL21:=a1.runs.lk
 refine lx a1.runs ?_
 refine oC (t34 a1.runs.l.length dS) ?_
 rintro _ ⟨r23,hc22,rfl⟩
 have hRp:=hc22
 refine iS rfl (λ_=>rl (i:=1) hS20 rfl rfl) ?_
 refine iS rfl (λ_=>qH (i:=1) hS20 rfl rfl rfl rfl rfl) ?_
 refine kM rfl (nZ (i:=1) (o:=15) (r:=kU r23) hS20 rfl rfl rfl rfl rfl rfl rfl) ?_
 rintro _ H24 ⟨rfl,hS25⟩
 refine oN ?_
 refine am ?_
 refine nd hS25 0 λr26 hl27 hln30 hz29=>?_
 have hz31:∀ m,freeze true { H24 with cT:=[] } (m+4) (ki b10)=some (.ip (pk nx r7 r9 (lG r26) (kU r23) iN iN) 0 true):=λm=>oA (i:=1) hS25 rfl [] _ (by simp only [FZ,hz29]; try rfl)
 have hr6:r26.l.length<=8:=by rw [hl27,List.length_replicate]; omega
 have hr5:(Row.mi r23).l.length=r26.l.length:=(congrArg List.length hRp).trans (by rw [hl27,List.length_replicate,List.length_replicate])
 have hr7:∀ x∈r26.l,x=0:=by rw [hl27]; exact λx hx=>(List.mem_replicate.mp hx).2
 have hr8:∀ x∈(Row.mi r23).l,x = -1:=λx hx=>(List.mem_replicate.mp ((hRp▸(show x∈r23.l from hx):x∈List.replicate _ _))).2
 have hr9:r26.l.length=r9.runs.l.length:=by rw [hl27,List.length_replicate]; omega
 have hOs:∀ i:Nat,i<r9.runs.l.length->0<=oe nx.p r9 i 0->lR nx.p (oe nx.p r9 i 0)≠0:=λi _=>Nz (hrp▸hnk.x.kd) (hrp▸hnk.Ur)
 refine ns (args:=[(ki b10)]) (p:=[]) (r:=[]) (args':=[.ip (pk nx r7 r9 (lG r26) (kU r23) iN iN) 0 true]) (R:=Q6 nx r7 r9 r26 (Row.mi r23) (⟨[],.nil,Nat.zero_le _,λ_=>rfl⟩:ka Int) (⟨[],.nil,Nat.zero_le _,λ_=>rfl⟩:ka Int)) rfl rfl rfl rfl rfl rfl rfl fh (lj (by show kP (freeze true { H24 with cT:=[] } 8) [(ki b10)] = _; simp only [FZ,hz29,hz31]) (j8 rfl kK)) (lj e9 (j8 rfl kK)) (λh=>t15 nx r7 r9 r26 (Row.mi r23) (⟨[],.nil,Nat.zero_le _,λ_=>rfl⟩:ka Int) (⟨[],.nil,Nat.zero_le _,λ_=>rfl⟩:ka Int) dS dS dS dS dS dS dS dS dS dS dS h) ?_
 rintro _ ⟨r33,⟨hc32,hc32r⟩,rfl⟩
 have hClL:=hc32.1.1; have hClR:=hc32.2; have hAt4:=hc32.2.NW hnk.Zl
 refine oC (t35 (Row.mi r33) dS dS) ?_
 rintro _ ⟨r35,hc34,rfl⟩
 have hSafe:=hc34
 cases r35
 refine cA ?_
 have hS36:=Sep.pick hS25 [] 2 dW dW
 exact ⟨.kO [.l3,iv 19],rfl,.inl ⟨19,gr,Sep.cT hS36 _,rfl⟩⟩
 refine ap ?_
 refine wz [(ki b10)] H24 [] ?_
 refine aF ?_
 have hS37:=Sep.pick hS25 [1,0] 2 dW dW
 exact ⟨.kO [(ki b10),iv 0],rfl,.inr (⟨b10,nx,r7,r9,v14,(List.replicate a1.runs.l.length ((0):Int)),r23,(by exact ⟨hFw,by omega,hCpR,hCdL,by rw [hRp]; simp,by simp,by simp<;>omega,by simp,by rw [hRp]; simp,by simp; omega,hCkr.trans (congrArg (AV.int .i64) d4),hNs,hrp,hCpM,hCdN,hCdS,hOs,L2 (hCK q7d) dT hrp hCdN hCdS hCpM hClR fg hSafe rfl⟩),Sep.cT hS37 _,rfl⟩)⟩
def P85 (_a0:bY) (_a1:Int) (v:AV):Prop:=∃ r0:j7,∃ r1:Bool,((((r1=true->pe _a0.signals.l _a1=some r0)/\(r1=false->pe _a0.signals.l _a1=none))/\(r1=false->r0=⟨0,0⟩)))/\v=.kO [.agg (j7.af r0),.bool r1]
def t85 (a0:bY) (a1:Int) :Ct 85 [.agg (bY.af a0),iv a1] (P85 a0 a1):=by
 refine kA MA ?_
 refine ae ?_
 refine ak ?_
 refine kE (λh1=>?_) (λh1=>?_)
 refine b5 ?_
 refine cB ?_
 exact iH
 refine aM ?_
 have hL2:=a0.signals.lk
 refine lx a0.signals ?_
 refine mW (λh3=>?_) (λh3=>?_)
 refine cB ?_
 exact iH
 refine ap ?_
 refine aI ?_
 have hx4:(a1).toNat<a0.signals.l.length:=by omega
 refine iS rfl (λ_=>kW (n:=a1) (r:=a0.signals) (enc:=lY.af) rfl rfl rfl rfl rfl d4 hx4 rfl) ?_
 generalize hqx5:a0.signals.l[(a1).toNat]=x5
 refine bU ?_
 exact xG ⟨x5.at_,true,eN,rfl⟩
def P36 (_a0:bY) (_a1:dO) (_a2:Int) (v:AV):Prop:=∃ r0:mA,∃ r1:Bool,((0<=_a2->_a2<(_a1.runs.l.length:Int)->r0=nC _a0 _a1 _a2.toNat))/\v=.kO [.agg (mA.af r0),.bool r1]
def t36 (a0:bY) (a1:dO) (a2:Int) :Ct 36 [.agg (bY.af a0),.agg (dO.af a1),iv a2] (P36 a0 a1 a2):=by
 refine kA OY ?_
 refine aI ?_
 refine ak ?_
 refine kE (λh1=>?_) (λh1=>?_)
 refine b5 ?_
 refine cB ?_
 exact jG
 refine aM ?_
 have hL2:=a1.runs.lk
 refine lx a1.runs ?_
 refine mW (λh3=>?_) (λh3=>?_)
 refine cB ?_
 exact jG
 refine ap ?_
 refine aI ?_
 have hx4:(a2).toNat<a1.runs.l.length:=by omega
 refine iS rfl (λ_=>kW (n:=a2) (r:=a1.runs) (enc:=kS.af) rfl rfl rfl rfl rfl d4 hx4 rfl) ?_
 generalize hqx5:a1.runs.l[(a2).toNat]=x5
 refine bM ?_
 refine aI ?_
 refine oC (t85 a0 x5.from_) ?_
 rintro _ ⟨r7,r8,hc6,rfl⟩
 have hA:=hc6.1; have hA0:=hc6.2
 cases r8
 refine bB ?_
 refine aM ?_
 refine dg ?_
 refine cq ?_
 refine oC (t38 a0 r7.elem) ?_
 rintro _ ⟨r10,hc9,rfl⟩
 have hK:=hc9
 refine kZ (λh11=>?_) (λh11=>?_)
 refine aX ?_
 exact jH
 refine cz ?_
 exact jI
 refine bB ?_
 refine aM ?_
 refine dg ?_
 refine cq ?_
 refine oC (t38 a0 r7.elem) ?_
 rintro _ ⟨r13,hc12,rfl⟩
 have hK:=hc12
 refine kZ (λh14=>?_) (λh14=>?_)
 refine aX ?_
 exact jH
 refine cz ?_
 exact jI
def P37 (_a0:bY) (_a1:Int) (_a2:mA) (v:AV):Prop:=∃ r0:nh,∃ r1:Int,(r1=sB _a0 _a1 _a2)/\v=.kO [.agg (nh.af r0),iv r1]
def t37 (a0:bY) (a1:Int) (a2:mA) (q9:∀ e,lR a0 e=4->tu a0 e=0):Ct 37 [.agg (bY.af a0),iv a1,.agg (mA.af a2)] (P37 a0 a1 a2):=by
 refine kA MQ ?_
 refine aa ?_
 refine cG ?_
 refine bJ ?_
 refine oC (t38 a0 a2.at_.elem) ?_
 rintro _ ⟨r2,hc1,rfl⟩
 have hK:=hc1
 refine ab ?_
 refine qs ?_
 refine cM ?_
 refine si (λh3=>?_) (λh3=>?_)
 refine rV ?_
 iterate 2 refine rS ?_
 refine cU ?_
 refine c9 ?_
 refine cU ?_
 refine ce ?_
 refine aF ?_
 exact jJ
 refine aK ?_
 refine adC (λh4=>?_) (λh4=>?_)
 refine cU ?_
 refine c9 ?_
 refine cU ?_
 refine ce ?_
 refine aF ?_
 exact jJ
 refine bA ?_
 refine w5 (λh5=>?_) (λh5=>?_)
 refine aK ?_
 refine w5 (λh6=>?_) (λh6=>?_)
 refine rV ?_
 refine c9 ?_
 refine cU ?_
 refine ce ?_
 refine aF ?_
 exact jJ
 refine cH ?_
 refine si (λh7=>?_) (λh7=>?_)
 refine cU ?_
 refine ce ?_
 refine aF ?_
 exact jJ
 refine cH ?_
 refine rC (t86 r2) ?_
 rintro _ ⟨r9,hc8,rfl⟩
 refine xa (λh10=>?_) (λh10=>?_)
 refine ce ?_
 refine aF ?_
 exact jJ
 refine bz ?_
 refine cq ?_
 refine oC (t87 a0 a2.at_) ?_
 rintro _ ⟨r12,hc11,rfl⟩
 have hR:=hc11
 refine kE (λh13=>?_) (λh13=>?_)
 refine aG ?_
 exact jK
 refine au ?_
 refine bJ ?_
 refine oC (t88 a0 a2.at_.elem) ?_
 rintro _ ⟨r15,hc14,rfl⟩
 have hLen:=hc14
 refine ab ?_
 refine aR ?_
 refine kE (λh16=>?_) (λh16=>?_)
 refine bk ?_
 refine cB ?_
 exact jJ
 refine aM ?_
 refine mc (λh17=>?_) (λh17=>?_)
 refine cB ?_
 exact jJ
 refine ap ?_
 refine am ?_
 refine kZ (λh18=>?_) (λh18=>?_)
 refine ay ?_
 refine ae ?_
 refine bU ?_
 exact jL
 refine au ?_
 refine cq ?_
 refine a6 ?_
 refine mc (λh19=>?_) (λh19=>?_)
 refine aG ?_
 exact jM
 refine au ?_
 refine bJ ?_
 refine bU ?_
 exact jN
 refine rV ?_
 iterate 2 refine rS ?_
 refine cH ?_
 refine si (λh20=>?_) (λh20=>?_)
 refine cU ?_
 refine ce ?_
 refine aF ?_
 exact jJ
 refine cH ?_
 refine rC (t86 r2) ?_
 rintro _ ⟨r22,hc21,rfl⟩
 refine xa (λh23=>?_) (λh23=>?_)
 refine ce ?_
 refine aF ?_
 exact jJ
 refine bz ?_
 refine cq ?_
 refine oC (t87 a0 a2.at_) ?_
 rintro _ ⟨r25,hc24,rfl⟩
 have hR:=hc24
 refine kE (λh26=>?_) (λh26=>?_)
 refine aG ?_
 exact jK
 refine au ?_
 refine bJ ?_
 refine oC (t88 a0 a2.at_.elem) ?_
 rintro _ ⟨r28,hc27,rfl⟩
 have hLen:=hc27
 refine ab ?_
 refine aR ?_
 refine kE (λh29=>?_) (λh29=>?_)
 refine bk ?_
 refine cB ?_
 exact jJ
 refine aM ?_
 refine mc (λh30=>?_) (λh30=>?_)
 refine cB ?_
 exact jJ
 refine ap ?_
 refine am ?_
 refine kZ (λh31=>?_) (λh31=>?_)
 refine ay ?_
 refine ae ?_
 refine bU ?_
 exact jL
 refine au ?_
 refine cq ?_
 refine a6 ?_
 refine mc (λh32=>?_) (λh32=>?_)
 refine aG ?_
 exact jM
 refine au ?_
 refine bJ ?_
 refine bU ?_
 exact jN
def aag (_a0:bY) (_a1:dO) (_a2:Int) (_a3:Int) (v:AV):Prop:=∃ r0:j7,∃ r1:Bool,(((r1=true->0<=_a2/\_a2<(_a1.runs.l.length:Int)/\0<=_a3)/\(r1=true->mT true (pe _a0.signals.l) (np _a0.kB.l) _a1 _a2 _a3=some r0)/\(r1=false->mT true (pe _a0.signals.l) (np _a0.kB.l) _a1 _a2 _a3=none)))/\v=.kO [.agg (j7.af r0),.bool r1]
def t166 (a0:bY) (a1:dO) (a2:Int) (a3:Int) :Ct 166 [.agg (bY.af a0),.agg (dO.af a1),iv a2,iv a3] (aag a0 a1 a2 a3):=by
 refine kA HK ?_
 refine aI ?_
 refine ak ?_
 refine kE (λh1=>?_) (λh1=>?_)
 refine b5 ?_
 refine bb ?_
 refine bN ?_
 refine cB ?_
 exact ji
 refine aM ?_
 have hL2:=a1.runs.lk
 refine lx a1.runs ?_
 refine mW (λh3=>?_) (λh3=>?_)
 refine bb ?_
 refine bN ?_
 refine cB ?_
 exact ji
 refine aD ?_
 refine kE (λh4=>?_) (λh4=>?_)
 refine bN ?_
 refine cB ?_
 exact ji
 refine c7 ?_
 have hx5:(a2).toNat<a1.runs.l.length:=by omega
 refine iS rfl (λ_=>kW (n:=a2) (r:=a1.runs) (enc:=kS.af) rfl rfl rfl rfl rfl d4 hx5 rfl) ?_
 generalize hqx6:a1.runs.l[(a2).toNat]=x6
 refine ao ?_
 have hL7:=x6.kr.lk
 refine lx x6.kr ?_
 refine mc (λh8=>?_) (λh8=>?_)
 refine cB ?_
 exact ji
 refine ap ?_
 refine aI ?_
 have hx9:(a2).toNat<a1.runs.l.length:=by omega
 refine iS rfl (λ_=>kW (n:=a2) (r:=a1.runs) (enc:=kS.af) rfl rfl rfl rfl rfl d4 hx9 rfl) ?_
 rw [hqx6]
 refine ao ?_
 refine ak ?_
 refine kZ (λh11=>?_) (λh11=>?_)
 refine ay ?_
 refine aI ?_
 refine oC (t85 a0 x6.from_) ?_
 rintro _ ⟨r13,r14,hc12,rfl⟩
 have hA:=hc12.1; have hA0:=hc12.2
 cases r14
 refine bU ?_
 exact xG ⟨r13,false,ee,rfl⟩
 refine bU ?_
 exact xG ⟨r13,true,ee,rfl⟩
 refine au ?_
 refine aI ?_
 refine pW ?_
 have hx15:(a3 - 1).toNat<x6.kr.l.length:=by omega
 refine iS rfl (λ_=>kW (n:=a3 - 1) (r:=x6.kr) (enc:=lD.af) rfl rfl rfl rfl rfl d4 hx15 rfl) ?_
 generalize hqx16:x6.kr.l[(a3 - 1).toNat]=x16
 refine bM ?_
 refine aR ?_
 refine dh ?_
 refine kZ (λh17=>?_) (λh17=>?_)
 refine dH ?_
 refine oC (t85 a0 x16.to) ?_
 rintro _ ⟨r19,r20,hc18,rfl⟩
 have hA:=hc18.1; have hA0:=hc18.2
 cases r20
 refine bU ?_
 exact xG ⟨r19,false,ee,rfl⟩
 refine bU ?_
 exact xG ⟨r19,true,ee,rfl⟩
 refine be ?_
 refine kZ (λh21=>?_) (λh21=>?_)
 refine ba ?_
 refine bJ ?_
 refine oC (t206 a0 (⟨x16.to,0⟩:j7)) ?_
 rintro _ ⟨r23,r24,hc22,rfl⟩
 have hN:=hc22
 cases r24
 refine bB ?_
 refine aD ?_
 refine oC (t206 a0 (⟨x16.to,1⟩:j7)) ?_
 rintro _ ⟨r26,r27,hc25,rfl⟩
 have hN:=hc25
 cases r27
 refine bO ?_
 refine bj ?_
 refine ap ?_
 refine bp ?_
 refine bb ?_
 refine ap ?_
 refine aj ?_
 refine bU ?_
 exact xG ⟨(⟨x16.to,(-1)⟩:j7),true,ee,rfl⟩
 refine bO ?_
 refine bj ?_
 refine ap ?_
 refine qs ?_
 refine bJ ?_
 refine dH ?_
 refine bd ?_
 exact xG ⟨(⟨x16.to,0⟩:j7),true,ee,rfl⟩
 refine bB ?_
 refine aD ?_
 refine oC (t206 a0 (⟨x16.to,1⟩:j7)) ?_
 rintro _ ⟨r29,r30,hc28,rfl⟩
 have hN:=hc28
 cases r30
 refine bO ?_
 refine aD ?_
 refine dH ?_
 refine bd ?_
 exact xG ⟨(⟨x16.to,1⟩:j7),true,ee,rfl⟩
 refine bO ?_
 refine ao ?_
 refine cf ?_
 refine cq ?_
 refine cf ?_
 refine aj ?_
 refine bU ?_
 exact xG ⟨(⟨x16.to,(-1)⟩:j7),true,ee,rfl⟩
 refine oV ?_
 refine cz ?_
 exact ji
def P90 (_a0:bY) (_a1:dO) (_a2:Int) (_a3:Int) (v:AV):Prop:=∃ r0:Int,(((0<=r0->0<=_a2/\_a2<(_a1.runs.l.length:Int)/\0<=_a3/\∀ h : _a2.toNat < _a1.runs.l.length,_a3<((_a1.runs.l[_a2.toNat]).kr.l.length:Int))/\r0=oQ true (pe _a0.signals.l) (np _a0.kB.l) (lR _a0) (λx=>(pZ _a0.signals.l x).getD (-1)) _a1 _a2 _a3))/\v=iv r0
def t90 (a0:bY) (a1:dO) (a2:Int) (a3:Int) :Ct 90 [.agg (bY.af a0),.agg (dO.af a1),iv a2,iv a3] (P90 a0 a1 a2 a3):=by
 refine kA NR ?_
 refine cy ?_
 refine bJ ?_
 refine oC (t166 a0 a1 a2 a3) ?_
 rintro _ ⟨r2,r3,hc1,rfl⟩
 have hG:=hc1
 cases r3
 refine bO ?_
 refine bN ?_
 refine dj ?_
 refine aq ?_
 exact j3
 have hG1:=hG.1 rfl
 refine bO ?_
 refine c7 ?_
 have hx4:(a2).toNat<a1.runs.l.length:=by omega
 refine iS rfl (λ_=>kW (n:=a2) (r:=a1.runs) (enc:=kS.af) rfl rfl rfl rfl rfl d4 hx4 rfl) ?_
 generalize hqx5:a1.runs.l[(a2).toNat]=x5
 refine ao ?_
 have hL6:=x5.kr.lk
 refine lx x5.kr ?_
 refine mW (λh7=>?_) (λh7=>?_)
 refine dj ?_
 refine aq ?_
 exact j3
 refine aM ?_
 refine kE (λh8=>?_) (λh8=>?_)
 refine aq ?_
 exact j3
 refine ap ?_
 refine cq ?_
 have hx9:(a2).toNat<a1.runs.l.length:=by omega
 refine iS rfl (λ_=>kW (n:=a2) (r:=a1.runs) (enc:=kS.af) rfl rfl rfl rfl rfl d4 hx9 rfl) ?_
 rw [hqx5]
 refine aD ?_
 have hx11:(a3).toNat<x5.kr.l.length:=by omega
 refine iS rfl (λ_=>kW (n:=a3) (r:=x5.kr) (enc:=lD.af) rfl rfl rfl rfl rfl d4 hx11 rfl) ?_
 generalize hqx12:x5.kr.l[(a3).toNat]=x12
 refine oV ?_
 refine mh (b:=x12.Bo) rfl (λ_=>rfl) (λh13=>?_) (λh13=>?_)
 refine ay ?_
 refine cq ?_
 refine oC (t38 a0 r2.elem) ?_
 rintro _ ⟨r15,hc14,rfl⟩
 have hK:=hc14
 refine mg (λh16=>?_) (λh16=>?_)
 refine aZ ?_
 exact j3
 refine au ?_
 refine ci ?_
 refine iS rfl (λ_=>ml rfl rfl rfl (rW .i64 1 r2.en)) ?_
 refine oV ?_
 refine bi ?_
 refine oC (t87 a0 (⟨r2.elem,(IntKind.i64.wrap (1 - r2.en))⟩:j7)) ?_
 rintro _ ⟨r18,hc17,rfl⟩
 have hR:=hc17
 refine ag ?_
 exact xB ⟨r18,ew,rfl⟩
 refine dG ?_
 refine oC (t87 a0 r2) ?_
 rintro _ ⟨r20,hc19,rfl⟩
 have hR:=hc19
 refine ag ?_
 exact xB ⟨r20,ew,rfl⟩
def P91 (_a0:bY) (_a1:dO) (_a2:Int) (_a3:Int) (v:AV):Prop:=∃ r0:Int,(r0=uO (sk _a0.signals.l) _a1 _a2 _a3)/\v=iv r0
def t91 (a0:bY) (a1:dO) (a2:Int) (a3:Int) :Ct 91 [.agg (bY.af a0),.agg (dO.af a1),iv a2,iv a3] (P91 a0 a1 a2 a3):=by
 refine kA NC ?_
 refine cy ?_
 refine bJ ?_
 refine oC (t166 a0 a1 a2 a3) ?_
 rintro _ ⟨r2,r3,hc1,rfl⟩
 have hG:=hc1
 cases r3
 refine bO ?_
 refine aq ?_
 exact xB ⟨(-1),ij,rfl⟩
 have hG1:=hG.1 rfl
 refine bO ?_
 refine oV ?_
 refine cz ?_
 exact xB ⟨r2.elem,ij,rfl⟩
def P92 (_a0:bY) (_a1:kR) (_a2:Int) (v:AV):Prop:=∃ r0:Bool,(r0=wC _a0 _a1 _a2)/\v=.bool r0
def t92 (a0:bY) (a1:kR) (a2:Int) :Ct 92 [.agg (bY.af a0),.agg (kR.af a1),iv a2] (P92 a0 a1 a2):=by
 refine kA MU ?_
 refine cy ?_
 refine aR ?_
 refine oC (t38 a0 a2) ?_
 rintro _ ⟨r2,hc1,rfl⟩
 have hK:=hc1
 refine dh ?_
 refine kZ (λh3=>?_) (λh3=>?_)
 refine ba ?_
 refine bZ ?_
 refine rC (t88 a0 a2) ?_
 rintro _ ⟨r5,hc4,rfl⟩
 have hLen:=hc4
 refine cW ?_
 refine kG rfl rfl (λ_=>ml rfl rfl rfl (uv .i64 a1.len a0.lN)) ?_
 refine xa (λh6=>?_) (λh6=>?_)
 refine aP ?_
 refine qr ?_
 exact xB ⟨true,iD,rfl⟩
 refine aP ?_
 refine qr ?_
 exact xB ⟨false,iD,rfl⟩
 refine be ?_
 refine kZ (λh7=>?_) (λh7=>?_)
 refine aq ?_
 exact xB ⟨true,iD,rfl⟩
 refine ap ?_
 refine aU ?_
 exact xB ⟨false,iD,rfl⟩
def P40 (_a0:bY) (_a1:Row kq) (_a2:dO) (_a3:Int) (_a4:Int) (v:AV):Prop:=∃ r0:Row Int,((r0.l.length<=_a1.l.length/\r0.l=mY _a0 _a1.l _a2 _a3 _a4))/\v=kU r0
def t40 (a0:bY) (a1:Row kq) (a2:dO) (a3:Int) (a4:Int) (q1:(∀ r∈a1.l,0<r.steps.l.length)) (q2:a1.l.length<=64) (q3:∀ r∈a2.runs.l,0<=r.ko/\r.ko<(a2.ko.l.length:Int)):Ct 40 [.agg (bY.af a0),kx a1,.agg (dO.af a2),iv a3,iv a4] (P40 a0 a1 a2 a3 a4):=by
 refine kA Mp ?_
 refine cy ?_
 refine bJ ?_
 refine oC (t90 a0 a2 a3 a4) ?_
 rintro _ ⟨r2,hc1,rfl⟩
 have hC22:=hc1.1; have hF:=hc1.2
 refine ak ?_
 refine kE (λh3=>?_) (λh3=>?_)
 refine aZ ?_
 exact xG ⟨(mu:Row Int),gJ,rfl⟩
 refine au ?_
 refine aI ?_
 have hx4:(a3).toNat<a2.runs.l.length:=by omega
 refine iS rfl (λ_=>kW (n:=a3) (r:=a2.runs) (enc:=kS.af) rfl rfl rfl rfl rfl d4 hx4 rfl) ?_
 generalize hqx5:a2.runs.l[(a3).toNat]=x5
 have hinx5:x5∈a2.runs.l:=by rw [<- hqx5]; exact List.getElem_mem _
 have hsx5:=q3 x5 hinx5; have hlx5:=(hC22 d4).2.2.2 dT; rw [hqx5] at hlx5
 refine aD ?_
 have hx6:(a4).toNat<x5.kr.l.length:=by omega
 refine iS rfl (λ_=>kW (n:=a4) (r:=x5.kr) (enc:=lD.af) rfl rfl rfl rfl rfl d4 hx6 rfl) ?_
 generalize hqx7:x5.kr.l[(a4).toNat]=x7
 refine bM ?_
 refine aY ?_
 have hL8:=a1.lk
 refine lx a1 ?_
 refine aC ?_
 have hS9:=Sep.m3 lJ 1
 have hNk10:=a1.lk
 refine ke a1.l.length (λk10 e h=>∃ v11:AV,∃ l12:List Int,∃ H13:bV,(l12.length<=0+k10)/\(l12=qW (p3 a0 a2 a3 a4) 0 (a1.l.take k10))/\Sep H13 (om v11 l12::[])/\At [3,4,5,7,11,12,13,33,34,35] [iv a3,iv a4,.la 5 0,.la 7 0,iv r2,.la 12 0,v11,kx a1,ck a1.l.length,ck k10] H13 [(5,(bY.af a0)),(7,(dO.af a2)),(12,(lD.af x7))] e h) ?_ (k0:=0) d4 ⟨iN,(([]:List Int)),bV.empty,eR,iy,hS9,atR⟩
 rintro k10 e h hkk10 ⟨v11,l12,H13,hl15,hX,hS14,hA⟩
 refine aE ?_
 refine kE (λh16=>?_) (λh16=>?_)
 refine ai ?_
 refine wz [iv a3,iv a4,.la 5 0,.la 7 0,iv r2,.la 12 0,v11,kx a1,ck a1.l.length,ck k10] H13 [(5,(bY.af a0)),(7,(dO.af a2)),(12,(lD.af x7))] ?_ (kF hS14 [(13,0)])
 refine cw ?_
 have hx17:k10<a1.l.length:=by omega
 refine mB k10 a1 hx17 ?_
 generalize hqx18:a1.l[k10]=x18
 have hinx18:x18∈a1.l:=by rw [<- hqx18]; exact List.getElem_mem _
 have hsx18:=q1 x18 hinx18
 refine cG ?_
 refine bJ ?_
 have hL19:=x18.steps.lk
 refine lx x18.steps ?_
 have hL20:=x18.steps.lk
 refine pW ?_
 have hx21:((x18.steps.l.length:Int) - 1).toNat<x18.steps.l.length:=by omega
 refine iS rfl (λ_=>kW (n:=(x18.steps.l.length:Int) - 1) (r:=x18.steps) (enc:=kL.af) rfl rfl rfl rfl rfl d4 hx21 rfl) ?_
 generalize hqx22:x18.steps.l[((x18.steps.l.length:Int) - 1).toNat]=x22
 refine bM ?_
 refine cq ?_
 refine mg (λh23=>?_) (λh23=>?_)
 refine b5 ?_
 refine oV ?_
 refine dF ?_
 refine bN ?_
 refine bb ?_
 refine cZ ?_
 refine wz [iv a3,iv a4,.la 5 0,.la 7 0,iv r2,.la 12 0,v11,kx a1,ck a1.l.length,ck k10] H13 [(5,(bY.af a0)),(7,(dO.af a2)),(12,(lD.af x7))] ?_ (kF hS14 [(13,0)])
 refine qg ?_
 refine kI ?_
 refine ab ?_
 exact jO
 refine aQ ?_
 refine mg (λh24=>?_) (λh24=>?_)
 refine oV ?_
 refine dF ?_
 refine bN ?_
 refine bb ?_
 refine cZ ?_
 refine wz [iv a3,iv a4,.la 5 0,.la 7 0,iv r2,.la 12 0,v11,kx a1,ck a1.l.length,ck k10] H13 [(5,(bY.af a0)),(7,(dO.af a2)),(12,(lD.af x7))] ?_ (kF hS14 [(13,0)])
 refine qg ?_
 refine kI ?_
 refine ab ?_
 exact jO
 refine aM ?_
 refine kZ (λh25=>?_) (λh25=>?_)
 refine aQ ?_
 refine mg (λh26=>?_) (λh26=>?_)
 refine oV ?_
 refine bN ?_
 refine bb ?_
 refine cZ ?_
 refine wz [iv a3,iv a4,.la 5 0,.la 7 0,iv r2,.la 12 0,v11,kx a1,ck a1.l.length,ck k10] H13 [(5,(bY.af a0)),(7,(dO.af a2)),(12,(lD.af x7))] ?_ (kF hS14 [(13,0)])
 refine qg ?_
 refine kI ?_
 refine ab ?_
 exact jO
 refine aQ ?_
 refine mg (λh27=>?_) (λh27=>?_)
 refine aM ?_
 refine mg (λh28=>?_) (λh28=>?_)
 refine oV ?_
 refine bb ?_
 refine cZ ?_
 refine wz [iv a3,iv a4,.la 5 0,.la 7 0,iv r2,.la 12 0,v11,kx a1,ck a1.l.length,ck k10] H13 [(5,(bY.af a0)),(7,(dO.af a2)),(12,(lD.af x7))] ?_ (kF hS14 [(13,0)])
 refine qg ?_
 refine kI ?_
 refine ab ?_
 exact jO
 refine aM ?_
 refine mh (b:=x18.bare) rfl (λ_=>rfl) (λh29=>?_) (λh29=>?_)
 refine cZ ?_
 refine wz [iv a3,iv a4,.la 5 0,.la 7 0,iv r2,.la 12 0,v11,kx a1,ck a1.l.length,ck k10] H13 [(5,(bY.af a0)),(7,(dO.af a2)),(12,(lD.af x7))] ?_ (kF hS14 [(13,0)])
 refine qg ?_
 refine kI ?_
 refine ab ?_
 exact jO
 refine ap ?_
 refine wz [iv a3,iv a4,.la 5 0,.la 7 0,iv r2,.la 12 0,v11,ck k10,.la 15 0,iv x22.elem,kx a1,ck a1.l.length,ck k10] H13 [(5,(bY.af a0)),(7,(dO.af a2)),(12,(lD.af x7)),(15,(kq.af x18))] ?_ (kF hS14 [(13,0)])
 refine c3 ?_
 rintro _ ⟨r31,hc30,rfl⟩
 have hStn:=hc30
 refine rC (t39 (Row.mi x18.mf) r31) ?_
 rintro _ ⟨r33,hc32,rfl⟩
 have hIn:=hc32
 cases r33
 refine dN ?_
 have hx34:(a3).toNat<a2.runs.l.length:=by omega
 refine kG rfl rfl (λ_=>kW (n:=a3) (r:=a2.runs) (enc:=kS.af) rfl rfl rfl rfl rfl d4 hx34 rfl) ?_
 rw [hqx5]
 refine aK ?_
 have hx36:(x5.ko).toNat<a2.ko.l.length:=by omega
 refine kG rfl rfl (λ_=>kW (n:=x5.ko) (r:=a2.ko) (enc:=kR.af) rfl rfl rfl rfl rfl d4 hx36 rfl) ?_
 generalize hqx37:a2.ko.l[(x5.ko).toNat]=x37
 refine aK ?_
 refine rC (t92 a0 x37 x22.elem) ?_
 rintro _ ⟨r39,hc38,rfl⟩
 have hFt:=hc38
 cases r39
 refine bz ?_
 refine wz [iv a3,iv a4,.la 5 0,.la 7 0,iv r2,.la 12 0,v11,kx a1,ck a1.l.length,ck k10] H13 [(5,(bY.af a0)),(7,(dO.af a2)),(12,(lD.af x7))] ?_ (kF hS14 [(13,0)])
 refine qg ?_
 refine kI ?_
 refine ab ?_
 exact jO
 refine ce ?_
 refine bu ?_
 refine kM rfl (lO (i:=0) [((k10:Int))] hS14 rfl rfl rfl rfl rfl rfl rfl rfl rfl (λ_=>rfl) (.inl rfl) dZ (λ_=>rfl)) ?_
 rintro v40 H41 hS42
 refine ab ?_
 refine wz [iv a3,iv a4,.la 5 0,.la 7 0,iv r2,.la 12 0,v40,kx a1,ck a1.l.length,ck k10] H41 [(5,(bY.af a0)),(7,(dO.af a2)),(12,(lD.af x7))] ?_ (kF hS42 [(13,0)])
 refine qg ?_
 refine kI ?_
 refine ab ?_
 exact ⟨by omega,v40,((l12++[((k10:Int))])),H41,dX,ed,hS42,(kF hS42 [(13,0)])⟩
 refine dJ ?_
 refine wz [iv a3,iv a4,.la 5 0,.la 7 0,iv r2,.la 12 0,v11,kx a1,ck a1.l.length,ck k10] H13 [(5,(bY.af a0)),(7,(dO.af a2)),(12,(lD.af x7))] ?_ (kF hS14 [(13,0)])
 refine qg ?_
 refine kI ?_
 refine ab ?_
 exact jO
 refine bk ?_
 refine aM ?_
 refine mh (b:=x18.bare) rfl (λ_=>rfl) (λh43=>?_) (λh43=>?_)
 refine cZ ?_
 refine wz [iv a3,iv a4,.la 5 0,.la 7 0,iv r2,.la 12 0,v11,kx a1,ck a1.l.length,ck k10] H13 [(5,(bY.af a0)),(7,(dO.af a2)),(12,(lD.af x7))] ?_ (kF hS14 [(13,0)])
 refine qg ?_
 refine kI ?_
 refine ab ?_
 exact jO
 refine ap ?_
 refine wz [iv a3,iv a4,.la 5 0,.la 7 0,iv r2,.la 12 0,v11,ck k10,.la 15 0,iv x22.elem,kx a1,ck a1.l.length,ck k10] H13 [(5,(bY.af a0)),(7,(dO.af a2)),(12,(lD.af x7)),(15,(kq.af x18))] ?_ (kF hS14 [(13,0)])
 refine c3 ?_
 rintro _ ⟨r45,hc44,rfl⟩
 have hStn:=hc44
 refine rC (t39 (Row.mi x18.mf) r45) ?_
 rintro _ ⟨r47,hc46,rfl⟩
 have hIn:=hc46
 cases r47
 refine dN ?_
 have hx48:(a3).toNat<a2.runs.l.length:=by omega
 refine kG rfl rfl (λ_=>kW (n:=a3) (r:=a2.runs) (enc:=kS.af) rfl rfl rfl rfl rfl d4 hx48 rfl) ?_
 rw [hqx5]
 refine aK ?_
 have hx50:(x5.ko).toNat<a2.ko.l.length:=by omega
 refine kG rfl rfl (λ_=>kW (n:=x5.ko) (r:=a2.ko) (enc:=kR.af) rfl rfl rfl rfl rfl d4 hx50 rfl) ?_
 generalize hqx51:a2.ko.l[(x5.ko).toNat]=x51
 refine aK ?_
 refine rC (t92 a0 x51 x22.elem) ?_
 rintro _ ⟨r53,hc52,rfl⟩
 have hFt:=hc52
 cases r53
 refine bz ?_
 refine wz [iv a3,iv a4,.la 5 0,.la 7 0,iv r2,.la 12 0,v11,kx a1,ck a1.l.length,ck k10] H13 [(5,(bY.af a0)),(7,(dO.af a2)),(12,(lD.af x7))] ?_ (kF hS14 [(13,0)])
 refine qg ?_
 refine kI ?_
 refine ab ?_
 exact jO
 refine ce ?_
 refine bu ?_
 refine kM rfl (lO (i:=0) [((k10:Int))] hS14 rfl rfl rfl rfl rfl rfl rfl rfl rfl (λ_=>rfl) (.inl rfl) dZ (λ_=>rfl)) ?_
 rintro v54 H55 hS56
 refine ab ?_
 refine wz [iv a3,iv a4,.la 5 0,.la 7 0,iv r2,.la 12 0,v54,kx a1,ck a1.l.length,ck k10] H55 [(5,(bY.af a0)),(7,(dO.af a2)),(12,(lD.af x7))] ?_ (kF hS56 [(13,0)])
 refine qg ?_
 refine kI ?_
 refine ab ?_
 exact ⟨by omega,v54,((l12++[((k10:Int))])),H55,dX,ed,hS56,(kF hS56 [(13,0)])⟩
 refine dJ ?_
 refine wz [iv a3,iv a4,.la 5 0,.la 7 0,iv r2,.la 12 0,v11,kx a1,ck a1.l.length,ck k10] H13 [(5,(bY.af a0)),(7,(dO.af a2)),(12,(lD.af x7))] ?_ (kF hS14 [(13,0)])
 refine qg ?_
 refine kI ?_
 refine ab ?_
 exact jO
 refine b5 ?_
 refine aQ ?_
 refine mg (λh57=>?_) (λh57=>?_)
 refine aM ?_
 refine mg (λh58=>?_) (λh58=>?_)
 refine oV ?_
 refine bb ?_
 refine cZ ?_
 refine wz [iv a3,iv a4,.la 5 0,.la 7 0,iv r2,.la 12 0,v11,kx a1,ck a1.l.length,ck k10] H13 [(5,(bY.af a0)),(7,(dO.af a2)),(12,(lD.af x7))] ?_ (kF hS14 [(13,0)])
 refine qg ?_
 refine kI ?_
 refine ab ?_
 exact jO
 refine aM ?_
 refine mh (b:=x18.bare) rfl (λ_=>rfl) (λh59=>?_) (λh59=>?_)
 refine cZ ?_
 refine wz [iv a3,iv a4,.la 5 0,.la 7 0,iv r2,.la 12 0,v11,kx a1,ck a1.l.length,ck k10] H13 [(5,(bY.af a0)),(7,(dO.af a2)),(12,(lD.af x7))] ?_ (kF hS14 [(13,0)])
 refine qg ?_
 refine kI ?_
 refine ab ?_
 exact jO
 refine ap ?_
 refine wz [iv a3,iv a4,.la 5 0,.la 7 0,iv r2,.la 12 0,v11,ck k10,.la 15 0,iv x22.elem,kx a1,ck a1.l.length,ck k10] H13 [(5,(bY.af a0)),(7,(dO.af a2)),(12,(lD.af x7)),(15,(kq.af x18))] ?_ (kF hS14 [(13,0)])
 refine c3 ?_
 rintro _ ⟨r61,hc60,rfl⟩
 have hStn:=hc60
 refine rC (t39 (Row.mi x18.mf) r61) ?_
 rintro _ ⟨r63,hc62,rfl⟩
 have hIn:=hc62
 cases r63
 refine dN ?_
 have hx64:(a3).toNat<a2.runs.l.length:=by omega
 refine kG rfl rfl (λ_=>kW (n:=a3) (r:=a2.runs) (enc:=kS.af) rfl rfl rfl rfl rfl d4 hx64 rfl) ?_
 rw [hqx5]
 refine aK ?_
 have hx66:(x5.ko).toNat<a2.ko.l.length:=by omega
 refine kG rfl rfl (λ_=>kW (n:=x5.ko) (r:=a2.ko) (enc:=kR.af) rfl rfl rfl rfl rfl d4 hx66 rfl) ?_
 generalize hqx67:a2.ko.l[(x5.ko).toNat]=x67
 refine aK ?_
 refine rC (t92 a0 x67 x22.elem) ?_
 rintro _ ⟨r69,hc68,rfl⟩
 have hFt:=hc68
 cases r69
 refine bz ?_
 refine wz [iv a3,iv a4,.la 5 0,.la 7 0,iv r2,.la 12 0,v11,kx a1,ck a1.l.length,ck k10] H13 [(5,(bY.af a0)),(7,(dO.af a2)),(12,(lD.af x7))] ?_ (kF hS14 [(13,0)])
 refine qg ?_
 refine kI ?_
 refine ab ?_
 exact jO
 refine ce ?_
 refine bu ?_
 refine kM rfl (lO (i:=0) [((k10:Int))] hS14 rfl rfl rfl rfl rfl rfl rfl rfl rfl (λ_=>rfl) (.inl rfl) dZ (λ_=>rfl)) ?_
 rintro v70 H71 hS72
 refine ab ?_
 refine wz [iv a3,iv a4,.la 5 0,.la 7 0,iv r2,.la 12 0,v70,kx a1,ck a1.l.length,ck k10] H71 [(5,(bY.af a0)),(7,(dO.af a2)),(12,(lD.af x7))] ?_ (kF hS72 [(13,0)])
 refine qg ?_
 refine kI ?_
 refine ab ?_
 exact ⟨by omega,v70,((l12++[((k10:Int))])),H71,dX,ed,hS72,(kF hS72 [(13,0)])⟩
 refine dJ ?_
 refine wz [iv a3,iv a4,.la 5 0,.la 7 0,iv r2,.la 12 0,v11,kx a1,ck a1.l.length,ck k10] H13 [(5,(bY.af a0)),(7,(dO.af a2)),(12,(lD.af x7))] ?_ (kF hS14 [(13,0)])
 refine qg ?_
 refine kI ?_
 refine ab ?_
 exact jO
 refine bk ?_
 refine aM ?_
 refine mh (b:=x18.bare) rfl (λ_=>rfl) (λh73=>?_) (λh73=>?_)
 refine cZ ?_
 refine wz [iv a3,iv a4,.la 5 0,.la 7 0,iv r2,.la 12 0,v11,kx a1,ck a1.l.length,ck k10] H13 [(5,(bY.af a0)),(7,(dO.af a2)),(12,(lD.af x7))] ?_ (kF hS14 [(13,0)])
 refine qg ?_
 refine kI ?_
 refine ab ?_
 exact jO
 refine ap ?_
 refine wz [iv a3,iv a4,.la 5 0,.la 7 0,iv r2,.la 12 0,v11,ck k10,.la 15 0,iv x22.elem,kx a1,ck a1.l.length,ck k10] H13 [(5,(bY.af a0)),(7,(dO.af a2)),(12,(lD.af x7)),(15,(kq.af x18))] ?_ (kF hS14 [(13,0)])
 refine c3 ?_
 rintro _ ⟨r75,hc74,rfl⟩
 have hStn:=hc74
 refine rC (t39 (Row.mi x18.mf) r75) ?_
 rintro _ ⟨r77,hc76,rfl⟩
 have hIn:=hc76
 cases r77
 refine dN ?_
 have hx78:(a3).toNat<a2.runs.l.length:=by omega
 refine kG rfl rfl (λ_=>kW (n:=a3) (r:=a2.runs) (enc:=kS.af) rfl rfl rfl rfl rfl d4 hx78 rfl) ?_
 rw [hqx5]
 refine aK ?_
 have hx80:(x5.ko).toNat<a2.ko.l.length:=by omega
 refine kG rfl rfl (λ_=>kW (n:=x5.ko) (r:=a2.ko) (enc:=kR.af) rfl rfl rfl rfl rfl d4 hx80 rfl) ?_
 generalize hqx81:a2.ko.l[(x5.ko).toNat]=x81
 refine aK ?_
 refine rC (t92 a0 x81 x22.elem) ?_
 rintro _ ⟨r83,hc82,rfl⟩
 have hFt:=hc82
 cases r83
 refine bz ?_
 refine wz [iv a3,iv a4,.la 5 0,.la 7 0,iv r2,.la 12 0,v11,kx a1,ck a1.l.length,ck k10] H13 [(5,(bY.af a0)),(7,(dO.af a2)),(12,(lD.af x7))] ?_ (kF hS14 [(13,0)])
 refine qg ?_
 refine kI ?_
 refine ab ?_
 exact jO
 refine ce ?_
 refine bu ?_
 refine kM rfl (lO (i:=0) [((k10:Int))] hS14 rfl rfl rfl rfl rfl rfl rfl rfl rfl (λ_=>rfl) (.inl rfl) dZ (λ_=>rfl)) ?_
 rintro v84 H85 hS86
 refine ab ?_
 refine wz [iv a3,iv a4,.la 5 0,.la 7 0,iv r2,.la 12 0,v84,kx a1,ck a1.l.length,ck k10] H85 [(5,(bY.af a0)),(7,(dO.af a2)),(12,(lD.af x7))] ?_ (kF hS86 [(13,0)])
 refine qg ?_
 refine kI ?_
 refine ab ?_
 exact ⟨by omega,v84,((l12++[((k10:Int))])),H85,dX,ed,hS86,(kF hS86 [(13,0)])⟩
 refine dJ ?_
 refine wz [iv a3,iv a4,.la 5 0,.la 7 0,iv r2,.la 12 0,v11,kx a1,ck a1.l.length,ck k10] H13 [(5,(bY.af a0)),(7,(dO.af a2)),(12,(lD.af x7))] ?_ (kF hS14 [(13,0)])
 refine qg ?_
 refine kI ?_
 refine ab ?_
 exact jO
 refine ah ?_
 refine wz [v11] H13 [] ?_ (kF hS14 [(13,0)])
 refine bT ?_
 obtain ⟨r87,hl88,hf89⟩:=mz (H:=H13) (i:=0) (l:=l12) (enc:=kX) hS14 rfl dV
 have hlq:=hl88; have hln91:=congrArg List.length hl88
 have hz90:∀ m,freeze false { H13 with cT:=[] } (m+2) v11=some (kU r87):=λm=>hf89 _ _ (λ_=>rfl)
 exact ⟨v11,(lQ (vs:=[v11]) rfl (j8 (Sep.arg (i:=0) hS14 rfl) kK)),kU r87,(show freeze false { H13 with cT:=[] } 8 v11=some (kU r87) by simp only [FZ,hz90]),r87,gJ,rfl⟩
def P8 (_a0:bY) (_a1:Row kq) (_a2:dO) (v:AV):Prop:=∃ r0:Int,(pO _a0 _a1.l _a2 r0)/\v=iv r0
def t8 (a0:bY) (a1:Row kq) (a2:dO) (q1:(∀ r∈a1.l,0<r.steps.l.length)) (q2:a1.l.length<=64) (q9:∀ e,lR a0 e=4->tu a0 e=0) (qv:rs 28 [.agg (bY.af a0),.agg (dO.af a2)]=iv 0) (q7:uG a0 a2):Ct 8 [.agg (bY.af a0),kx a1,.agg (dO.af a2)] (P8 a0 a1 a2):=by
 refine kA S7 ?_
 have hPr2:=ug.QP q7.ot
 refine cy ?_
 refine aR ?_
 have hL1:=a0.signals.lk
 refine dx ?_
 have hNk2:=a0.signals.lk
 refine ke a0.signals.l.length (λk2 e h=>(∀ (i:Nat) (h:i<a0.signals.l.length),i<k2->(a0.signals.l[i]).auto=false)/\At [1,3,5,23,24,25] [kx a1,.la 3 0,.la 5 0,lz a0.signals,ck a0.signals.l.length,ck k2] bV.empty [(3,(bY.af a0)),(5,(dO.af a2))] e h) ?_ (k0:=0) d4 ⟨eX,atR⟩
 rintro k2 e h hkk2 ⟨hSg,hA⟩
 refine aE ?_
 refine kE (λh3=>?_) (λh3=>?_)
 refine cm ?_
 have hx4:k2<a0.signals.l.length:=by omega
 refine mB k2 a0.signals hx4 ?_
 generalize hqx5:a0.signals.l[k2]=x5
 refine ao ?_
 refine aN ?_
 refine mh (b:=x5.auto) rfl (λ_=>rfl) (λh6=>?_) (λh6=>?_)
 refine aZ ?_
 exact xB ⟨7,ef,rfl⟩
 refine bv ?_
 refine kI ?_
 refine ab ?_
 exact ⟨by omega,(by exact ng (P:=λx:lY=>x.auto=false) dT hSg dT),atR⟩
 refine ah ?_
 refine aR ?_
 refine oC (acN a0 a2  qv) ?_
 rintro _ rfl
 refine aN ?_
 refine ap ?_
 refine bC ?_
 refine aR ?_
 have hL8:=a2.runs.lk
 refine lx a2.runs ?_
 refine aC ?_
 have hNk9:=a2.runs.lk
 refine ke a2.runs.l.length (λk9 e h=>(∀ i,i<k9->wc a0 a2 i=0)/\At [1,3,5,10,40,41] [kx a1,.la 3 0,.la 5 0,iN,ck a2.runs.l.length,ck k9] bV.empty [(3,(bY.af a0)),(5,(dO.af a2))] e h) ?_ (k0:=0) d4 ⟨gu,atR⟩
 rintro k9 e h hkk9 ⟨hEr,hA⟩
 refine aE ?_
 refine kE (λh10=>?_) (λh10=>?_)
 refine c8 ?_
 refine aI ?_
 refine oC (t36 a0 a2 ((k9:Int))) ?_
 rintro _ ⟨r12,r13,hc11,rfl⟩
 have hTr:=hc11
 cases r13
 refine cX ?_
 refine cH ?_
 have hx14:k9<a2.runs.l.length:=by omega
 refine qV k9 a2.runs hx14 ?_
 generalize hqx15:a2.runs.l[k9]=x15
 have hinx15:x15∈a2.runs.l:=by rw [<- hqx15]; exact List.getElem_mem _
 have hsx15:=q7.ot.2 x15 hinx15
 refine aK ?_
 have hx16:(x15.ko).toNat<a2.ko.l.length:=by omega
 refine kG rfl rfl (λ_=>kW (n:=x15.ko) (r:=a2.ko) (enc:=kR.af) rfl rfl rfl rfl rfl d4 hx16 rfl) ?_
 generalize hqx17:a2.ko.l[(x15.ko).toNat]=x17
 refine bA ?_
 refine rC (t37 a0 x17.len r12 dS) ?_
 rintro _ ⟨r19,r20,hc18,rfl⟩
 have hSw:=hc18
 refine bG ?_
 refine aj ?_
 refine mg (λh21=>?_) (λh21=>?_)
 refine aH ?_
 exact xB ⟨r20,ef,rfl⟩
 refine bv ?_
 refine kI ?_
 refine ab ?_
 exact ⟨by omega,fY,atR⟩
 refine cX ?_
 refine cH ?_
 have hx22:k9<a2.runs.l.length:=by omega
 refine qV k9 a2.runs hx22 ?_
 generalize hqx23:a2.runs.l[k9]=x23
 have hinx23:x23∈a2.runs.l:=by rw [<- hqx23]; exact List.getElem_mem _
 have hsx23:=q7.ot.2 x23 hinx23
 refine aK ?_
 have hx24:(x23.ko).toNat<a2.ko.l.length:=by omega
 refine kG rfl rfl (λ_=>kW (n:=x23.ko) (r:=a2.ko) (enc:=kR.af) rfl rfl rfl rfl rfl d4 hx24 rfl) ?_
 generalize hqx25:a2.ko.l[(x23.ko).toNat]=x25
 refine bA ?_
 refine rC (t37 a0 x25.len r12 dS) ?_
 rintro _ ⟨r27,r28,hc26,rfl⟩
 have hSw:=hc26
 refine bG ?_
 refine aj ?_
 refine mg (λh29=>?_) (λh29=>?_)
 refine aH ?_
 exact xB ⟨r28,ef,rfl⟩
 refine bv ?_
 refine kI ?_
 refine ab ?_
 exact ⟨by omega,fY,atR⟩
 refine ah ?_
 refine aR ?_
 have hL30:=a2.runs.lk
 refine lx a2.runs ?_
 refine aC ?_
 have hS31:=Sep.m3 lJ 1
 have hNk32:=a2.runs.lk
 refine ke a2.runs.l.length (λk32 e h=>∃ v33:AV,∃ l34:List Int,∃ H35:bV,(l34.length<=0+k32)/\(wJ a0 a2 k32 l34)/\(¬ qG (qw a0 a2) k32)/\Sep H35 (om v33 l34::[])/\At [1,3,5,10,74,75] [kx a1,.la 3 0,.la 5 0,v33,ck a2.runs.l.length,ck k32] H35 [(3,(bY.af a0)),(5,(dO.af a2))] e h) ?_ (k0:=0) d4 ⟨iN,(([]:List Int)),bV.empty,eR,(by exact wJ.zero),(by (rintro ⟨i,j,h1,h2,h3⟩; omega)),hS31,atR⟩
 rintro k32 e h hkk32 ⟨v33,l34,H35,hl37,hAtk,hNM,hS36,hA⟩
 refine rR hA ?_
 have hd8:=q7.runs
 refine aa ?_
 refine kE (λh38=>?_) (λh38=>?_)
 refine ai ?_
 refine wz [kx a1,.la 3 0,.la 5 0,v33,ck a2.runs.l.length,ck k32] H35 [(3,(bY.af a0)),(5,(dO.af a2))] ?_ (kF hS36 [(10,0)])
 refine aw ?_
 refine aV ?_
 refine aI ?_
 refine oC (t36 a0 a2 ((k32:Int))) ?_
 rintro _ ⟨r40,r41,hc39,rfl⟩
 have hTr:=hc39
 cases r41
 refine bB ?_
 refine aD ?_
 refine oC (t38 a0 r40.at_.elem) ?_
 rintro _ ⟨r43,hc42,rfl⟩
 have hK:=hc42
 refine kZ (λh44=>?_) (λh44=>?_)
 refine ay ?_
 refine qs ?_
 refine bJ ?_
 refine nd hS36 0 λr45 hl46 hln49 hz48=>?_
 refine ns (args:=[v33,iv r40.at_.elem]) (p:=[]) (r:=[]) (args':=[lG r45,iv r40.at_.elem]) (R:=P7 r45 r40.at_.elem) rfl rfl rfl rfl rfl (j8 (Sep.arg (i:=0) hS36 rfl) (j8 rfl kK)) rfl fh (lj (by show kP (freeze true { H35 with cT:=[] } 8) [v33,iv r40.at_.elem] = _; simp only [FZ,hz48]) (j8 (Sep.ot (i:=0) hS36 rfl) (j8 rfl kK))) (lj e9 (j8 rfl (j8 rfl kK))) (λh=>t39 r45 r40.at_.elem  h) ?_
 rintro _ ⟨r51,hc50,rfl⟩
 have hIn:=hc50
 cases r51
 refine au ?_
 refine wz [kx a1,.la 3 0,.la 5 0,v33,.la 17 0,ck a2.runs.l.length,ck k32] H35 [(3,(bY.af a0)),(5,(dO.af a2)),(17,(mA.af r40))] ?_ (kF hS36 [(10,0)])
 refine qg ?_
 refine aQ ?_
 refine kM rfl (lO (i:=0) [r40.at_.elem] hS36 rfl rfl rfl rfl rfl rfl rfl rfl rfl (λ_=>rfl) (.inl rfl) dZ (λ_=>rfl)) ?_
 rintro v52 H53 hS54
 refine ab ?_
 refine wz [kx a1,.la 3 0,.la 5 0,v52,ck a2.runs.l.length,ck k32] H53 [(3,(bY.af a0)),(5,(dO.af a2))] ?_ (kF hS54 [(10,0)])
 refine qg ?_
 refine kI ?_
 refine ab ?_
 exact ⟨by omega,v52,((l34++[r40.at_.elem])),H53,dX,fw,ff,hS54,(kF hS54 [(10,0)])⟩
 refine aZ ?_
 exact xB ⟨18,ef,rfl⟩
 refine au ?_
 refine wz [kx a1,.la 3 0,.la 5 0,v33,ck a2.runs.l.length,ck k32] H35 [(3,(bY.af a0)),(5,(dO.af a2))] ?_ (kF hS36 [(10,0)])
 refine qg ?_
 refine kI ?_
 refine ab ?_
 exact j1
 refine bB ?_
 refine aD ?_
 refine oC (t38 a0 r40.at_.elem) ?_
 rintro _ ⟨r56,hc55,rfl⟩
 have hK:=hc55
 refine kZ (λh57=>?_) (λh57=>?_)
 refine ay ?_
 refine qs ?_
 refine bJ ?_
 refine nd hS36 0 λr58 hl59 hln62 hz61=>?_
 refine ns (args:=[v33,iv r40.at_.elem]) (p:=[]) (r:=[]) (args':=[lG r58,iv r40.at_.elem]) (R:=P7 r58 r40.at_.elem) rfl rfl rfl rfl rfl (j8 (Sep.arg (i:=0) hS36 rfl) (j8 rfl kK)) rfl fh (lj (by show kP (freeze true { H35 with cT:=[] } 8) [v33,iv r40.at_.elem] = _; simp only [FZ,hz61]) (j8 (Sep.ot (i:=0) hS36 rfl) (j8 rfl kK))) (lj e9 (j8 rfl (j8 rfl kK))) (λh=>t39 r58 r40.at_.elem  h) ?_
 rintro _ ⟨r64,hc63,rfl⟩
 have hIn:=hc63
 cases r64
 refine au ?_
 refine wz [kx a1,.la 3 0,.la 5 0,v33,.la 17 0,ck a2.runs.l.length,ck k32] H35 [(3,(bY.af a0)),(5,(dO.af a2)),(17,(mA.af r40))] ?_ (kF hS36 [(10,0)])
 refine qg ?_
 refine aQ ?_
 refine kM rfl (lO (i:=0) [r40.at_.elem] hS36 rfl rfl rfl rfl rfl rfl rfl rfl rfl (λ_=>rfl) (.inl rfl) dZ (λ_=>rfl)) ?_
 rintro v65 H66 hS67
 refine ab ?_
 refine wz [kx a1,.la 3 0,.la 5 0,v65,ck a2.runs.l.length,ck k32] H66 [(3,(bY.af a0)),(5,(dO.af a2))] ?_ (kF hS67 [(10,0)])
 refine qg ?_
 refine kI ?_
 refine ab ?_
 exact ⟨by omega,v65,((l34++[r40.at_.elem])),H66,dX,fw,ff,hS67,(kF hS67 [(10,0)])⟩
 refine aZ ?_
 exact xB ⟨18,ef,rfl⟩
 refine au ?_
 refine wz [kx a1,.la 3 0,.la 5 0,v33,ck a2.runs.l.length,ck k32] H35 [(3,(bY.af a0)),(5,(dO.af a2))] ?_ (kF hS36 [(10,0)])
 refine qg ?_
 refine kI ?_
 refine ab ?_
 exact j1
 refine ah ?_
 refine aR ?_
 have hL68:=a2.runs.lk
 refine lx a2.runs ?_
 refine aC ?_
 have hNk69:=a2.runs.lk
 refine ke a2.runs.l.length (λk69 e h=>(∀ i,i<k69->¬ sv a0 a1.l a2 i)/\At [1,3,5,104,105,106] [kx a1,.la 3 0,.la 5 0,lW a2.runs,ck a2.runs.l.length,ck k69] H35 [(3,(bY.af a0)),(5,(dO.af a2))] e h) ?_ (k0:=0) d4 ⟨gu,atR⟩
 rintro k69 e h hkk69 ⟨hBd,hA⟩
 refine aE ?_
 refine kE (λh70=>?_) (λh70=>?_)
 refine ai ?_
 refine cw ?_
 have hx71:k69<a2.runs.l.length:=by omega
 refine mB k69 a2.runs hx71 ?_
 generalize hqx72:a2.runs.l[k69]=x72
 have hinx72:x72∈a2.runs.l:=by rw [<- hqx72]; exact List.getElem_mem _
 have hsx72:=q7.ot.2 x72 hinx72
 refine cG ?_
 refine aR ?_
 have hL73:=x72.kr.lk
 refine lx x72.kr ?_
 refine kZ (λh74=>?_) (λh74=>?_)
 refine dF ?_
 refine aq ?_
 exact xB ⟨10,ef,rfl⟩
 refine aQ ?_
 have hL75:=x72.kr.lk
 refine lx x72.kr ?_
 have hL76:=x72.kr.lk
 refine pW ?_
 have hx77:((x72.kr.l.length:Int) - 1).toNat<x72.kr.l.length:=by omega
 refine iS rfl (λ_=>kW (n:=(x72.kr.l.length:Int) - 1) (r:=x72.kr) (enc:=lD.af) rfl rfl rfl rfl rfl d4 hx77 rfl) ?_
 generalize hqx78:x72.kr.l[((x72.kr.l.length:Int) - 1).toNat]=x78
 refine ao ?_
 refine mg (λh79=>?_) (λh79=>?_)
 refine aq ?_
 exact xB ⟨10,ef,rfl⟩
 refine oV ?_
 refine dG ?_
 have hL80:=x72.kr.lk
 refine lx x72.kr ?_
 refine aC ?_
 have hNk81:=x72.kr.lk
 refine ke x72.kr.l.length (λk81 e h=>(∀ i:Nat,i<k81->mY a0 a1.l a2 (k69:Nat) (i:Nat)≠[])/\At [1,3,5,19,104,105,106,129,130] [kx a1,.la 3 0,.la 5 0,ck k69,lW a2.runs,ck a2.runs.l.length,ck k69,ck x72.kr.l.length,ck k81] H35 [(3,(bY.af a0)),(5,(dO.af a2))] e h) ?_ (k0:=0) d4 ⟨gu,atR⟩
 rintro k81 e h hkk81 ⟨hRn,hA⟩
 refine aE ?_
 refine kE (λh82=>?_) (λh82=>?_)
 refine c8 ?_
 refine db ?_
 refine oC (t40 a0 a1 a2 ((k69:Int)) ((k81:Int)) dS dS dS) ?_
 rintro _ ⟨r84,hc83,rfl⟩
 have hRl:=hc83.1; have hRe:=hc83.2
 have hL85:=r84.lk
 refine lx r84 ?_
 refine kZ (λh86=>?_) (λh86=>?_)
 refine aZ ?_
 exact xB ⟨10,ef,rfl⟩
 refine bv ?_
 refine kI ?_
 refine ab ?_
 exact jF
 refine ah ?_
 refine qg ?_
 refine kI ?_
 refine ab ?_
 exact ⟨by omega,iE,atR⟩
 refine bE ?_
 exact xB ⟨0,ef,rfl⟩
def P93 (_a0:bY) (_a1:Row kq) (_a2:dO) (_a3:Int) (_a4:Int) (v:AV):Prop:=∃ r0:lL,(sE _a0 _a1.l _a2 _a3 _a4 (r0.free.l,r0.end_))/\v=.agg (lL.af r0)
def t93 (a0:bY) (a1:Row kq) (a2:dO) (a3:Int) (a4:Int) (q1:(∀ r∈a1.l,0<r.steps.l.length)) (q2:a1.l.length<=64) (q3:∀ r∈a2.runs.l,0<=r.ko/\r.ko<(a2.ko.l.length:Int)) (q4:∀ r∈a1.l,ri r) (q5:zX a0) (q6:a0.elems.l.length<=40) (q8:0<=a4/\a4<1000):Ct 93 [.agg (bY.af a0),kx a1,.agg (dO.af a2),iv a3,iv a4] (P93 a0 a1 a2 a3 a4):=by
 refine kA Mu ?_
 refine cy ?_
 refine aY ?_
 refine aM ?_
 refine oC (t40 a0 a1 a2 a3 a4 dS dS dS) ?_
 rintro _ ⟨r2,hc1,rfl⟩
 have hRl:=hc1.1; have hRe:=hc1.2
 have hRo:∀ x∈r2.l,0<=x/\x<(a1.l.length:Int):=by rw [hRe]; exact JX
 have hL3:=r2.lk
 refine lx r2 ?_
 refine aC ?_
 have hNk4:=r2.lk
 refine ke r2.l.length (λk4 e h=>∃ l5:List Bool,(l5.length=40)/\(∀ y,oO l5 y↔nI [] [] a1.l r2.l k4 y)/\At [1,3,4,5,7,10,11,34,35,36] [kx a1,iv a3,iv a4,.la 5 0,.la 7 0,.la 10 0,.la 11 0,kU r2,ck r2.l.length,ck k4] bV.empty [(5,(bY.af a0)),(7,(dO.af a2)),(10,[iN,iv 0]),(11,(List.map AV.bool l5))] e h) ?_ (k0:=0) d4 ⟨((List.replicate 40 false)),gE,(by exact QE LQ),atR⟩
 rintro k4 e h hkk4 ⟨l5,hLb,hKo,hA⟩
 refine aE ?_
 refine kE (λh6=>?_) (λh6=>?_)
 refine ai ?_
 refine wy [kx a1,iv a3,iv a4,.la 5 0,.la 7 0,.la 10 0,.la 11 0,kU r2,ck r2.l.length,ck k4] [(5,(bY.af a0)),(7,(dO.af a2)),(10,[iN,iv 0]),(11,(List.map AV.bool l5))] ?_
 refine bQ ?_
 have hx7:k4<r2.l.length:=by omega
 refine mB k4 r2 hx7 ?_
 generalize hqx8:r2.l[k4]=x8
 have hinx8:x8∈r2.l:=by rw [<- hqx8]; exact List.getElem_mem _
 first | have hgx8:=hRo x8 hinx8 | have hgx8:=hgE x8 hinx8 | have hgx8:=hgL x8 hinx8
 have hgax8:=hgx8.1; have hgbx8:=hgx8.2
 refine bF ?_
 refine aR ?_
 have hx9:(x8).toNat<a1.l.length:=by omega
 refine iS rfl (λ_=>kW (n:=x8) (r:=a1) (enc:=kq.af) rfl rfl rfl rfl rfl d4 hx9 rfl) ?_
 generalize hqx10:a1.l[(x8).toNat]=x10
 have hinx10:x10∈a1.l:=by rw [<- hqx10]; exact List.getElem_mem _
 obtain ⟨hk1x10,hk2x10,hk3x10,hgS,hk5x10,hgE,hk7x10⟩:=q4 x10 hinx10
 refine ao ?_
 have hL11:=x10.steps.lk
 refine lx x10.steps ?_
 refine aC ?_
 have hNk12:=x10.steps.lk
 refine ke x10.steps.l.length (λk12 e h=>∃ l13:List Bool,(l13.length=40)/\(∀ y,oO l13 y↔nI [] [] a1.l r2.l k4 y\/C8 [] [] a1.l r2.l k4 k12 y)/\At [1,3,4,5,7,10,11,13,34,35,36,44,45,46] [kx a1,iv a3,iv a4,.la 5 0,.la 7 0,.la 10 0,.la 11 0,iv x8,kU r2,ck r2.l.length,ck k4,kQ x10.steps,ck x10.steps.l.length,ck k12] bV.empty [(5,(bY.af a0)),(7,(dO.af a2)),(10,[iN,iv 0]),(11,(List.map AV.bool l13))] e h) ?_ (k0:=0) d4 ⟨l5,gE,(by exact Ql hKo),atR⟩
 rintro k12 e h hkk12 ⟨l13,hLb,hKm,hA⟩
 refine aE ?_
 refine kE (λh14=>?_) (λh14=>?_)
 refine ai ?_
 refine wy [kx a1,iv a3,iv a4,.la 5 0,.la 7 0,.la 10 0,.la 11 0,iv x8,kU r2,ck r2.l.length,ck k4,kQ x10.steps,ck x10.steps.l.length,ck k12] [(5,(bY.af a0)),(7,(dO.af a2)),(10,[iN,iv 0]),(11,(List.map AV.bool l13))] ?_
 refine bQ ?_
 have hx15:k12<x10.steps.l.length:=by omega
 refine mB k12 x10.steps hx15 ?_
 generalize hqx16:x10.steps.l[k12]=x16
 have hinx16:x16∈x10.steps.l:=by rw [<- hqx16]; exact List.getElem_mem _
 have hgx16:=hgS x16 hinx16; have hgax16:=hgx16.1; have hgbx16:=hgx16.2
 refine bM ?_
 refine ci ?_
 have hk17:(((x16.elem).toNat:Nat):Int)=x16.elem:=Int.toNat_of_nonneg dX
 have hx18:(x16.elem).toNat<l13.length:=by first | omega | (simp<;>omega) | (simp_all; omega)
 refine iS rfl (λ_=>ym (k:=(x16.elem).toNat) rfl rfl rfl rfl rfl (congrArg (AV.int .i64) hk17.symm) (by have:=hx18; first | omega | (simp at this; omega))) ?_
 refine iS rfl (λ_=>B0 (l:=l13) (b:=true) rfl rfl rfl rfl rfl rfl hx18) ?_
 refine oN ?_
 refine wy [kx a1,iv a3,iv a4,.la 5 0,.la 7 0,.la 10 0,.la 11 0,iv x8,kU r2,ck r2.l.length,ck k4,kQ x10.steps,ck x10.steps.l.length,ck k12] [(5,(bY.af a0)),(7,(dO.af a2)),(10,[iN,iv 0]),(11,(List.map AV.bool (l13.set ((x16.elem).toNat) true)))] ?_
 refine qg ?_
 refine kI ?_
 refine ab ?_
 exact ⟨by omega,((l13.set ((x16.elem).toNat) true)),eZ,(by exact S4 hKm dT dT dT (FP d4 dT)),atR⟩
 refine ah ?_
 refine wy [kx a1,iv a3,iv a4,.la 5 0,.la 7 0,.la 10 0,.la 11 0,iv x8,kU r2,ck r2.l.length,ck k4] [(5,(bY.af a0)),(7,(dO.af a2)),(10,[iN,iv 0]),(11,(List.map AV.bool l13))] ?_
 refine ae ?_
 have hx19:(x8).toNat<a1.l.length:=by omega
 refine iS rfl (λ_=>kW (n:=x8) (r:=a1) (enc:=kq.af) rfl rfl rfl rfl rfl d4 hx19 rfl) ?_
 rw [hqx10]
 refine ao ?_
 have hL21:=x10.mf.lk
 refine lx x10.mf ?_
 refine aC ?_
 have hNk22:=x10.mf.lk
 refine ke x10.mf.l.length (λk22 e h=>∃ l23:List Bool,(l23.length=40)/\(∀ y,oO l23 y↔nI [] [] a1.l r2.l k4 y\/CU [] [] a1.l r2.l k4 k22 y)/\At [1,3,4,5,7,10,11,34,35,36,58,59,60] [kx a1,iv a3,iv a4,.la 5 0,.la 7 0,.la 10 0,.la 11 0,kU r2,ck r2.l.length,ck k4,kU x10.mf,ck x10.mf.l.length,ck k22] bV.empty [(5,(bY.af a0)),(7,(dO.af a2)),(10,[iN,iv 0]),(11,(List.map AV.bool l23))] e h) ?_ (k0:=0) d4 ⟨l13,gE,(by exact QY hKm dT dT d4),atR⟩
 rintro k22 e h hkk22 ⟨l23,hLb,hKz,hA⟩
 refine aE ?_
 refine kE (λh24=>?_) (λh24=>?_)
 refine ai ?_
 refine wy [kx a1,iv a3,iv a4,.la 5 0,.la 7 0,.la 10 0,.la 11 0,kU r2,ck r2.l.length,ck k4,kU x10.mf,ck x10.mf.l.length,ck k22] [(5,(bY.af a0)),(7,(dO.af a2)),(10,[iN,iv 0]),(11,(List.map AV.bool l23))] ?_
 refine bQ ?_
 have hx25:k22<x10.mf.l.length:=by omega
 refine mB k22 x10.mf hx25 ?_
 generalize hqx26:x10.mf.l[k22]=x26
 have hinx26:x26∈x10.mf.l:=by rw [<- hqx26]; exact List.getElem_mem _
 first | have hgx26:=hRo x26 hinx26 | have hgx26:=hgE x26 hinx26 | have hgx26:=hgL x26 hinx26
 have hgax26:=hgx26.1; have hgbx26:=hgx26.2
 refine bF ?_
 refine aJ ?_
 have hk27:(((x26).toNat:Nat):Int)=x26:=Int.toNat_of_nonneg dX
 have hx28:(x26).toNat<l23.length:=by first | omega | (simp<;>omega) | (simp_all; omega)
 refine iS rfl (λ_=>ym (k:=(x26).toNat) rfl rfl rfl rfl rfl (congrArg (AV.int .i64) hk27.symm) (by have:=hx28; first | omega | (simp at this; omega))) ?_
 refine iS rfl (λ_=>B0 (l:=l23) (b:=true) rfl rfl rfl rfl rfl rfl hx28) ?_
 refine oN ?_
 refine wy [kx a1,iv a3,iv a4,.la 5 0,.la 7 0,.la 10 0,.la 11 0,kU r2,ck r2.l.length,ck k4,kU x10.mf,ck x10.mf.l.length,ck k22] [(5,(bY.af a0)),(7,(dO.af a2)),(10,[iN,iv 0]),(11,(List.map AV.bool (l23.set ((x26).toNat) true)))] ?_
 refine qg ?_
 refine kI ?_
 refine ab ?_
 exact ⟨by omega,((l23.set ((x26).toNat) true)),eZ,(by exact Sg hKz dT dT dT (FP d4 dT)),atR⟩
 refine ah ?_
 refine wy [kx a1,iv a3,iv a4,.la 5 0,.la 7 0,.la 10 0,.la 11 0,kU r2,ck r2.l.length,ck k4] [(5,(bY.af a0)),(7,(dO.af a2)),(10,[iN,iv 0]),(11,(List.map AV.bool l23))] ?_
 refine qg ?_
 refine kI ?_
 refine ab ?_
 exact ⟨by omega,l23,eZ,(by exact Hf hKz dT dT d4),atR⟩
 refine ah ?_
 refine wy [iv a3,iv a4,.la 5 0,.la 7 0,.la 10 0,.la 11 0] [(5,(bY.af a0)),(7,(dO.af a2)),(10,[iN,iv 0]),(11,(List.map AV.bool l5))] ?_
 refine aR ?_
 have hL29:=a0.lines.lk
 refine lx a0.lines ?_
 refine aC ?_
 have hNk30:=a0.lines.lk
 refine ke a0.lines.l.length (λk30 e h=>∃ l31:List Bool,(l31.length=40)/\(∀ y,oO l31 y↔yR a0 (vc a0 a1.l a2 a3 a4) k30 y)/\At [3,4,5,7,10,11,69,70,71] [iv a3,iv a4,.la 5 0,.la 7 0,.la 10 0,.la 11 0,kD a0.lines,ck a0.lines.l.length,ck k30] bV.empty [(5,(bY.af a0)),(7,(dO.af a2)),(10,[iN,iv 0]),(11,(List.map AV.bool l31))] e h) ?_ (k0:=0) d4 ⟨l5,gE,(by exact aac (RX hKo d4 hRe)),atR⟩
 rintro k30 e h hkk30 ⟨l31,hLb,hKc,hA⟩
 refine aE ?_
 refine kE (λh32=>?_) (λh32=>?_)
 refine ai ?_
 refine wy [iv a3,iv a4,.la 5 0,.la 7 0,.la 10 0,.la 11 0,kD a0.lines,ck a0.lines.l.length,ck k30] [(5,(bY.af a0)),(7,(dO.af a2)),(10,[iN,iv 0]),(11,(List.map AV.bool l31))] ?_
 refine bQ ?_
 have hx33:k30<a0.lines.l.length:=by omega
 refine mB k30 a0.lines hx33 ?_
 generalize hqx34:a0.lines.l[k30]=x34
 have hinx34:x34∈a0.lines.l:=by rw [<- hqx34]; exact List.getElem_mem _
 have hgL:=q5.1 x34 hinx34
 refine bM ?_
 refine bC ?_
 refine aR ?_
 have hL35:=x34.elems.lk
 refine lx x34.elems ?_
 refine aC ?_
 have hNk36:=x34.elems.lk
 refine ke x34.elems.l.length (λk36 e h=>∃ b37:Bool,(yq l31 x34.elems.l k36 b37)/\At [3,4,5,7,10,11,19,20,69,70,71,76,77,78] [iv a3,iv a4,.la 5 0,.la 7 0,.la 10 0,.la 11 0,.la 19 0,.bool b37,kD a0.lines,ck a0.lines.l.length,ck k30,kU x34.elems,ck x34.elems.l.length,ck k36] bV.empty [(5,(bY.af a0)),(7,(dO.af a2)),(10,[iN,iv 0]),(11,(List.map AV.bool l31)),(19,(lq.af x34))] e h) ?_ (k0:=0) d4 ⟨false,(by exact Ze),atR⟩
 rintro k36 e h hkk36 ⟨b37,hMt,hA⟩
 refine aE ?_
 refine kE (λh38=>?_) (λh38=>?_)
 refine ai ?_
 refine wy [iv a3,iv a4,.la 5 0,.la 7 0,.la 10 0,.la 11 0,.la 19 0,.bool b37,kD a0.lines,ck a0.lines.l.length,ck k30,kU x34.elems,ck x34.elems.l.length,ck k36] [(5,(bY.af a0)),(7,(dO.af a2)),(10,[iN,iv 0]),(11,(List.map AV.bool l31)),(19,(lq.af x34))] ?_
 refine bQ ?_
 have hx39:k36<x34.elems.l.length:=by omega
 refine mB k36 x34.elems hx39 ?_
 generalize hqx40:x34.elems.l[k36]=x40
 have hinx40:x40∈x34.elems.l:=by rw [<- hqx40]; exact List.getElem_mem _
 first | have hgx40:=hRo x40 hinx40 | have hgx40:=hgE x40 hinx40 | have hgx40:=hgL x40 hinx40
 have hgax40:=hgx40.1; have hgbx40:=hgx40.2
 refine ao ?_
 refine dC ?_
 refine mh (b:=b37) rfl (λ_=>rfl) (λh41=>?_) (λh41=>?_)
 refine bX ?_
 refine bW ?_
 refine kI ?_
 refine ab ?_
 exact ⟨by omega,true,gD,atR⟩
 refine ao ?_
 have hk42:(((x40).toNat:Nat):Int)=x40:=Int.toNat_of_nonneg dX
 have hx43:(x40).toNat<l31.length:=by first | omega | (simp<;>omega) | (simp_all; omega)
 refine iS rfl (λ_=>ym (k:=(x40).toNat) rfl rfl rfl rfl rfl (congrArg (AV.int .i64) hk42.symm) (by have:=hx43; first | omega | (simp at this; omega))) ?_
 obtain ⟨b44,hqb44⟩:∃ x,l31[(x40).toNat]=x:=⟨_,rfl⟩
 refine mh (b:=b44) rfl (λ_=>QX (l:=l31) rfl rfl rfl rfl hx43 hqb44) (λh45=>?_) (λh45=>?_)
 refine bW ?_
 refine kI ?_
 refine ab ?_
 exact ⟨by omega,true,gD,atR⟩
 refine bF ?_
 refine wy [iv a3,iv a4,.la 5 0,.la 7 0,.la 10 0,.la 11 0,.la 19 0,kh,kD a0.lines,ck a0.lines.l.length,ck k30,kU x34.elems,ck x34.elems.l.length,ck k36] [(5,(bY.af a0)),(7,(dO.af a2)),(10,[iN,iv 0]),(11,(List.map AV.bool l31)),(19,(lq.af x34))] ?_
 refine qg ?_
 refine kI ?_
 refine ab ?_
 exact ⟨by omega,false,gD,atR⟩
 refine ah ?_
 refine wy [iv a3,iv a4,.la 5 0,.la 7 0,.la 10 0,.la 11 0,.la 19 0,.bool b37,kD a0.lines,ck a0.lines.l.length,ck k30] [(5,(bY.af a0)),(7,(dO.af a2)),(10,[iN,iv 0]),(11,(List.map AV.bool l31)),(19,(lq.af x34))] ?_
 refine ae ?_
 have hL46:=x34.elems.lk
 refine lx x34.elems ?_
 refine aC ?_
 have hNk47:=x34.elems.lk
 refine ke x34.elems.l.length (λk47 e h=>∃ l48:List Bool,(l48.length=40)/\(∀ y,oO l48 y↔zc a0 (vc a0 a1.l a2 a3 a4) k30 x34.elems.l k47 b37 y)/\At [3,4,5,7,10,11,20,69,70,71,90,91,92] [iv a3,iv a4,.la 5 0,.la 7 0,.la 10 0,.la 11 0,.bool b37,kD a0.lines,ck a0.lines.l.length,ck k30,kU x34.elems,ck x34.elems.l.length,ck k47] bV.empty [(5,(bY.af a0)),(7,(dO.af a2)),(10,[iN,iv 0]),(11,(List.map AV.bool l48))] e h) ?_ (k0:=0) d4 ⟨l31,gE,(by exact V1 hKc),atR⟩
 rintro k47 e h hkk47 ⟨l48,hLb,hKl,hA⟩
 refine aE ?_
 refine kE (λh49=>?_) (λh49=>?_)
 refine ai ?_
 refine wy [iv a3,iv a4,.la 5 0,.la 7 0,.la 10 0,.la 11 0,.bool b37,kD a0.lines,ck a0.lines.l.length,ck k30,kU x34.elems,ck x34.elems.l.length,ck k47] [(5,(bY.af a0)),(7,(dO.af a2)),(10,[iN,iv 0]),(11,(List.map AV.bool l48))] ?_
 refine bQ ?_
 have hx50:k47<x34.elems.l.length:=by omega
 refine mB k47 x34.elems hx50 ?_
 generalize hqx51:x34.elems.l[k47]=x51
 have hinx51:x51∈x34.elems.l:=by rw [<- hqx51]; exact List.getElem_mem _
 first | have hgx51:=hRo x51 hinx51 | have hgx51:=hgE x51 hinx51 | have hgx51:=hgL x51 hinx51
 have hgax51:=hgx51.1; have hgbx51:=hgx51.2
 refine bF ?_
 refine ci ?_
 have hk52:(((x51).toNat:Nat):Int)=x51:=Int.toNat_of_nonneg dX
 have hx53:(x51).toNat<l48.length:=by first | omega | (simp<;>omega) | (simp_all; omega)
 refine iS rfl (λ_=>ym (k:=(x51).toNat) rfl rfl rfl rfl rfl (congrArg (AV.int .i64) hk52.symm) (by have:=hx53; first | omega | (simp at this; omega))) ?_
 obtain ⟨b54,hqb54⟩:∃ x,l48[(x51).toNat]=x:=⟨_,rfl⟩
 refine mh (b:=b54) rfl (λ_=>QX (l:=l48) rfl rfl rfl rfl hx53 hqb54) (λh55=>?_) (λh55=>?_)
 refine oV ?_
 refine oS ?_
 refine oV ?_
 have hk56:(((x51).toNat:Nat):Int)=x51:=Int.toNat_of_nonneg dX
 have hx57:(x51).toNat<l48.length:=by first | omega | (simp<;>omega) | (simp_all; omega)
 refine iS rfl (λ_=>ym (k:=(x51).toNat) rfl rfl rfl rfl rfl (congrArg (AV.int .i64) hk56.symm) (by have:=hx57; first | omega | (simp at this; omega))) ?_
 refine iS rfl (λ_=>B0 (l:=l48) (b:=true) rfl rfl rfl rfl rfl rfl hx57) ?_
 refine bS ?_
 refine kI ?_
 refine ab ?_
 exact j4
 refine oV ?_
 refine mh (b:=b37) rfl (λ_=>rfl) (λh58=>?_) (λh58=>?_)
 refine oV ?_
 have hk59:(((x51).toNat:Nat):Int)=x51:=Int.toNat_of_nonneg dX
 have hx60:(x51).toNat<l48.length:=by first | omega | (simp<;>omega) | (simp_all; omega)
 refine iS rfl (λ_=>ym (k:=(x51).toNat) rfl rfl rfl rfl rfl (congrArg (AV.int .i64) hk59.symm) (by have:=hx60; first | omega | (simp at this; omega))) ?_
 refine iS rfl (λ_=>B0 (l:=l48) (b:=true) rfl rfl rfl rfl rfl rfl hx60) ?_
 refine bS ?_
 refine kI ?_
 refine ab ?_
 exact j4
 refine oV ?_
 have hk61:(((x51).toNat:Nat):Int)=x51:=Int.toNat_of_nonneg dX
 have hx62:(x51).toNat<l48.length:=by first | omega | (simp<;>omega) | (simp_all; omega)
 refine iS rfl (λ_=>ym (k:=(x51).toNat) rfl rfl rfl rfl rfl (congrArg (AV.int .i64) hk61.symm) (by have:=hx62; first | omega | (simp at this; omega))) ?_
 refine iS rfl (λ_=>B0 (l:=l48) (b:=false) rfl rfl rfl rfl rfl rfl hx62) ?_
 refine oN ?_
 refine wy [iv a3,iv a4,.la 5 0,.la 7 0,.la 10 0,.la 11 0,.bool b37,kD a0.lines,ck a0.lines.l.length,ck k30,kU x34.elems,ck x34.elems.l.length,ck k47] [(5,(bY.af a0)),(7,(dO.af a2)),(10,[iN,iv 0]),(11,(List.map AV.bool (l48.set ((x51).toNat) false)))] ?_
 refine qg ?_
 refine kI ?_
 refine ab ?_
 exact ⟨by omega,((l48.set ((x51).toNat) false)),eZ,fj,atR⟩
 refine ah ?_
 refine wy [iv a3,iv a4,.la 5 0,.la 7 0,.la 10 0,.la 11 0,kD a0.lines,ck a0.lines.l.length,ck k30] [(5,(bY.af a0)),(7,(dO.af a2)),(10,[iN,iv 0]),(11,(List.map AV.bool l48))] ?_
 refine qg ?_
 refine kI ?_
 refine ab ?_
 exact ⟨by omega,l48,eZ,(by exact R8 q5 hKl hMt d4 hKc dT d4),atR⟩
 refine ah ?_
 refine wy [iv a3,iv a4,.la 5 0,.la 7 0,.la 10 0,.la 11 0] [(5,(bY.af a0)),(7,(dO.af a2)),(10,[iN,iv 0]),(11,(List.map AV.bool l31))] ?_
 refine cy ?_
 refine bp ?_
 refine iS rfl (λ_=>TP (n:=40) (l:=l31) rfl rfl rfl rfl rfl dX) ?_
 refine aC ?_
 have hS63:=Sep.m3 lJ 1
 refine ke 40 (λk64 e h=>∃ v65:AV,∃ l66:List Int,∃ H67:bV,(l66.length<=0+k64)/\(zn l31 (λy=>y≠oe a0 a2 a3 a4/\lR a0 y≠4) k64 l66)/\Sep H67 (om v65 l66::[])/\At [3,4,5,7,10,25,107,108] [iv a3,iv a4,.la 5 0,.la 7 0,.la 10 0,.la 25 0,.agg (List.map AV.bool l31),ck k64] H67 [(5,(bY.af a0)),(7,(dO.af a2)),(10,[iN,iv 0]),(25,[v65,iv (-1)])] e h) ?_ (k0:=0) d4 ⟨iN,(([]:List Int)),bV.empty,eR,(by exact UO),hS63,atR⟩
 rintro k64 e h hkk64 ⟨v65,l66,H67,hl69,hTk,hS68,hA⟩
 refine aE ?_
 refine kE (λh70=>?_) (λh70=>?_)
 refine ai ?_
 refine wz [iv a3,iv a4,.la 5 0,.la 7 0,.la 10 0,.la 25 0,.agg (List.map AV.bool l31),ck k64] H67 [(5,(bY.af a0)),(7,(dO.af a2)),(10,[iN,iv 0]),(25,[v65,iv (-1)])] ?_
 refine cw ?_
 have hx71:k64<l31.length:=by first | omega | (simp<;>omega) | (simp_all; omega)
 obtain ⟨b72,hqb72⟩:∃ x,l31[k64]=x:=⟨_,rfl⟩
 refine mh (b:=b72) rfl (λ_=>UU (k:=k64) (l:=l31) rfl rfl rfl rfl rfl rfl rfl (by have:=hx71; first | omega | (simp at this; omega)) hx71 hqb72) (λh73=>?_) (λh73=>?_)
 refine bF ?_
 refine bJ ?_
 refine oC (t38 a0 ((k64:Int))) ?_
 rintro _ ⟨r75,hc74,rfl⟩
 have hK:=hc74
 refine mg (λh76=>?_) (λh76=>?_)
 iterate 7 refine oV ?_
 refine oC (t91 a0 a2 a3 a4) ?_
 rintro _ ⟨r78,hc77,rfl⟩
 have hStn:=hc77
 refine mg (λh79=>?_) (λh79=>?_)
 refine ba ?_
 refine dz ?_
 refine kM rfl (lO (i:=0) (l:=l66) (enc:=kX) [((k64:Int))] hS68 rfl rfl rfl rfl rfl rfl rfl rfl rfl (λ_=>rfl) (.inl rfl) dZ (λ_=>rfl)) ?_
 rintro v80 H81 hS82
 refine oV ?_
 refine iS rfl (λ_=>pd rfl rfl rfl (nG rfl rfl (Sep.cell (i:=0) hS82 rfl)) (j8 (Sep.cell (i:=0) hS82 rfl) kK) rfl rfl) ?_
 refine oN ?_
 refine wz [iv a3,iv a4,.la 5 0,.la 7 0,.la 10 0,.la 25 0,.agg (List.map AV.bool l31),ck k64] H81 [(5,(bY.af a0)),(7,(dO.af a2)),(10,[iN,iv 0]),(25,[v80,iv (-1)])] ?_
 refine qg ?_
 refine kI ?_
 refine ab ?_
 exact ⟨by omega,v80,((l66++[((k64:Int))])),H81,dX,eL,hS82,atR⟩
 refine ap ?_
 refine bD ?_
 refine kI ?_
 refine ab ?_
 exact j5
 refine dr ?_
 refine ap ?_
 refine bD ?_
 refine kI ?_
 refine ab ?_
 exact j5
 refine bF ?_
 refine aa ?_
 refine aS ?_
 refine dr ?_
 refine ap ?_
 refine bD ?_
 refine kI ?_
 refine ab ?_
 exact j5
 refine ah ?_
 refine wz [iv a3,iv a4,.la 5 0,.la 7 0,.la 10 0,.la 10 0,.la 25 0] H67 [(5,(bY.af a0)),(7,(dO.af a2)),(10,[iN,iv 0]),(10,[iN,iv 0]),(25,[v65,iv (-1)])] ?_
 refine qs ?_
 refine bJ ?_
 refine kI ?_
 refine oC (t91 a0 a2 a3 (a4+1)) ?_
 rintro _ ⟨r84,hc83,rfl⟩
 have hStn:=hc83
 refine bi ?_
 refine oC (t38 a0 r84) ?_
 rintro _ ⟨r86,hc85,rfl⟩
 have hK:=hc85
 refine mg (λh87=>?_) (λh87=>?_)
 refine ay ?_
 refine qg ?_
 refine bM ?_
 refine wz [.la 10 0,.la 10 0,.la 25 0] H67 [(10,[iN,iv 0]),(10,[iN,iv 0]),(25,[v65,iv r84])] ?_
 refine aj ?_
 refine dk ?_
 obtain ⟨r88,hl89,hf90⟩:=mz (H:=H67) (i:=0) (l:=l66) (enc:=kX) hS68 rfl dV
 have hlq:=hl89; have hln92:=congrArg List.length hl89
 have hz91:∀ m,freeze false { H67 with cT:=[(10,[v65,iv r84]),(25,[v65,iv r84])] } (m+2) v65=some (kU r88):=λm=>hf90 _ _ (λ_=>rfl)
 exact ⟨.agg [v65,iv r84],(lQ (vs:=[.agg [v65,iv r84]]) rfl rfl),.agg [kU r88,iv r84],(show freeze false { H67 with cT:=[(10,[v65,iv r84]),(25,[v65,iv r84])] } 8 (.agg [v65,iv r84])=some (.agg [kU r88,iv r84]) by simp only [FZ,hz91]),(⟨r88,r84⟩:lL),gS,rfl⟩
 refine au ?_
 refine wz [.la 10 0,.la 10 0,.la 25 0] H67 [(10,[iN,iv 0]),(10,[iN,iv 0]),(25,[v65,iv (-1)])] ?_
 refine aj ?_
 refine dk ?_
 obtain ⟨r93,hl94,hf95⟩:=mz (H:=H67) (i:=0) (l:=l66) (enc:=kX) hS68 rfl dV
 have hlq:=hl94; have hln97:=congrArg List.length hl94
 have hz96:∀ m,freeze false { H67 with cT:=[(10,[v65,iv (-1)]),(25,[v65,iv (-1)])] } (m+2) v65=some (kU r93):=λm=>hf95 _ _ (λ_=>rfl)
 exact ⟨.agg [v65,iv (-1)],(lQ (vs:=[.agg [v65,iv (-1)]]) rfl rfl),.agg [kU r93,iv (-1)],(show freeze false { H67 with cT:=[(10,[v65,iv (-1)]),(25,[v65,iv (-1)])] } 8 (.agg [v65,iv (-1)])=some (.agg [kU r93,iv (-1)]) by simp only [FZ,hz96]),(⟨r93,(-1)⟩:lL),gS,rfl⟩
def P41 (_a0:bY) (_a1:Row kq) (_a2:dO) (_a3:Int) (_a4:Int) (v:AV):Prop:=∃ r0:kn,(rP _a0 _a1.l _a2 _a3 r0)/\v=.agg (kn.af r0)
def t41 (a0:bY) (a1:Row kq) (a2:dO) (a3:Int) (a4:Int) (q1:(∀ r∈a1.l,0<r.steps.l.length)) (q2:a1.l.length<=64) (q3:∀ r∈a2.runs.l,0<=r.ko/\r.ko<(a2.ko.l.length:Int)) (q4:∀ r∈a1.l,ri r) (q5:zX a0) (q6:a0.elems.l.length<=40) (q7:∀ r∈a2.runs.l,r.kr.l.length<=12) (qi:0<=a3/\a3<(a2.runs.l.length:Int)) (q8:a4=0):Ct 41 [.agg (bY.af a0),kx a1,.agg (dO.af a2),iv a3,iv a4] (P41 a0 a1 a2 a3 a4):=by
 refine kA MJ ?_
 refine cy ?_
 refine aY ?_
 refine kE (λh1=>?_) (λh1=>?_)
 refine b5 ?_
 refine bb ?_
 refine bN ?_
 refine cA ?_
 exact jP
 refine aM ?_
 have hL2:=a2.runs.lk
 refine lx a2.runs ?_
 refine mW (λh3=>?_) (λh3=>?_)
 refine bb ?_
 refine bN ?_
 refine cA ?_
 exact jP
 refine aD ?_
 refine kE (λh4=>?_) (λh4=>?_)
 refine bN ?_
 refine cA ?_
 exact jP
 refine c7 ?_
 have hx5:(a3).toNat<a2.runs.l.length:=by omega
 refine iS rfl (λ_=>kW (n:=a3) (r:=a2.runs) (enc:=kS.af) rfl rfl rfl rfl rfl d4 hx5 rfl) ?_
 generalize hqx6:a2.runs.l[(a3).toNat]=x6
 have hinx6:x6∈a2.runs.l:=by rw [<- hqx6]; exact List.getElem_mem _
 have hgx6:=q7 x6 hinx6; have hnx6:=CL hqx6
 refine ao ?_
 have hL7:=x6.kr.lk
 refine lx x6.kr ?_
 refine mc (λh8=>?_) (λh8=>?_)
 refine cA ?_
 exact jP
 refine b8 ?_
 refine bJ ?_
 refine oC (t91 a0 a2 a3 a4) ?_
 rintro _ ⟨r10,hc9,rfl⟩
 have hStn:=hc9
 refine ab ?_
 refine aR ?_
 refine oC (t38 a0 r10) ?_
 rintro _ ⟨r12,hc11,rfl⟩
 have hK:=hc11
 refine aN ?_
 refine mg (λh13=>?_) (λh13=>?_)
 refine ao ?_
 refine mg (λh14=>?_) (λh14=>?_)
 refine ba ?_
 refine qg ?_
 refine cG ?_
 refine wy [kx a1,iv a3,iv a4,.la 5 0,.la 7 0,.la 10 0,.la 11 0] [(5,(bY.af a0)),(7,(dO.af a2)),(10,[iN,iN]),(11,[.sl [[iv r10]] (.exact 1),iN])] ?_
 refine am ?_
 refine aC ?_
 have hS15:=Sep.m3 lJ 2
 refine nw (λm21 e h=>∃ v16:AV,∃ l17:List lL,∃ n18:Int,∃ H19:bV,m21=((so a2 a3:Int) - n18).toNat/\(0<=n18/\n18<=(so a2 a3:Int))/\((l17.length:Int)<=n18)/\(WL a0 a1.l a2 a3 l17 (n18).toNat)/\Sep H19 (nu lL.af 2 v16 l17::[])/\At [1,3,5,7,10,11,14] [kx a1,iv a3,.la 5 0,.la 7 0,.la 10 0,.la 11 0,iv n18] H19 [(5,(bY.af a0)),(7,(dO.af a2)),(10,[iN,iN]),(11,[.sl [[iv r10]] (.exact 1),v16])] e h) ?_ _ _ _ ⟨iN,(([]:List lL)),a4,bV.empty,rfl,d4,fg,gO,hS15,atR⟩
 rintro m21 e h ⟨v16,l17,n18,H19,hmm21,hi0,hi1,hWl,hS20,hA⟩
 refine cu ?_
 refine ao ?_
 have hx22:(a3).toNat<a2.runs.l.length:=by omega
 refine iS rfl (λ_=>kW (n:=a3) (r:=a2.runs) (enc:=kS.af) rfl rfl rfl rfl rfl d4 hx22 rfl) ?_
 rw [hqx6]
 refine ao ?_
 have hL24:=x6.kr.lk
 refine lx x6.kr ?_
 refine kE (λh25=>?_) (λh25=>?_)
 refine cb ?_
 refine wz [kx a1,iv a3,.la 5 0,.la 7 0,.la 10 0,.la 11 0,iv n18] H19 [(5,(bY.af a0)),(7,(dO.af a2)),(10,[iN,iN]),(11,[.sl [[iv r10]] (.exact 1),v16])] ?_
 refine dM ?_
 refine rC (t93 a0 a1 a2 a3 n18 dS dS dS dS dS dS dS) ?_
 rintro _ ⟨r27,hc26,rfl⟩
 have hWn:=hc26
 refine kG rfl rfl (λ_=>sJ (xs:=[(lL.af r27)]) rfl rfl rfl rfl (yU (j8 (mH _) (j8 rfl kK)) rfl)) ?_
 refine mP rfl rfl (lO (i:=0) (l:=l17) (enc:=lL.af) [r27] hS20 rfl rfl rfl rfl rfl rfl rfl rfl rfl (λ_=>rfl) (.inl rfl) dZ (λ_=>rfl)) ?_
 rintro v28 H29 hS30
 refine rV ?_
 refine kG rfl rfl (λ_=>pd rfl rfl rfl (nG rfl rfl (Sep.cell (i:=0) hS30 rfl)) (j8 (Sep.cell (i:=0) hS30 rfl) kK) rfl rfl) ?_
 refine rN ?_
 refine wz [kx a1,iv a3,.la 5 0,.la 7 0,.la 10 0,.la 11 0,iv n18] H29 [(5,(bY.af a0)),(7,(dO.af a2)),(10,[iN,iN]),(11,[.sl [[iv r10]] (.exact 1),v28])] ?_
 refine aJ ?_
 refine kI ?_
 refine ab ?_
 refine ⟨_,?_,v28,((l17++[r27])),(n18+1),H29,rfl,d4,fg,iC,hS30,atR⟩
 omega
 refine aL ?_
 refine wz [.la 10 0,.la 10 0,.la 11 0] H19 [(10,[iN,iN]),(10,[iN,iN]),(11,[.sl [[iv r10]] (.exact 1),v16])] ?_
 refine aj ?_
 refine iS rfl (λ_=>pd rfl rfl rfl rfl (j8 rfl (j8 (Sep.cell (i:=0) hS20 rfl) kK)) rfl rfl) ?_
 refine cN ?_
 obtain ⟨r31,hl32,hf33⟩:=mz (H:=H19) (i:=0) (l:=l17) (enc:=lL.af) hS20 rfl dV
 have hlq:=hl32; have hln35:=congrArg List.length hl32
 have hz34:∀ m,freeze false { H19 with cT:=[(10,[.sl [[iv r10]] (.exact 1),v16]),(11,[.sl [[iv r10]] (.exact 1),v16])] } (m+2) v16=some (nJ r31):=λm=>hf33 _ _ (λ_=>by simp only [lL.af,kP,oD,oZ,pB,oz,pE])
 exact ⟨.agg [.sl [[iv r10]] (.exact 1),v16],(lQ (vs:=[.agg [.sl [[iv r10]] (.exact 1),v16]]) rfl rfl),.agg [.sl [[iv r10]] (.exact 1),nJ r31],(show freeze false { H19 with cT:=[(10,[.sl [[iv r10]] (.exact 1),v16]),(11,[.sl [[iv r10]] (.exact 1),v16])] } 8 (.agg [.sl [[iv r10]] (.exact 1),v16])=some (.agg [.sl [[iv r10]] (.exact 1),nJ r31]) by simp only [FZ,hz34]),(⟨(⟨[r10],.exact 1,rD,rfl,oq⟩:Row Int),r31⟩:kn),eF,rfl⟩
 refine b8 ?_
 refine am ?_
 refine aC ?_
 have hS36:=Sep.m3 lJ 2
 refine nw (λm42 e h=>∃ v37:AV,∃ l38:List lL,∃ n39:Int,∃ H40:bV,m42=((so a2 a3:Int) - n39).toNat/\(0<=n39/\n39<=(so a2 a3:Int))/\((l38.length:Int)<=n39)/\(WL a0 a1.l a2 a3 l38 (n39).toNat)/\Sep H40 (nu lL.af 2 v37 l38::[])/\At [1,3,5,7,10,11,14] [kx a1,iv a3,.la 5 0,.la 7 0,.la 10 0,.la 11 0,iv n39] H40 [(5,(bY.af a0)),(7,(dO.af a2)),(10,[iN,iN]),(11,[iN,v37])] e h) ?_ _ _ _ ⟨iN,(([]:List lL)),a4,bV.empty,rfl,d4,fg,gO,hS36,atR⟩
 rintro m42 e h ⟨v37,l38,n39,H40,hmm42,hi0,hi1,hWl,hS41,hA⟩
 refine cu ?_
 refine ao ?_
 have hx43:(a3).toNat<a2.runs.l.length:=by omega
 refine iS rfl (λ_=>kW (n:=a3) (r:=a2.runs) (enc:=kS.af) rfl rfl rfl rfl rfl d4 hx43 rfl) ?_
 rw [hqx6]
 refine ao ?_
 have hL45:=x6.kr.lk
 refine lx x6.kr ?_
 refine kE (λh46=>?_) (λh46=>?_)
 refine cb ?_
 refine wz [kx a1,iv a3,.la 5 0,.la 7 0,.la 10 0,.la 11 0,iv n39] H40 [(5,(bY.af a0)),(7,(dO.af a2)),(10,[iN,iN]),(11,[iN,v37])] ?_
 refine dM ?_
 refine rC (t93 a0 a1 a2 a3 n39 dS dS dS dS dS dS dS) ?_
 rintro _ ⟨r48,hc47,rfl⟩
 have hWn:=hc47
 refine kG rfl rfl (λ_=>sJ (xs:=[(lL.af r48)]) rfl rfl rfl rfl (yU (j8 (mH _) (j8 rfl kK)) rfl)) ?_
 refine mP rfl rfl (lO (i:=0) (l:=l38) (enc:=lL.af) [r48] hS41 rfl rfl rfl rfl rfl rfl rfl rfl rfl (λ_=>rfl) (.inl rfl) dZ (λ_=>rfl)) ?_
 rintro v49 H50 hS51
 refine rV ?_
 refine kG rfl rfl (λ_=>pd rfl rfl rfl (nG rfl rfl (Sep.cell (i:=0) hS51 rfl)) (j8 (Sep.cell (i:=0) hS51 rfl) kK) rfl rfl) ?_
 refine rN ?_
 refine wz [kx a1,iv a3,.la 5 0,.la 7 0,.la 10 0,.la 11 0,iv n39] H50 [(5,(bY.af a0)),(7,(dO.af a2)),(10,[iN,iN]),(11,[iN,v49])] ?_
 refine aJ ?_
 refine kI ?_
 refine ab ?_
 refine ⟨_,?_,v49,((l38++[r48])),(n39+1),H50,rfl,d4,fg,iC,hS51,atR⟩
 omega
 refine aL ?_
 refine ct ?_
 obtain ⟨r52,hl53,hf54⟩:=mz (H:=H40) (i:=0) (l:=l38) (enc:=lL.af) hS41 rfl dV
 have hlq:=hl53; have hln56:=congrArg List.length hl53
 have hz55:∀ m,freeze false { H40 with cT:=[(10,[iN,v37]),(11,[iN,v37])] } (m+2) v37=some (nJ r52):=λm=>hf54 _ _ (λ_=>by simp only [lL.af,kP,oD,oZ,pB,oz,pE])
 exact ⟨.agg [iN,v37],(lQ (vs:=[.agg [iN,v37]]) rfl rfl),.agg [iN,nJ r52],(show freeze false { H40 with cT:=[(10,[iN,v37]),(11,[iN,v37])] } 8 (.agg [iN,v37])=some (.agg [iN,nJ r52]) by simp only [FZ,hz55]),(⟨(mu:Row Int),r52⟩:kn),eF,rfl⟩
 refine bj ?_
 refine b8 ?_
 refine am ?_
 refine aC ?_
 have hS57:=Sep.m3 lJ 2
 refine nw (λm63 e h=>∃ v58:AV,∃ l59:List lL,∃ n60:Int,∃ H61:bV,m63=((so a2 a3:Int) - n60).toNat/\(0<=n60/\n60<=(so a2 a3:Int))/\((l59.length:Int)<=n60)/\(WL a0 a1.l a2 a3 l59 (n60).toNat)/\Sep H61 (nu lL.af 2 v58 l59::[])/\At [1,3,5,7,10,11,14] [kx a1,iv a3,.la 5 0,.la 7 0,.la 10 0,.la 11 0,iv n60] H61 [(5,(bY.af a0)),(7,(dO.af a2)),(10,[iN,iN]),(11,[iN,v58])] e h) ?_ _ _ _ ⟨iN,(([]:List lL)),a4,bV.empty,rfl,d4,fg,gO,hS57,atR⟩
 rintro m63 e h ⟨v58,l59,n60,H61,hmm63,hi0,hi1,hWl,hS62,hA⟩
 refine cu ?_
 refine ao ?_
 have hx64:(a3).toNat<a2.runs.l.length:=by omega
 refine iS rfl (λ_=>kW (n:=a3) (r:=a2.runs) (enc:=kS.af) rfl rfl rfl rfl rfl d4 hx64 rfl) ?_
 rw [hqx6]
 refine ao ?_
 have hL66:=x6.kr.lk
 refine lx x6.kr ?_
 refine kE (λh67=>?_) (λh67=>?_)
 refine cb ?_
 refine wz [kx a1,iv a3,.la 5 0,.la 7 0,.la 10 0,.la 11 0,iv n60] H61 [(5,(bY.af a0)),(7,(dO.af a2)),(10,[iN,iN]),(11,[iN,v58])] ?_
 refine dM ?_
 refine rC (t93 a0 a1 a2 a3 n60 dS dS dS dS dS dS dS) ?_
 rintro _ ⟨r69,hc68,rfl⟩
 have hWn:=hc68
 refine kG rfl rfl (λ_=>sJ (xs:=[(lL.af r69)]) rfl rfl rfl rfl (yU (j8 (mH _) (j8 rfl kK)) rfl)) ?_
 refine mP rfl rfl (lO (i:=0) (l:=l59) (enc:=lL.af) [r69] hS62 rfl rfl rfl rfl rfl rfl rfl rfl rfl (λ_=>rfl) (.inl rfl) dZ (λ_=>rfl)) ?_
 rintro v70 H71 hS72
 refine rV ?_
 refine kG rfl rfl (λ_=>pd rfl rfl rfl (nG rfl rfl (Sep.cell (i:=0) hS72 rfl)) (j8 (Sep.cell (i:=0) hS72 rfl) kK) rfl rfl) ?_
 refine rN ?_
 refine wz [kx a1,iv a3,.la 5 0,.la 7 0,.la 10 0,.la 11 0,iv n60] H71 [(5,(bY.af a0)),(7,(dO.af a2)),(10,[iN,iN]),(11,[iN,v70])] ?_
 refine aJ ?_
 refine kI ?_
 refine ab ?_
 refine ⟨_,?_,v70,((l59++[r69])),(n60+1),H71,rfl,d4,fg,iC,hS72,atR⟩
 omega
 refine aL ?_
 refine wz [.la 10 0,.la 10 0,.la 11 0] H61 [(10,[iN,iN]),(10,[iN,iN]),(11,[iN,v58])] ?_
 refine aj ?_
 refine iS rfl (λ_=>pd rfl rfl rfl rfl (j8 rfl (j8 (Sep.cell (i:=0) hS62 rfl) kK)) rfl rfl) ?_
 refine cN ?_
 obtain ⟨r73,hl74,hf75⟩:=mz (H:=H61) (i:=0) (l:=l59) (enc:=lL.af) hS62 rfl dV
 have hlq:=hl74; have hln77:=congrArg List.length hl74
 have hz76:∀ m,freeze false { H61 with cT:=[(10,[iN,v58]),(11,[iN,v58])] } (m+2) v58=some (nJ r73):=λm=>hf75 _ _ (λ_=>by simp only [lL.af,kP,oD,oZ,pB,oz,pE])
 exact ⟨.agg [iN,v58],(lQ (vs:=[.agg [iN,v58]]) rfl rfl),.agg [iN,nJ r73],(show freeze false { H61 with cT:=[(10,[iN,v58]),(11,[iN,v58])] } 8 (.agg [iN,v58])=some (.agg [iN,nJ r73]) by simp only [FZ,hz76]),(⟨(mu:Row Int),r73⟩:kn),eF,rfl⟩
def P9 (_a0:bY) (_a1:kV) (_a2:dO) (_a3:ka Int) (_a4:ka Int) (v:AV):Prop:=∃ r0:Row kn,(mN _a0 _a1.roads.l _a2 r0.l _a2.runs.l.length)/\v=ma r0
def t9 (a0:bY) (a1:kV) (a2:dO) (a3:ka Int) (a4:ka Int) (q1:(∀ r∈a1.roads.l,0<r.steps.l.length)) (q2:a1.roads.l.length<=64) (q3:∀ r∈a2.runs.l,0<=r.ko/\r.ko<(a2.ko.l.length:Int)) (q4:∀ r∈a1.roads.l,ri r) (q5:zX a0) (q6:a0.elems.l.length<=40) (q7:∀ r∈a2.runs.l,r.kr.l.length<=12) (o5:a3.l.length=a2.runs.l.length) (o6:a4.l.length=a2.runs.l.length) (o7:∀ x∈a3.l,x=0) (o8:∀ x∈a4.l,x = -1) (o9:a2.runs.l.length<=8):Ct 9 [.agg (bY.af a0),.agg (kV.af a1),.agg (dO.af a2),lG a3,lG a4] (P9 a0 a1 a2 a3 a4):=by
 refine kA TB ?_
 refine aa ?_
 refine cG ?_
 refine bC ?_
 refine aR ?_
 have hL1:=a2.runs.lk
 refine lx a2.runs ?_
 refine aC ?_
 have hS2:=Sep.m3 lJ 2
 have hNk3:=a2.runs.lk
 refine ke a2.runs.l.length (λk3 e h=>∃ v4:AV,∃ l5:List kn,∃ H6:bV,(l5.length<=0+k3)/\(mN a0 a1.roads.l a2 l5 k3)/\Sep H6 (nu kn.af 2 v4 l5::[])/\At [3,4,5,6,7,11,16,17] [lG a3,lG a4,.la 5 0,.la 6 0,.la 7 0,v4,ck a2.runs.l.length,ck k3] H6 [(5,(bY.af a0)),(6,(kV.af a1)),(7,(dO.af a2))] e h) ?_ (k0:=0) d4 ⟨iN,(([]:List kn)),bV.empty,eR,(by exact mN.zero),hS2,atR⟩
 rintro k3 e h hkk3 ⟨v4,l5,H6,hl8,hCs,hS7,hA⟩
 refine aE ?_
 refine kE (λh9=>?_) (λh9=>?_)
 refine ai ?_
 refine wz [lG a3,lG a4,.la 5 0,.la 6 0,.la 7 0,v4,ck a2.runs.l.length,ck k3] H6 [(5,(bY.af a0)),(6,(kV.af a1)),(7,(dO.af a2))] ?_ (kF hS7 [(11,0)])
 refine aw ?_
 refine dl ?_
 have hx10:k3<a3.l.length:=by omega
 refine iS rfl (λ_=>m8 (n:=k3) (r:=a3) (enc:=kX) rfl rfl rfl rfl rfl hx10 rfl) ?_
 generalize hqx11:a3.l[k3]=x11
 have hinx11:x11∈a3.l:=by rw [<- hqx11]; exact List.getElem_mem _
 have hzx11:=o7 x11 hinx11
 refine bF ?_
 refine aR ?_
 have hx12:k3<a4.l.length:=by omega
 refine iS rfl (λ_=>m8 (n:=k3) (r:=a4) (enc:=kX) rfl rfl rfl rfl rfl hx12 rfl) ?_
 generalize hqx13:a4.l[k3]=x13
 have hinx13:x13∈a4.l:=by rw [<- hqx13]; exact List.getElem_mem _
 have hzx13:=o8 x13 hinx13
 refine oV ?_
 refine mW (λh14=>?_) (λh14=>?_)
 refine ay ?_
 refine aJ ?_
 refine kI ?_
 refine ab ?_
 refine wz [lG a3,lG a4,.la 5 0,.la 6 0,.la 7 0,v4,ck k3,iv (x11+1),ck a2.runs.l.length,ck k3] H6 [(5,(bY.af a0)),(6,(kV.af a1)),(7,(dO.af a2))] ?_ (kF hS7 [(11,0)])
 refine aJ ?_
 refine c7 ?_
 refine oC (t41 a0 a1.roads a2 ((k3:Int)) (x11+1) dS dS dS dS dS dS dS dS dS) ?_
 rintro _ ⟨r16,hc15,rfl⟩
 have hCl31:=hc15
 refine iS rfl (λ_=>sJ (xs:=[(kn.af r16)]) rfl rfl rfl rfl (yU (j8 (mH _) (j8 (mH _) kK)) rfl)) ?_
 refine kM rfl (lO (i:=0) [r16] hS7 rfl rfl rfl rfl rfl rfl rfl rfl rfl (λ_=>rfl) (.inl rfl) dZ (λ_=>rfl)) ?_
 rintro v17 H18 hS19
 refine ab ?_
 refine wz [lG a3,lG a4,.la 5 0,.la 6 0,.la 7 0,v17,ck a2.runs.l.length,ck k3] H18 [(5,(bY.af a0)),(6,(kV.af a1)),(7,(dO.af a2))] ?_ (kF hS19 [(11,0)])
 refine qg ?_
 refine kI ?_
 refine ab ?_
 exact ⟨by omega,v17,((l5++[r16])),H18,dX,iB,hS19,(kF hS19 [(11,0)])⟩
 refine au ?_
 refine wz [lG a3,lG a4,.la 5 0,.la 6 0,.la 7 0,v4,ck k3,iv x11,ck a2.runs.l.length,ck k3] H6 [(5,(bY.af a0)),(6,(kV.af a1)),(7,(dO.af a2))] ?_ (kF hS7 [(11,0)])
 refine aJ ?_
 refine c7 ?_
 refine oC (t41 a0 a1.roads a2 ((k3:Int)) x11 dS dS dS dS dS dS dS dS dS) ?_
 rintro _ ⟨r21,hc20,rfl⟩
 have hCl31:=hc20
 refine iS rfl (λ_=>sJ (xs:=[(kn.af r21)]) rfl rfl rfl rfl (yU (j8 (mH _) (j8 (mH _) kK)) rfl)) ?_
 refine kM rfl (lO (i:=0) [r21] hS7 rfl rfl rfl rfl rfl rfl rfl rfl rfl (λ_=>rfl) (.inl rfl) dZ (λ_=>rfl)) ?_
 rintro v22 H23 hS24
 refine ab ?_
 refine wz [lG a3,lG a4,.la 5 0,.la 6 0,.la 7 0,v22,ck a2.runs.l.length,ck k3] H23 [(5,(bY.af a0)),(6,(kV.af a1)),(7,(dO.af a2))] ?_ (kF hS24 [(11,0)])
 refine qg ?_
 refine kI ?_
 refine ab ?_
 exact ⟨by omega,v22,((l5++[r21])),H23,dX,iB,hS24,(kF hS24 [(11,0)])⟩
 refine ah ?_
 refine wz [v4] H6 [] ?_ (kF hS7 [(11,0)])
 refine bT ?_
 obtain ⟨r25,hl26,hf27⟩:=mz (H:=H6) (i:=0) (l:=l5) (enc:=kn.af) hS7 rfl dV
 have hlq:=hl26; have hln29:=congrArg List.length hl26
 have hz28:∀ m,freeze false { H6 with cT:=[] } (m+2) v4=some (ma r25):=λm=>hf27 _ _ (λ_=>by simp only [kn.af,kP,oD,oZ,pB,oz,pE])
 exact ⟨v4,(lQ (vs:=[v4]) rfl (j8 (Sep.arg (i:=0) hS7 rfl) kK)),ma r25,(show freeze false { H6 with cT:=[] } 8 v4=some (ma r25) by simp only [FZ,hz28]),r25,(by exact hCs.end_ dT d4 d4),rfl⟩
def Zm (_a0:ka Int) (_a1:Int) (v:AV):Prop:=∃ r0:Bool,(((r0=true->_a1∈_a0.l)/\(r0=false->_a1∉_a0.l)))/\v=.bool r0
def t94 (a0:ka Int) (a1:Int) :Ct 94 [lG a0,iv a1] (Zm a0 a1):=by
 refine kA OM ?_
 refine aY ?_
 have hL1:=a0.lk
 refine iS rfl (λ_=>nA (r:=a0) (enc:=kX) rfl rfl rfl rfl rfl rfl) ?_
 refine aC ?_
 have hNk2:=a0.lk
 refine ke a0.l.length (λk2 e h=>(∀ (i:Nat) (h:i<a0.l.length),i<k2->¬ a0.l[i]=a1)/\At [1,7,8,9] [iv a1,lG a0,ck a0.l.length,ck k2] bV.empty [] e h) ?_ (k0:=0) d4 ⟨eX,atR⟩
 rintro k2 e h hkk2 ⟨hU,hA⟩
 refine aE ?_
 refine kE (λh3=>?_) (λh3=>?_)
 refine cm ?_
 have hx4:k2<a0.l.length:=by omega
 refine iS rfl (λ_=>m8 (n:=k2) (r:=a0) (enc:=kX) rfl rfl rfl rfl rfl hx4 rfl) ?_
 generalize hqx5:a0.l[k2]=x5
 refine oV ?_
 refine bi ?_
 refine kZ (λh6=>?_) (λh6=>?_)
 refine aZ ?_
 exact xB ⟨true,fk,rfl⟩
 refine bv ?_
 refine kI ?_
 refine ab ?_
 exact ⟨by omega,gM,atR⟩
 refine bE ?_
 exact xB ⟨false,fk,rfl⟩
def acD (_a0:ka kn) (_a1:Int) (_a2:Row Int) (v:AV):Prop:=∃ r0:Bool,(((r0=true->uM _a0.l _a1 _a2.l _a0.l.length)/\(r0=false->¬ uM _a0.l _a1 _a2.l _a0.l.length)))/\v=.bool r0
def t167 (a0:ka kn) (a1:Int) (a2:Row Int) :Ct 167 [ka.av kn.af a0,iv a1,kU a2] (acD a0 a1 a2):=by
 refine kA Jj ?_
 refine aY ?_
 have hL1:=a0.lk
 refine cJ ?_
 have hNk2:=a0.lk
 refine ke a0.l.length (λk2 e h=>(uM a0.l a1 a2.l k2)/\At [1,2,11,12,13] [iv a1,kU a2,ka.av kn.af a0,ck a0.l.length,ck k2] bV.empty [] e h) ?_ (k0:=0) d4 ⟨eX,atR⟩
 rintro k2 e h hkk2 ⟨hCl,hA⟩
 refine aE ?_
 refine kE (λh3=>?_) (λh3=>?_)
 refine ai ?_
 refine cw ?_
 have hx4:k2<a0.l.length:=by omega
 refine iS rfl (λ_=>m8 (n:=k2) (r:=a0) (enc:=kn.af) rfl rfl rfl rfl rfl hx4 rfl) ?_
 generalize hqx5:a0.l[k2]=x5
 refine oV ?_
 refine dq ?_
 have hL6:=x5.at_.lk
 refine lx x5.at_ ?_
 refine aC ?_
 have hNk7:=x5.at_.lk
 refine ke x5.at_.l.length (λk7 e h=>(¬ ((k2:Nat):Int)=a1->∀ (i:Nat) (hi:i<x5.at_.l.length),i<k7->x5.at_.l[i]∉a2.l)/\At [1,2,7,11,12,13,19,20,21] [iv a1,kU a2,ck k2,ka.av kn.af a0,ck a0.l.length,ck k2,kU x5.at_,ck x5.at_.l.length,ck k7] bV.empty [] e h) ?_ (k0:=0) d4 ⟨(by (intro _ i hi h; omega)),atR⟩
 rintro k7 e h hkk7 ⟨hCn,hA⟩
 refine aE ?_
 refine kE (λh8=>?_) (λh8=>?_)
 refine cm ?_
 have hx9:k7<x5.at_.l.length:=by omega
 refine mB k7 x5.at_ hx9 ?_
 generalize hqx10:x5.at_.l[k7]=x10
 refine oV ?_
 refine bi ?_
 refine mg (λh11=>?_) (λh11=>?_)
 refine aD ?_
 refine oC (t94 (Row.mi a2) x10) ?_
 rintro _ ⟨r13,hc12,rfl⟩
 have hIn:=hc12
 cases r13
 refine cE ?_
 refine kI ?_
 refine ab ?_
 exact ⟨by omega,gH,atR⟩
 refine aq ?_
 exact xB ⟨false,gA,rfl⟩
 refine bX ?_
 refine cE ?_
 refine kI ?_
 refine ab ?_
 exact ⟨by omega,gH,atR⟩
 refine ah ?_
 refine qg ?_
 refine kI ?_
 refine ab ?_
 exact ⟨by omega,(by exact N4 dT hCl hCn d4),atR⟩
 refine bE ?_
 exact xB ⟨true,gA,rfl⟩
def Zn (_a0:ka kn) (_a1:Int) (v:AV):Prop:=∃ r0:Bool,(((r0=true->tS (_a0.l.map mX) _a1.toNat)/\(r0=false->¬ tS (_a0.l.map mX) _a1.toNat)))/\v=.bool r0
def t95 (a0:ka kn) (a1:Int) (q1:0<=a1) (q2:a1<(a0.l.length:Int)):Ct 95 [ka.av kn.af a0,iv a1] (Zn a0 a1):=by
 refine kA Mw ?_
 refine bC ?_
 refine aR ?_
 have hx1:(a1).toNat<a0.l.length:=by omega
 refine iS rfl (λ_=>Ol (n:=a1) (r:=a0) (enc:=kn.af) rfl rfl rfl rfl rfl d4 hx1 rfl) ?_
 generalize hqx2:a0.l[(a1).toNat]=x2
 refine ao ?_
 have hL3:=x2.kr.lk
 refine lx x2.kr ?_
 refine aC ?_
 have hNk4:=x2.kr.lk
 refine ke x2.kr.l.length (λk4 e h=>(∀ (i:Nat) (hi:i<x2.kr.l.length),i<k4->uM a0.l a1 (x2.kr.l[i]).free.l a0.l.length)/\At [0,1,11,12,13] [ka.av kn.af a0,iv a1,nJ x2.kr,ck x2.kr.l.length,ck k4] bV.empty [] e h) ?_ (k0:=0) d4 ⟨(by (intro i hi h; omega)),atR⟩
 rintro k4 e h hkk4 ⟨hCa,hA⟩
 refine aE ?_
 refine kE (λh5=>?_) (λh5=>?_)
 refine cm ?_
 have hx6:k4<x2.kr.l.length:=by omega
 refine mB k4 x2.kr hx6 ?_
 generalize hqx7:x2.kr.l[k4]=x7
 refine bM ?_
 refine bJ ?_
 refine oC (t167 a0 a1 x7.free) ?_
 rintro _ ⟨r9,hc8,rfl⟩
 have hClr:=hc8
 cases r9
 refine aq ?_
 exact xB ⟨false,gx,rfl⟩
 refine cE ?_
 refine kI ?_
 refine ab ?_
 exact ⟨by omega,(by exact ng (P:=λw:lL=>uM a0.l a1 w.free.l a0.l.length) dT hCa (hClr.1 rfl)),atR⟩
 refine bE ?_
 exact xB ⟨true,gx,rfl⟩
def P42 (_a0:Row kn) (v:AV):Prop:=∃ r0:Row Int,∃ r1:Bool,(rH (_a0.l.map mX) r1)/\v=.kO [kU r0,.bool r1]
def t42 (a0:Row kn) (q1:a0.l.length<=8):Ct 42 [ma a0] (P42 a0):=by
 refine kA NF ?_
 refine dl ?_
 have hS1:=Sep.qj lJ 2
 have hL2:=a0.lk
 refine kM (H:=bV.empty) rfl (lO (H:=bV.empty) (i:=0) (l:=([]:List kn)) (enc:=kn.af) a0.l hS1 rfl rfl rfl rfl rfl rfl rfl rfl rfl (λ_=>rfl) (.inl rfl) dZ (λ_=>rfl)) ?_
 rintro v3 H4 hS5
 refine ab ?_
 refine bC ?_
 refine aw ?_
 have hS6:=Sep.m3 hS5 1
 refine nw (λm13 e h=>∃ v7:AV,∃ l8:List Int,∃ v9:AV,∃ l10:List kn,∃ H11:bV,m13=((a0.l.length:Int) - l8.length).toNat/\(l10.length=a0.l.length)/\(l8.length<=a0.l.length)/\(p4 (a0.l.map mX) l8.length (l10.map mX) (sA a0.l.length l8))/\Sep H11 (om v7 l8::nu kn.af 2 v9 l10::[])/\At [0,4] [v9,v7] H11 [] e h) ?_ _ _ _ ⟨iN,(([]:List Int)),v3,((([]:List kn)++a0.l)),H4,rfl,fQ,fQ,(by exact WZ fQ rfl),hS6,(kF hS6 [(0,1)])⟩
 rintro m13 e h ⟨v7,l8,v9,l10,H11,hmm13,hL0,hLq,hRc,hS12,hA⟩
 refine rR hA ?_
 have hTrue:=True.intro
 refine am ?_
 refine iS rfl (λ_=>nO (H:=H11) (i:=0) (l:=l8) (enc:=kX) hS12 rfl rfl rfl rfl rfl rfl rfl) ?_
 refine oV ?_
 refine iS rfl (λ_=>nO (H:=H11) (i:=1) (l:=l10) (enc:=kn.af) hS12 rfl rfl rfl rfl rfl rfl rfl) ?_
 refine kE (λh14=>?_) (λh14=>?_)
 refine cb ?_
 refine wz [v9,v7] H11 [] ?_ (kF hS12 [(0,1),(4,0)])
 refine qb ?_
 refine bC ?_
 refine bo ?_
 have hNk15:=a0.lk
 refine ke a0.l.length (λk15 e h=>∃ v16:AV,∃ l17:List Int,∃ v18:AV,∃ l19:List kn,∃ b20:Bool,∃ H21:bV,(l17.length<=l8.length+1)/\(l19.length=a0.l.length)/\(rf l10 l8 a0.l.length b20 l19 l17 k15)/\Sep H21 (om v16 l17::nu kn.af 2 v18 l19::[])/\At [0,4,5,6] [v18,v16,.bool b20,ck k15] H21 [] e h) ?_ (k0:=0) d4 ⟨v7,l8,v9,l10,false,H11,d4,d4,(by exact rf.zero),hS12,(kF hS12 [(0,1),(4,0)])⟩
 rintro k15 e h hkk15 ⟨v16,l17,v18,l19,b20,H21,hLo,hL1,hFn,hS22,hA⟩
 refine cu ?_
 refine iS rfl (λ_=>nO (H:=H21) (i:=1) (l:=l19) (enc:=kn.af) hS22 rfl rfl rfl rfl rfl rfl rfl) ?_
 refine kE (λh23=>?_) (λh23=>?_)
 refine oV ?_
 refine mh (b:=b20) rfl (λ_=>rfl) (λh24=>?_) (λh24=>?_)
 refine ao ?_
 refine aL ?_
 refine wz [v18,v16,.bool b20] H21 [] ?_ (kF hS22 [(0,1),(4,0)])
 refine aa ?_
 refine mh (b:=b20) rfl (λ_=>rfl) (λh25=>?_) (λh25=>?_)
 refine ap ?_
 have hOln:=hFn.len dT
 refine ⟨_,?_,v16,l17,v18,l19,H21,rfl,d4,d4,(by exact hFn.Zo dT hRc),hS22,(kF hS22 [(0,1),(4,0)])⟩
 omega
 refine cA ?_
 exact xG ⟨(mu:Row Int),false,gn,rfl⟩
 refine ao ?_
 refine cb ?_
 refine wz [v18,v16,.bool b20,ck k15] H21 [] ?_ (kF hS22 [(0,1),(4,0)])
 refine aw ?_
 refine ae ?_
 refine nd hS22 0 λr26 hl27 hln30 hz29=>?_
 refine ns (args:=[v16,ck k15]) (p:=[]) (r:=[]) (args':=[lG r26,ck k15]) (R:=Zm r26 ((k15:Int))) rfl rfl rfl rfl rfl (j8 (Sep.arg (i:=0) hS22 rfl) (j8 rfl kK)) rfl fh (lj (by show kP (freeze true { H21 with cT:=[] } 8) [v16,ck k15] = _; simp only [FZ,hz29]) (j8 (Sep.ot (i:=0) hS22 rfl) (j8 rfl kK))) (lj e9 (j8 rfl (j8 rfl kK))) (λh=>t94 r26 ((k15:Int))  h) ?_
 rintro _ ⟨r32,hc31,rfl⟩
 have hIn:=hc31
 cases r32
 refine aM ?_
 refine nd hS22 1 λr33 hl34 hln37 hz36=>?_
 refine ns (args:=[v18,ck k15]) (p:=[]) (r:=[]) (args':=[ka.av kn.af r33,ck k15]) (R:=Zn r33 ((k15:Int))) rfl rfl rfl rfl rfl (j8 (Sep.arg (i:=1) hS22 rfl) (j8 rfl kK)) rfl fh (lj (by show kP (freeze true { H21 with cT:=[] } 8) [v18,ck k15] = _; simp only [FZ,hz36]) (j8 (Sep.ot (i:=1) hS22 rfl) (j8 rfl kK))) (lj e9 (j8 rfl (j8 rfl kK))) (λh=>t95 r33 ((k15:Int)) dS dS h) ?_
 rintro _ ⟨r39,hc38,rfl⟩
 have hCan:=hc38
 cases r39
 refine ap ?_
 refine wz [v18,v16,.bool b20,ck k15] H21 [] ?_ (kF hS22 [(0,1),(4,0)])
 refine aJ ?_
 refine kI ?_
 refine ab ?_
 exact jQ
 refine dH ?_
 refine KG 0 [((k15:Int))] hS22 λv40 H41 hS42=>?_
 refine ab ?_
 refine bu ?_
 have hx43:k15<l19.length:=by first | omega | (simp<;>omega) | (simp_all; omega)
 obtain ⟨x44,hqx44⟩:∃ x,l19[k15]=x:=⟨_,rfl⟩
 refine nM rfl (mS (H:=H41) (i:=1) (m:=k15) (cs:=kn.af x44) hS42 rfl rfl rfl rfl rfl rfl rfl (mq hx43 hqx44)) ?_
 rintro a45 ⟨ha46,hea47⟩
 refine kM (H:=H41) rfl (oY (H:=H41) (i:=1) (m:=k15) (o:=0) x44 (⟨(mu:Row Int),(mu:Row lL)⟩:kn) hS42 rfl hx43 hqx44 hea47 rfl ha46 rfl rfl rfl rfl) ?_
 rintro _ H48 ⟨rfl,hS49⟩
 refine ab ?_
 refine wz [v18,v40,.bool true,ck k15] H48 [] ?_ (kF hS49 [(0,1),(4,0)])
 refine aJ ?_
 refine kI ?_
 refine ab ?_
 exact ⟨by omega,v40,((l17++[((k15:Int))])),v18,((l19.set k15 (⟨(mu:Row Int),(mu:Row lL)⟩:kn))),true,H48,fK,gK,fP,hS49,(kF hS49 [(0,1),(4,0)])⟩
 refine dj ?_
 refine ap ?_
 refine wz [v18,v16,.bool b20,ck k15] H21 [] ?_ (kF hS22 [(0,1),(4,0)])
 refine aJ ?_
 refine kI ?_
 refine ab ?_
 exact jQ
 refine bj ?_
 refine oV ?_
 refine aL ?_
 refine wz [v18,v16,.bool b20] H21 [] ?_ (kF hS22 [(0,1),(4,0)])
 refine aa ?_
 refine mh (b:=b20) rfl (λ_=>rfl) (λh50=>?_) (λh50=>?_)
 refine ap ?_
 have hOln:=hFn.len dT
 refine ⟨_,?_,v16,l17,v18,l19,H21,rfl,d4,d4,(by exact hFn.Zo dT hRc),hS22,(kF hS22 [(0,1),(4,0)])⟩
 omega
 refine cA ?_
 exact xG ⟨(mu:Row Int),false,gn,rfl⟩
 refine aL ?_
 refine wz [v7] H11 [] ?_ (kF hS12 [(4,0)])
 refine aF ?_
 obtain ⟨r51,hl52,hf53⟩:=mz (H:=H11) (i:=0) (l:=l8) (enc:=kX) hS12 rfl dV
 have hlq:=hl52; have hln55:=congrArg List.length hl52
 have hz54:∀ m,freeze false { H11 with cT:=[] } (m+2) v7=some (kU r51):=λm=>hf53 _ _ (λ_=>rfl)
 exact ⟨.kO [v7,.bool true],(lQ (vs:=[v7,.bool true]) rfl (j8 (Sep.arg (i:=0) hS12 rfl) (j8 rfl kK))),.kO [kU r51,.bool true],(show freeze false { H11 with cT:=[] } 8 (.kO [v7,.bool true])=some (.kO [kU r51,.bool true]) by simp only [FZ,hz54]),r51,true,gn,rfl⟩
def P10 (_a0:Row kn) (v:AV):Prop:=∃ r0:Bool,(rH (_a0.l.map mX) r0)/\v=.bool r0
def t10 (a0:Row kn) (q1:a0.l.length<=8):Ct 10 [ma a0] (P10 a0):=by
 refine kA Pe ?_
 refine aa ?_
 refine aN ?_
 refine oC (t42 a0 dS) ?_
 rintro _ ⟨r2,r3,hc1,rfl⟩
 have hOrd:=hc1
 cases r3
 refine dg ?_
 refine bT ?_
 exact xB ⟨false,(by exact hOrd),rfl⟩
 refine dg ?_
 refine bT ?_
 exact xB ⟨true,(by exact hOrd),rfl⟩
def LP (_a0:Row Int) (_a1:ka Int) (v:AV):Prop:=∃ r0:Bool,((_a0.l = _a1.l->r0=true))/\v=.bool r0
def t11 (a0:Row Int) (a1:ka Int) :Ct 11 [kU a0,lG a1] (LP a0 a1):=by
 refine kA Ox ?_
 refine aY ?_
 have hL1:=a0.lk
 refine lx a0 ?_
 refine oV ?_
 have hL2:=a1.lk
 refine iS rfl (λ_=>nA (r:=a1) (enc:=kX) rfl rfl rfl rfl rfl rfl) ?_
 refine mg (λh3=>?_) (λh3=>?_)
 refine aZ ?_
 exact xB ⟨false,ga,rfl⟩
 refine au ?_
 refine bo ?_
 have hNk4:=a0.lk
 refine ke a0.l.length (λk4 e h=>At [0,1,5] [kU a0,lG a1,ck k4] bV.empty [] e h) ?_ (k0:=0) d4 atR
 rintro k4 e h hkk4 hA
 refine cu ?_
 have hL5:=a0.lk
 refine lx a0 ?_
 refine kE (λh6=>?_) (λh6=>?_)
 refine a8 ?_
 refine bZ ?_
 have hx7:k4<a0.l.length:=by omega
 refine qV k4 a0 hx7 ?_
 generalize hqx8:a0.l[k4]=x8
 refine bA ?_
 have hx9:k4<a1.l.length:=by omega
 refine kG rfl rfl (λ_=>m8 (n:=k4) (r:=a1) (enc:=kX) rfl rfl rfl rfl rfl hx9 rfl) ?_
 generalize hqx10:a1.l[k4]=x10
 refine rV ?_
 refine w5 (λh11=>?_) (λh11=>?_)
 refine rN ?_
 refine ac ?_
 exact xB ⟨false,ga,rfl⟩
 refine c6 ?_
 refine aJ ?_
 refine kI ?_
 refine ab ?_
 exact iJ
 refine dv ?_
 exact xB ⟨true,ga,rfl⟩
def TR (n:kb) (c:kV) (d:dO) (lg:ka Int) (rd:ka Int) (ca:ka Int) (ow:ka Int) (v:AV):Prop:=∃ r0:Row Int,(r0.l=lg.l)/\v=kU r0
def t12 (n:kb) (c:kV) (d:dO) (lg:ka Int) (rd:ka Int) (ca:ka Int) (ow:ka Int) (o8:lg.l.length<=1000):Ct 12 [.ip (pk n c d (lG lg) (lG rd) (lG ca) (lG ow)) 0 true] (TR n c d lg rd ca ow):=by
 refine kA O8 ?_
 refine bC ?_
 refine bJ ?_
 refine oC (t43 lg dS) ?_
 rintro _ ⟨r2,hc1,rfl⟩
 have hC115:=congrArg List.length hc1; try simp only [Row.mi] at hC115; have hIc:=hc1; try simp only [Row.mi] at hIc
 refine ag ?_
 exact xG ⟨r2,(by first | assumption | (simp_all; done)),rfl⟩
def Uj (n:kb) (c:kV) (d:dO) (lg:ka Int) (rd:ka Int) (ca:ka Int) (ow:ka Int) (v:AV):Prop:=∃ r0:Row Int,(r0.l=rd.l)/\v=kU r0
def t13 (n:kb) (c:kV) (d:dO) (lg:ka Int) (rd:ka Int) (ca:ka Int) (ow:ka Int) (o8:rd.l.length<=1000):Ct 13 [.ip (pk n c d (lG lg) (lG rd) (lG ca) (lG ow)) 0 true] (Uj n c d lg rd ca ow):=by
 refine kA My ?_
 refine bC ?_
 refine bJ ?_
 refine oC (t43 rd dS) ?_
 rintro _ ⟨r2,hc1,rfl⟩
 have hC115:=congrArg List.length hc1; try simp only [Row.mi] at hC115; have hIc:=hc1; try simp only [Row.mi] at hIc
 refine ag ?_
 exact xG ⟨r2,(by first | assumption | (simp_all; done)),rfl⟩
def P44 (_a0:kn) (_a1:kn) (v:AV):Prop:=∃ r0:Bool,((xc _a0=xc _a1->r0=true))/\v=.bool r0
def t44 (a0:kn) (a1:kn) :Ct 44 [.agg (kn.af a0),.agg (kn.af a1)] (P44 a0 a1):=by
 refine kA MB ?_
 refine cy ?_
 refine qs ?_
 refine bJ ?_
 refine oC (t11 a0.at_ (Row.mi a1.at_)) ?_
 rintro _ ⟨r2,hc1,rfl⟩
 have hSm:=hc1
 cases r2
 refine dr ?_
 refine aq ?_
 exact jR
 refine aM ?_
 have hL3:=a0.kr.lk
 refine lx a0.kr ?_
 refine ao ?_
 have hL4:=a1.kr.lk
 refine lx a1.kr ?_
 refine mg (λh5=>?_) (λh5=>?_)
 refine aq ?_
 exact jR
 refine ap ?_
 refine aR ?_
 have hL6:=a0.kr.lk
 refine lx a0.kr ?_
 refine aC ?_
 have hNk7:=a0.kr.lk
 refine ke a0.kr.l.length (λk7 e h=>At [2,3,23,24] [.la 2 0,.la 3 0,ck a0.kr.l.length,ck k7] bV.empty [(2,(kn.af a0)),(3,(kn.af a1))] e h) ?_ (k0:=0) d4 atR
 rintro k7 e h hkk7 hA
 refine aE ?_
 refine kE (λh8=>?_) (λh8=>?_)
 refine c8 ?_
 refine cR ?_
 have hx9:k7<a0.kr.l.length:=by omega
 refine qV k7 a0.kr hx9 ?_
 generalize hqx10:a0.kr.l[k7]=x10
 refine bH ?_
 have hx11:k7<a1.kr.l.length:=by omega
 refine qV k7 a1.kr hx11 ?_
 generalize hqx12:a1.kr.l[k7]=x12
 refine aK ?_
 refine w5 (λh13=>?_) (λh13=>?_)
 refine dD ?_
 iterate 8 refine rS ?_
 refine dI ?_
 exact jR
 refine cW ?_
 have hx14:k7<a0.kr.l.length:=by omega
 refine qV k7 a0.kr hx14 ?_
 rw [hqx10]
 refine bH ?_
 have hx16:k7<a1.kr.l.length:=by omega
 refine qV k7 a1.kr hx16 ?_
 rw [hqx12]
 refine aK ?_
 refine rC (t11 x10.free (Row.mi x12.free)) ?_
 rintro _ ⟨r19,hc18,rfl⟩
 have hSm:=hc18
 cases r19
 refine rV ?_
 refine dI ?_
 exact jR
 refine rV ?_
 refine bz ?_
 refine qg ?_
 refine kI ?_
 refine ab ?_
 exact iJ
 refine bE ?_
 exact xB ⟨true,eE,rfl⟩
def P14 (_a0:Row kn) (_a1:Row kn) (v:AV):Prop:=∃ r0:Bool,((_a0.l.map xc = _a1.l.map xc->r0=true))/\v=.bool r0
def t14 (a0:Row kn) (a1:Row kn) :Ct 14 [ma a0,ma a1] (P14 a0 a1):=by
 refine kA Mr ?_
 refine aY ?_
 have hL1:=a0.lk
 refine lx a0 ?_
 refine oV ?_
 have hL2:=a1.lk
 refine lx a1 ?_
 refine mg (λh3=>?_) (λh3=>?_)
 refine aZ ?_
 exact xB ⟨false,fR,rfl⟩
 refine au ?_
 refine am ?_
 have hL4:=a0.lk
 refine dL ?_
 have hNk5:=a0.lk
 refine ke a0.l.length (λk5 e h=>At [0,1,12,13] [ma a0,ma a1,ck a0.l.length,ck k5] bV.empty [] e h) ?_ (k0:=0) d4 atR
 rintro k5 e h hkk5 hA
 refine aE ?_
 refine kE (λh6=>?_) (λh6=>?_)
 refine c8 ?_
 refine bZ ?_
 have hx7:k5<a0.l.length:=by omega
 refine qV k5 a0 hx7 ?_
 generalize hqx8:a0.l[k5]=x8
 refine bA ?_
 have hx9:k5<a1.l.length:=by omega
 refine qV k5 a1 hx9 ?_
 generalize hqx10:a1.l[k5]=x10
 refine rV ?_
 refine rC (t44 x8 x10) ?_
 rintro _ ⟨r12,hc11,rfl⟩
 have hSc:=hc11
 cases r12
 refine dI ?_
 exact xB ⟨false,fR,rfl⟩
 refine bz ?_
 refine qg ?_
 refine kI ?_
 refine ab ?_
 exact iJ
 refine bE ?_
 exact xB ⟨true,fR,rfl⟩
def abj (n:kb) (c:kV) (d:dO) (lg:ka Int) (rd:ka Int) (ca:ka Int) (ow:ka Int) (i:Nat) (v:AV):Prop:=∃ r0:lD,∃ r1:Bool,(((r1=true->0<so d i)/\(r1=false->so d i=0)))/\v=.kO [.agg (lD.af r0),.bool r1]
def acB (n:kb) (c:kV) (d:dO) (lg:ka Int) (rd:ka Int) (ca:ka Int) (ow:ka Int) (i:Nat) (o1:i<d.runs.l.length) (o2:i<lg.l.length) (o7:∀ x∈lg.l,x=0):Ct 46 [.ip (pk n c d (lG lg) (lG rd) (lG ca) (lG ow)) 0 true,ck i] (abj n c d lg rd ca ow i):=by
 refine kA Ms ?_
 refine dl ?_
 refine aM ?_
 have hx1:i<d.runs.l.length:=by omega
 refine mB i d.runs hx1 ?_
 generalize hqx2:d.runs.l[i]=x2
 refine bM ?_
 refine qs ?_
 refine db ?_
 have hx3:i<lg.l.length:=by omega
 refine iS rfl (λ_=>m8 (n:=i) (r:=lg) (enc:=kX) rfl rfl rfl rfl rfl hx3 rfl) ?_
 generalize hqx4:lg.l[i]=x4
 have hinx4:x4∈lg.l:=by rw [<- hqx4]; exact List.getElem_mem _
 have hzx4:=o7 x4 hinx4
 refine ao ?_
 have hL5:=x2.kr.lk
 refine lx x2.kr ?_
 refine mW (λh6=>?_) (λh6=>?_)
 refine aG ?_
 exact xG ⟨(⟨false,0,0,0⟩:lD),false,gl,rfl⟩
 refine dG ?_
 refine aM ?_
 have hx7:i<lg.l.length:=by omega
 refine iS rfl (λ_=>m8 (n:=i) (r:=lg) (enc:=kX) rfl rfl rfl rfl rfl hx7 rfl) ?_
 rw [hqx4]
 refine oV ?_
 have hx9:(x4).toNat<x2.kr.l.length:=by omega
 refine iS rfl (λ_=>kW (n:=x4) (r:=x2.kr) (enc:=lD.af) rfl rfl rfl rfl rfl d4 hx9 rfl) ?_
 generalize hqx10:x2.kr.l[(x4).toNat]=x10
 refine cr ?_
 exact xG ⟨x10,true,gl,rfl⟩
def P46 (n:kb) (c:kV) (d:dO) (lg:ka Int) (rd:ka Int) (ca:ka Int) (ow:ka Int) (i:Nat) (v:AV):Prop:=∃ r0:lD,∃ r1:Bool,((((r1=true->0<so d i)/\(r1=false->so d i=0)))/\rs 46 [.ip (pk n c d (lG lg) (lG rd) (lG ca) (lG ow)) 0 true,ck i]=.kO [.agg (lD.af r0),.bool r1])/\v=.kO [.agg (lD.af r0),.bool r1]
def t46 (n:kb) (c:kV) (d:dO) (lg:ka Int) (rd:ka Int) (ca:ka Int) (ow:ka Int) (i:Nat) (o1:i<d.runs.l.length) (o2:i<lg.l.length) (o7:∀ x∈lg.l,x=0) (h:bV):∃ v,kC cfg FT kJ false 46 [.ip (pk n c d (lG lg) (lG rd) (lG ca) (lG ow)) 0 true,ck i] h v h/\P46 n c d lg rd ca ow i v:=by
 obtain ⟨v,hc,hP,hr⟩:=pa rY (acB n c d lg rd ca ow i o1 o2 o7) h
 obtain ⟨r0,r1,hp,rfl⟩:=hP
 exact iY
def Th (n:kb) (c:kV) (d:dO) (lg:ka Int) (rd:ka Int) (ca:ka Int) (ow:ka Int) (v:AV):Prop:=∃ r0:Bool,(((r0=true->∀ i:Nat,i<lg.l.length->so d i=0)/\(r0=false->0<lg.l.length)))/\v=.bool r0
def t16 (n:kb) (c:kV) (d:dO) (lg:ka Int) (rd:ka Int) (ca:ka Int) (ow:ka Int) (ol:lg.l.length=d.runs.l.length) (o7:∀ x∈lg.l,x=0):Ct 16 [.ip (pk n c d (lG lg) (lG rd) (lG ca) (lG ow)) 0 true] (Th n c d lg rd ca ow):=by
 refine kA Ni ?_
 refine aY ?_
 refine aD ?_
 have hL1:=lg.lk
 refine iS rfl (λ_=>nA (r:=lg) (enc:=kX) rfl rfl rfl rfl rfl rfl) ?_
 refine aC ?_
 have hNk2:=lg.lk
 refine ke lg.l.length (λk2 e h=>(∀ i:Nat,i<k2->so d i=0)/\At [0,10,11] [.ip (pk n c d (lG lg) (lG rd) (lG ca) (lG ow)) 0 true,ck lg.l.length,ck k2] bV.empty [] e h) ?_ (k0:=0) d4 ⟨gu,atR⟩
 rintro k2 e h hkk2 ⟨hUp,hA⟩
 refine aE ?_
 refine kE (λh3=>?_) (λh3=>?_)
 refine bc ?_
 refine dl ?_
 refine oC (t46 n c d lg rd ca ow k2 dS dS dS) ?_
 rintro _ ⟨r5,r6,⟨hc4,hc4r⟩,rfl⟩
 have hLm:=hc4
 cases r6
 refine bB ?_
 refine bv ?_
 refine kI ?_
 refine ab ?_
 exact ⟨by omega,(by exact xj hUp (hLm.2 rfl)),atR⟩
 refine bB ?_
 refine aZ ?_
 exact xB ⟨false,gI,rfl⟩
 refine bE ?_
 exact xB ⟨true,gI,rfl⟩
def P5 (v:AV):Prop:=∃ r0:Bool,(r0=true)/\v=.bool r0
def t5 (h:bV):∃ v,kC cfg FT kJ false 5 [] h v h/\P5 v:=by
 refine ⟨.bool true,⟨1,λk hk=>?_⟩,true,rfl,rfl⟩
 obtain ⟨k,rfl⟩:∃ k',k=k'+1:=⟨k - 1,by omega⟩
 rfl
end Go.Sx
