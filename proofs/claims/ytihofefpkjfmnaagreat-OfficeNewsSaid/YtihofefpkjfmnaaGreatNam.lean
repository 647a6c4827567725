/- Proves what some functions of the program answer, by walking through them. -/
import Derived.Test.YtihofefpkjfmnaaGreatNag
import Derived.Test.YtihofefpkjfmnaaGreatNaj
import Derived.Test.YtihofefpkjfmnaaGreatNal
set_option linter.all false
set_option maxRecDepth 100000
set_option maxHeartbeats 0
namespace Go.Sx
open Go Go.Proofs
def P65 (_a0:bY) (v:AV):Prop:=∃ r0:Bool,((r0=true->mU _a0))/\v=.bool r0
def t65 (a0:bY) (hJg:JG a0):Ct 65 [.agg (bY.af a0)] (P65 a0):=by
 refine kA NT ?_
 refine aV ?_
 refine aR ?_
 have hL1:=a0.elems.lk
 refine lx a0.elems ?_
 refine mc (λh2=>?_) (λh2=>?_)
 refine bk ?_
 refine aS ?_
 refine bP ?_
 exact jU
 refine aD ?_
 have hL3:=a0.kB.lk
 refine lx a0.kB ?_
 refine mc (λh4=>?_) (λh4=>?_)
 refine aS ?_
 refine bP ?_
 exact jU
 refine aM ?_
 have hL5:=a0.signals.lk
 refine lx a0.signals ?_
 refine mc (λh6=>?_) (λh6=>?_)
 refine bP ?_
 exact jU
 refine aM ?_
 have hL7:=a0.lines.lk
 refine lx a0.lines ?_
 refine mc (λh8=>?_) (λh8=>?_)
 refine aq ?_
 exact jU
 refine ap ?_
 refine bo ?_
 have hNk9:=a0.lines.lk
 refine ke a0.lines.l.length (λk9 e h=>(∀ (i:Nat) (h:i<a0.lines.l.length),i<k9->(a0.lines.l[i]).elems.l.length<=60)/\At [1,3] [.la 1 0,ck k9] bV.empty [(1,(bY.af a0))] e h) ?_ (k0:=0) d4 ⟨eX,atR⟩
 rintro k9 e h hkk9 ⟨hI,hA⟩
 refine bg ?_
 have hL10:=a0.lines.lk
 refine lx a0.lines ?_
 refine kE (λh11=>?_) (λh11=>?_)
 refine a8 ?_
 refine aI ?_
 have hx12:k9<a0.lines.l.length:=by omega
 refine mB k9 a0.lines hx12 ?_
 generalize hqx13:a0.lines.l[k9]=x13
 refine ao ?_
 have hL14:=x13.elems.lk
 refine lx x13.elems ?_
 refine mc (λh15=>?_) (λh15=>?_)
 refine oV ?_
 iterate 8 refine oS ?_
 refine aq ?_
 exact jU
 refine aM ?_
 have hx16:k9<a0.lines.l.length:=by omega
 refine mB k9 a0.lines hx16 ?_
 rw [hqx13]
 refine aD ?_
 refine mc (λh18=>?_) (λh18=>?_)
 refine aq ?_
 exact jU
 refine da ?_
 refine kI ?_
 refine ab ?_
 exact ⟨by omega,(by (intro i h h2; rcases Nat.lt_succ_iff_lt_or_eq.mp h2 with h3 | h3; exact hI i h h3; subst h3; simp_all; try omega)),atR⟩
 refine aL ?_
 refine bo ?_
 have hNk19:=a0.elems.lk
 refine ke a0.elems.l.length (λk19 e h=>At [1,4] [.la 1 0,ck k19] bV.empty [(1,(bY.af a0))] e h) ?_ (k0:=0) d4 atR
 rintro k19 e h hkk19 hA
 refine bg ?_
 have hL20:=a0.elems.lk
 refine lx a0.elems ?_
 refine kE (λh21=>?_) (λh21=>?_)
 refine a8 ?_
 refine aI ?_
 have hx22:k19<a0.elems.l.length:=by omega
 refine mB k19 a0.elems hx22 ?_
 generalize hqx23:a0.elems.l[k19]=x23
 refine aD ?_
 refine mc (λh24=>?_) (λh24=>?_)
 refine aZ ?_
 exact jU
 refine au ?_
 refine aJ ?_
 refine kI ?_
 refine ab ?_
 exact iJ
 refine aL ?_
 refine bo ?_
 have hNk25:=a0.signals.lk
 refine ke a0.signals.l.length (λk25 e h=>At [1,5] [.la 1 0,ck k25] bV.empty [(1,(bY.af a0))] e h) ?_ (k0:=0) d4 atR
 rintro k25 e h hkk25 hA
 refine bg ?_
 have hL26:=a0.signals.lk
 refine lx a0.signals ?_
 refine kE (λh27=>?_) (λh27=>?_)
 refine a8 ?_
 refine aI ?_
 have hx28:k25<a0.signals.l.length:=by omega
 refine mB k25 a0.signals hx28 ?_
 generalize hqx29:a0.signals.l[k25]=x29
 refine aD ?_
 refine mc (λh30=>?_) (λh30=>?_)
 refine aZ ?_
 exact jU
 refine au ?_
 refine aJ ?_
 refine kI ?_
 refine ab ?_
 exact iJ
 refine dv ?_
 exact xB ⟨true,eB,rfl⟩
def aaP (_a0:bY) (v:AV):Prop:=∃ r0:Row pL,∃ r1:Row pL,∃ r2:Row pL,(True)/\v=.kO [Row.av oo r0,Row.av oo r1,Row.av oo r2]
def t132 (a0:bY) (q1:mU a0):Ct 132 [.agg (bY.af a0)] (aaP a0):=by
 refine kA Kf ?_
 have q2:=q1.elems; have q3:=q1.signals; have q4:=q1.lines
 refine aa ?_
 refine cG ?_
 refine cy ?_
 refine bo ?_
 have hS1:=Sep.m3 lJ 1
 have hNk2:=a0.elems.lk
 refine ke a0.elems.l.length (λk2 e h=>∃ v3:AV,∃ l4:List pL,∃ H5:bV,(l4.length<=0+k2)/\Sep H5 (nu oo 1 v3 l4::[])/\At [1,5,6,7,8] [.la 1 0,v3,iN,iN,ck k2] H5 [(1,(bY.af a0))] e h) ?_ (k0:=0) d4 ⟨iN,(([]:List pL)),bV.empty,eR,hS1,atR⟩
 rintro k2 e h hkk2 ⟨v3,l4,H5,hl7,hS6,hA⟩
 refine bg ?_
 have hL8:=a0.elems.lk
 refine lx a0.elems ?_
 refine kE (λh9=>?_) (λh9=>?_)
 refine cb ?_
 refine wz [.la 1 0,v3,iN,iN,ck k2] H5 [(1,(bY.af a0))] ?_ (kF hS6 [(5,0)])
 refine aw ?_
 refine dz ?_
 have hx10:k2<a0.elems.l.length:=by omega
 refine mB k2 a0.elems hx10 ?_
 generalize hqx11:a0.elems.l[k2]=x11
 refine aD ?_
 refine kM rfl (lO (i:=0) [x11.name] hS6 rfl rfl rfl rfl rfl rfl rfl rfl rfl (λ_=>rfl) (.inl rfl) dZ (λ_=>rfl)) ?_
 rintro v12 H13 hS14
 refine ab ?_
 refine wz [.la 1 0,v12,iN,iN,ck k2] H13 [(1,(bY.af a0))] ?_ (kF hS14 [(5,0)])
 refine aJ ?_
 refine kI ?_
 refine ab ?_
 exact ⟨by omega,v12,((l4++[x11.name])),H13,dX,hS14,(kF hS14 [(5,0)])⟩
 refine aL ?_
 refine wz [.la 1 0,v3,iN,iN] H5 [(1,(bY.af a0))] ?_ (kF hS6 [(5,0)])
 refine bo ?_
 have hS15:=Sep.m3 hS6 1
 have hNk16:=a0.signals.lk
 refine ke a0.signals.l.length (λk16 e h=>∃ v17:AV,∃ l18:List pL,∃ H19:bV,(l18.length<=0+k16)/\Sep H19 (nu oo 1 v17 l18::nu oo 1 v3 l4::[])/\At [1,5,6,7,9] [.la 1 0,v3,v17,iN,ck k16] H19 [(1,(bY.af a0))] e h) ?_ (k0:=0) d4 ⟨iN,(([]:List pL)),H5,eR,hS15,(kF hS15 [(5,1)])⟩
 rintro k16 e h hkk16 ⟨v17,l18,H19,hl21,hS20,hA⟩
 refine bg ?_
 have hL22:=a0.signals.lk
 refine lx a0.signals ?_
 refine kE (λh23=>?_) (λh23=>?_)
 refine cb ?_
 refine wz [.la 1 0,v3,v17,iN,ck k16] H19 [(1,(bY.af a0))] ?_ (kF hS20 [(5,1),(6,0)])
 refine aw ?_
 refine dz ?_
 have hx24:k16<a0.signals.l.length:=by omega
 refine mB k16 a0.signals hx24 ?_
 generalize hqx25:a0.signals.l[k16]=x25
 refine aD ?_
 refine kM rfl (lO (i:=0) [x25.name] hS20 rfl rfl rfl rfl rfl rfl rfl rfl rfl (λ_=>rfl) (.inl rfl) dZ (λ_=>rfl)) ?_
 rintro v26 H27 hS28
 refine ab ?_
 refine wz [.la 1 0,v3,v26,iN,ck k16] H27 [(1,(bY.af a0))] ?_ (kF hS28 [(5,1),(6,0)])
 refine aJ ?_
 refine kI ?_
 refine ab ?_
 exact ⟨by omega,v26,((l18++[x25.name])),H27,dX,hS28,(kF hS28 [(5,1),(6,0)])⟩
 refine aL ?_
 refine wz [.la 1 0,v3,v17,iN] H19 [(1,(bY.af a0))] ?_ (kF hS20 [(5,1),(6,0)])
 refine bo ?_
 have hS29:=Sep.m3 hS20 1
 have hNk30:=a0.lines.lk
 refine ke a0.lines.l.length (λk30 e h=>∃ v31:AV,∃ l32:List pL,∃ H33:bV,(l32.length<=0+k30)/\Sep H33 (nu oo 1 v31 l32::nu oo 1 v17 l18::nu oo 1 v3 l4::[])/\At [1,5,6,7,10] [.la 1 0,v3,v17,v31,ck k30] H33 [(1,(bY.af a0))] e h) ?_ (k0:=0) d4 ⟨iN,(([]:List pL)),H19,eR,hS29,(kF hS29 [(5,2),(6,1)])⟩
 rintro k30 e h hkk30 ⟨v31,l32,H33,hl35,hS34,hA⟩
 refine bg ?_
 have hL36:=a0.lines.lk
 refine lx a0.lines ?_
 refine kE (λh37=>?_) (λh37=>?_)
 refine cb ?_
 refine wz [.la 1 0,v3,v17,v31,ck k30] H33 [(1,(bY.af a0))] ?_ (kF hS34 [(5,2),(6,1),(7,0)])
 refine aw ?_
 refine dz ?_
 have hx38:k30<a0.lines.l.length:=by omega
 refine mB k30 a0.lines hx38 ?_
 generalize hqx39:a0.lines.l[k30]=x39
 refine aD ?_
 refine kM rfl (lO (i:=0) [x39.name] hS34 rfl rfl rfl rfl rfl rfl rfl rfl rfl (λ_=>rfl) (.inl rfl) dZ (λ_=>rfl)) ?_
 rintro v40 H41 hS42
 refine ab ?_
 refine wz [.la 1 0,v3,v17,v40,ck k30] H41 [(1,(bY.af a0))] ?_ (kF hS42 [(5,2),(6,1),(7,0)])
 refine aJ ?_
 refine kI ?_
 refine ab ?_
 exact ⟨by omega,v40,((l32++[x39.name])),H41,dX,hS42,(kF hS42 [(5,2),(6,1),(7,0)])⟩
 refine aL ?_
 refine wz [v3,v17,v31] H33 [] ?_ (kF hS34 [(5,2),(6,1),(7,0)])
 refine ae ?_
 refine bU ?_
 obtain ⟨r43,hl44,hf45⟩:=mz (H:=H33) (i:=2) (l:=l4) (enc:=oo) hS34 rfl dV
 have hlq:=hl44; have hln47:=congrArg List.length hl44
 have hz46:∀ m,freeze false { H33 with cT:=[] } (m+2) v3=some (Row.av oo r43):=λm=>hf45 _ _ (λ_=>rfl)
 obtain ⟨r48,hl49,hf50⟩:=mz (H:=H33) (i:=1) (l:=l18) (enc:=oo) hS34 rfl dV
 have hlq:=hl49; have hln52:=congrArg List.length hl49
 have hz51:∀ m,freeze false { H33 with cT:=[] } (m+2) v17=some (Row.av oo r48):=λm=>hf50 _ _ (λ_=>rfl)
 obtain ⟨r53,hl54,hf55⟩:=mz (H:=H33) (i:=0) (l:=l32) (enc:=oo) hS34 rfl dV
 have hlq:=hl54; have hln57:=congrArg List.length hl54
 have hz56:∀ m,freeze false { H33 with cT:=[] } (m+2) v31=some (Row.av oo r53):=λm=>hf55 _ _ (λ_=>rfl)
 exact ⟨.kO [v3,v17,v31],(lQ (vs:=[v3,v17,v31]) rfl (j8 (Sep.arg (i:=2) hS34 rfl) (j8 (Sep.arg (i:=1) hS34 rfl) (j8 (Sep.arg (i:=0) hS34 rfl) kK)))),.kO [Row.av oo r43,Row.av oo r48,Row.av oo r53],(show freeze false { H33 with cT:=[] } 8 (.kO [v3,v17,v31])=some (.kO [Row.av oo r43,Row.av oo r48,Row.av oo r53]) by simp only [FZ,hz46,hz51,hz56]),r43,r48,r53,zt⟩
def P69 (_a0:pL) (v:AV):Prop:=∃ r0:Bool,((r0=true->yn _a0.l))/\v=.bool r0
def t69 (a0:pL) :Ct 69 [.str a0.l] (P69 a0):=by
 refine kA OP ?_
 refine bC ?_
 refine bo ?_
 have hNk1:=a0.lk
 refine ke a0.l.length (λk1 e h=>(∀ (i:Nat) (h:i<a0.l.length),i<k1->C9 i ((a0.l[i]).toNat:Int))/\At [0,3] [.str a0.l,ck k1] bV.empty [] e h) ?_ (k0:=0) d4 ⟨eX,atR⟩
 rintro k1 e h hkk1 ⟨hC,hA⟩
 refine bg ?_
 refine kE (λh2=>?_) (λh2=>?_)
 refine a8 ?_
 refine ae ?_
 have hx3:k1<a0.l.length:=by omega
 refine iS rfl (λ_=>zJ (n:=k1) (s:=a0.l) rfl rfl rfl rfl hx3) ?_
 generalize hqc4:a0.l[k1]=c4
 refine aN ?_
 refine mW (λh5=>?_) (λh5=>?_)
 refine ao ?_
 refine tX (λh6=>?_) (λh6=>?_)
 refine oV ?_
 refine de ?_
 refine oV ?_
 refine bi ?_
 refine dF ?_
 refine da ?_
 refine kI ?_
 refine ab ?_
 exact jV
 refine aD ?_
 refine mW (λh7=>?_) (λh7=>?_)
 refine ao ?_
 refine tX (λh8=>?_) (λh8=>?_)
 refine dq ?_
 refine dF ?_
 refine da ?_
 refine kI ?_
 refine ab ?_
 exact jV
 refine bM ?_
 refine bJ ?_
 refine kZ (λh9=>?_) (λh9=>?_)
 refine bj ?_
 refine bb ?_
 refine bw ?_
 exact jW
 refine ao ?_
 refine kE (λh10=>?_) (λh10=>?_)
 refine bb ?_
 refine bw ?_
 exact jW
 refine aD ?_
 refine mc (λh11=>?_) (λh11=>?_)
 refine bw ?_
 exact jW
 refine oV ?_
 refine da ?_
 refine kI ?_
 refine ab ?_
 exact jV
 refine bj ?_
 refine bM ?_
 refine bJ ?_
 refine kZ (λh12=>?_) (λh12=>?_)
 refine bj ?_
 refine bb ?_
 refine bw ?_
 exact jW
 refine ao ?_
 refine kE (λh13=>?_) (λh13=>?_)
 refine bb ?_
 refine bw ?_
 exact jW
 refine aD ?_
 refine mc (λh14=>?_) (λh14=>?_)
 refine bw ?_
 exact jW
 refine oV ?_
 refine da ?_
 refine kI ?_
 refine ab ?_
 exact jV
 refine bj ?_
 refine aD ?_
 refine mW (λh15=>?_) (λh15=>?_)
 refine ao ?_
 refine tX (λh16=>?_) (λh16=>?_)
 refine dq ?_
 refine dF ?_
 refine da ?_
 refine kI ?_
 refine ab ?_
 exact jV
 refine bM ?_
 refine bJ ?_
 refine kZ (λh17=>?_) (λh17=>?_)
 refine bj ?_
 refine bb ?_
 refine bw ?_
 exact jW
 refine ao ?_
 refine kE (λh18=>?_) (λh18=>?_)
 refine bb ?_
 refine bw ?_
 exact jW
 refine aD ?_
 refine mc (λh19=>?_) (λh19=>?_)
 refine bw ?_
 exact jW
 refine oV ?_
 refine da ?_
 refine kI ?_
 refine ab ?_
 exact jV
 refine bj ?_
 refine bM ?_
 refine bJ ?_
 refine kZ (λh20=>?_) (λh20=>?_)
 refine bj ?_
 refine bb ?_
 refine bw ?_
 exact jW
 refine ao ?_
 refine kE (λh21=>?_) (λh21=>?_)
 refine bb ?_
 refine bw ?_
 exact jW
 refine aD ?_
 refine mc (λh22=>?_) (λh22=>?_)
 refine bw ?_
 exact jW
 refine oV ?_
 refine da ?_
 refine kI ?_
 refine ab ?_
 exact jV
 refine aL ?_
 refine ae ?_
 refine mW (λh23=>?_) (λh23=>?_)
 refine aD ?_
 refine tX (λh24=>?_) (λh24=>?_)
 refine bd ?_
 exact xB ⟨true,eD,rfl⟩
 refine bd ?_
 exact jW
 refine bX ?_
 refine bd ?_
 exact jW
def P86 (_a0:Int) (v:AV):Prop:=∃ r0:Int,(((_a0=1->r0=2)/\(_a0=2->r0=3)/\(_a0=3->r0=4)/\(_a0=4->r0=1)/\0<=r0/\r0<=4))/\v=iv r0
def t86 (a0:Int) :Ct 86 [iv a0] (P86 a0):=by
 refine kA OX ?_
 refine aY ?_
 refine dh ?_
 refine kZ (λh1=>?_) (λh1=>?_)
 refine aq ?_
 exact xB ⟨2,d4,rfl⟩
 refine be ?_
 refine kZ (λh2=>?_) (λh2=>?_)
 refine aq ?_
 exact xB ⟨3,d4,rfl⟩
 refine be ?_
 refine kZ (λh3=>?_) (λh3=>?_)
 refine aq ?_
 exact xB ⟨4,d4,rfl⟩
 refine be ?_
 refine kZ (λh4=>?_) (λh4=>?_)
 refine aq ?_
 exact xB ⟨1,d4,rfl⟩
 refine ap ?_
 refine aU ?_
 exact xB ⟨0,d4,rfl⟩
def ac6 (_a0:Int) (_a1:Int) (_a2:Int) (v:AV):Prop:=∃ r0:Bool,(True)/\v=.bool r0
def t204 (a0:Int) (a1:Int) (a2:Int) :Ct 204 [iv a0,iv a1,iv a2] (ac6 a0 a1 a2):=by
 refine kA Ko ?_
 refine cO ?_
 refine mW (λh1=>?_) (λh1=>?_)
 refine aD ?_
 refine tX (λh2=>?_) (λh2=>?_)
 refine bd ?_
 exact i4
 refine bd ?_
 exact iZ
 refine bX ?_
 refine bd ?_
 exact iZ
def ac1 (_a0:bY) (v:AV):Prop:=∃ r0:Bool,(True)/\v=.bool r0
def t133 (a0:bY) :Ct 133 [.agg (bY.af a0)] (ac1 a0):=by
 refine kA HX ?_
 refine aV ?_
 refine aR ?_
 refine oC (t204 a0.top 1 60) ?_
 rintro _ ⟨r2,hc1,rfl⟩
 cases r2
 refine aS ?_
 refine aS ?_
 refine aS ?_
 refine bP ?_
 exact iZ
 refine aM ?_
 refine oC (t204 a0.lC 1 10) ?_
 rintro _ ⟨r4,hc3,rfl⟩
 cases r4
 refine oV ?_
 refine aS ?_
 refine aS ?_
 refine bP ?_
 exact iZ
 refine aQ ?_
 refine oC (t204 a0.lN 1 4000) ?_
 rintro _ ⟨r6,hc5,rfl⟩
 cases r6
 refine oV ?_
 refine aS ?_
 refine bP ?_
 exact iZ
 refine aQ ?_
 refine oC (t204 a0.lU 1 20) ?_
 rintro _ ⟨r8,hc7,rfl⟩
 cases r8
 refine oV ?_
 refine bP ?_
 exact iZ
 refine aQ ?_
 have hL9:=a0.elems.lk
 refine lx a0.elems ?_
 refine kZ (λh10=>?_) (λh10=>?_)
 refine aq ?_
 exact iZ
 refine ap ?_
 refine bo ?_
 have hNk11:=a0.elems.lk
 refine ke a0.elems.l.length (λk11 e h=>At [1,3] [.la 1 0,ck k11] bV.empty [(1,(bY.af a0))] e h) ?_ (k0:=0) d4 atR
 rintro k11 e h hkk11 hA
 refine bg ?_
 have hL12:=a0.elems.lk
 refine lx a0.elems ?_
 refine kE (λh13=>?_) (λh13=>?_)
 refine a8 ?_
 refine aI ?_
 have hx14:k11<a0.elems.l.length:=by omega
 refine mB k11 a0.elems hx14 ?_
 generalize hqx15:a0.elems.l[k11]=x15
 refine dq ?_
 refine oC (t69 x15.name) ?_
 rintro _ ⟨r17,hc16,rfl⟩
 cases r17
 clear hc16
 refine aS ?_
 refine cD ?_
 refine bN ?_
 refine aq ?_
 exact iZ
 have hc16t:=hc16 rfl
 have hNm:=hc16t
 refine aM ?_
 refine oC (t86 x15.kind) ?_
 rintro _ ⟨r19,hc18,rfl⟩
 refine kZ (λh20=>?_) (λh20=>?_)
 refine cD ?_
 refine bN ?_
 refine aq ?_
 exact iZ
 refine aM ?_
 refine kZ (λh21=>?_) (λh21=>?_)
 refine aD ?_
 refine mg (λh22=>?_) (λh22=>?_)
 refine oV ?_
 refine bN ?_
 refine aq ?_
 exact iZ
 refine aQ ?_
 refine mg (λh23=>?_) (λh23=>?_)
 refine aD ?_
 refine oC (t204 x15.len 1 4000) ?_
 rintro _ ⟨r25,hc24,rfl⟩
 cases r25
 refine oV ?_
 refine bw ?_
 exact iZ
 refine ao ?_
 refine da ?_
 refine kI ?_
 refine ab ?_
 exact iJ
 refine bk ?_
 refine oV ?_
 refine da ?_
 refine kI ?_
 refine ab ?_
 exact iJ
 refine bX ?_
 refine aQ ?_
 refine mg (λh26=>?_) (λh26=>?_)
 refine aD ?_
 refine oC (t204 x15.len 1 4000) ?_
 rintro _ ⟨r28,hc27,rfl⟩
 cases r28
 refine oV ?_
 refine bw ?_
 exact iZ
 refine ao ?_
 refine da ?_
 refine kI ?_
 refine ab ?_
 exact iJ
 refine bk ?_
 refine oV ?_
 refine da ?_
 refine kI ?_
 refine ab ?_
 exact iJ
 refine aL ?_
 refine bo ?_
 have hNk29:=a0.signals.lk
 refine ke a0.signals.l.length (λk29 e h=>At [1,5] [.la 1 0,ck k29] bV.empty [(1,(bY.af a0))] e h) ?_ (k0:=0) d4 atR
 rintro k29 e h hkk29 hA
 refine bg ?_
 have hL30:=a0.signals.lk
 refine lx a0.signals ?_
 refine kE (λh31=>?_) (λh31=>?_)
 refine a8 ?_
 refine aI ?_
 have hx32:k29<a0.signals.l.length:=by omega
 refine mB k29 a0.signals hx32 ?_
 generalize hqx33:a0.signals.l[k29]=x33
 refine ao ?_
 refine oC (t69 x33.name) ?_
 rintro _ ⟨r35,hc34,rfl⟩
 cases r35
 clear hc34
 refine aq ?_
 exact iZ
 have hc34t:=hc34 rfl
 have hNm:=hc34t
 refine da ?_
 refine kI ?_
 refine ab ?_
 exact iJ
 refine aL ?_
 refine bo ?_
 have hNk36:=a0.lines.lk
 refine ke a0.lines.l.length (λk36 e h=>At [1,6] [.la 1 0,ck k36] bV.empty [(1,(bY.af a0))] e h) ?_ (k0:=0) d4 atR
 rintro k36 e h hkk36 hA
 refine bg ?_
 have hL37:=a0.lines.lk
 refine lx a0.lines ?_
 refine kE (λh38=>?_) (λh38=>?_)
 refine a8 ?_
 refine aI ?_
 have hx39:k36<a0.lines.l.length:=by omega
 refine mB k36 a0.lines hx39 ?_
 generalize hqx40:a0.lines.l[k36]=x40
 refine ao ?_
 refine oC (t69 x40.name) ?_
 rintro _ ⟨r42,hc41,rfl⟩
 cases r42
 clear hc41
 refine aq ?_
 exact iZ
 have hc41t:=hc41 rfl
 have hNm:=hc41t
 refine da ?_
 refine kI ?_
 refine ab ?_
 exact iJ
 refine dv ?_
 exact i4
def Z4 (_a0:Row pL) (v:AV):Prop:=∃ r0:Bool,(True)/\v=.bool r0
def t134 (a0:Row pL) :Ct 134 [Row.av oo a0] (Z4 a0):=by
 refine kA Jo ?_
 refine bC ?_
 refine bo ?_
 have hNk1:=a0.lk
 refine ke a0.l.length (λk1 e h=>At [0,3] [Row.av oo a0,ck k1] bV.empty [] e h) ?_ (k0:=0) d4 atR
 rintro k1 e h hkk1 hA
 refine cu ?_
 have hL2:=a0.lk
 refine lx a0 ?_
 refine kE (λh3=>?_) (λh3=>?_)
 refine cb ?_
 refine bQ ?_
 refine aC ?_
 refine ke k1 (λk4 e h=>At [0,3,4] [Row.av oo a0,ck k1,ck k4] bV.empty [] e h) ?_ (k0:=0) d4 atR
 rintro k4 e h hkk4 hA
 refine cu ?_
 refine kE (λh5=>?_) (λh5=>?_)
 refine a8 ?_
 refine bZ ?_
 have hx6:k1<a0.l.length:=by omega
 refine qV k1 a0 hx6 ?_
 generalize hqx7:a0.l[k1]=x7
 refine bA ?_
 have hx8:k4<a0.l.length:=by omega
 refine qV k4 a0 hx8 ?_
 generalize hqx9:a0.l[k4]=x9
 refine rV ?_
 refine qJ rfl rfl (λ_=>vf rfl rfl) (λh10=>?_) (λh10=>?_)
 refine rN ?_
 refine ac ?_
 exact i4
 refine c6 ?_
 refine aJ ?_
 refine kI ?_
 refine ab ?_
 exact iJ
 refine aL ?_
 refine aJ ?_
 refine kI ?_
 refine ab ?_
 exact iJ
 refine dv ?_
 exact iZ
def P89 (_a0:bY) (_a1:Int) (v:AV):Prop:=∃ r0:Int,(r0=lR _a0 _a1)/\v=iv r0
def t89 (a0:bY) (a1:Int) :Ct 89 [.agg (bY.af a0),iv a1] (P89 a0 a1):=by
 refine kA N0 ?_
 refine aj ?_
 refine ak ?_
 refine kE (λh1=>?_) (λh1=>?_)
 refine b5 ?_
 refine aq ?_
 exact xB ⟨0,gy,rfl⟩
 refine aM ?_
 have hL2:=a0.elems.lk
 refine lx a0.elems ?_
 refine mW (λh3=>?_) (λh3=>?_)
 refine aq ?_
 exact xB ⟨0,gy,rfl⟩
 refine ap ?_
 refine aI ?_
 have hx4:(a1).toNat<a0.elems.l.length:=by omega
 refine iS rfl (λ_=>kW (n:=a1) (r:=a0.elems) (enc:=my.af) rfl rfl rfl rfl rfl d4 hx4 rfl) ?_
 generalize hqx5:a0.elems.l[(a1).toNat]=x5
 refine cr ?_
 exact xB ⟨x5.kind,gy,rfl⟩
def acg (_a0:bY) (_a1:j7) (v:AV):Prop:=∃ r0:Bool,((r0=true->0<=_a1.elem/\_a1.elem<(_a0.elems.l.length:Int)/\0<=_a1.en/\_a1.en<4))/\v=.bool r0
def t205 (a0:bY) (a1:j7) :Ct 205 [.agg (bY.af a0),.agg (j7.af a1)] (acg a0 a1):=by
 refine kA JF ?_
 refine cy ?_
 refine bZ ?_
 refine xa (λh1=>?_) (λh1=>?_)
 refine bH ?_
 have hL2:=a0.elems.lk
 refine xQ a0.elems ?_
 refine si (λh3=>?_) (λh3=>?_)
 refine cW ?_
 refine xa (λh4=>?_) (λh4=>?_)
 refine dN ?_
 have hx5:(a1.elem).toNat<a0.elems.l.length:=by omega
 refine kG rfl rfl (λ_=>kW (n:=a1.elem) (r:=a0.elems) (enc:=my.af) rfl rfl rfl rfl rfl d4 hx5 rfl) ?_
 generalize hqx6:a0.elems.l[(a1.elem).toNat]=x6
 refine aK ?_
 refine rC (t86 x6.kind) ?_
 rintro _ ⟨r8,hc7,rfl⟩
 refine si (λh9=>?_) (λh9=>?_)
 refine bh ?_
 exact jn
 refine bh ?_
 exact jo
 refine c9 ?_
 iterate 7 refine rS ?_
 refine bh ?_
 exact jo
 refine cC ?_
 exact jo
 refine dD ?_
 refine cC ?_
 exact jo
def aal (_a0:bY) (_a1:j7) (v:AV):Prop:=∃ r0:j7,∃ r1:Bool,(((r1=true->np _a0.kB.l _a1=some r0)/\(r1=false->np _a0.kB.l _a1=none)))/\v=.kO [.agg (j7.af r0),.bool r1]
def t206 (a0:bY) (a1:j7) :Ct 206 [.agg (bY.af a0),.agg (j7.af a1)] (aal a0 a1):=by
 refine kA Kv ?_
 refine aa ?_
 refine cG ?_
 refine bo ?_
 have hNk1:=a0.kB.lk
 refine ke a0.kB.l.length (λk1 e h=>(np (a0.kB.l.drop k1) a1=np a0.kB.l a1)/\At [2,3,4,6] [.la 2 0,.la 3 0,.la 4 0,ck k1] bV.empty [(2,(bY.af a0)),(3,(j7.af a1)),(4,[iv 0,iv 0])] e h) ?_ (k0:=0) d4 ⟨iy,atR⟩
 rintro k1 e h hkk1 ⟨hI,hA⟩
 refine bg ?_
 have hL2:=a0.kB.lk
 refine lx a0.kB ?_
 refine kE (λh3=>?_) (λh3=>?_)
 refine a8 ?_
 refine qs ?_
 refine cR ?_
 have hx4:k1<a0.kB.l.length:=by omega
 refine qV k1 a0.kB hx4 ?_
 generalize hqx5:a0.kB.l[k1]=x5
 refine bA ?_
 refine qJ rfl rfl (λ_=>xw rfl rfl rfl (λ_ _=>rfl)) (λh6=>?_) (λh6=>?_)
 refine rN ?_
 refine qT ?_
 refine aI ?_
 have hx7:k1<a0.kB.l.length:=by omega
 refine mB k1 a0.kB hx7 ?_
 rw [hqx5]
 refine bU ?_
 exact xG ⟨x5.b,true,fy,rfl⟩
 refine c6 ?_
 refine cR ?_
 have hx9:k1<a0.kB.l.length:=by omega
 refine qV k1 a0.kB hx9 ?_
 rw [hqx5]
 refine bA ?_
 refine qJ rfl rfl (λ_=>xw rfl rfl rfl (λ_ _=>rfl)) (λh11=>?_) (λh11=>?_)
 refine rN ?_
 refine qT ?_
 refine aI ?_
 have hx12:k1<a0.kB.l.length:=by omega
 refine mB k1 a0.kB hx12 ?_
 rw [hqx5]
 refine bU ?_
 exact xG ⟨x5.a,true,fy,rfl⟩
 refine c6 ?_
 refine aJ ?_
 refine kI ?_
 refine ab ?_
 exact ⟨by omega,(by (exact (KS dT dT dT dT).trans hI)),atR⟩
 refine aL ?_
 refine aF ?_
 exact xG ⟨(⟨0,0⟩:j7),false,fy,rfl⟩
def acz (_a0:bY) (v:AV):Prop:=∃ r0:Bool,(True)/\v=.bool r0
def t135 (a0:bY) (q1:mU a0):Ct 135 [.agg (bY.af a0)] (acz a0):=by
 refine kA Iq ?_
 have q2:=q1.elems; have q3:=q1.kB
 refine aV ?_
 refine bC ?_
 refine bo ?_
 have hS1:=Sep.m3 lJ 2
 have hNk2:=a0.kB.lk
 refine ke a0.kB.l.length (λk2 e h=>∃ v3:AV,∃ l4:List j7,∃ H5:bV,(l4.length<=0+2*k2)/\Sep H5 (nu j7.af 2 v3 l4::[])/\At [1,3,4] [.la 1 0,v3,ck k2] H5 [(1,(bY.af a0))] e h) ?_ (k0:=0) d4 ⟨iN,(([]:List j7)),bV.empty,eR,hS1,atR⟩
 rintro k2 e h hkk2 ⟨v3,l4,H5,hl7,hS6,hA⟩
 refine bg ?_
 have hL8:=a0.kB.lk
 refine lx a0.kB ?_
 refine kE (λh9=>?_) (λh9=>?_)
 refine cb ?_
 refine wz [.la 1 0,v3,ck k2] H5 [(1,(bY.af a0))] ?_ (kF hS6 [(3,0)])
 refine aw ?_
 refine qd ?_
 refine cW ?_
 have hx10:k2<a0.kB.l.length:=by omega
 refine qV k2 a0.kB hx10 ?_
 generalize hqx11:a0.kB.l[k2]=x11
 refine bH ?_
 have hx12:k2<a0.kB.l.length:=by omega
 refine qV k2 a0.kB hx12 ?_
 rw [hqx11]
 refine bA ?_
 refine mP rfl rfl (lO (i:=0) [x11.a,x11.b] hS6 rfl rfl rfl rfl rfl rfl rfl rfl rfl (λ_=>rfl) (.inl rfl) dZ (λ_=>rfl)) ?_
 rintro v14 H15 hS16
 refine aP ?_
 refine wz [.la 1 0,v14,ck k2] H15 [(1,(bY.af a0))] ?_ (kF hS16 [(3,0)])
 refine aJ ?_
 refine kI ?_
 refine ab ?_
 exact ⟨by omega,v14,((l4++[x11.a,x11.b])),H15,dX,hS16,(kF hS16 [(3,0)])⟩
 refine aL ?_
 refine wz [.la 1 0,v3] H5 [(1,(bY.af a0))] ?_ (kF hS6 [(3,0)])
 refine bo ?_
 refine ke l4.length (λk17 e h=>At [1,3,5] [.la 1 0,v3,ck k17] H5 [(1,(bY.af a0))] e h) ?_ (k0:=0) d4 (kF hS6 [(3,0)])
 rintro k17 e h hkk17 hA
 refine cu ?_
 refine iS rfl (λ_=>nO (i:=0) hS6 rfl rfl rfl rfl rfl rfl rfl) ?_
 refine kE (λh18=>?_) (λh18=>?_)
 refine cb ?_
 refine wz [.la 1 0,v3,ck k17] H5 [(1,(bY.af a0))] ?_ (kF hS6 [(3,0)])
 refine aw ?_
 refine qs ?_
 refine cR ?_
 have hx19:k17<l4.length:=by first | omega | (simp<;>omega) | (simp_all; omega)
 obtain ⟨x20,hqx20⟩:∃ x,l4[k17]=x:=⟨_,rfl⟩
 refine pv rfl rfl (mS (i:=0) (m:=k17) (cs:=j7.af x20) hS6 rfl rfl rfl rfl rfl rfl rfl (mq hx19 hqx20)) ?_
 rintro a21 ⟨ha22,hea23⟩
 refine kG rfl rfl (λ_=>pr (i:=0) (m:=k17) (o:=0) (r:=.agg (j7.af x20)) (cs:=j7.af x20) hS6 rfl (mq hx19 hqx20) hea23 rfl rfl ha22) ?_
 refine rC (t205 a0 x20) ?_
 rintro _ ⟨r25,hc24,rfl⟩
 cases r25
 clear hc24
 refine dI ?_
 exact iZ
 have hc24t:=hc24 rfl
 refine bz ?_
 refine wz [.la 1 0,v3,ck k17] H5 [(1,(bY.af a0))] ?_ (kF hS6 [(3,0)])
 refine aa ?_
 refine aC ?_
 refine ke k17 (λk26 e h=>At [1,3,5,6] [.la 1 0,v3,ck k17,ck k26] H5 [(1,(bY.af a0))] e h) ?_ (k0:=0) d4 (kF hS6 [(3,0)])
 rintro k26 e h hkk26 hA
 refine cu ?_
 refine kE (λh27=>?_) (λh27=>?_)
 refine cb ?_
 refine wz [.la 1 0,v3,ck k17,ck k26] H5 [(1,(bY.af a0))] ?_ (kF hS6 [(3,0)])
 refine aw ?_
 refine bZ ?_
 have hx28:k26<l4.length:=by first | omega | (simp<;>omega) | (simp_all; omega)
 obtain ⟨x29,hqx29⟩:∃ x,l4[k26]=x:=⟨_,rfl⟩
 refine pv rfl rfl (mS (i:=0) (m:=k26) (cs:=j7.af x29) hS6 rfl rfl rfl rfl rfl rfl rfl (mq hx28 hqx29)) ?_
 rintro a30 ⟨ha31,hea32⟩
 refine kG rfl rfl (λ_=>pr (i:=0) (m:=k26) (o:=0) (r:=.agg (j7.af x29)) (cs:=j7.af x29) hS6 rfl (mq hx28 hqx29) hea32 rfl rfl ha31) ?_
 refine aK ?_
 have hx33:k17<l4.length:=by first | omega | (simp<;>omega) | (simp_all; omega)
 refine pv rfl rfl (mS (i:=0) (m:=k17) (cs:=j7.af x20) hS6 rfl rfl rfl rfl rfl rfl rfl (mq hx33 hqx20)) ?_
 rintro a34 ⟨ha35,hea36⟩
 refine kG rfl rfl (λ_=>pr (i:=0) (m:=k17) (o:=0) (r:=.agg (j7.af x20)) (cs:=j7.af x20) hS6 rfl (mq hx33 hqx20) hea36 rfl rfl ha35) ?_
 refine qJ rfl rfl (λ_=>xw rfl rfl rfl (λ_ _=>rfl)) (λh37=>?_) (λh37=>?_)
 refine rN ?_
 refine ac ?_
 exact iZ
 refine c6 ?_
 refine wz [.la 1 0,v3,ck k17,ck k26] H5 [(1,(bY.af a0))] ?_ (kF hS6 [(3,0)])
 refine aJ ?_
 refine kI ?_
 refine ab ?_
 exact ⟨by omega,(kF hS6 [(3,0)])⟩
 refine aL ?_
 refine wz [.la 1 0,v3,ck k17] H5 [(1,(bY.af a0))] ?_ (kF hS6 [(3,0)])
 refine aJ ?_
 refine kI ?_
 refine ab ?_
 exact ⟨by omega,(kF hS6 [(3,0)])⟩
 refine aL ?_
 refine bo ?_
 have hNk38:=a0.elems.lk
 refine ke a0.elems.l.length (λk38 e h=>At [1,7] [.la 1 0,ck k38] H5 [(1,(bY.af a0))] e h) ?_ (k0:=0) d4 atR
 rintro k38 e h hkk38 hA
 refine bg ?_
 have hL39:=a0.elems.lk
 refine lx a0.elems ?_
 refine kE (λh40=>?_) (λh40=>?_)
 refine a8 ?_
 refine aI ?_
 have hx41:k38<a0.elems.l.length:=by omega
 refine mB k38 a0.elems hx41 ?_
 generalize hqx42:a0.elems.l[k38]=x42
 refine ao ?_
 refine kZ (λh43=>?_) (λh43=>?_)
 refine ay ?_
 refine aI ?_
 refine oC (t206 a0 (⟨((k38:Int)),0⟩:j7)) ?_
 rintro _ ⟨r45,r46,hc44,rfl⟩
 have hN:=hc44
 cases r46
 refine bB ?_
 refine bL ?_
 refine aq ?_
 exact iZ
 refine bB ?_
 refine aQ ?_
 refine oC (t89 a0 r45.elem) ?_
 rintro _ ⟨r48,hc47,rfl⟩
 refine kZ (λh49=>?_) (λh49=>?_)
 refine aq ?_
 exact iZ
 refine da ?_
 refine kI ?_
 refine ab ?_
 exact iJ
 refine au ?_
 refine aJ ?_
 refine kI ?_
 refine ab ?_
 exact iJ
 refine dv ?_
 exact i4
def P87 (_a0:bY) (_a1:j7) (v:AV):Prop:=∃ r0:Int,(r0=(pZ _a0.signals.l _a1).getD (-1))/\v=iv r0
def t87 (a0:bY) (a1:j7) :Ct 87 [.agg (bY.af a0),.agg (j7.af a1)] (P87 a0 a1):=by
 refine kA MZ ?_
 refine cy ?_
 refine bo ?_
 have hNk1:=a0.signals.lk
 refine ke a0.signals.l.length (λk1 e h=>(nX a1 k1 (a0.signals.l.drop k1)=pZ a0.signals.l a1)/\At [2,3,5] [.la 2 0,.la 3 0,ck k1] bV.empty [(2,(bY.af a0)),(3,(j7.af a1))] e h) ?_ (k0:=0) d4 ⟨iy,atR⟩
 rintro k1 e h hkk1 ⟨hI,hA⟩
 refine bg ?_
 have hL2:=a0.signals.lk
 refine lx a0.signals ?_
 refine kE (λh3=>?_) (λh3=>?_)
 refine a8 ?_
 refine cR ?_
 have hx4:k1<a0.signals.l.length:=by omega
 refine qV k1 a0.signals hx4 ?_
 generalize hqx5:a0.signals.l[k1]=x5
 refine bA ?_
 refine qJ rfl rfl (λ_=>xw rfl rfl rfl (λ_ _=>rfl)) (λh6=>?_) (λh6=>?_)
 refine rN ?_
 refine qT ?_
 refine bT ?_
 exact xB ⟨((k1:Int)),g5,rfl⟩
 refine c6 ?_
 refine aJ ?_
 refine kI ?_
 refine ab ?_
 exact ⟨by omega,(by (exact (CV dT dT dT).trans hI)),atR⟩
 refine dv ?_
 exact xB ⟨(-1),g5,rfl⟩
def ado (_a0:bY) (v:AV):Prop:=∃ r0:Bool,(True)/\v=.bool r0
def t136 (a0:bY) :Ct 136 [.agg (bY.af a0)] (ado a0):=by
 refine kA Jl ?_
 refine aV ?_
 refine bo ?_
 have hNk1:=a0.signals.lk
 refine ke a0.signals.l.length (λk1 e h=>At [1,3] [.la 1 0,ck k1] bV.empty [(1,(bY.af a0))] e h) ?_ (k0:=0) d4 atR
 rintro k1 e h hkk1 hA
 refine bg ?_
 have hL2:=a0.signals.lk
 refine lx a0.signals ?_
 refine kE (λh3=>?_) (λh3=>?_)
 refine a8 ?_
 refine aI ?_
 have hx4:k1<a0.signals.l.length:=by omega
 refine mB k1 a0.signals hx4 ?_
 generalize hqx5:a0.signals.l[k1]=x5
 refine cG ?_
 refine aI ?_
 refine oC (t89 a0 x5.at_.elem) ?_
 rintro _ ⟨r7,hc6,rfl⟩
 refine ab ?_
 refine aR ?_
 refine oC (t205 a0 x5.at_) ?_
 rintro _ ⟨r9,hc8,rfl⟩
 cases r9
 clear hc8
 refine oV ?_
 refine de ?_
 refine aq ?_
 exact iZ
 have hc8t:=hc8 rfl
 refine aD ?_
 refine mg (λh10=>?_) (λh10=>?_)
 refine ao ?_
 refine mg (λh11=>?_) (λh11=>?_)
 refine bw ?_
 exact iZ
 refine ao ?_
 refine dG ?_
 refine oC (t206 a0 x5.at_) ?_
 rintro _ ⟨r13,r14,hc12,rfl⟩
 have hN:=hc12
 cases r14
 refine bB ?_
 refine bL ?_
 refine bL ?_
 refine aq ?_
 exact iZ
 refine bB ?_
 refine aQ ?_
 refine oC (t89 a0 r13.elem) ?_
 rintro _ ⟨r16,hc15,rfl⟩
 refine kZ (λh17=>?_) (λh17=>?_)
 refine bL ?_
 refine aq ?_
 exact iZ
 refine aM ?_
 refine oC (t87 a0 x5.at_) ?_
 rintro _ ⟨r19,hc18,rfl⟩
 have hR:=hc18
 refine oV ?_
 refine mg (λh20=>?_) (λh20=>?_)
 refine aq ?_
 exact iZ
 refine da ?_
 refine kI ?_
 refine ab ?_
 exact iJ
 refine bj ?_
 refine ao ?_
 refine dG ?_
 refine oC (t206 a0 x5.at_) ?_
 rintro _ ⟨r22,r23,hc21,rfl⟩
 have hN:=hc21
 cases r23
 refine bB ?_
 refine bL ?_
 refine bL ?_
 refine aq ?_
 exact iZ
 refine bB ?_
 refine aQ ?_
 refine oC (t89 a0 r22.elem) ?_
 rintro _ ⟨r25,hc24,rfl⟩
 refine kZ (λh26=>?_) (λh26=>?_)
 refine bL ?_
 refine aq ?_
 exact iZ
 refine aM ?_
 refine oC (t87 a0 x5.at_) ?_
 rintro _ ⟨r28,hc27,rfl⟩
 have hR:=hc27
 refine oV ?_
 refine mg (λh29=>?_) (λh29=>?_)
 refine aq ?_
 exact iZ
 refine da ?_
 refine kI ?_
 refine ab ?_
 exact iJ
 refine aL ?_
 refine bo ?_
 have hNk30:=a0.elems.lk
 refine ke a0.elems.l.length (λk30 e h=>At [1,8] [.la 1 0,ck k30] bV.empty [(1,(bY.af a0))] e h) ?_ (k0:=0) d4 atR
 rintro k30 e h hkk30 hA
 refine bg ?_
 have hL31:=a0.elems.lk
 refine lx a0.elems ?_
 refine kE (λh32=>?_) (λh32=>?_)
 refine a8 ?_
 refine aI ?_
 have hx33:k30<a0.elems.l.length:=by omega
 refine mB k30 a0.elems hx33 ?_
 generalize hqx34:a0.elems.l[k30]=x34
 refine ao ?_
 refine kZ (λh35=>?_) (λh35=>?_)
 refine aM ?_
 refine oC (t87 a0 (⟨((k30:Int)),0⟩:j7)) ?_
 rintro _ ⟨r37,hc36,rfl⟩
 have hR:=hc36
 refine kE (λh38=>?_) (λh38=>?_)
 refine aq ?_
 exact iZ
 refine da ?_
 refine kI ?_
 refine ab ?_
 exact iJ
 refine b5 ?_
 refine da ?_
 refine kI ?_
 refine ab ?_
 exact iJ
 refine dv ?_
 exact i4
def P7 (_a0:ka Int) (_a1:Int) (v:AV):Prop:=∃ r0:Bool,(((r0=true->_a1∈_a0.l)/\(r0=false->_a1∉_a0.l)))/\v=.bool r0
def t39 (a0:ka Int) (a1:Int) :Ct 39 [lG a0,iv a1] (P7 a0 a1):=by
 refine kA Ng ?_
 refine bC ?_
 refine bo ?_
 have hNk1:=a0.lk
 refine ke a0.l.length (λk1 e h=>(∀ (i:Nat) (h:i<a0.l.length),i<k1->¬ a0.l[i]=a1)/\At [0,1,5] [lG a0,iv a1,ck k1] bV.empty [] e h) ?_ (k0:=0) d4 ⟨eX,atR⟩
 rintro k1 e h hkk1 ⟨hU,hA⟩
 refine cu ?_
 have hL2:=a0.lk
 refine iS rfl (λ_=>nA (r:=a0) (enc:=kX) rfl rfl rfl rfl rfl rfl) ?_
 refine kE (λh3=>?_) (λh3=>?_)
 refine a8 ?_
 refine ae ?_
 have hx4:k1<a0.l.length:=by omega
 refine iS rfl (λ_=>m8 (n:=k1) (r:=a0) (enc:=kX) rfl rfl rfl rfl rfl hx4 rfl) ?_
 generalize hqx5:a0.l[k1]=x5
 refine ao ?_
 refine kZ (λh6=>?_) (λh6=>?_)
 refine aZ ?_
 exact xB ⟨true,fk,rfl⟩
 refine au ?_
 refine aJ ?_
 refine kI ?_
 refine ab ?_
 exact ⟨by omega,gM,atR⟩
 refine dv ?_
 exact xB ⟨false,fk,rfl⟩
def adn (_a0:bY) (_a1:Row Int) (v:AV):Prop:=∃ r0:Row Int,∃ r1:Bool,(True)/\v=.kO [kU r0,.bool r1]
def t207 (a0:bY) (a1:Row Int) (q1:a1.l.length<=1000):Ct 207 [.agg (bY.af a0),kU a1] (adn a0 a1):=by
 refine kA Ie ?_
 refine ae ?_
 refine ak ?_
 have hL1:=a1.lk
 refine lx a1 ?_
 refine kZ (λh2=>?_) (λh2=>?_)
 refine aH ?_
 exact jp
 refine au ?_
 refine bo ?_
 have hNk3:=a1.lk
 refine ke a1.l.length (λk3 e h=>At [1,2,6] [kU a1,.la 2 0,ck k3] bV.empty [(2,(bY.af a0))] e h) ?_ (k0:=0) d4 atR
 rintro k3 e h hkk3 hA
 refine cu ?_
 have hL4:=a1.lk
 refine lx a1 ?_
 refine kE (λh5=>?_) (λh5=>?_)
 refine a8 ?_
 refine cR ?_
 have hx6:k3<a1.l.length:=by omega
 refine qV k3 a1 hx6 ?_
 generalize hqx7:a1.l[k3]=x7
 refine rV ?_
 refine rC (t89 a0 x7) ?_
 rintro _ ⟨r9,hc8,rfl⟩
 refine w5 (λh10=>?_) (λh10=>?_)
 refine rN ?_
 refine qT ?_
 refine bT ?_
 exact jp
 refine c6 ?_
 refine aJ ?_
 refine kI ?_
 refine ab ?_
 exact iJ
 refine aL ?_
 refine am ?_
 have hL11:=a1.lk
 refine lx a1 ?_
 refine kZ (λh12=>?_) (λh12=>?_)
 refine aG ?_
 exact xG ⟨(⟨[0],.exact 1,rD,rfl,oq⟩:Row Int),true,zt⟩
 refine au ?_
 refine bC ?_
 refine bo ?_
 refine nw (λm17 e h=>∃ n13:Int,∃ n14:Int,m17=(n14+1).toNat/\(-1<=n14)/\(n14<=1)/\At [1,2,7,8] [kU a1,.la 2 0,iv n13,iv n14] bV.empty [(2,(bY.af a0))] e h) ?_ _ _ _ ⟨(-1),1,rfl,d4,d4,atR⟩
 rintro m17 e h ⟨n13,n14,hmm17,hi15,hi16,hA⟩
 refine rR hA ?_
 refine am ?_
 refine mW (λh18=>?_) (λh18=>?_)
 refine a8 ?_
 refine bZ ?_
 have hx19:0<a1.l.length:=by omega
 refine qV 0 a1 hx19 ?_
 generalize hqx20:a1.l[0]=x20
 refine bA ?_
 refine rC (t206 a0 (⟨x20,n14⟩:j7)) ?_
 rintro _ ⟨r22,r23,hc21,rfl⟩
 have hN:=hc21
 cases r23
 refine bG ?_
 refine aO ?_
 refine cU ?_
 refine bz ?_
 refine aJ ?_
 refine pW ?_
 refine ab ?_
 refine ⟨_,?_,n13,(n14 - 1),rfl,d4,d4,atR⟩
 omega
 refine bG ?_
 refine aO ?_
 refine bH ?_
 have hx24:1<a1.l.length:=by omega
 refine qV 1 a1 hx24 ?_
 generalize hqx25:a1.l[1]=x25
 refine rV ?_
 refine w9 (λh26=>?_) (λh26=>?_)
 refine ce ?_
 refine qg ?_
 refine bF ?_
 refine aJ ?_
 refine pW ?_
 refine ab ?_
 refine ⟨_,?_,n14,(n14 - 1),rfl,d4,d4,atR⟩
 omega
 refine bz ?_
 refine aJ ?_
 refine pW ?_
 refine ab ?_
 refine ⟨_,?_,n13,(n14 - 1),rfl,d4,d4,atR⟩
 omega
 refine aL ?_
 refine am ?_
 refine kE (λh27=>?_) (λh27=>?_)
 refine aH ?_
 exact jp
 refine au ?_
 refine aj ?_
 refine iS rfl (λ_=>ml rfl rfl rfl (rW .i64 1 n13)) ?_
 refine bF ?_
 refine bo ?_
 have hS28:=Sep.Yg lJ 1 (List.map kX [(IntKind.i64.wrap (1 - n13))]) (by intro x hx; obtain ⟨y,_,rfl⟩:=List.mem_map.mp hx; rfl) (k:=1) rfl
 have hNk29:=a1.lk
 refine ke a1.l.length (λk29 e h=>∃ v30:AV,∃ l31:List Int,∃ n32:Int,∃ H33:bV,(1<=k29)/\(l31.length<=1+k29)/\Sep H33 (zsP kX 1 v30 l31::[])/\At [1,2,7,11,12] [kU a1,.la 2 0,iv n32,v30,ck k29] H33 [(2,(bY.af a0))] e h) ?_ (k0:=1) d4 ⟨((.sl (List.map kX [(IntKind.i64.wrap (1 - n13))]) (.exact 1))),([(IntKind.i64.wrap (1 - n13))]),n13,bV.empty,d4,eR,hS28,atR⟩
 rintro k29 e h hkk29 ⟨v30,l31,n32,H33,hw35,hl36,hS34,hA⟩
 refine cu ?_
 have hL37:=a1.lk
 refine lx a1 ?_
 refine kE (λh38=>?_) (λh38=>?_)
 refine cb ?_
 refine wz [kU a1,.la 2 0,iv n32,v30,ck k29] H33 [(2,(bY.af a0))] ?_ (kF hS34 [(11,0)])
 refine aw ?_
 refine cR ?_
 refine SI ?_
 have hx39:((k29:Int) - 1).toNat<a1.l.length:=by omega
 refine kG rfl rfl (λ_=>kW (n:=(k29:Int) - 1) (r:=a1) (enc:=kX) rfl rfl rfl rfl rfl d4 hx39 rfl) ?_
 generalize hqx40:a1.l[((k29:Int) - 1).toNat]=x40
 refine bA ?_
 refine rC (t206 a0 (⟨x40,n32⟩:j7)) ?_
 rintro _ ⟨r42,r43,hc41,rfl⟩
 have hN:=hc41
 cases r43
 refine bG ?_
 refine qs ?_
 refine cR ?_
 iterate 7 refine rS ?_
 refine ce ?_
 refine bT ?_
 exact jp
 refine bG ?_
 refine qs ?_
 refine cM ?_
 refine cH ?_
 have hx44:k29<a1.l.length:=by omega
 refine qV k29 a1 hx44 ?_
 generalize hqx45:a1.l[k29]=x45
 refine rV ?_
 refine w5 (λh46=>?_) (λh46=>?_)
 refine ce ?_
 refine bT ?_
 exact jp
 refine bz ?_
 refine wz [kU a1,.la 2 0,v30,ck k29,.la 13 0] H33 [(2,(bY.af a0)),(13,(j7.af r42))] ?_ (kF hS34 [(11,0)])
 refine bJ ?_
 refine kM rfl (lO (i:=0) [r42.en] hS34 rfl rfl rfl rfl rfl rfl rfl rfl rfl (λ_=>rfl) (.inl rfl) dZ (λ_=>rfl)) ?_
 rintro v47 H48 hS49
 refine ab ?_
 refine ci ?_
 refine iS rfl (λ_=>ml rfl rfl rfl (rW .i64 1 r42.en)) ?_
 refine ab ?_
 refine wz [kU a1,.la 2 0,iv (IntKind.i64.wrap (1 - r42.en)),v47,ck k29] H48 [(2,(bY.af a0))] ?_ (kF hS49 [(11,0)])
 refine aJ ?_
 refine kI ?_
 refine ab ?_
 exact ⟨by omega,v47,((l31++[r42.en])),(IntKind.i64.wrap (1 - r42.en)),H48,d4,dX,hS49,(kF hS49 [(11,0)])⟩
 refine aL ?_
 refine wz [v30] H33 [] ?_ (kF hS34 [(11,0)])
 refine aF ?_
 obtain ⟨r50,hl51,hf52⟩:=mz (H:=H33) (i:=0) (l:=l31) (enc:=kX) hS34 rfl dV
 have hlq:=hl51; have hln54:=congrArg List.length hl51
 have hz53:∀ m,freeze false { H33 with cT:=[] } (m+2) v30=some (kU r50):=λm=>hf52 _ _ (λ_=>rfl)
 exact ⟨.kO [v30,.bool true],(lQ (vs:=[v30,.bool true]) rfl (j8 (Sep.arg (i:=0) hS34 rfl) (j8 rfl kK))),.kO [kU r50,.bool true],(show freeze false { H33 with cT:=[] } 8 (.kO [v30,.bool true])=some (.kO [kU r50,.bool true]) by simp only [FZ,hz53]),r50,true,zt⟩
def ZM (_a0:bY) (v:AV):Prop:=∃ r0:Bool,(True)/\v=.bool r0
def t137 (a0:bY) (q1:mU a0):Ct 137 [.agg (bY.af a0)] (ZM a0):=by
 refine kA Is ?_
 have q2:=q1.lines
 refine aV ?_
 refine bC ?_
 refine bo ?_
 have hS1:=Sep.m3 lJ 1
 have hNk2:=a0.lines.lk
 refine ke a0.lines.l.length (λk2 e h=>∃ v3:AV,∃ l4:List Int,∃ H5:bV,(l4.length<=60*k2)/\Sep H5 (om v3 l4::[])/\At [1,3,4] [.la 1 0,v3,ck k2] H5 [(1,(bY.af a0))] e h) ?_ (k0:=0) d4 ⟨iN,(([]:List Int)),bV.empty,fQ,hS1,atR⟩
 rintro k2 e h hkk2 ⟨v3,l4,H5,hI,hS6,hA⟩
 refine bg ?_
 have hL7:=a0.lines.lk
 refine lx a0.lines ?_
 refine kE (λh8=>?_) (λh8=>?_)
 refine cb ?_
 refine wz [.la 1 0,v3,ck k2] H5 [(1,(bY.af a0))] ?_ (kF hS6 [(3,0)])
 refine aw ?_
 refine aI ?_
 have hx9:k2<a0.lines.l.length:=by omega
 refine mB k2 a0.lines hx9 ?_
 generalize hqx10:a0.lines.l[k2]=x10
 have hinx10:x10∈a0.lines.l:=by rw [<- hqx10]; exact List.getElem_mem _
 have hsx10:=q1.line x10 hinx10
 refine bM ?_
 refine bo ?_
 have hNk11:=x10.elems.lk
 refine ke x10.elems.l.length (λk11 e h=>∃ v12:AV,∃ l13:List Int,∃ H14:bV,(l13.length<=l4.length+k11)/\Sep H14 (om v12 l13::[])/\At [1,3,4,5,6] [.la 1 0,v12,ck k2,kU x10.elems,ck k11] H14 [(1,(bY.af a0))] e h) ?_ (k0:=0) d4 ⟨v3,l4,H5,eR,hS6,(kF hS6 [(3,0)])⟩
 rintro k11 e h hkk11 ⟨v12,l13,H14,hl16,hS15,hA⟩
 refine cu ?_
 have hL17:=x10.elems.lk
 refine lx x10.elems ?_
 refine kE (λh18=>?_) (λh18=>?_)
 refine cb ?_
 refine wz [.la 1 0,v12,ck k2,kU x10.elems,ck k11] H14 [(1,(bY.af a0))] ?_ (kF hS15 [(3,0)])
 refine aw ?_
 refine cq ?_
 have hx19:k11<x10.elems.l.length:=by omega
 refine mB k11 x10.elems hx19 ?_
 generalize hqx20:x10.elems.l[k11]=x20
 refine oV ?_
 refine nd hS15 0 λr21 hl22 hln25 hz24=>?_
 refine ns (args:=[v12,iv x20]) (p:=[]) (r:=[]) (args':=[lG r21,iv x20]) (R:=P7 r21 x20) rfl rfl rfl rfl rfl (j8 (Sep.arg (i:=0) hS15 rfl) (j8 rfl kK)) rfl fh (lj (by show kP (freeze true { H14 with cT:=[] } 8) [v12,iv x20] = _; simp only [FZ,hz24]) (j8 (Sep.ot (i:=0) hS15 rfl) (j8 rfl kK))) (lj e9 (j8 rfl (j8 rfl kK))) (λh=>t39 r21 x20  h) ?_
 rintro _ ⟨r27,hc26,rfl⟩
 have hIn:=hc26
 cases r27
 refine au ?_
 refine wz [.la 1 0,v12,ck k2,kU x10.elems,ck k11] H14 [(1,(bY.af a0))] ?_ (kF hS15 [(3,0)])
 refine bu ?_
 have hx28:k11<x10.elems.l.length:=by omega
 refine mB k11 x10.elems hx28 ?_
 rw [hqx20]
 refine ao ?_
 refine kM rfl (lO (i:=0) [x20] hS15 rfl rfl rfl rfl rfl rfl rfl rfl rfl (λ_=>rfl) (.inl rfl) dZ (λ_=>rfl)) ?_
 rintro v30 H31 hS32
 refine ab ?_
 refine wz [.la 1 0,v30,ck k2,kU x10.elems,ck k11] H31 [(1,(bY.af a0))] ?_ (kF hS32 [(3,0)])
 refine aJ ?_
 refine kI ?_
 refine ab ?_
 exact ⟨by omega,v30,((l13++[x20])),H31,dX,hS32,(kF hS32 [(3,0)])⟩
 refine aZ ?_
 exact iZ
 refine aL ?_
 refine wz [.la 1 0,v12,ck k2,kU x10.elems] H14 [(1,(bY.af a0))] ?_ (kF hS15 [(3,0)])
 refine ae ?_
 refine oC (t207 a0 x10.elems dS) ?_
 rintro _ ⟨r34,r35,hc33,rfl⟩
 cases r35
 refine dg ?_
 refine aa ?_
 refine bw ?_
 exact iZ
 refine dg ?_
 refine aa ?_
 refine cf ?_
 refine wz [.la 1 0,v12,ck k2] H14 [(1,(bY.af a0))] ?_ (kF hS15 [(3,0)])
 refine aJ ?_
 refine kI ?_
 refine ab ?_
 exact ⟨by omega,v12,l13,H14,d7,hS15,(kF hS15 [(3,0)])⟩
 refine dv ?_
 exact i4
def P88 (_a0:bY) (_a1:Int) (v:AV):Prop:=∃ r0:Int,(r0=tu _a0 _a1)/\v=iv r0
def t88 (a0:bY) (a1:Int) :Ct 88 [.agg (bY.af a0),iv a1] (P88 a0 a1):=by
 refine kA Nr ?_
 refine aj ?_
 refine ak ?_
 refine kE (λh1=>?_) (λh1=>?_)
 refine b5 ?_
 refine aq ?_
 exact xB ⟨0,gz,rfl⟩
 refine aM ?_
 have hL2:=a0.elems.lk
 refine lx a0.elems ?_
 refine mW (λh3=>?_) (λh3=>?_)
 refine aq ?_
 exact xB ⟨0,gz,rfl⟩
 refine ap ?_
 refine aI ?_
 have hx4:(a1).toNat<a0.elems.l.length:=by omega
 refine iS rfl (λ_=>kW (n:=a1) (r:=a0.elems) (enc:=my.af) rfl rfl rfl rfl rfl d4 hx4 rfl) ?_
 generalize hqx5:a0.elems.l[(a1).toNat]=x5
 refine cr ?_
 exact xB ⟨x5.len,gz,rfl⟩
def adh (_a0:Int) (_a1:Int) (v:AV):Prop:=∃ r0:Int,(True)/\v=iv r0
def t208 (a0:Int) (a1:Int) :Ct 208 [iv a0,iv a1] (adh a0 a1):=by
 refine kA KC ?_
 refine aY ?_
 refine kE (λh1=>?_) (λh1=>?_)
 refine bj ?_
 refine bb ?_
 refine bb ?_
 refine aq ?_
 exact jq
 refine ao ?_
 refine mc (λh2=>?_) (λh2=>?_)
 refine bb ?_
 refine bb ?_
 refine aq ?_
 exact jq
 refine aD ?_
 refine kE (λh3=>?_) (λh3=>?_)
 refine bb ?_
 refine aq ?_
 exact jq
 refine aD ?_
 refine mc (λh4=>?_) (λh4=>?_)
 refine aq ?_
 exact jq
 refine ap ?_
 refine bC ?_
 refine aR ?_
 refine pW ?_
 refine aC ?_
 refine nw (λm9 e h=>∃ n5:Int,∃ n6:Int,m9=(n5+10).toNat/\(-10<=n5)/\(n5<=60)/\At [0,1,5] [iv n5,iv a1,iv n6] bV.empty [] e h) ?_ _ _ _ ⟨(a0 - a1),0,rfl,d4,d4,atR⟩
 rintro m9 e h ⟨n5,n6,hmm9,hi7,hi8,hA⟩
 refine rR hA ?_
 refine am ?_
 refine mc (λh10=>?_) (λh10=>?_)
 refine a8 ?_
 refine ci ?_
 refine iS rfl (λ_=>ml rfl rfl rfl (uv .i64 n6 n5)) ?_
 refine ab ?_
 refine ci ?_
 refine pW ?_
 refine ab ?_
 refine ⟨_,?_,(n5 - a1),(IntKind.i64.wrap (n6+(n5))),rfl,d4,d4,atR⟩
 omega
 refine aL ?_
 refine bT ?_
 exact xB ⟨n6,zt⟩
def ac0 (_a0:bY) (v:AV):Prop:=∃ r0:Bool,(True)/\v=.bool r0
def t138 (a0:bY) :Ct 138 [.agg (bY.af a0)] (ac0 a0):=by
 refine kA Ja ?_
 refine aV ?_
 refine qs ?_
 refine aO ?_
 refine dN ?_
 refine rC (t208 a0.top a0.lC) ?_
 rintro _ ⟨r2,hc1,rfl⟩
 refine kG rfl rfl (λ_=>ml rfl rfl rfl (uv .i64 a0.top r2)) ?_
 refine si (λh3=>?_) (λh3=>?_)
 refine rN ?_
 refine ac ?_
 exact iZ
 refine c6 ?_
 refine bo ?_
 have hNk4:=a0.signals.lk
 refine ke a0.signals.l.length (λk4 e h=>At [1,3] [.la 1 0,ck k4] bV.empty [(1,(bY.af a0))] e h) ?_ (k0:=0) d4 atR
 rintro k4 e h hkk4 hA
 refine bg ?_
 have hL5:=a0.signals.lk
 refine lx a0.signals ?_
 refine kE (λh6=>?_) (λh6=>?_)
 refine a8 ?_
 refine aI ?_
 have hx7:k4<a0.signals.l.length:=by omega
 refine mB k4 a0.signals hx7 ?_
 generalize hqx8:a0.signals.l[k4]=x8
 refine cG ?_
 refine bZ ?_
 refine rC (t89 a0 x8.at_.elem) ?_
 rintro _ ⟨r10,hc9,rfl⟩
 refine w9 (λh11=>?_) (λh11=>?_)
 refine bA ?_
 refine rC (t88 a0 x8.at_.elem) ?_
 rintro _ ⟨r13,hc12,rfl⟩
 have hLen:=hc12
 refine aK ?_
 refine si (λh14=>?_) (λh14=>?_)
 refine dI ?_
 exact iZ
 refine bz ?_
 refine aJ ?_
 refine kI ?_
 refine ab ?_
 exact iJ
 refine dD ?_
 refine bz ?_
 refine aJ ?_
 refine kI ?_
 refine ab ?_
 exact iJ
 refine aL ?_
 refine bo ?_
 have hNk15:=a0.elems.lk
 refine ke a0.elems.l.length (λk15 e h=>At [1,5] [.la 1 0,ck k15] bV.empty [(1,(bY.af a0))] e h) ?_ (k0:=0) d4 atR
 rintro k15 e h hkk15 hA
 refine bg ?_
 have hL16:=a0.elems.lk
 refine lx a0.elems ?_
 refine kE (λh17=>?_) (λh17=>?_)
 refine a8 ?_
 refine cR ?_
 have hx18:k15<a0.elems.l.length:=by omega
 refine qV k15 a0.elems hx18 ?_
 generalize hqx19:a0.elems.l[k15]=x19
 refine aK ?_
 refine w5 (λh20=>?_) (λh20=>?_)
 refine cW ?_
 have hx21:k15<a0.elems.l.length:=by omega
 refine qV k15 a0.elems hx21 ?_
 rw [hqx19]
 refine cW ?_
 refine si (λh23=>?_) (λh23=>?_)
 refine dI ?_
 exact iZ
 refine bz ?_
 refine aJ ?_
 refine kI ?_
 refine ab ?_
 exact iJ
 refine rV ?_
 iterate 9 refine rS ?_
 refine bz ?_
 refine aJ ?_
 refine kI ?_
 refine ab ?_
 exact iJ
 refine dv ?_
 exact i4
def P66 (_a0:bY) (v:AV):Prop:=∃ r0:Int,(True)/\v=iv r0
def t66 (a0:bY) (q1:mU a0):Ct 66 [.agg (bY.af a0)] (P66 a0):=by
 refine kA Ou ?_
 have q2:=q1.elems; have q3:=q1.signals; have q4:=q1.lines
 refine aV ?_
 refine aR ?_
 have hL1:=a0.elems.lk
 refine lx a0.elems ?_
 refine mc (λh2=>?_) (λh2=>?_)
 refine bk ?_
 refine aS ?_
 refine bP ?_
 exact xB ⟨3,zt⟩
 refine aD ?_
 have hL3:=a0.signals.lk
 refine lx a0.signals ?_
 refine mc (λh4=>?_) (λh4=>?_)
 refine aS ?_
 refine bP ?_
 exact xB ⟨3,zt⟩
 refine aM ?_
 have hL5:=a0.lines.lk
 refine lx a0.lines ?_
 refine mc (λh6=>?_) (λh6=>?_)
 refine bP ?_
 exact xB ⟨3,zt⟩
 refine aM ?_
 have hL7:=a0.kB.lk
 refine lx a0.kB ?_
 refine mc (λh8=>?_) (λh8=>?_)
 refine aq ?_
 exact xB ⟨3,zt⟩
 refine ap ?_
 refine aj ?_
 refine oC (t132 a0 dS) ?_
 rintro _ ⟨r10,r11,r12,hc9,rfl⟩
 refine ao ?_
 refine dg ?_
 refine cw ?_
 refine oC (t133 a0) ?_
 rintro _ ⟨r14,hc13,rfl⟩
 cases r14
 refine bw ?_
 exact xB ⟨1,zt⟩
 refine bF ?_
 refine dn ?_
 refine oC (t134 r10) ?_
 rintro _ ⟨r16,hc15,rfl⟩
 cases r16
 refine ao ?_
 refine oC (t134 r11) ?_
 rintro _ ⟨r18,hc17,rfl⟩
 cases r18
 refine aD ?_
 refine oC (t134 r12) ?_
 rintro _ ⟨r20,hc19,rfl⟩
 cases r20
 refine bF ?_
 refine dn ?_
 refine oC (t135 a0 dS) ?_
 rintro _ ⟨r22,hc21,rfl⟩
 cases r22
 refine bw ?_
 exact xB ⟨6,zt⟩
 refine bF ?_
 refine dn ?_
 refine oC (t136 a0) ?_
 rintro _ ⟨r24,hc23,rfl⟩
 cases r24
 refine bw ?_
 exact xB ⟨7,zt⟩
 refine bF ?_
 refine dn ?_
 refine oC (t137 a0 dS) ?_
 rintro _ ⟨r26,hc25,rfl⟩
 cases r26
 refine bw ?_
 exact xB ⟨8,zt⟩
 refine bF ?_
 refine dn ?_
 refine oC (t138 a0) ?_
 rintro _ ⟨r28,hc27,rfl⟩
 cases r28
 refine bw ?_
 exact xB ⟨9,zt⟩
 refine cf ?_
 refine aU ?_
 exact jq
 refine bw ?_
 exact xB ⟨4,zt⟩
 refine bb ?_
 refine bw ?_
 exact xB ⟨4,zt⟩
 refine bj ?_
 refine bb ?_
 refine bw ?_
 exact xB ⟨4,zt⟩
def aam (_a0:bY) (v:AV):Prop:=∃ r0:Bool,((r0=true->mU _a0))/\v=.bool r0
def acT (a0:bY) (hJg:JG a0):Ct 27 [.agg (bY.af a0)] (aam a0):=by
 refine kA NO ?_
 refine aj ?_
 refine aN ?_
 refine oC (t65 a0 dS) ?_
 rintro _ ⟨r2,hc1,rfl⟩
 cases r2
 clear hc1
 refine bX ?_
 refine bd ?_
 exact xB ⟨false,gT,rfl⟩
 have hc1t:=hc1 rfl
 refine ao ?_
 refine oC (t66 a0 dS) ?_
 rintro _ ⟨r4,hc3,rfl⟩
 refine kZ (λh5=>?_) (λh5=>?_)
 refine bd ?_
 exact xB ⟨true,gT,rfl⟩
 refine bd ?_
 exact xB ⟨false,gT,rfl⟩
def P27 (_a0:bY) (v:AV):Prop:=∃ r0:Bool,(((r0=true->mU _a0))/\rs 27 [.agg (bY.af _a0)]=.bool r0)/\v=.bool r0
def t27 (a0:bY) (hJg:JG a0) (h:bV):∃ v,kC cfg FT kJ false 27 [.agg (bY.af a0)] h v h/\P27 a0 v:=by
 obtain ⟨v,hc,hP,hr⟩:=pa rY (acT a0 hJg) h
 obtain ⟨r0,hp,rfl⟩:=hP
 exact iR
def aa5 (_a0:Int) (v:AV):Prop:=∃ r0:Bool,(((r0=true->Bi _a0)/\(r0=false->¬ Bi _a0)))/\v=.bool r0
def t199 (a0:Int) :Ct 199 [.int .u8 a0] (aa5 a0):=by
 refine kA KE ?_
 refine aa ?_
 refine aN ?_
 refine mW (λh1=>?_) (λh1=>?_)
 refine ao ?_
 refine tX (λh2=>?_) (λh2=>?_)
 refine oV ?_
 refine de ?_
 refine bd ?_
 exact xB ⟨true,eU,rfl⟩
 refine aD ?_
 refine mW (λh3=>?_) (λh3=>?_)
 refine ao ?_
 refine tX (λh4=>?_) (λh4=>?_)
 refine cr ?_
 exact xB ⟨true,eU,rfl⟩
 refine cr ?_
 exact jm
 refine bj ?_
 refine cr ?_
 exact jm
 refine bj ?_
 refine aD ?_
 refine mW (λh5=>?_) (λh5=>?_)
 refine ao ?_
 refine tX (λh6=>?_) (λh6=>?_)
 refine cr ?_
 exact xB ⟨true,eU,rfl⟩
 refine cr ?_
 exact jm
 refine bj ?_
 refine cr ?_
 exact jm
def VQ (_a0:pL) (v:AV):Prop:=∃ r0:Bool,((yn _a0.l->r0=true))/\v=.bool r0
def Ws (a0:pL) :Ct 127 [.str a0.l] (VQ a0):=by
 refine kA Ju ?_
 refine aY ?_
 refine qf rfl (λ_=>vf rfl rfl) (λh2=>?_) (λh2=>?_)
 refine bX ?_
 refine bP ?_
 exact iQ
 have hp1:0<a0.l.length:=List.length_pos_iff.mpr h2
 refine aD ?_
 refine mc (λh3=>?_) (λh3=>?_)
 refine bP ?_
 exact iQ
 refine aD ?_
 have hx4:0<a0.l.length:=by omega
 refine iS rfl (λ_=>zJ (n:=0) (s:=a0.l) rfl rfl rfl rfl hx4) ?_
 generalize hqc5:a0.l[0]=c5
 refine oC (t199 ((c5.toNat:Int))) ?_
 rintro _ ⟨r7,hc6,rfl⟩
 have hLt:=hc6
 cases r7
 refine bw ?_
 exact iQ
 refine cf ?_
 refine bo ?_
 have hNk8:=a0.lk
 refine ke a0.l.length (λk8 e h=>(1<=k8)/\At [0,3] [.str a0.l,ck k8] bV.empty [] e h) ?_ (k0:=1) d4 ⟨d4,atR⟩
 rintro k8 e h hkk8 ⟨hw9,hA⟩
 refine bg ?_
 refine kE (λh10=>?_) (λh10=>?_)
 refine a8 ?_
 refine ae ?_
 have hx11:k8<a0.l.length:=by omega
 refine iS rfl (λ_=>zJ (n:=k8) (s:=a0.l) rfl rfl rfl rfl hx11) ?_
 generalize hqc12:a0.l[k8]=c12
 refine oC (t199 ((c12.toNat:Int))) ?_
 rintro _ ⟨r14,hc13,rfl⟩
 have hLt:=hc13
 cases r14
 refine aM ?_
 have hx15:k8<a0.l.length:=by omega
 refine iS rfl (λ_=>zJ (n:=k8) (s:=a0.l) rfl rfl rfl rfl hx15) ?_
 generalize hqc16:a0.l[k8]=c16
 refine kE (λh17=>?_) (λh17=>?_)
 refine bk ?_
 refine bw ?_
 exact iQ
 refine aD ?_
 have hx18:k8<a0.l.length:=by omega
 refine iS rfl (λ_=>zJ (n:=k8) (s:=a0.l) rfl rfl rfl rfl hx18) ?_
 generalize hqc19:a0.l[k8]=c19
 refine mc (λh20=>?_) (λh20=>?_)
 refine bw ?_
 exact iQ
 refine oV ?_
 refine da ?_
 refine kI ?_
 refine ab ?_
 exact ⟨by omega,d4,atR⟩
 refine oV ?_
 refine dF ?_
 refine da ?_
 refine kI ?_
 refine ab ?_
 exact ⟨by omega,d4,atR⟩
 refine dv ?_
 exact xB ⟨true,ez,rfl⟩
def aaD (_a0:pL) (v:AV):Prop:=∃ r0:Bool,(((yn _a0.l->r0=true))/\rs 127 [.str _a0.l]=.bool r0)/\v=.bool r0
def t127 (a0:pL)  (h:bV):∃ v,kC cfg FT kJ false 127 [.str a0.l] h v h/\aaD a0 v:=by
 obtain ⟨v,hc,hP,hr⟩:=pa rY (Ws a0) h
 obtain ⟨r0,hp,rfl⟩:=hP
 exact iR
def abW (_a0:Int) (v:AV):Prop:=∃ r0:Int,((((_a0=1->r0=2)/\(_a0=2->r0=3)/\(_a0=3->r0=4)/\(_a0=4->r0=1)/\0<=r0/\r0<=4)/\(¬ (1<=_a0/\_a0<=4)->r0=0)))/\v=iv r0
def t213 (a0:Int) :Ct 213 [iv a0] (abW a0):=by
 refine kA Kt ?_
 refine aY ?_
 refine dh ?_
 refine kZ (λh1=>?_) (λh1=>?_)
 refine aq ?_
 exact xB ⟨2,gg,rfl⟩
 refine be ?_
 refine kZ (λh2=>?_) (λh2=>?_)
 refine aq ?_
 exact xB ⟨3,gg,rfl⟩
 refine be ?_
 refine kZ (λh3=>?_) (λh3=>?_)
 refine aq ?_
 exact xB ⟨4,gg,rfl⟩
 refine be ?_
 refine kZ (λh4=>?_) (λh4=>?_)
 refine aq ?_
 exact xB ⟨1,gg,rfl⟩
 refine ap ?_
 refine aU ?_
 exact xB ⟨0,gg,rfl⟩
def aaU (_a0:bY) (v:AV):Prop:=∃ r0:Bool,((r0=true->Et _a0))/\v=.bool r0
def t147 (a0:bY) :Ct 147 [.agg (bY.af a0)] (aaU a0):=by
 refine kA Jz ?_
 refine aV ?_
 refine ur ?_
 refine aR ?_
 refine kE (λh1=>?_) (λh1=>?_)
 refine bX ?_
 refine dj ?_
 refine aA ?_
 refine aB ?_
 refine bP ?_
 exact ja
 refine aD ?_
 refine mc (λh2=>?_) (λh2=>?_)
 refine dj ?_
 refine aA ?_
 refine aB ?_
 refine bP ?_
 exact ja
 refine aM ?_
 refine kE (λh3=>?_) (λh3=>?_)
 refine aA ?_
 refine aB ?_
 refine bP ?_
 exact ja
 refine aM ?_
 refine mc (λh4=>?_) (λh4=>?_)
 refine az ?_
 refine az ?_
 refine bP ?_
 exact ja
 refine aM ?_
 refine kE (λh5=>?_) (λh5=>?_)
 refine ao ?_
 refine aB ?_
 refine bP ?_
 exact ja
 refine aM ?_
 refine mc (λh6=>?_) (λh6=>?_)
 refine az ?_
 refine bP ?_
 exact ja
 refine aM ?_
 refine kE (λh7=>?_) (λh7=>?_)
 refine dj ?_
 refine bP ?_
 exact ja
 refine aM ?_
 refine mc (λh8=>?_) (λh8=>?_)
 refine bP ?_
 exact ja
 refine aM ?_
 have hL9:=a0.elems.lk
 refine lx a0.elems ?_
 refine kZ (λh10=>?_) (λh10=>?_)
 refine aq ?_
 exact ja
 refine ap ?_
 refine qq ?_
 refine ql ?_
 refine aR ?_
 have hL11:=a0.elems.lk
 refine lx a0.elems ?_
 refine aC ?_
 have hNk12:=a0.elems.lk
 refine ke a0.elems.l.length (λk12 e h=>(∀ (i:Nat) (h:i<a0.elems.l.length),i<k12->(1<=(a0.elems.l[i]).kind/\(a0.elems.l[i]).kind<=4)/\((a0.elems.l[i]).kind=4->(a0.elems.l[i]).len=0))/\At [1,54,55,56] [.la 1 0,ld a0.elems,ck a0.elems.l.length,ck k12] bV.empty [(1,(bY.af a0))] e h) ?_ (k0:=0) d4 ⟨eX,atR⟩
 rintro k12 e h hkk12 ⟨hKd,hA⟩
 refine aE ?_
 refine kE (λh13=>?_) (λh13=>?_)
 refine cm ?_
 have hx14:k12<a0.elems.l.length:=by omega
 refine mB k12 a0.elems hx14 ?_
 generalize hqx15:a0.elems.l[k12]=x15
 refine ao ?_
 refine aC ?_
 refine ae ?_
 refine oC (t127 x15.name) ?_
 rintro _ ⟨r17,⟨hc16,hc16r⟩,rfl⟩
 have hNw:=hc16
 cases r17
 refine aS ?_
 refine bw ?_
 exact ja
 refine aM ?_
 refine oC (t213 x15.kind) ?_
 rintro _ ⟨r19,hc18,rfl⟩
 refine kZ (λh20=>?_) (λh20=>?_)
 refine bw ?_
 exact ja
 refine bF ?_
 refine qF ?_
 refine ae ?_
 refine kZ (λh21=>?_) (λh21=>?_)
 refine ba ?_
 refine aR ?_
 refine mg (λh22=>?_) (λh22=>?_)
 refine aZ ?_
 exact ja
 refine au ?_
 refine qe ?_
 refine qg ?_
 refine kI ?_
 refine ab ?_
 exact ⟨by omega,gV,atR⟩
 refine be ?_
 refine ao ?_
 refine kE (λh23=>?_) (λh23=>?_)
 refine bX ?_
 refine bw ?_
 exact ja
 refine aD ?_
 refine mc (λh24=>?_) (λh24=>?_)
 refine bw ?_
 exact ja
 refine oV ?_
 refine cE ?_
 refine kI ?_
 refine ab ?_
 exact ⟨by omega,gV,atR⟩
 refine ah ?_
 refine aR ?_
 have hL25:=a0.signals.lk
 refine dx ?_
 have hNk26:=a0.signals.lk
 refine ke a0.signals.l.length (λk26 e h=>At [1,89,90,91] [.la 1 0,lz a0.signals,ck a0.signals.l.length,ck k26] bV.empty [(1,(bY.af a0))] e h) ?_ (k0:=0) d4 atR
 rintro k26 e h hkk26 hA
 refine aE ?_
 refine kE (λh27=>?_) (λh27=>?_)
 refine cm ?_
 have hx28:k26<a0.signals.l.length:=by omega
 refine mB k26 a0.signals hx28 ?_
 generalize hqx29:a0.signals.l[k26]=x29
 refine dq ?_
 refine oC (t127 x29.name) ?_
 rintro _ ⟨r31,⟨hc30,hc30r⟩,rfl⟩
 have hNw:=hc30
 cases r31
 refine aq ?_
 exact ja
 refine cE ?_
 refine kI ?_
 refine ab ?_
 exact iJ
 refine ah ?_
 refine aR ?_
 have hL32:=a0.lines.lk
 refine lx a0.lines ?_
 refine aC ?_
 have hNk33:=a0.lines.lk
 refine ke a0.lines.l.length (λk33 e h=>At [101,102,103] [kD a0.lines,ck a0.lines.l.length,ck k33] bV.empty [] e h) ?_ (k0:=0) d4 atR
 rintro k33 e h hkk33 hA
 refine aE ?_
 refine kE (λh34=>?_) (λh34=>?_)
 refine cm ?_
 have hx35:k33<a0.lines.l.length:=by omega
 refine mB k33 a0.lines hx35 ?_
 generalize hqx36:a0.lines.l[k33]=x36
 refine dq ?_
 refine oC (t127 x36.name) ?_
 rintro _ ⟨r38,⟨hc37,hc37r⟩,rfl⟩
 have hNw:=hc37
 cases r38
 refine aq ?_
 exact ja
 refine cE ?_
 refine kI ?_
 refine ab ?_
 exact iJ
 refine bE ?_
 exact xB ⟨true,eH,rfl⟩
def Nt {H:bV} (b:Nat) (pp:bY) (i:Int) (F:List lF) (hS:Sep H (lE b (bY.af pp)::F)) (q1:0<=i) (q2:i<(pp.elems.l.length:Int)):∃ v H',kC cfg FT kJ true 149 [iv i,(ki b)] { H with cT:=[] } v H'/\(∃ r0:pL,(True)/\Sep H' (lE b (bY.af pp)::F)/\v=.str r0.l):=by
 refine lK If ?_
 refine bC ?_
 refine cY ?_
 refine iS rfl (λ_=>nY (i:=0) (o:=0) (r:=ld pp.elems) hS rfl rfl rfl rfl) ?_
 refine oV ?_
 have hx1:(i).toNat<pp.elems.l.length:=by omega
 refine iS rfl (λ_=>kW (n:=i) (r:=pp.elems) (enc:=my.af) rfl rfl rfl rfl rfl d4 hx1 rfl) ?_
 generalize hqx2:pp.elems.l[(i).toNat]=x2
 refine cr ?_
 have hS3:=Sep.pick hS [0] 1 dW dW
 exact jf
def O3 {H:bV} (b:Nat) (pp:bY) (i:Int) (F:List lF) (hS:Sep H (lE b (bY.af pp)::F)) (q1:0<=i) (q2:i<(pp.signals.l.length:Int)):∃ v H',kC cfg FT kJ true 150 [iv i,(ki b)] { H with cT:=[] } v H'/\(∃ r0:pL,(True)/\Sep H' (lE b (bY.af pp)::F)/\v=.str r0.l):=by
 refine lK IU ?_
 refine bC ?_
 refine cY ?_
 refine iS rfl (λ_=>nY (i:=0) (o:=2) (r:=lz pp.signals) hS rfl rfl rfl rfl) ?_
 refine oV ?_
 have hx1:(i).toNat<pp.signals.l.length:=by omega
 refine iS rfl (λ_=>kW (n:=i) (r:=pp.signals) (enc:=lY.af) rfl rfl rfl rfl rfl d4 hx1 rfl) ?_
 generalize hqx2:pp.signals.l[(i).toNat]=x2
 refine cr ?_
 have hS3:=Sep.pick hS [0] 1 dW dW
 exact jf
def No {H:bV} (b:Nat) (pp:bY) (i:Int) (F:List lF) (hS:Sep H (lE b (bY.af pp)::F)) (q1:0<=i) (q2:i<(pp.lines.l.length:Int)):∃ v H',kC cfg FT kJ true 151 [iv i,(ki b)] { H with cT:=[] } v H'/\(∃ r0:pL,(True)/\Sep H' (lE b (bY.af pp)::F)/\v=.str r0.l):=by
 refine lK Ic ?_
 refine bC ?_
 refine cY ?_
 refine iS rfl (λ_=>nY (i:=0) (o:=3) (r:=kD pp.lines) hS rfl rfl rfl rfl) ?_
 refine oV ?_
 have hx1:(i).toNat<pp.lines.l.length:=by omega
 refine iS rfl (λ_=>kW (n:=i) (r:=pp.lines) (enc:=lq.af) rfl rfl rfl rfl rfl d4 hx1 rfl) ?_
 generalize hqx2:pp.lines.l[(i).toNat]=x2
 refine cr ?_
 have hS3:=Sep.pick hS [0] 1 dW dW
 exact jf
def MD {H:bV} (n:Int) (b:Nat) (pp:bY) (F:List lF) (hS:Sep H (lE b (bY.af pp)::F)) (q2:n<=(pp.elems.l.length:Int)):∃ v H',kC cfg FT kJ true 148 [iv n,.ly 149 [] [(ki b)]] { H with cT:=[] } v H'/\(∃ r0:Bool,(True)/\Sep H' (lE b (bY.af pp)::F)/\v=.bool r0):=by
 refine lK Ca ?_
 have hqb:=pp.elems.ok
 simp only [s9] at hqb
 refine bC ?_
 refine dQ ?_
 rintro _ H2 ⟨b1,rfl,hS3⟩
 refine ak ?_
 refine aC ?_
 refine ke ((n).toNat) (λk4 e h=>∃ l5:List (List UInt8×Bool),∃ H6:bV,Sep H6 (m5 b1 sK bK l5::lE b (bY.af pp)::F)/\At [1,5,8,9] [.ly 149 [] [(ki b)],(.hm b1),iv n,ck k4] H6 [] e h) ?_ (k0:=0) d4 ⟨([]),H2,hS3,atR⟩
 rintro k4 e h hkk4 ⟨l5,H6,hS7,hA⟩
 refine aE ?_
 refine kE (λh8=>?_) (λh8=>?_)
 refine c8 ?_
 refine cq ?_
 have hS9:=Sep.pick hS7 [1,0] 2 dW dW
 refine lB (H:=H6) (args:=[ck k4]) (p:=[]) (r:=[(ki b)]) rfl rfl rfl rfl rfl rfl rfl (Nt b pp ((k4:Int)) (m5 b1 sK bK l5::F) hS9 dS dS) ?_
 rintro _ H10 ⟨r13,hc12,hS11,rfl⟩
 refine nK (H:=H10) (i:=1) (ek:=sK) (ev:=bK) (l:=l5) r13.l rfl rfl hS11 rfl rfl rfl rfl rfl rfl rfl rfl rX (λy14 h15=>?_) (λh16=>?_)
 cases y14
 refine au ?_
 refine bu ?_
 have hS17:=Sep.pick hS11 [0,1] 2 dW dW
 refine lB (H:=H10) (args:=[ck k4]) (p:=[]) (r:=[(ki b)]) rfl rfl rfl rfl rfl rfl rfl (Nt b pp ((k4:Int)) (m5 b1 sK bK l5::F) hS17 dS dS) ?_
 rintro _ H18 ⟨r21,hc20,hS19,rfl⟩
 refine kM rfl (oK (i:=1) (ek:=sK) (ev:=bK) r21.l true hS19 rfl rfl rfl rfl rfl rfl rX) ?_
 rintro _ H22 ⟨rfl,hS23⟩
 refine dC ?_
 refine kI ?_
 refine ab ?_
 have hS24:=Sep.pick hS23 [1,0] 2 dW dW
 exact jb
 refine aZ ?_
 have hS25:=Sep.pick hS11 [0] 2 dW dW
 exact jc
 refine au ?_
 refine bu ?_
 have hS26:=Sep.pick hS11 [0,1] 2 dW dW
 refine lB (H:=H10) (args:=[ck k4]) (p:=[]) (r:=[(ki b)]) rfl rfl rfl rfl rfl rfl rfl (Nt b pp ((k4:Int)) (m5 b1 sK bK l5::F) hS26 dS dS) ?_
 rintro _ H27 ⟨r30,hc29,hS28,rfl⟩
 refine kM rfl (oK (i:=1) (ek:=sK) (ev:=bK) r30.l true hS28 rfl rfl rfl rfl rfl rfl rX) ?_
 rintro _ H31 ⟨rfl,hS32⟩
 refine dC ?_
 refine kI ?_
 refine ab ?_
 have hS33:=Sep.pick hS32 [1,0] 2 dW dW
 exact jd
 refine bE ?_
 have hS34:=Sep.pick hS7 [1] 2 dW dW
 exact je
def MY {H:bV} (n:Int) (b:Nat) (pp:bY) (F:List lF) (hS:Sep H (lE b (bY.af pp)::F)) (q2:n<=(pp.signals.l.length:Int)):∃ v H',kC cfg FT kJ true 148 [iv n,.ly 150 [] [(ki b)]] { H with cT:=[] } v H'/\(∃ r0:Bool,(True)/\Sep H' (lE b (bY.af pp)::F)/\v=.bool r0):=by
 refine lK Ca ?_
 have hqb:=pp.signals.ok
 simp only [s9] at hqb
 refine bC ?_
 refine dQ ?_
 rintro _ H2 ⟨b1,rfl,hS3⟩
 refine ak ?_
 refine aC ?_
 refine ke ((n).toNat) (λk4 e h=>∃ l5:List (List UInt8×Bool),∃ H6:bV,Sep H6 (m5 b1 sK bK l5::lE b (bY.af pp)::F)/\At [1,5,8,9] [.ly 150 [] [(ki b)],(.hm b1),iv n,ck k4] H6 [] e h) ?_ (k0:=0) d4 ⟨([]),H2,hS3,atR⟩
 rintro k4 e h hkk4 ⟨l5,H6,hS7,hA⟩
 refine aE ?_
 refine kE (λh8=>?_) (λh8=>?_)
 refine c8 ?_
 refine cq ?_
 have hS9:=Sep.pick hS7 [1,0] 2 dW dW
 refine lB (H:=H6) (args:=[ck k4]) (p:=[]) (r:=[(ki b)]) rfl rfl rfl rfl rfl rfl rfl (O3 b pp ((k4:Int)) (m5 b1 sK bK l5::F) hS9 dS dS) ?_
 rintro _ H10 ⟨r13,hc12,hS11,rfl⟩
 refine nK (H:=H10) (i:=1) (ek:=sK) (ev:=bK) (l:=l5) r13.l rfl rfl hS11 rfl rfl rfl rfl rfl rfl rfl rfl rX (λy14 h15=>?_) (λh16=>?_)
 cases y14
 refine au ?_
 refine bu ?_
 have hS17:=Sep.pick hS11 [0,1] 2 dW dW
 refine lB (H:=H10) (args:=[ck k4]) (p:=[]) (r:=[(ki b)]) rfl rfl rfl rfl rfl rfl rfl (O3 b pp ((k4:Int)) (m5 b1 sK bK l5::F) hS17 dS dS) ?_
 rintro _ H18 ⟨r21,hc20,hS19,rfl⟩
 refine kM rfl (oK (i:=1) (ek:=sK) (ev:=bK) r21.l true hS19 rfl rfl rfl rfl rfl rfl rX) ?_
 rintro _ H22 ⟨rfl,hS23⟩
 refine dC ?_
 refine kI ?_
 refine ab ?_
 have hS24:=Sep.pick hS23 [1,0] 2 dW dW
 exact jb
 refine aZ ?_
 have hS25:=Sep.pick hS11 [0] 2 dW dW
 exact jc
 refine au ?_
 refine bu ?_
 have hS26:=Sep.pick hS11 [0,1] 2 dW dW
 refine lB (H:=H10) (args:=[ck k4]) (p:=[]) (r:=[(ki b)]) rfl rfl rfl rfl rfl rfl rfl (O3 b pp ((k4:Int)) (m5 b1 sK bK l5::F) hS26 dS dS) ?_
 rintro _ H27 ⟨r30,hc29,hS28,rfl⟩
 refine kM rfl (oK (i:=1) (ek:=sK) (ev:=bK) r30.l true hS28 rfl rfl rfl rfl rfl rfl rX) ?_
 rintro _ H31 ⟨rfl,hS32⟩
 refine dC ?_
 refine kI ?_
 refine ab ?_
 have hS33:=Sep.pick hS32 [1,0] 2 dW dW
 exact jd
 refine bE ?_
 have hS34:=Sep.pick hS7 [1] 2 dW dW
 exact je
def Na {H:bV} (n:Int) (b:Nat) (pp:bY) (F:List lF) (hS:Sep H (lE b (bY.af pp)::F)) (q2:n<=(pp.lines.l.length:Int)):∃ v H',kC cfg FT kJ true 148 [iv n,.ly 151 [] [(ki b)]] { H with cT:=[] } v H'/\(∃ r0:Bool,(True)/\Sep H' (lE b (bY.af pp)::F)/\v=.bool r0):=by
 refine lK Ca ?_
 have hqb:=pp.lines.ok
 simp only [s9] at hqb
 refine bC ?_
 refine dQ ?_
 rintro _ H2 ⟨b1,rfl,hS3⟩
 refine ak ?_
 refine aC ?_
 refine ke ((n).toNat) (λk4 e h=>∃ l5:List (List UInt8×Bool),∃ H6:bV,Sep H6 (m5 b1 sK bK l5::lE b (bY.af pp)::F)/\At [1,5,8,9] [.ly 151 [] [(ki b)],(.hm b1),iv n,ck k4] H6 [] e h) ?_ (k0:=0) d4 ⟨([]),H2,hS3,atR⟩
 rintro k4 e h hkk4 ⟨l5,H6,hS7,hA⟩
 refine aE ?_
 refine kE (λh8=>?_) (λh8=>?_)
 refine c8 ?_
 refine cq ?_
 have hS9:=Sep.pick hS7 [1,0] 2 dW dW
 refine lB (H:=H6) (args:=[ck k4]) (p:=[]) (r:=[(ki b)]) rfl rfl rfl rfl rfl rfl rfl (No b pp ((k4:Int)) (m5 b1 sK bK l5::F) hS9 dS dS) ?_
 rintro _ H10 ⟨r13,hc12,hS11,rfl⟩
 refine nK (H:=H10) (i:=1) (ek:=sK) (ev:=bK) (l:=l5) r13.l rfl rfl hS11 rfl rfl rfl rfl rfl rfl rfl rfl rX (λy14 h15=>?_) (λh16=>?_)
 cases y14
 refine au ?_
 refine bu ?_
 have hS17:=Sep.pick hS11 [0,1] 2 dW dW
 refine lB (H:=H10) (args:=[ck k4]) (p:=[]) (r:=[(ki b)]) rfl rfl rfl rfl rfl rfl rfl (No b pp ((k4:Int)) (m5 b1 sK bK l5::F) hS17 dS dS) ?_
 rintro _ H18 ⟨r21,hc20,hS19,rfl⟩
 refine kM rfl (oK (i:=1) (ek:=sK) (ev:=bK) r21.l true hS19 rfl rfl rfl rfl rfl rfl rX) ?_
 rintro _ H22 ⟨rfl,hS23⟩
 refine dC ?_
 refine kI ?_
 refine ab ?_
 have hS24:=Sep.pick hS23 [1,0] 2 dW dW
 exact jb
 refine aZ ?_
 have hS25:=Sep.pick hS11 [0] 2 dW dW
 exact jc
 refine au ?_
 refine bu ?_
 have hS26:=Sep.pick hS11 [0,1] 2 dW dW
 refine lB (H:=H10) (args:=[ck k4]) (p:=[]) (r:=[(ki b)]) rfl rfl rfl rfl rfl rfl rfl (No b pp ((k4:Int)) (m5 b1 sK bK l5::F) hS26 dS dS) ?_
 rintro _ H27 ⟨r30,hc29,hS28,rfl⟩
 refine kM rfl (oK (i:=1) (ek:=sK) (ev:=bK) r30.l true hS28 rfl rfl rfl rfl rfl rfl rX) ?_
 rintro _ H31 ⟨rfl,hS32⟩
 refine dC ?_
 refine kI ?_
 refine ab ?_
 have hS33:=Sep.pick hS32 [1,0] 2 dW dW
 exact jd
 refine bE ?_
 have hS34:=Sep.pick hS7 [1] 2 dW dW
 exact je
def abe (_a0:bY) (_a1:j7) (v:AV):Prop:=∃ r0:Bool,((r0=true->0<=_a1.elem/\_a1.elem<(_a0.elems.l.length:Int)/\0<=_a1.en/\_a1.en<4))/\v=.bool r0
def t214 (a0:bY) (a1:j7) :Ct 214 [.agg (bY.af a0),.agg (j7.af a1)] (abe a0 a1):=by
 refine kA HJ ?_
 refine cy ?_
 refine bZ ?_
 refine xa (λh1=>?_) (λh1=>?_)
 refine bH ?_
 have hL2:=a0.elems.lk
 refine xQ a0.elems ?_
 refine si (λh3=>?_) (λh3=>?_)
 refine cW ?_
 refine xa (λh4=>?_) (λh4=>?_)
 refine dN ?_
 have hx5:(a1.elem).toNat<a0.elems.l.length:=by omega
 refine kG rfl rfl (λ_=>kW (n:=a1.elem) (r:=a0.elems) (enc:=my.af) rfl rfl rfl rfl rfl d4 hx5 rfl) ?_
 generalize hqx6:a0.elems.l[(a1.elem).toNat]=x6
 refine aK ?_
 refine rC (t213 x6.kind) ?_
 rintro _ ⟨r8,hc7,rfl⟩
 refine si (λh9=>?_) (λh9=>?_)
 refine bh ?_
 exact jn
 refine bh ?_
 exact jo
 refine c9 ?_
 iterate 7 refine rS ?_
 refine bh ?_
 exact jo
 refine cC ?_
 exact jo
 refine dD ?_
 refine cC ?_
 exact jo
def ZY (_a0:bY) (v:AV):Prop:=(∃ r0:List (j7×j7),(((∀ y∈(r0:List (j7×j7)),0<=y.2.elem/\y.2.elem<(_a0.elems.l.length:Int))/\Am _a0.kB.l)/\JV _a0)/\v=.kO [.fm (lP pK pK r0) false,.bool true])\/((True)/\v=.kO [.mC,kh])
def t152 (a0:bY) :Ct 152 [.agg (bY.af a0)] (ZY a0):=by
 refine kA Kz ?_
 refine cy ?_
 refine cV ?_
 rintro _ H2 ⟨b1,rfl,hS3⟩
 refine ab ?_
 refine aR ?_
 have hL4:=a0.kB.lk
 refine lx a0.kB ?_
 refine aC ?_
 have hNk5:=a0.kB.lk
 refine ke a0.kB.l.length (λk5 e h=>∃ l6:List (j7×j7),∃ H7:bV,((∀ y∈(l6:List (j7×j7)),0<=y.2.elem/\y.2.elem<(a0.elems.l.length:Int)))/\(∀ x:j7,look x l6=np (a0.kB.l.take k5) x)/\(∀ (i:Nat) (h:i<a0.kB.l.length),i<k5->np (a0.kB.l.take i) (a0.kB.l[i]).a=none/\np (a0.kB.l.take i) (a0.kB.l[i]).b=none/\(a0.kB.l[i]).a≠(a0.kB.l[i]).b)/\(∀ (i:Nat) (h:i<a0.kB.l.length),i<k5->VE a0 (a0.kB.l[i]).a.elem/\VE a0 (a0.kB.l[i]).b.elem)/\Sep H7 (m5 b1 pK pK l6::[])/\At [1,4,17,18,19] [.la 1 0,(.hm b1),lv a0.kB,ck a0.kB.l.length,ck k5] H7 [(1,(bY.af a0))] e h) ?_ (k0:=0) d4 ⟨([]),H2,fQ,(by (intro x; rfl)),eX,eX,hS3,atR⟩
 rintro k5 e h hkk5 ⟨l6,H7,hV,hD,hJ,hJv,hS8,hA⟩
 refine aE ?_
 refine kE (λh9=>?_) (λh9=>?_)
 refine ai ?_
 refine wz [.la 1 0,(.hm b1),lv a0.kB,ck a0.kB.l.length,ck k5] H7 [(1,(bY.af a0))] ?_
 refine bQ ?_
 have hx10:k5<a0.kB.l.length:=by omega
 refine mB k5 a0.kB hx10 ?_
 generalize hqx11:a0.kB.l[k5]=x11
 refine bM ?_
 refine aI ?_
 refine nK (H:=H7) (i:=0) (ek:=pK) (ev:=pK) (l:=l6) x11.a rfl rfl hS8 rfl rfl rfl rfl rfl rfl rfl rfl nk (λy12 h13=>?_) (λh14=>?_)
 have hvy12:0<=y12.elem/\y12.elem<(a0.elems.l.length:Int):=hV _ (pJ h13)
 refine bB ?_
 refine ao ?_
 refine nK (H:=H7) (i:=0) (ek:=pK) (ev:=pK) (l:=l6) x11.b rfl rfl hS8 rfl rfl rfl rfl rfl rfl rfl rfl nk (λy15 h16=>?_) (λh17=>?_)
 have hvy15:0<=y15.elem/\y15.elem<(a0.elems.l.length:Int):=hV _ (pJ h16)
 refine bO ?_
 refine oV ?_
 refine oS ?_
 refine bL ?_
 refine bL ?_
 refine bL ?_
 refine cA ?_
 refine xG (.inr (⟨zT,rfl⟩))
 refine bO ?_
 refine oV ?_
 refine oS ?_
 refine bL ?_
 refine bL ?_
 refine bL ?_
 refine cA ?_
 refine xG (.inr (⟨zT,rfl⟩))
 refine bB ?_
 refine ao ?_
 refine nK (H:=H7) (i:=0) (ek:=pK) (ev:=pK) (l:=l6) x11.b rfl rfl hS8 rfl rfl rfl rfl rfl rfl rfl rfl nk (λy18 h19=>?_) (λh20=>?_)
 have hvy18:0<=y18.elem/\y18.elem<(a0.elems.l.length:Int):=hV _ (pJ h19)
 refine bO ?_
 refine ao ?_
 refine bL ?_
 refine bL ?_
 refine bL ?_
 refine cA ?_
 refine xG (.inr (⟨zT,rfl⟩))
 refine bO ?_
 iterate 8 refine oV ?_
 refine qf rfl (λ_=>xw rfl rfl rfl (λ_ _=>rfl)) (λh21=>?_) (λh21=>?_)
 refine bL ?_
 refine bL ?_
 refine cA ?_
 refine xG (.inr (⟨zT,rfl⟩))
 refine aQ ?_
 refine oC (t214 a0 x11.a) ?_
 rintro _ ⟨r23,hc22,rfl⟩
 cases r23
 clear hc22
 refine oV ?_
 refine bL ?_
 refine cA ?_
 refine xG (.inr (⟨zT,rfl⟩))
 have hc22t:=hc22 rfl
 refine c7 ?_
 refine oC (t214 a0 x11.b) ?_
 rintro _ ⟨r25,hc24,rfl⟩
 cases r25
 clear hc24
 refine oV ?_
 refine cA ?_
 refine xG (.inr (⟨zT,rfl⟩))
 have hc24t:=hc24 rfl
 refine cf ?_
 refine wz [.la 1 0,(.hm b1),.la 6 0,lv a0.kB,ck a0.kB.l.length,ck k5] H7 [(1,(bY.af a0)),(6,(mr.af x11))] ?_
 refine qd ?_
 iterate 10 refine rV ?_
 refine vd rfl rfl (oK (i:=0) (ek:=pK) (ev:=pK) (l:=l6) x11.a x11.b hS8 rfl rfl rfl rfl rfl rfl nk) ?_
 rintro _ H26 ⟨rfl,hS27⟩
 refine ⟨λcall=>(EO (pI rfl rfl rfl rfl rfl fM) (A9 (pI rfl rfl rfl rfl rfl fM))),?_⟩
 refine mP rfl rfl (oK (i:=0) (ek:=pK) (ev:=pK) (l:=(put x11.a x11.b l6)) x11.b x11.a hS27 rfl rfl rfl rfl rfl rfl nk) ?_
 rintro _ H28 ⟨rfl,hS29⟩
 refine rN ?_
 refine wz [.la 1 0,(.hm b1),lv a0.kB,ck a0.kB.l.length,ck k5] H28 [(1,(bY.af a0))] ?_
 refine qg ?_
 refine kI ?_
 refine ab ?_
 exact ⟨by omega,((put x11.b x11.a (put x11.a x11.b l6))),H28,(by exact sW (P:=λy:j7=>0<=y.elem/\y.elem<(a0.elems.l.length:Int)) (sW (P:=λy:j7=>0<=y.elem/\y.elem<(a0.elems.l.length:Int)) hV d4) d4),(by exact AR dT dT hD dT dT dT),(by exact E4 dT dT hD hJ dT dT dT),(by exact ng (P:=λj:mr=>VE a0 j.a.elem/\VE a0 j.b.elem) dT hJv (by unfold VE; omega)),hS29,atR⟩
 refine ah ?_
 refine wz [.la 1 0,(.hm b1)] H7 [(1,(bY.af a0))] ?_
 refine aR ?_
 have hL30:=a0.elems.lk
 refine lx a0.elems ?_
 refine aC ?_
 have hNk31:=a0.elems.lk
 refine ke a0.elems.l.length (λk31 e h=>At [1,4,74,75,76] [.la 1 0,(.hm b1),ld a0.elems,ck a0.elems.l.length,ck k31] H7 [(1,(bY.af a0))] e h) ?_ (k0:=0) d4 atR
 rintro k31 e h hkk31 hA
 refine aE ?_
 refine kE (λh32=>?_) (λh32=>?_)
 refine ai ?_
 refine wz [.la 1 0,(.hm b1),ld a0.elems,ck a0.elems.l.length,ck k31] H7 [(1,(bY.af a0))] ?_
 refine cw ?_
 have hx33:k31<a0.elems.l.length:=by omega
 refine mB k31 a0.elems hx33 ?_
 generalize hqx34:a0.elems.l[k31]=x34
 refine cG ?_
 refine aR ?_
 refine mg (λh35=>?_) (λh35=>?_)
 refine ay ?_
 refine qe ?_
 refine di ?_
 refine kI ?_
 refine ab ?_
 exact iJ
 refine au ?_
 refine wz [.la 1 0,(.hm b1),ck k31,ld a0.elems,ck a0.elems.l.length,ck k31] H7 [(1,(bY.af a0))] ?_
 refine aI ?_
 refine nK (H:=H7) (i:=0) (ek:=pK) (ev:=pK) (l:=l6) ((⟨((k31:Int)),0⟩:j7)) rfl rfl hS8 rfl rfl rfl rfl rfl rfl rfl rfl nk (λy36 h37=>?_) (λh38=>?_)
 have hvy36:0<=y36.elem/\y36.elem<(a0.elems.l.length:Int):=hV _ (pJ h37)
 refine bB ?_
 refine c7 ?_
 have hx39:(y36.elem).toNat<a0.elems.l.length:=by omega
 refine iS rfl (λ_=>kW (n:=y36.elem) (r:=a0.elems) (enc:=my.af) rfl rfl rfl rfl rfl d4 hx39 rfl) ?_
 generalize hqx40:a0.elems.l[(y36.elem).toNat]=x40
 refine ao ?_
 refine kZ (λh41=>?_) (λh41=>?_)
 refine cA ?_
 refine xG (.inr (⟨zT,rfl⟩))
 refine ap ?_
 refine di ?_
 refine kI ?_
 refine ab ?_
 exact iJ
 refine bB ?_
 refine cD ?_
 refine cA ?_
 refine xG (.inr (⟨zT,rfl⟩))
 refine ah ?_
 refine wz [(.hm b1)] H7 [] ?_
 refine aF ?_
 have hz42:∀ m,freeze false { H7 with cT:=[] } (m+3) (.hm b1)=some (.fm (lP pK pK l6) false):=λm=>vO (i:=0) hS8 rfl _ _ (xY λ_=>rfl)
 refine ⟨.kO [(.hm b1),.bool true],rfl,.kO [.fm (lP pK pK l6) false,.bool true],(show freeze false { H7 with cT:=[] } 8 (.kO [(.hm b1),.bool true])=some (.kO [.fm (lP pK pK l6) false,.bool true]) by simp only [FZ,hz42]),.inl ⟨l6,(by exact ⟨⟨hV,λi h=>hJ i h d4⟩,Zb hJv d4⟩),rfl⟩⟩
def acU (_a0:bY) (_a1:List (j7×j7)) (v:AV):Prop:=∃ r0:Bool,((r0=true->(∀ s∈_a0.signals.l,0<=s.at_.elem/\s.at_.elem<(_a0.elems.l.length:Int)/\0<=s.at_.en)/\y7 _a0.signals.l))/\v=.bool r0
def t153 (a0:bY) (a1:List (j7×j7)) (q1:(∀ y∈(a1:List (j7×j7)),0<=y.2.elem/\y.2.elem<(a0.elems.l.length:Int))):Ct 153 [.agg (bY.af a0),.fm (lP pK pK a1) false] (acU a0 a1):=by
 refine kA IK ?_
 refine aV ?_
 refine cV ?_
 rintro _ H2 ⟨b1,rfl,hS3⟩
 refine ab ?_
 refine aR ?_
 have hL4:=a0.signals.lk
 refine dx ?_
 have hNk5:=a0.signals.lk
 refine ke a0.signals.l.length (λk5 e h=>∃ l6:List (j7×Bool),∃ H7:bV,(∀ (i:Nat) (h:i<a0.signals.l.length),i<k5->0<=(a0.signals.l[i]).at_.elem/\(a0.signals.l[i]).at_.elem<(a0.elems.l.length:Int)/\0<=(a0.signals.l[i]).at_.en)/\(∀ x:j7,(∃ y,y∈a0.signals.l.take k5/\y.at_=x)->look x l6=some true)/\(∀ (i:Nat) (h:i<a0.signals.l.length),i<k5->∀ y∈a0.signals.l.take i,y.at_≠(a0.signals.l[i]).at_)/\(∀ y∈(l6:List (j7×Bool)),y.2=true)/\Sep H7 (m5 b1 pK bK l6::[])/\At [1,2,5,15,16,17] [.fm (lP pK pK a1) false,.la 2 0,(.hm b1),lz a0.signals,ck a0.signals.l.length,ck k5] H7 [(2,(bY.af a0))] e h) ?_ (k0:=0) d4 ⟨([]),H2,eX,(by (rintro x ⟨y,h,_⟩; simp at h)),eX,fQ,hS3,atR⟩
 rintro k5 e h hkk5 ⟨l6,H7,hV,hD,hJ,hT,hS8,hA⟩
 refine aE ?_
 refine kE (λh9=>?_) (λh9=>?_)
 refine ai ?_
 refine wz [.fm (lP pK pK a1) false,.la 2 0,(.hm b1),lz a0.signals,ck a0.signals.l.length,ck k5] H7 [(2,(bY.af a0))] ?_
 refine bQ ?_
 have hx10:k5<a0.signals.l.length:=by omega
 refine mB k5 a0.signals hx10 ?_
 generalize hqx11:a0.signals.l[k5]=x11
 refine bM ?_
 refine cq ?_
 refine oC (t214 a0 x11.at_) ?_
 rintro _ ⟨r13,hc12,rfl⟩
 cases r13
 clear hc12
 refine bP ?_
 exact jg
 have hc12t:=hc12 rfl
 refine aQ ?_
 refine nK (H:=H7) (i:=0) (ek:=pK) (ev:=bK) (l:=l6) x11.at_ rfl rfl hS8 rfl rfl rfl rfl rfl rfl rfl rfl nk (λy14 h15=>?_) (λh16=>?_)
 cases y14
 exact absurd (hT _ (pJ h15)) fQ
 refine aq ?_
 exact jg
 refine bf ?_
 refine qs ?_
 refine db ?_
 have hx17:(x11.at_.elem).toNat<a0.elems.l.length:=by omega
 refine iS rfl (λ_=>kW (n:=x11.at_.elem) (r:=a0.elems) (enc:=my.af) rfl rfl rfl rfl rfl d4 hx17 rfl) ?_
 generalize hqx18:a0.elems.l[(x11.at_.elem).toNat]=x18
 refine ao ?_
 refine aN ?_
 refine mg (λh19=>?_) (λh19=>?_)
 refine ao ?_
 refine mg (λh20=>?_) (λh20=>?_)
 refine aq ?_
 exact jg
 refine bf ?_
 refine aI ?_
 refine vQ (key:=x11.at_) (l:=a1) (ek:=pK) (ev:=pK) rfl rfl rfl rfl rfl rfl rfl rfl rfl nk (λy21 h22=>?_) (λh23=>?_)
 have hvy21:0<=y21.elem/\y21.elem<(a0.elems.l.length:Int):=q1 _ (pJ h22)
 refine bO ?_
 refine c7 ?_
 have hx24:(y21.elem).toNat<a0.elems.l.length:=by omega
 refine iS rfl (λ_=>kW (n:=y21.elem) (r:=a0.elems) (enc:=my.af) rfl rfl rfl rfl rfl d4 hx24 rfl) ?_
 generalize hqx25:a0.elems.l[(y21.elem).toNat]=x25
 refine ao ?_
 refine kZ (λh26=>?_) (λh26=>?_)
 refine aq ?_
 exact jg
 refine bf ?_
 refine dp ?_
 rintro _ H27 ⟨rfl,hS28⟩
 refine oN ?_
 refine wz [.fm (lP pK pK a1) false,.la 2 0,(.hm b1),lz a0.signals,ck a0.signals.l.length,ck k5] H27 [(2,(bY.af a0))] ?_
 refine qg ?_
 refine kI ?_
 refine ab ?_
 exact ⟨by omega,((put x11.at_ true l6)),H27,(by exact Dj dT hV d4),(by exact Dz dT dT hD),(by exact Dv dT dT hD hJ dT),iG,hS28,atR⟩
 refine bO ?_
 refine cD ?_
 refine aq ?_
 exact jg
 refine bj ?_
 refine bf ?_
 refine aI ?_
 refine vQ (key:=x11.at_) (l:=a1) (ek:=pK) (ev:=pK) rfl rfl rfl rfl rfl rfl rfl rfl rfl nk (λy29 h30=>?_) (λh31=>?_)
 have hvy29:0<=y29.elem/\y29.elem<(a0.elems.l.length:Int):=q1 _ (pJ h30)
 refine bO ?_
 refine c7 ?_
 have hx32:(y29.elem).toNat<a0.elems.l.length:=by omega
 refine iS rfl (λ_=>kW (n:=y29.elem) (r:=a0.elems) (enc:=my.af) rfl rfl rfl rfl rfl d4 hx32 rfl) ?_
 generalize hqx33:a0.elems.l[(y29.elem).toNat]=x33
 refine ao ?_
 refine kZ (λh34=>?_) (λh34=>?_)
 refine aq ?_
 exact jg
 refine bf ?_
 refine dp ?_
 rintro _ H35 ⟨rfl,hS36⟩
 refine oN ?_
 refine wz [.fm (lP pK pK a1) false,.la 2 0,(.hm b1),lz a0.signals,ck a0.signals.l.length,ck k5] H35 [(2,(bY.af a0))] ?_
 refine qg ?_
 refine kI ?_
 refine ab ?_
 exact ⟨by omega,((put x11.at_ true l6)),H35,(by exact Dj dT hV d4),(by exact Dz dT dT hD),(by exact Dv dT dT hD hJ dT),iG,hS36,atR⟩
 refine bO ?_
 refine cD ?_
 refine aq ?_
 exact jg
 refine ah ?_
 refine wz [.la 2 0,(.hm b1)] H7 [(2,(bY.af a0))] ?_
 refine aR ?_
 have hL37:=a0.elems.lk
 refine lx a0.elems ?_
 refine aC ?_
 have hNk38:=a0.elems.lk
 refine ke a0.elems.l.length (λk38 e h=>At [5,70,71,72] [(.hm b1),ld a0.elems,ck a0.elems.l.length,ck k38] H7 [] e h) ?_ (k0:=0) d4 atR
 rintro k38 e h hkk38 hA
 refine aE ?_
 refine kE (λh39=>?_) (λh39=>?_)
 refine ai ?_
 refine wz [(.hm b1),ld a0.elems,ck a0.elems.l.length,ck k38] H7 [] ?_
 refine cw ?_
 have hx40:k38<a0.elems.l.length:=by omega
 refine mB k38 a0.elems hx40 ?_
 generalize hqx41:a0.elems.l[k38]=x41
 refine oV ?_
 refine dq ?_
 refine kZ (λh42=>?_) (λh42=>?_)
 refine aM ?_
 refine nK (H:=H7) (i:=0) (ek:=pK) (ev:=bK) (l:=l6) ((⟨((k38:Int)),0⟩:j7)) rfl rfl hS8 rfl rfl rfl rfl rfl rfl rfl rfl nk (λy43 h44=>?_) (λh45=>?_)
 cases y43
 exact absurd (hT _ (pJ h44)) fQ
 refine cf ?_
 refine dA ?_
 refine kI ?_
 refine ab ?_
 exact iJ
 refine bw ?_
 exact jg
 refine b5 ?_
 refine ap ?_
 refine dA ?_
 refine kI ?_
 refine ab ?_
 exact iJ
 refine ah ?_
 refine wz [] H7 [] ?_
 refine aU ?_
 exact xB ⟨true,eS,rfl⟩
def ac5 (_a0:Row Int) (_a1:List (j7×j7)) (v:AV):Prop:=∃ r0:Bool,(True)/\v=.bool r0
def t215 (a0:Row Int) (a1:List (j7×j7)) :Ct 215 [kU a0,.fm (lP pK pK a1) false] (ac5 a0 a1):=by
 refine kA J8 ?_
 refine aY ?_
 have hL1:=a0.lk
 refine lx a0 ?_
 refine kE (λh2=>?_) (λh2=>?_)
 refine aZ ?_
 exact i4
 refine au ?_
 refine bC ?_
 refine bo ?_
 refine nw (λm7 e h=>∃ n3:Int,∃ n4:Int,m7=(n4+1).toNat/\(-1<=n4)/\(n4<=1)/\At [0,1,5,6] [kU a0,.fm (lP pK pK a1) false,iv n3,iv n4] bV.empty [] e h) ?_ _ _ _ ⟨(-1),1,rfl,d4,d4,atR⟩
 rintro m7 e h ⟨n3,n4,hmm7,hi5,hi6,hA⟩
 refine rR hA ?_
 refine am ?_
 refine mW (λh8=>?_) (λh8=>?_)
 refine a8 ?_
 refine ae ?_
 have hx9:0<a0.l.length:=by omega
 refine mB 0 a0 hx9 ?_
 generalize hqx10:a0.l[0]=x10
 refine aD ?_
 refine vQ (key:=(⟨x10,n4⟩:j7)) (l:=a1) (ek:=pK) (ev:=pK) rfl rfl rfl rfl rfl rfl rfl rfl rfl nk (λy11 h12=>?_) (λh13=>?_)
 refine cX ?_
 refine bH ?_
 have hx14:1<a0.l.length:=by omega
 refine qV 1 a0 hx14 ?_
 generalize hqx15:a0.l[1]=x15
 refine rV ?_
 refine w9 (λh16=>?_) (λh16=>?_)
 refine ce ?_
 refine qg ?_
 refine bF ?_
 refine aJ ?_
 refine pW ?_
 refine ab ?_
 refine ⟨_,?_,n4,(n4 - 1),rfl,d4,d4,atR⟩
 omega
 refine bz ?_
 refine aJ ?_
 refine pW ?_
 refine ab ?_
 refine ⟨_,?_,n3,(n4 - 1),rfl,d4,d4,atR⟩
 omega
 refine cX ?_
 refine cU ?_
 refine bz ?_
 refine aJ ?_
 refine pW ?_
 refine ab ?_
 refine ⟨_,?_,n3,(n4 - 1),rfl,d4,d4,atR⟩
 omega
 refine aL ?_
 refine am ?_
 refine kE (λh17=>?_) (λh17=>?_)
 refine aZ ?_
 exact iZ
 refine au ?_
 refine bo ?_
 have hNk18:=a0.lk
 refine ke a0.l.length (λk18 e h=>∃ n19:Int,(1<=k18)/\At [0,1,5,9] [kU a0,.fm (lP pK pK a1) false,iv n19,ck k18] bV.empty [] e h) ?_ (k0:=1) d4 ⟨n3,d4,atR⟩
 rintro k18 e h hkk18 ⟨n19,hw20,hA⟩
 refine cu ?_
 have hL21:=a0.lk
 refine lx a0 ?_
 refine kE (λh22=>?_) (λh22=>?_)
 refine a8 ?_
 refine aI ?_
 refine pW ?_
 have hx23:((k18:Int) - 1).toNat<a0.l.length:=by omega
 refine iS rfl (λ_=>kW (n:=(k18:Int) - 1) (r:=a0) (enc:=kX) rfl rfl rfl rfl rfl d4 hx23 rfl) ?_
 generalize hqx24:a0.l[((k18:Int) - 1).toNat]=x24
 refine aD ?_
 refine vQ (key:=(⟨x24,n19⟩:j7)) (l:=a1) (ek:=pK) (ev:=pK) rfl rfl rfl rfl rfl rfl rfl rfl rfl nk (λy25 h26=>?_) (λh27=>?_)
 refine oV ?_
 refine dg ?_
 refine qs ?_
 refine cM ?_
 refine cH ?_
 have hx28:k18<a0.l.length:=by omega
 refine qV k18 a0 hx28 ?_
 generalize hqx29:a0.l[k18]=x29
 refine rV ?_
 refine w5 (λh30=>?_) (λh30=>?_)
 refine dI ?_
 exact iZ
 refine bz ?_
 refine ci ?_
 refine iS rfl (λ_=>ml rfl rfl rfl (rW .i64 1 y25.en)) ?_
 refine ab ?_
 refine aJ ?_
 refine kI ?_
 refine ab ?_
 exact ⟨by omega,(IntKind.i64.wrap (1 - y25.en)),d4,atR⟩
 refine oV ?_
 refine dg ?_
 refine qs ?_
 refine cR ?_
 iterate 7 refine rS ?_
 refine dI ?_
 exact iZ
 refine dv ?_
 exact i4
def ac3 (_a0:bY) (_a1:List (j7×j7)) (v:AV):Prop:=∃ r0:Bool,((r0=true->zX _a0))/\v=.bool r0
def t154 (a0:bY) (a1:List (j7×j7)) :Ct 154 [.agg (bY.af a0),.fm (lP pK pK a1) false] (ac3 a0 a1):=by
 refine kA JP ?_
 refine aV ?_
 refine cV ?_
 rintro _ H2 ⟨b1,rfl,hS3⟩
 refine ab ?_
 refine aR ?_
 have hL4:=a0.lines.lk
 refine lx a0.lines ?_
 refine aC ?_
 have hNk5:=a0.lines.lk
 refine ke a0.lines.l.length (λk5 e h=>∃ l6:List (Int×Bool),∃ H7:bV,(xW a0 k5 0 l6)/\Sep H7 (m5 b1 iK bK l6::[])/\At [1,2,5,12,13,14] [.fm (lP pK pK a1) false,.la 2 0,(.hm b1),kD a0.lines,ck a0.lines.l.length,ck k5] H7 [(2,(bY.af a0))] e h) ?_ (k0:=0) d4 ⟨([]),H2,(by exact xW.zero),hS3,atR⟩
 rintro k5 e h hkk5 ⟨l6,H7,hLn,hS8,hA⟩
 refine aE ?_
 refine kE (λh9=>?_) (λh9=>?_)
 refine ai ?_
 refine wz [.fm (lP pK pK a1) false,.la 2 0,(.hm b1),kD a0.lines,ck a0.lines.l.length,ck k5] H7 [(2,(bY.af a0))] ?_
 refine bQ ?_
 have hx10:k5<a0.lines.l.length:=by omega
 refine mB k5 a0.lines hx10 ?_
 generalize hqx11:a0.lines.l[k5]=x11
 refine bM ?_
 refine aR ?_
 have hL12:=x11.elems.lk
 refine lx x11.elems ?_
 refine kZ (λh13=>?_) (λh13=>?_)
 refine aZ ?_
 exact jh
 refine au ?_
 refine wz [.fm (lP pK pK a1) false,.la 2 0,(.hm b1),.la 7 0,kD a0.lines,ck a0.lines.l.length,ck k5] H7 [(2,(bY.af a0)),(7,(lq.af x11))] ?_
 refine aR ?_
 have hL14:=x11.elems.lk
 refine lx x11.elems ?_
 refine aC ?_
 have hNk15:=x11.elems.lk
 refine ke x11.elems.l.length (λk15 e h=>∃ l16:List (Int×Bool),∃ H17:bV,(xW a0 k5 k15 l16)/\Sep H17 (m5 b1 iK bK l16::[])/\At [1,2,5,7,12,13,14,23,24,25] [.fm (lP pK pK a1) false,.la 2 0,(.hm b1),.la 7 0,kD a0.lines,ck a0.lines.l.length,ck k5,kU x11.elems,ck x11.elems.l.length,ck k15] H17 [(2,(bY.af a0)),(7,(lq.af x11))] e h) ?_ (k0:=0) d4 ⟨l6,H7,(by exact hLn),hS8,atR⟩
 rintro k15 e h hkk15 ⟨l16,H17,hLn2,hS18,hA⟩
 refine aE ?_
 refine kE (λh19=>?_) (λh19=>?_)
 refine ai ?_
 refine wz [.fm (lP pK pK a1) false,.la 2 0,(.hm b1),.la 7 0,kD a0.lines,ck a0.lines.l.length,ck k5,kU x11.elems,ck x11.elems.l.length,ck k15] H17 [(2,(bY.af a0)),(7,(lq.af x11))] ?_
 refine bQ ?_
 have hx20:k15<x11.elems.l.length:=by omega
 refine mB k15 x11.elems hx20 ?_
 generalize hqx21:x11.elems.l[k15]=x21
 refine oV ?_
 refine ak ?_
 refine kE (λh22=>?_) (λh22=>?_)
 refine b5 ?_
 refine dr ?_
 refine dj ?_
 refine aq ?_
 exact jh
 refine aM ?_
 have hL23:=a0.elems.lk
 refine lx a0.elems ?_
 refine mW (λh24=>?_) (λh24=>?_)
 refine dr ?_
 refine dj ?_
 refine aq ?_
 exact jh
 refine aQ ?_
 have hx25:(x21).toNat<a0.elems.l.length:=by omega
 refine iS rfl (λ_=>kW (n:=x21) (r:=a0.elems) (enc:=my.af) rfl rfl rfl rfl rfl d4 hx25 rfl) ?_
 generalize hqx26:a0.elems.l[(x21).toNat]=x26
 refine ao ?_
 refine mg (λh27=>?_) (λh27=>?_)
 refine dj ?_
 refine aq ?_
 exact jh
 refine aM ?_
 refine nK (H:=H17) (i:=0) (ek:=iK) (ev:=bK) (l:=l16) x21 rfl rfl hS18 rfl rfl rfl rfl rfl rfl rfl rfl pD (λy28 h29=>?_) (λh30=>?_)
 cases y28
 refine ap ?_
 refine bI ?_
 rintro _ H31 ⟨rfl,hS32⟩
 refine oN ?_
 refine wz [.fm (lP pK pK a1) false,.la 2 0,(.hm b1),.la 7 0,kD a0.lines,ck a0.lines.l.length,ck k5,kU x11.elems,ck x11.elems.l.length,ck k15] H31 [(2,(bY.af a0)),(7,(lq.af x11))] ?_
 refine qg ?_
 refine kI ?_
 refine ab ?_
 exact ⟨by omega,((put x21 true l16)),H31,iw,hS32,atR⟩
 refine aq ?_
 exact jh
 refine ap ?_
 refine bI ?_
 rintro _ H33 ⟨rfl,hS34⟩
 refine oN ?_
 refine wz [.fm (lP pK pK a1) false,.la 2 0,(.hm b1),.la 7 0,kD a0.lines,ck a0.lines.l.length,ck k5,kU x11.elems,ck x11.elems.l.length,ck k15] H33 [(2,(bY.af a0)),(7,(lq.af x11))] ?_
 refine qg ?_
 refine kI ?_
 refine ab ?_
 exact ⟨by omega,((put x21 true l16)),H33,iw,hS34,atR⟩
 refine ah ?_
 refine wz [.fm (lP pK pK a1) false,.la 2 0,(.hm b1),.la 7 0,kD a0.lines,ck a0.lines.l.length,ck k5] H17 [(2,(bY.af a0)),(7,(lq.af x11))] ?_
 refine aI ?_
 refine oC (t215 x11.elems a1) ?_
 rintro _ ⟨r36,hc35,rfl⟩
 cases r36
 refine aq ?_
 exact jh
 refine ap ?_
 refine wz [.fm (lP pK pK a1) false,.la 2 0,(.hm b1),kD a0.lines,ck a0.lines.l.length,ck k5] H17 [(2,(bY.af a0))] ?_
 refine qg ?_
 refine kI ?_
 refine ab ?_
 exact ⟨by omega,l16,H17,(by exact hLn2.next dT d4),hS18,atR⟩
 refine ah ?_
 refine wz [] H7 [] ?_
 refine aU ?_
 exact xB ⟨true,fC,rfl⟩
def ach (_a0:Int) (_a1:Int) (v:AV):Prop:=∃ r0:Int,(True)/\v=iv r0
def t216 (a0:Int) (a1:Int) :Ct 216 [iv a0,iv a1] (ach a0 a1):=by
 refine kA Jx ?_
 refine aY ?_
 refine kE (λh1=>?_) (λh1=>?_)
 refine bj ?_
 refine bb ?_
 refine bb ?_
 refine aq ?_
 exact jq
 refine ao ?_
 refine mc (λh2=>?_) (λh2=>?_)
 refine bb ?_
 refine bb ?_
 refine aq ?_
 exact jq
 refine aD ?_
 refine kE (λh3=>?_) (λh3=>?_)
 refine bb ?_
 refine aq ?_
 exact jq
 refine aD ?_
 refine mc (λh4=>?_) (λh4=>?_)
 refine aq ?_
 exact jq
 refine ap ?_
 refine bC ?_
 refine aR ?_
 refine pW ?_
 refine aC ?_
 refine nw (λm9 e h=>∃ n5:Int,∃ n6:Int,m9=(n5+10).toNat/\(-10<=n5)/\(n5<=60)/\At [0,1,5] [iv n5,iv a1,iv n6] bV.empty [] e h) ?_ _ _ _ ⟨(a0 - a1),0,rfl,d4,d4,atR⟩
 rintro m9 e h ⟨n5,n6,hmm9,hi7,hi8,hA⟩
 refine rR hA ?_
 refine am ?_
 refine mc (λh10=>?_) (λh10=>?_)
 refine a8 ?_
 refine ci ?_
 refine iS rfl (λ_=>ml rfl rfl rfl (uv .i64 n6 n5)) ?_
 refine ab ?_
 refine ci ?_
 refine pW ?_
 refine ab ?_
 refine ⟨_,?_,(n5 - a1),(IntKind.i64.wrap (n6+(n5))),rfl,d4,d4,atR⟩
 omega
 refine aL ?_
 refine bT ?_
 exact xB ⟨n6,zt⟩
def Z7 (_a0:bY) (v:AV):Prop:=∃ r0:Bool,(True)/\v=.bool r0
def t155 (a0:bY) (q1:(∀ s∈a0.signals.l,0<=s.at_.elem/\s.at_.elem<(a0.elems.l.length:Int)/\0<=s.at_.en)):Ct 155 [.agg (bY.af a0)] (Z7 a0):=by
 refine kA JI ?_
 refine aV ?_
 refine qs ?_
 refine aO ?_
 refine dN ?_
 refine rC (t216 a0.top a0.lC) ?_
 rintro _ ⟨r2,hc1,rfl⟩
 refine kG rfl rfl (λ_=>ml rfl rfl rfl (uv .i64 a0.top r2)) ?_
 refine si (λh3=>?_) (λh3=>?_)
 refine rN ?_
 refine ac ?_
 exact iZ
 refine c6 ?_
 refine aR ?_
 have hL4:=a0.signals.lk
 refine dx ?_
 have hNk5:=a0.signals.lk
 refine ke a0.signals.l.length (λk5 e h=>At [1,20,21,22] [.la 1 0,lz a0.signals,ck a0.signals.l.length,ck k5] bV.empty [(1,(bY.af a0))] e h) ?_ (k0:=0) d4 atR
 rintro k5 e h hkk5 hA
 refine aE ?_
 refine kE (λh6=>?_) (λh6=>?_)
 refine cm ?_
 have hx7:k5<a0.signals.l.length:=by omega
 refine mB k5 a0.signals hx7 ?_
 generalize hqx8:a0.signals.l[k5]=x8
 have hinx8:x8∈a0.signals.l:=by rw [<- hqx8]; exact List.getElem_mem _
 have hsx8:=q1 x8 hinx8
 refine bM ?_
 refine db ?_
 have hx9:(x8.at_.elem).toNat<a0.elems.l.length:=by omega
 refine iS rfl (λ_=>kW (n:=x8.at_.elem) (r:=a0.elems) (enc:=my.af) rfl rfl rfl rfl rfl d4 hx9 rfl) ?_
 generalize hqx10:a0.elems.l[(x8.at_.elem).toNat]=x10
 refine dq ?_
 refine kZ (λh11=>?_) (λh11=>?_)
 refine aQ ?_
 refine kE (λh12=>?_) (λh12=>?_)
 refine aq ?_
 exact iZ
 refine cE ?_
 refine kI ?_
 refine ab ?_
 exact iJ
 refine b5 ?_
 refine cE ?_
 refine kI ?_
 refine ab ?_
 exact iJ
 refine ah ?_
 refine aR ?_
 have hL13:=a0.elems.lk
 refine lx a0.elems ?_
 refine aC ?_
 have hNk14:=a0.elems.lk
 refine ke a0.elems.l.length (λk14 e h=>At [1,45,46,47] [.la 1 0,ld a0.elems,ck a0.elems.l.length,ck k14] bV.empty [(1,(bY.af a0))] e h) ?_ (k0:=0) d4 atR
 rintro k14 e h hkk14 hA
 refine aE ?_
 refine kE (λh15=>?_) (λh15=>?_)
 refine cm ?_
 have hx16:k14<a0.elems.l.length:=by omega
 refine mB k14 a0.elems hx16 ?_
 generalize hqx17:a0.elems.l[k14]=x17
 refine dq ?_
 refine mg (λh18=>?_) (λh18=>?_)
 refine aQ ?_
 refine kE (λh19=>?_) (λh19=>?_)
 refine aq ?_
 exact iZ
 refine cE ?_
 refine kI ?_
 refine ab ?_
 exact iJ
 refine b5 ?_
 refine cE ?_
 refine kI ?_
 refine ab ?_
 exact iJ
 refine bE ?_
 exact i4
def P75 (_a0:bY) (v:AV):Prop:=∃ r0:Int,((r0=0->Am _a0.kB.l/\y7 _a0.signals.l/\(∀ s∈_a0.signals.l,0<=s.at_.elem/\s.at_.elem<(_a0.elems.l.length:Int)/\0<=s.at_.en)/\_a0.elems.l.length<=40/\_a0.signals.l.length<=24/\_a0.kB.l.length<=80/\Oe _a0))/\v=iv r0
def t75 (a0:bY) :Ct 75 [.agg (bY.af a0)] (P75 a0):=by
 refine kA Nh ?_
 refine bR ?_
 rintro _ H2 ⟨b1,rfl,hS3⟩
 refine ab ?_
 refine bp ?_
 refine pC 0 hS3 ?_
 refine nB 0 hS3 (ld a0.elems) ?_
 have hL4:=a0.elems.lk
 refine lx a0.elems ?_
 refine mc (λh5=>?_) (λh5=>?_)
 refine bk ?_
 refine aS ?_
 refine bP ?_
 exact jZ
 refine oV ?_
 refine pC 0 hS3 ?_
 refine nB 0 hS3 (lz a0.signals) ?_
 have hL6:=a0.signals.lk
 refine lx a0.signals ?_
 refine mc (λh7=>?_) (λh7=>?_)
 refine aS ?_
 refine bP ?_
 exact jZ
 refine ao ?_
 refine pC 0 hS3 ?_
 refine nB 0 hS3 (kD a0.lines) ?_
 have hL8:=a0.lines.lk
 refine lx a0.lines ?_
 refine mc (λh9=>?_) (λh9=>?_)
 refine bP ?_
 exact jZ
 refine ao ?_
 refine pC 0 hS3 ?_
 refine nB 0 hS3 (lv a0.kB) ?_
 have hL10:=a0.kB.lk
 refine lx a0.kB ?_
 refine mc (λh11=>?_) (λh11=>?_)
 refine aq ?_
 exact jZ
 refine ap ?_
 refine wz [(ki b1)] H2 [] ?_
 refine bp ?_
 refine nB 0 hS3 (.agg (bY.af a0)) ?_
 refine oC (t147 a0) ?_
 rintro _ ⟨r13,hc12,rfl⟩
 have hKdp:=hc12
 cases r13
 refine aq ?_
 exact xB ⟨1,d8,rfl⟩
 refine ap ?_
 refine wz [(ki b1)] H2 [] ?_
 refine bp ?_
 refine pC 0 hS3 ?_
 refine nB 0 hS3 (ld a0.elems) ?_
 have hL14:=a0.elems.lk
 refine lx a0.elems ?_
 refine iS rfl (λ_=>tn rfl rfl (tv rfl rfl)) ?_
 have hS15:=Sep.pick hS3 [0] 1 dW dW
 refine lB (H:=H2) (args:=[ck a0.elems.l.length,.ly 149 [] [(ki b1)]]) (p:=[]) (r:=[]) rfl rfl rfl rfl rfl rfl rfl (MD ((a0.elems.l.length:Int)) b1 a0 ([]) hS15 dS) ?_
 rintro _ H16 ⟨r19,hc18,hS17,rfl⟩
 cases r19
 refine oV ?_
 refine pC 0 hS17 ?_
 refine nB 0 hS17 (lz a0.signals) ?_
 have hL20:=a0.signals.lk
 refine lx a0.signals ?_
 refine iS rfl (λ_=>tn rfl rfl (tv rfl rfl)) ?_
 have hS21:=Sep.pick hS17 [0] 1 dW dW
 refine lB (H:=H16) (args:=[ck a0.signals.l.length,.ly 150 [] [(ki b1)]]) (p:=[]) (r:=[]) rfl rfl rfl rfl rfl rfl rfl (MY ((a0.signals.l.length:Int)) b1 a0 ([]) hS21 dS) ?_
 rintro _ H22 ⟨r25,hc24,hS23,rfl⟩
 cases r25
 refine ao ?_
 refine pC 0 hS23 ?_
 refine nB 0 hS23 (kD a0.lines) ?_
 have hL26:=a0.lines.lk
 refine lx a0.lines ?_
 refine iS rfl (λ_=>tn rfl rfl (tv rfl rfl)) ?_
 have hS27:=Sep.pick hS23 [0] 1 dW dW
 refine lB (H:=H22) (args:=[ck a0.lines.l.length,.ly 151 [] [(ki b1)]]) (p:=[]) (r:=[]) rfl rfl rfl rfl rfl rfl rfl (Na ((a0.lines.l.length:Int)) b1 a0 ([]) hS27 dS) ?_
 rintro _ H28 ⟨r31,hc30,hS29,rfl⟩
 cases r31
 refine ap ?_
 refine wz [(ki b1)] H28 [] ?_
 refine aa ?_
 refine nB 0 hS29 (.agg (bY.af a0)) ?_
 refine oC (t152 a0) ?_
 rintro _ (⟨r33,hc32,rfl⟩ | ⟨hc32,rfl⟩)
 have hPre:=hc32.1.1; have hC148:=hc32.1.2; have hJvp:=hc32.2
 refine dg ?_
 refine aw ?_
 refine ae ?_
 refine be ?_
 refine nB 0 hS29 (.agg (bY.af a0)) ?_
 refine oV ?_
 refine oC (t153 a0 r33 dS) ?_
 rintro _ ⟨r35,hc34,rfl⟩
 cases r35
 clear hc34
 refine bw ?_
 exact xB ⟨7,d8,rfl⟩
 have hc34t:=hc34 rfl
 have hPre:=hc34t.1; have hD149:=hc34t.2
 refine oV ?_
 refine be ?_
 refine nB 0 hS29 (.agg (bY.af a0)) ?_
 refine oV ?_
 refine oC (t154 a0 r33) ?_
 rintro _ ⟨r37,hc36,rfl⟩
 have hLnp:=hc36
 cases r37
 refine bw ?_
 exact xB ⟨8,d8,rfl⟩
 refine oV ?_
 refine be ?_
 refine nB 0 hS29 (.agg (bY.af a0)) ?_
 refine oC (t155 a0 dS) ?_
 rintro _ ⟨r39,hc38,rfl⟩
 cases r39
 refine bw ?_
 exact xB ⟨9,d8,rfl⟩
 refine cf ?_
 refine wz [] H28 [] ?_
 refine aU ?_
 exact xB ⟨0,d8,rfl⟩
 refine dg ?_
 refine cw ?_
 refine bw ?_
 exact xB ⟨6,d8,rfl⟩
 refine aq ?_
 exact xB ⟨4,d8,rfl⟩
 refine bL ?_
 refine aq ?_
 exact xB ⟨4,d8,rfl⟩
 refine b5 ?_
 refine bL ?_
 refine aq ?_
 exact xB ⟨4,d8,rfl⟩
def abC (_a0:ka Int) (v:AV):Prop:=∃ r0:Row Int,((r0.l = _a0.l/\(r0.c=.nil↔_a0.c=.nil)))/\v=kU r0
def ab7 (a0:ka Int) (q1:a0.l.length<=1000):Hx 43 [lG a0] (abC a0):=by
 refine xk JD ?_
 refine aY ?_
 refine mh (b:=a0.isNil) rfl (λ_=>oX rfl rfl rfl rfl) (λh1=>?_) (λh1=>?_)
 refine aZ ?_
 exact xG ⟨(mu:Row Int),eC,rfl⟩
 refine au ?_
 refine wy [lG a0] [] ?_
 refine ae ?_
 have hS2:=Sep.qj lJ 1
 refine kM rfl (vV (i:=0) (l:=([]:List Int)) (enc:=kX) a0.l hS2 rfl rfl rfl rfl rfl rfl rfl rfl rfl (λ_=>rfl) (.inl rfl) dZ (λ_=>rfl)) ?_
 rintro v3 H4 ⟨hS5,hNN⟩
 refine ag ?_
 obtain ⟨r6,hl7,hnn,hf8⟩:=vX (H:=H4) (i:=0) (l:=(([]:List Int)++a0.l)) (enc:=kX) hS5 rfl dV
 have hlq:=hl7; have hln10:=congrArg List.length hl7
 have hz9:∀ m,freeze false { H4 with cT:=[] } (m+2) v3=some (kU r6):=λm=>hf8 _ _ (λ_=>rfl)
 exact ⟨v3,(lQ (vs:=[v3]) rfl (j8 (Sep.arg (i:=0) hS5 rfl) kK)),kU r6,(show freeze false { H4 with cT:=[] } 8 v3=some (kU r6) by simp only [FZ,hz9]),r6,eC,rfl⟩
def V0 (_a0:ka my) (v:AV):Prop:=∃ r0:Row my,((r0.l = _a0.l/\(r0.c=.nil↔_a0.c=.nil)))/\v=ld r0
def YF (a0:ka my) (q1:a0.l.length<=1000):Hx 156 [ka.av my.af a0] (V0 a0):=by
 refine xk IA ?_
 refine aY ?_
 refine mh (b:=a0.isNil) rfl (λ_=>oX rfl rfl rfl rfl) (λh1=>?_) (λh1=>?_)
 refine aZ ?_
 exact xG ⟨(mu:Row my),eC,rfl⟩
 refine dG ?_
 have hS2:=Sep.qj lJ 3
 refine kM rfl (vV (i:=0) (l:=([]:List my)) (enc:=my.af) a0.l hS2 rfl rfl rfl rfl rfl rfl rfl rfl rfl (λ_=>rfl) (.inl rfl) dZ (λ_=>rfl)) ?_
 rintro v3 H4 ⟨hS5,hNN⟩
 refine ag ?_
 obtain ⟨r6,hl7,hnn,hf8⟩:=vX (H:=H4) (i:=0) (l:=(([]:List my)++a0.l)) (enc:=my.af) hS5 rfl dV
 have hlq:=hl7; have hln10:=congrArg List.length hl7
 have hz9:∀ m,freeze false { H4 with cT:=[] } (m+2) v3=some (ld r6):=λm=>hf8 _ _ (λ_=>rfl)
 exact ⟨v3,(lQ (vs:=[v3]) rfl (j8 (Sep.arg (i:=0) hS5 rfl) kK)),ld r6,(show freeze false { H4 with cT:=[] } 8 v3=some (ld r6) by simp only [FZ,hz9]),r6,eC,rfl⟩
def Wh (_a0:ka mr) (v:AV):Prop:=∃ r0:Row mr,((r0.l = _a0.l/\(r0.c=.nil↔_a0.c=.nil)))/\v=lv r0
def V5 (a0:ka mr) (q1:a0.l.length<=1000):Hx 157 [ka.av mr.af a0] (Wh a0):=by
 refine xk Ix ?_
 refine aY ?_
 refine mh (b:=a0.isNil) rfl (λ_=>oX rfl rfl rfl rfl) (λh1=>?_) (λh1=>?_)
 refine aZ ?_
 exact xG ⟨(mu:Row mr),eC,rfl⟩
 refine dG ?_
 have hS2:=Sep.qj lJ 4
 refine kM rfl (vV (i:=0) (l:=([]:List mr)) (enc:=mr.af) a0.l hS2 rfl rfl rfl rfl rfl rfl rfl rfl rfl (λ_=>rfl) (.inl rfl) dZ (λ_=>rfl)) ?_
 rintro v3 H4 ⟨hS5,hNN⟩
 refine ag ?_
 obtain ⟨r6,hl7,hnn,hf8⟩:=vX (H:=H4) (i:=0) (l:=(([]:List mr)++a0.l)) (enc:=mr.af) hS5 rfl dV
 have hlq:=hl7; have hln10:=congrArg List.length hl7
 have hz9:∀ m,freeze false { H4 with cT:=[] } (m+2) v3=some (lv r6):=λm=>hf8 _ _ (λ_=>rfl)
 exact ⟨v3,(lQ (vs:=[v3]) rfl (j8 (Sep.arg (i:=0) hS5 rfl) kK)),lv r6,(show freeze false { H4 with cT:=[] } 8 v3=some (lv r6) by simp only [FZ,hz9]),r6,eC,rfl⟩
def YR (_a0:ka lY) (v:AV):Prop:=∃ r0:Row lY,((r0.l = _a0.l/\(r0.c=.nil↔_a0.c=.nil)))/\v=lz r0
def Xl (a0:ka lY) (q1:a0.l.length<=1000):Hx 158 [ka.av lY.af a0] (YR a0):=by
 refine xk IT ?_
 refine aY ?_
 refine mh (b:=a0.isNil) rfl (λ_=>oX rfl rfl rfl rfl) (λh1=>?_) (λh1=>?_)
 refine aZ ?_
 exact xG ⟨(mu:Row lY),eC,rfl⟩
 refine dG ?_
 have hS2:=Sep.qj lJ 4
 refine kM rfl (vV (i:=0) (l:=([]:List lY)) (enc:=lY.af) a0.l hS2 rfl rfl rfl rfl rfl rfl rfl rfl rfl (λ_=>rfl) (.inl rfl) dZ (λ_=>rfl)) ?_
 rintro v3 H4 ⟨hS5,hNN⟩
 refine ag ?_
 obtain ⟨r6,hl7,hnn,hf8⟩:=vX (H:=H4) (i:=0) (l:=(([]:List lY)++a0.l)) (enc:=lY.af) hS5 rfl dV
 have hlq:=hl7; have hln10:=congrArg List.length hl7
 have hz9:∀ m,freeze false { H4 with cT:=[] } (m+2) v3=some (lz r6):=λm=>hf8 _ _ (λ_=>rfl)
 exact ⟨v3,(lQ (vs:=[v3]) rfl (j8 (Sep.arg (i:=0) hS5 rfl) kK)),lz r6,(show freeze false { H4 with cT:=[] } 8 v3=some (lz r6) by simp only [FZ,hz9]),r6,eC,rfl⟩
def Za {H:bV} (a0:ka lq) (F:List lF) (hS:Sep H F) (q1:a0.l.length<=1000):∃ v H',kC cfg FT oB true 159 [ka.av lq.af a0] { H with cT:=[] } v H'/\(∃ ov:AV,∃ ol:List lq,(ol=a0.l/\(ov=.sl [] .nil↔a0.c=.nil))/\Sep H' (nu lq.af 2 ov ol::F)/\v=ov):=by
 refine K6 IW ?_
 refine aY ?_
 refine mh (b:=a0.isNil) rfl (λ_=>oX rfl rfl rfl rfl) (λh1=>?_) (λh1=>?_)
 refine aZ ?_
 have hS2:=Sep.m3 hS 2
 have hS3:=Sep.pick hS2 [0] 1 dW dW
 exact ⟨iN,rfl,iN,([]:List lq),gd,Sep.cT hS3 _,rfl⟩
 refine au ?_
 refine wz [ka.av lq.af a0] H [] ?_
 refine ae ?_
 have hS4:=Sep.qj hS 2
 refine kM rfl (vV (i:=0) (l:=([]:List lq)) (enc:=lq.af) a0.l hS4 rfl rfl rfl rfl rfl rfl rfl rfl rfl (λ_=>rfl) (.inl rfl) dZ (λ_=>rfl)) ?_
 rintro v5 H6 ⟨hS7,hNN⟩
 refine ag ?_
 have hS8:=Sep.pick hS7 [0] 1 dW dW
 exact ⟨v5,(lQ (vs:=[v5]) rfl (j8 (Sep.arg (i:=0) hS7 rfl) kK)),v5,(([]:List lq)++a0.l),gd,Sep.cT hS8 _,rfl⟩
def acR (_a0:bY) (v:AV):Prop:=∃ r0:bY,((JY r0 _a0/\∀ x∈r0.lines.l,x.elems.l.length<=60))/\v=.agg (bY.af r0)
def abd (a0:bY) (q1:mU a0):Hx 76 [.agg (bY.af a0)] (acR a0):=by
 refine xk OF ?_
 have q2:=q1.elems; have q3:=q1.kB; have q4:=q1.signals; have q5:=q1.lines
 refine aV ?_
 refine bZ ?_
 refine rC (YF (Row.mi a0.elems) dS) ?_
 rintro _ ⟨r2,hc1,rfl⟩
 refine aK ?_
 refine rC (V5 (Row.mi a0.kB) dS) ?_
 rintro _ ⟨r4,hc3,rfl⟩
 refine aK ?_
 refine rC (Xl (Row.mi a0.signals) dS) ?_
 rintro _ ⟨r6,hc5,rfl⟩
 refine bG ?_
 refine ae ?_
 refine lB (H:=bV.empty) (args:=[kD a0.lines]) (p:=[]) (r:=[]) rfl rfl rfl rfl rfl rfl rfl (Za (Row.mi a0.lines) ([]) lJ dS) ?_
 rintro ov11 H8 ⟨_,ol12,hc10,hS9,rfl⟩
 have hqF:ol12.length=(Row.mi a0.lines).l.length:=by rw [hc10.1]
 try simp only [Row.mi] at hqF
 have hLn:=hc10
 refine oV ?_
 refine iS rfl (λ_=>pd rfl rfl rfl (nG rfl rfl (Sep.cell (i:=0) hS9 rfl)) (j8 (Sep.cell (i:=0) hS9 rfl) kK) rfl rfl) ?_
 refine oN ?_
 refine aR ?_
 refine iS rfl (λ_=>nO (i:=0) (l:=ol12) (enc:=lq.af) hS9 rfl rfl rfl rfl rfl rfl rfl) ?_
 refine aC ?_
 refine ke ol12.length (λk13 e h=>∃ v14:AV,∃ l15:List lq,∃ H16:bV,(l15.length=a0.lines.l.length)/\(∀ x∈l15,x.elems.l.length<=60)/\(∀ (i:Nat) (h:i<(l15).length) (h2:i<a0.lines.l.length),ui (l15)[i] a0.lines.l[i])/\((v14=.sl [] .nil↔a0.lines.c=.nil))/\Sep H16 (nu lq.af 2 v14 l15::[])/\At [1,2,22,23] [.la 1 0,.la 2 0,ck ol12.length,ck k13] H16 [(1,[ld r2,lv r4,lz r6,v14,iv a0.top,iv a0.lC,iv a0.lN,iv a0.lU,.bool a0.lZ]),(2,[iN,iN,iN,iN,iv 0,iv 0,iv 0,iv 0,kh])] e h) ?_ (k0:=0) d4 ⟨ov11,ol12,H8,(by (simp_all [Row.mi])),(by (intro x hx; exact q1.line x (by simp_all [Row.mi]))),(by (rw [hLn.1]; exact λi h h2=>⟨rfl,rfl,Iff.rfl⟩)),(by exact hLn.2),hS9,atR⟩
 rintro k13 e h hkk13 ⟨v14,l15,H16,hL,hE,hN,hV,hS17,hA⟩
 refine aE ?_
 refine kE (λh18=>?_) (λh18=>?_)
 refine ai ?_
 refine wz [.la 1 0,.la 2 0,ck ol12.length,ck k13] H16 [(1,[ld r2,lv r4,lz r6,v14,iv a0.top,iv a0.lC,iv a0.lN,iv a0.lU,.bool a0.lZ]),(2,[iN,iN,iN,iN,iv 0,iv 0,iv 0,iv 0,kh])] ?_
 refine aw ?_
 refine aV ?_
 refine qd ?_
 refine cH ?_
 have hx19:k13<l15.length:=by first | omega | (simp<;>omega) | (simp_all; omega)
 obtain ⟨x20,hqx20⟩:∃ x,l15[k13]=x:=⟨_,rfl⟩
 have hinx20:x20∈l15:=by rw [<- hqx20]; exact List.getElem_mem _
 have hsx20:=hE _ hinx20
 refine pv rfl rfl (mS (i:=0) (m:=k13) (cs:=lq.af x20) hS17 rfl rfl rfl rfl rfl rfl rfl (mq hx19 hqx20)) ?_
 rintro a21 ⟨ha22,hea23⟩
 refine kG rfl rfl (λ_=>EA.Hq hea23 rfl rfl rfl ha22) ?_
 refine kG rfl rfl (λ_=>pr (i:=0) (m:=k13) (o:=1) (r:=kU x20.elems) (cs:=lq.af x20) hS17 rfl (mq hx19 hqx20) hea23 rfl rfl rfl) ?_
 refine rC (ab7 (Row.mi x20.elems) dS) ?_
 rintro _ ⟨r25,hc24,rfl⟩
 have hRN:=hc24
 have hx26:k13<l15.length:=by first | omega | (simp<;>omega) | (simp_all; omega)
 refine pv rfl rfl (mS (i:=0) (m:=k13) (cs:=lq.af x20) hS17 rfl rfl rfl rfl rfl rfl rfl (mq hx26 hqx20)) ?_
 rintro a27 ⟨ha28,hea29⟩
 refine kG rfl rfl (λ_=>EA.Hq hea29 rfl rfl rfl ha28) ?_
 refine mP rfl rfl (oY (i:=0) (m:=k13) (o:=1) x20 (⟨x20.name,r25⟩:lq) hS17 rfl hx26 hqx20 hea29 rfl rfl rfl rfl rfl rfl) ?_
 rintro _ H30 ⟨rfl,hS31⟩
 refine rN ?_
 refine wz [.la 1 0,.la 2 0,ck ol12.length,ck k13] H30 [(1,[ld r2,lv r4,lz r6,v14,iv a0.top,iv a0.lC,iv a0.lN,iv a0.lU,.bool a0.lZ]),(2,[iN,iN,iN,iN,iv 0,iv 0,iv 0,iv 0,kh])] ?_
 refine qg ?_
 refine kI ?_
 refine ab ?_
 exact ⟨by omega,v14,((l15.set k13 (⟨x20.name,r25⟩:lq))),H30,gN,(by exact AG hE (by show List.length (Row.l _)<=60; rw [hRN.1]; assumption)),(by (refine Lq (x:=?x) hN ?h1 ?h2 ?h3; (case h2=>assumption); exact ⟨rfl,hRN⟩)),(by exact hV),hS31,atR⟩
 refine ah ?_
 refine wz [.la 1 0,.la 2 0,.la 2 0] H16 [(1,[ld r2,lv r4,lz r6,v14,iv a0.top,iv a0.lC,iv a0.lN,iv a0.lU,.bool a0.lZ]),(2,[iN,iN,iN,iN,iv 0,iv 0,iv 0,iv 0,kh]),(2,[iN,iN,iN,iN,iv 0,iv 0,iv 0,iv 0,kh])] ?_
 refine aj ?_
 refine iS rfl (λ_=>pd rfl rfl rfl rfl (j8 rfl (j8 rfl (j8 rfl (j8 (Sep.cell (i:=0) hS17 rfl) (j8 rfl (j8 rfl (j8 rfl (j8 rfl (j8 rfl kK))))))))) rfl rfl) ?_
 refine cN ?_
 obtain ⟨r32,hl33,hnn,hf34⟩:=vX (H:=H16) (i:=0) (l:=l15) (enc:=lq.af) hS17 rfl dV
 have hlq:=hl33; have hln36:=congrArg List.length hl33
 have hz35:∀ m,freeze false { H16 with cT:=[(1,[ld r2,lv r4,lz r6,v14,iv a0.top,iv a0.lC,iv a0.lN,iv a0.lU,.bool a0.lZ]),(2,[ld r2,lv r4,lz r6,v14,iv a0.top,iv a0.lC,iv a0.lN,iv a0.lU,.bool a0.lZ])] } (m+2) v14=some (kD r32):=λm=>hf34 _ _ (λ_=>by simp only [lq.af,kP,oD,oZ,pB,oz,pE])
 exact ⟨.agg [ld r2,lv r4,lz r6,v14,iv a0.top,iv a0.lC,iv a0.lN,iv a0.lU,.bool a0.lZ],(lQ (vs:=[.agg [ld r2,lv r4,lz r6,v14,iv a0.top,iv a0.lC,iv a0.lN,iv a0.lU,.bool a0.lZ]]) rfl rfl),.agg [ld r2,lv r4,lz r6,kD r32,iv a0.top,iv a0.lC,iv a0.lN,iv a0.lU,.bool a0.lZ],(show freeze false { H16 with cT:=[(1,[ld r2,lv r4,lz r6,v14,iv a0.top,iv a0.lC,iv a0.lN,iv a0.lU,.bool a0.lZ]),(2,[ld r2,lv r4,lz r6,v14,iv a0.top,iv a0.lC,iv a0.lN,iv a0.lU,.bool a0.lZ])] } 8 (.agg [ld r2,lv r4,lz r6,v14,iv a0.top,iv a0.lC,iv a0.lN,iv a0.lU,.bool a0.lZ])=some (.agg [ld r2,lv r4,lz r6,kD r32,iv a0.top,iv a0.lC,iv a0.lN,iv a0.lU,.bool a0.lZ]) by simp only [FZ,hz35]),(⟨r2,r4,r6,r32,a0.top,a0.lC,a0.lN,a0.lU,a0.lZ⟩:bY),(by refine ⟨⟨by assumption,by assumption,by assumption,hnn.trans hV,by simp_all,?_,rfl,rfl,rfl,rfl,rfl⟩,by simp_all⟩; simp_all),rfl⟩
def Sk:kJ 76=some (ue cfg FT oB 76):=by rfl
def P76 (_a0:bY) (v:AV):Prop:=∃ r0:bY,(r0.elems.l = _a0.elems.l/\r0.kB.l = _a0.kB.l/\r0.signals.l = _a0.signals.l/\r0.lines.l.length = _a0.lines.l.length/\(∀ x∈r0.lines.l,x.elems.l.length<=60)/\r0 = _a0.canon)/\v=.agg (bY.af r0)
def t76 (a0:bY) (q1:mU a0) (h:bV):∃ v,kC cfg FT kJ false 76 [.agg (bY.af a0)] h v h/\P76 a0 v:=by
 obtain ⟨v,hc,r0,⟨h1,h2⟩,rfl⟩:=abd a0 q1 h
 refine ⟨_,Ig Sk hc,a0.canon,⟨rfl,rfl,rfl,by simp [bY.canon,Row.canon,Row.yg],?_,rfl⟩,HB h1⟩
 intro x hx
 simp only [bY.canon,Row.canon,Row.yg,List.mem_map] at hx
 obtain ⟨y,hy,rfl⟩:=hx
 exact q1.line y hy
end Go.Sx
