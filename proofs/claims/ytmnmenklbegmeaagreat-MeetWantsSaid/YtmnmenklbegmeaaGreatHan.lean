/- Proves what some functions of the program answer, by walking through them. -/
import Derived.Test.YtmnmenklbegmeaaGreatHag
import Derived.Test.YtmnmenklbegmeaaGreatHak
import Derived.Test.YtmnmenklbegmeaaGreatHam
set_option linter.all false
set_option maxRecDepth 100000
set_option maxHeartbeats 0
namespace Go.Sx
open Go Go.Proofs
def P71 (_a0:bY) (v:AV):Prop:=∃ r0:Bool,((r0=true->lD _a0))/\v=.bool r0
def t71 (a0:bY) (hJg:JG a0):Ct 71 [.agg (bY.af a0)] (P71 a0):=by
 refine iY L8 ?_
 refine aN ?_
 refine aH ?_
 have hL1:=a0.elems.lk
 refine jy a0.elems ?_
 refine ki (λh2=>?_) (λh2=>?_)
 refine bl ?_
 refine aP ?_
 refine bM ?_
 exact g8
 refine aC ?_
 have hL3:=a0.iQ.lk
 refine jy a0.iQ ?_
 refine ki (λh4=>?_) (λh4=>?_)
 refine aP ?_
 refine bM ?_
 exact g8
 refine aQ ?_
 have hL5:=a0.signals.lk
 refine jy a0.signals ?_
 refine ki (λh6=>?_) (λh6=>?_)
 refine bM ?_
 exact g8
 refine aQ ?_
 have hL7:=a0.lines.lk
 refine jy a0.lines ?_
 refine ki (λh8=>?_) (λh8=>?_)
 refine ac ?_
 exact g8
 refine aq ?_
 refine aK ?_
 have hNk9:=a0.lines.lk
 refine iL a0.lines.l.length (λk9 e h=>(∀ (i:Nat) (h:i<a0.lines.l.length),i<k9->(a0.lines.l[i]).elems.l.length<=60)/\At [1,3] [.la 1 0,cb k9] aT.empty [(1,(bY.af a0))] e h) ?_ (k0:=0) du ⟨ee,atR⟩
 rintro k9 e h hkk9 ⟨hI,hA⟩
 refine aX ?_
 have hL10:=a0.lines.lk
 refine jy a0.lines ?_
 refine iX (λh11=>?_) (λh11=>?_)
 refine aY ?_
 refine ap ?_
 have hx12:k9<a0.lines.l.length:=by omega
 refine kM k9 a0.lines hx12 ?_
 generalize hqx13:a0.lines.l[k9]=x13
 refine am ?_
 have hL14:=x13.elems.lk
 refine jy x13.elems ?_
 refine ki (λh15=>?_) (λh15=>?_)
 refine oV ?_
 refine cr ?_
 refine ac ?_
 exact g8
 refine aQ ?_
 have hx16:k9<a0.lines.l.length:=by omega
 refine kM k9 a0.lines hx16 ?_
 rw [hqx13]
 refine aC ?_
 refine ki (λh18=>?_) (λh18=>?_)
 refine ac ?_
 exact g8
 refine dg ?_
 refine jd ?_
 refine ab ?_
 exact ⟨by omega,(by (intro i h h2; rcases Nat.lt_succ_iff_lt_or_eq.mp h2 with h3 | h3; exact hI i h h3; subst h3; simp_all; try omega)),atR⟩
 refine aD ?_
 refine aK ?_
 have hNk19:=a0.elems.lk
 refine iL a0.elems.l.length (λnC e h=>At [1,4] [.la 1 0,cb nC] aT.empty [(1,(bY.af a0))] e h) ?_ (k0:=0) du atR
 rintro nC e h hkk19 hA
 refine aX ?_
 have hL20:=a0.elems.lk
 refine jy a0.elems ?_
 refine iX (λh21=>?_) (λh21=>?_)
 refine aY ?_
 refine ap ?_
 have hx22:nC<a0.elems.l.length:=by omega
 refine kM nC a0.elems hx22 ?_
 generalize hqx23:a0.elems.l[nC]=x23
 refine aC ?_
 refine ki (λh24=>?_) (λh24=>?_)
 refine be ?_
 exact g8
 refine aB ?_
 refine aI ?_
 refine jd ?_
 refine ab ?_
 exact gf
 refine aD ?_
 refine aK ?_
 have hNk25:=a0.signals.lk
 refine iL a0.signals.l.length (λkQ e h=>At [1,5] [.la 1 0,cb kQ] aT.empty [(1,(bY.af a0))] e h) ?_ (k0:=0) du atR
 rintro kQ e h hkk25 hA
 refine aX ?_
 have hL26:=a0.signals.lk
 refine jy a0.signals ?_
 refine iX (λh27=>?_) (λh27=>?_)
 refine aY ?_
 refine ap ?_
 have hx28:kQ<a0.signals.l.length:=by omega
 refine kM kQ a0.signals hx28 ?_
 generalize hqx29:a0.signals.l[kQ]=x29
 refine aC ?_
 refine ki (λh30=>?_) (λh30=>?_)
 refine be ?_
 exact g8
 refine aB ?_
 refine aI ?_
 refine jd ?_
 refine ab ?_
 exact gf
 refine aD ?_
 refine aA ?_
 exact xB ⟨true,dL,rfl⟩
def aeY (_a0:bY) (v:AV):Prop:=∃ r0:Row nu,∃ r1:Row nu,∃ r2:Row nu,(True)/\v=.je [Row.av mD r0,Row.av mD r1,Row.av mD r2]
def t145 (a0:bY) (q1:lD a0):Ct 145 [.agg (bY.af a0)] (aeY a0):=by
 refine iY Ke ?_
 have q2:=q1.elems; have q3:=q1.signals; have q4:=q1.lines
 refine aa ?_
 refine bW ?_
 refine bz ?_
 refine aK ?_
 have hS1:=Sep.lX jW 1
 have hNk2:=a0.elems.lk
 refine iL a0.elems.l.length (λk2 e h=>∃ v3:AV,∃ l4:List nu,∃ H5:aT,(l4.length<=0+k2)/\Sep H5 (kW mD 1 v3 l4::[])/\At [1,5,6,7,8] [.la 1 0,v3,iJ,iJ,cb k2] H5 [(1,(bY.af a0))] e h) ?_ (k0:=0) du ⟨iJ,(([]:List nu)),aT.empty,d3,hS1,atR⟩
 rintro k2 e h hkk2 ⟨v3,l4,H5,hl7,hS6,hA⟩
 refine aX ?_
 have hL8:=a0.elems.lk
 refine jy a0.elems ?_
 refine iX (λh9=>?_) (λh9=>?_)
 refine aZ ?_
 refine wz [.la 1 0,v3,iJ,iJ,cb k2] H5 [(1,(bY.af a0))] ?_ (iO hS6 [(5,0)])
 refine aw ?_
 refine qg ?_
 refine aQ ?_
 have hx10:k2<a0.elems.l.length:=by omega
 refine kM k2 a0.elems hx10 ?_
 generalize hqx11:a0.elems.l[k2]=x11
 refine aC ?_
 refine jt rfl (kq (i:=0) [x11.name] hS6 rfl rfl rfl rfl rfl rfl rfl rfl rfl (λ_=>rfl) (.inl rfl) dy (λ_=>rfl)) ?_
 rintro v12 H13 hS14
 refine ab ?_
 refine wz [.la 1 0,v12,iJ,iJ,cb k2] H13 [(1,(bY.af a0))] ?_ (iO hS14 [(5,0)])
 refine aI ?_
 refine jd ?_
 refine ab ?_
 exact ⟨by omega,v12,((l4++[x11.name])),H13,dm,hS14,(iO hS14 [(5,0)])⟩
 refine aD ?_
 refine wz [.la 1 0,v3,iJ,iJ] H5 [(1,(bY.af a0))] ?_ (iO hS6 [(5,0)])
 refine aK ?_
 have hS15:=Sep.lX hS6 1
 have hNk16:=a0.signals.lk
 refine iL a0.signals.l.length (λoH e h=>∃ v17:AV,∃ l18:List nu,∃ H19:aT,(l18.length<=0+oH)/\Sep H19 (kW mD 1 v17 l18::kW mD 1 v3 l4::[])/\At [1,5,6,7,9] [.la 1 0,v3,v17,iJ,cb oH] H19 [(1,(bY.af a0))] e h) ?_ (k0:=0) du ⟨iJ,(([]:List nu)),H5,d3,hS15,(iO hS15 [(5,1)])⟩
 rintro oH e h hkk16 ⟨v17,l18,H19,hl21,hS20,hA⟩
 refine aX ?_
 have hL22:=a0.signals.lk
 refine jy a0.signals ?_
 refine iX (λh23=>?_) (λh23=>?_)
 refine aZ ?_
 refine wz [.la 1 0,v3,v17,iJ,cb oH] H19 [(1,(bY.af a0))] ?_ (iO hS20 [(5,1),(6,0)])
 refine aw ?_
 refine qg ?_
 refine aQ ?_
 have hx24:oH<a0.signals.l.length:=by omega
 refine kM oH a0.signals hx24 ?_
 generalize hqx25:a0.signals.l[oH]=x25
 refine aC ?_
 refine jt rfl (kq (i:=0) [x25.name] hS20 rfl rfl rfl rfl rfl rfl rfl rfl rfl (λ_=>rfl) (.inl rfl) dy (λ_=>rfl)) ?_
 rintro v26 H27 hS28
 refine ab ?_
 refine wz [.la 1 0,v3,v26,iJ,cb oH] H27 [(1,(bY.af a0))] ?_ (iO hS28 [(5,1),(6,0)])
 refine aI ?_
 refine jd ?_
 refine ab ?_
 exact ⟨by omega,v26,((l18++[x25.name])),H27,dm,hS28,(iO hS28 [(5,1),(6,0)])⟩
 refine aD ?_
 refine wz [.la 1 0,v3,v17,iJ] H19 [(1,(bY.af a0))] ?_ (iO hS20 [(5,1),(6,0)])
 refine aK ?_
 have hS29:=Sep.lX hS20 1
 have hNk30:=a0.lines.lk
 refine iL a0.lines.l.length (λmf e h=>∃ v31:AV,∃ l32:List nu,∃ H33:aT,(l32.length<=0+mf)/\Sep H33 (kW mD 1 v31 l32::kW mD 1 v17 l18::kW mD 1 v3 l4::[])/\At [1,5,6,7,10] [.la 1 0,v3,v17,v31,cb mf] H33 [(1,(bY.af a0))] e h) ?_ (k0:=0) du ⟨iJ,(([]:List nu)),H19,d3,hS29,(iO hS29 [(5,2),(6,1)])⟩
 rintro mf e h hkk30 ⟨v31,l32,H33,hl35,hS34,hA⟩
 refine aX ?_
 have hL36:=a0.lines.lk
 refine jy a0.lines ?_
 refine iX (λh37=>?_) (λh37=>?_)
 refine aZ ?_
 refine wz [.la 1 0,v3,v17,v31,cb mf] H33 [(1,(bY.af a0))] ?_ (iO hS34 [(5,2),(6,1),(7,0)])
 refine aw ?_
 refine qg ?_
 refine aQ ?_
 have hx38:mf<a0.lines.l.length:=by omega
 refine kM mf a0.lines hx38 ?_
 generalize hqx39:a0.lines.l[mf]=x39
 refine aC ?_
 refine jt rfl (kq (i:=0) [x39.name] hS34 rfl rfl rfl rfl rfl rfl rfl rfl rfl (λ_=>rfl) (.inl rfl) dy (λ_=>rfl)) ?_
 rintro v40 H41 hS42
 refine ab ?_
 refine wz [.la 1 0,v3,v17,v40,cb mf] H41 [(1,(bY.af a0))] ?_ (iO hS42 [(5,2),(6,1),(7,0)])
 refine aI ?_
 refine jd ?_
 refine ab ?_
 exact ⟨by omega,v40,((l32++[x39.name])),H41,dm,hS42,(iO hS42 [(5,2),(6,1),(7,0)])⟩
 refine aD ?_
 refine wz [v3,v17,v31] H33 [] ?_ (iO hS34 [(5,2),(6,1),(7,0)])
 refine ae ?_
 refine bB ?_
 obtain ⟨r43,hl44,hf45⟩:=lA (H:=H33) (i:=2) (l:=l4) (enc:=mD) hS34 rfl dn
 have hlq:=hl44; have hln47:=congrArg List.length hl44
 have hz46:∀ m,freeze false { H33 with iq:=[] } (m+2) v3=some (Row.av mD r43):=λm=>hf45 _ _ (λ_=>rfl)
 obtain ⟨r48,hl49,hf50⟩:=lA (H:=H33) (i:=1) (l:=l18) (enc:=mD) hS34 rfl dn
 have hlq:=hl49; have hln52:=congrArg List.length hl49
 have hz51:∀ m,freeze false { H33 with iq:=[] } (m+2) v17=some (Row.av mD r48):=λm=>hf50 _ _ (λ_=>rfl)
 obtain ⟨r53,hl54,hf55⟩:=lA (H:=H33) (i:=0) (l:=l32) (enc:=mD) hS34 rfl dn
 have hlq:=hl54; have hln57:=congrArg List.length hl54
 have hz56:∀ m,freeze false { H33 with iq:=[] } (m+2) v31=some (Row.av mD r53):=λm=>hf55 _ _ (λ_=>rfl)
 exact ⟨.je [v3,v17,v31],(kr (vs:=[v3,v17,v31]) rfl (iN (Sep.arg (i:=2) hS34 rfl) (iN (Sep.arg (i:=1) hS34 rfl) (iN (Sep.arg (i:=0) hS34 rfl) jD)))),.je [Row.av mD r43,Row.av mD r48,Row.av mD r53],(show freeze false { H33 with iq:=[] } 8 (.je [v3,v17,v31])=some (.je [Row.av mD r43,Row.av mD r48,Row.av mD r53]) by simp only [FZ,hz46,hz51,hz56]),r43,r48,r53,zt⟩
def P75 (_a0:nu) (v:AV):Prop:=∃ r0:Bool,((r0=true->xi _a0.l))/\v=.bool r0
def t75 (a0:nu) :Ct 75 [.str a0.l] (P75 a0):=by
 refine iY ND ?_
 refine ah ?_
 refine aK ?_
 have hNk1:=a0.lk
 refine iL a0.l.length (λk1 e h=>(∀ (i:Nat) (h:i<a0.l.length),i<k1->Cv i ((a0.l[i]).toNat:Int))/\At [0,3] [.str a0.l,cb k1] aT.empty [] e h) ?_ (k0:=0) du ⟨ee,atR⟩
 rintro k1 e h hkk1 ⟨hC,hA⟩
 refine aX ?_
 refine iX (λh2=>?_) (λh2=>?_)
 refine aZ ?_
 refine wy [.str a0.l,cb k1] [] ?_
 refine aw ?_
 refine ae ?_
 have hx3:k1<a0.l.length:=by omega
 refine iI rfl (λ_=>y9 (n:=k1) (s:=a0.l) rfl rfl rfl rfl hx3) ?_
 generalize hqc4:a0.l[k1]=c4
 refine ab ?_
 refine aj ?_
 refine lI (λh5=>?_) (λh5=>?_)
 refine am ?_
 refine tc (λh6=>?_) (λh6=>?_)
 refine bE ?_
 refine oS ?_
 refine bb ?_
 refine ap ?_
 iterate 10 refine oS ?_
 refine bA ?_
 refine jd ?_
 refine ab ?_
 exact g9
 refine aC ?_
 refine lI (λh7=>?_) (λh7=>?_)
 refine am ?_
 refine tc (λh8=>?_) (λh8=>?_)
 refine cN ?_
 refine bj ?_
 refine cr ?_
 refine bA ?_
 refine jd ?_
 refine ab ?_
 exact g9
 refine aS ?_
 refine aR ?_
 refine jG (λh9=>?_) (λh9=>?_)
 refine bj ?_
 refine aU ?_
 refine bf ?_
 exact hZ
 refine am ?_
 refine iX (λh10=>?_) (λh10=>?_)
 refine aU ?_
 refine bf ?_
 exact hZ
 refine aC ?_
 refine ki (λh11=>?_) (λh11=>?_)
 refine bf ?_
 exact hZ
 refine oV ?_
 refine bA ?_
 refine jd ?_
 refine ab ?_
 exact g9
 refine bj ?_
 refine aS ?_
 refine aR ?_
 refine jG (λh12=>?_) (λh12=>?_)
 refine bj ?_
 refine aU ?_
 refine bf ?_
 exact hZ
 refine am ?_
 refine iX (λh13=>?_) (λh13=>?_)
 refine aU ?_
 refine bf ?_
 exact hZ
 refine aC ?_
 refine ki (λh14=>?_) (λh14=>?_)
 refine bf ?_
 exact hZ
 refine oV ?_
 refine bA ?_
 refine jd ?_
 refine ab ?_
 exact g9
 refine bj ?_
 refine aC ?_
 refine lI (λh15=>?_) (λh15=>?_)
 refine am ?_
 refine tc (λh16=>?_) (λh16=>?_)
 refine cN ?_
 refine bj ?_
 refine cr ?_
 refine bA ?_
 refine jd ?_
 refine ab ?_
 exact g9
 refine aS ?_
 refine aR ?_
 refine jG (λh17=>?_) (λh17=>?_)
 refine bj ?_
 refine aU ?_
 refine bf ?_
 exact hZ
 refine am ?_
 refine iX (λh18=>?_) (λh18=>?_)
 refine aU ?_
 refine bf ?_
 exact hZ
 refine aC ?_
 refine ki (λh19=>?_) (λh19=>?_)
 refine bf ?_
 exact hZ
 refine oV ?_
 refine bA ?_
 refine jd ?_
 refine ab ?_
 exact g9
 refine bj ?_
 refine aS ?_
 refine aR ?_
 refine jG (λh20=>?_) (λh20=>?_)
 refine bj ?_
 refine aU ?_
 refine bf ?_
 exact hZ
 refine am ?_
 refine iX (λh21=>?_) (λh21=>?_)
 refine aU ?_
 refine bf ?_
 exact hZ
 refine aC ?_
 refine ki (λh22=>?_) (λh22=>?_)
 refine bf ?_
 exact hZ
 refine oV ?_
 refine bA ?_
 refine jd ?_
 refine ab ?_
 exact g9
 refine aD ?_
 refine wy [.str a0.l] [] ?_
 refine ae ?_
 refine lI (λh23=>?_) (λh23=>?_)
 refine aC ?_
 refine tc (λh24=>?_) (λh24=>?_)
 refine bk ?_
 exact xB ⟨true,dN,rfl⟩
 refine bk ?_
 exact hZ
 refine b5 ?_
 refine bk ?_
 exact hZ
def P90 (_a0:Int) (v:AV):Prop:=∃ r0:Int,((((_a0=1->r0=2)/\(_a0=2->r0=3)/\(_a0=3->r0=4)/\(_a0=4->r0=1)/\0<=r0/\r0<=4)/\(¬ (1<=_a0/\_a0<=4)->r0=0)))/\v=iv r0
def t90 (a0:Int) :Ct 90 [iv a0] (P90 a0):=by
 refine iY Ou ?_
 refine bo ?_
 refine cz ?_
 refine jG (λh1=>?_) (λh1=>?_)
 refine ac ?_
 exact xB ⟨2,eS,rfl⟩
 refine ba ?_
 refine jG (λh2=>?_) (λh2=>?_)
 refine ac ?_
 exact xB ⟨3,eS,rfl⟩
 refine ba ?_
 refine jG (λh3=>?_) (λh3=>?_)
 refine ac ?_
 exact xB ⟨4,eS,rfl⟩
 refine ba ?_
 refine jG (λh4=>?_) (λh4=>?_)
 refine ac ?_
 exact xB ⟨1,eS,rfl⟩
 refine aq ?_
 refine aA ?_
 exact xB ⟨0,eS,rfl⟩
def adF (_a0:Int) (_a1:Int) (_a2:Int) (v:AV):Prop:=∃ r0:Bool,(True)/\v=.bool r0
def t242 (a0:Int) (a1:Int) (a2:Int) :Ct 242 [iv a0,iv a1,iv a2] (adF a0 a1 a2):=by
 refine iY Jw ?_
 refine cP ?_
 refine lI (λh1=>?_) (λh1=>?_)
 refine aC ?_
 refine tc (λh2=>?_) (λh2=>?_)
 refine bk ?_
 exact gh
 refine bk ?_
 exact ge
 refine b5 ?_
 refine bk ?_
 exact ge
def afr (_a0:bY) (v:AV):Prop:=∃ r0:Bool,(True)/\v=.bool r0
def t146 (a0:bY) :Ct 146 [.agg (bY.af a0)] (afr a0):=by
 refine iY Js ?_
 refine aN ?_
 refine aH ?_
 refine oC (t242 a0.top 1 60) ?_
 rintro _ ⟨r2,hc1,rfl⟩
 cases r2
 refine aP ?_
 refine aP ?_
 refine aP ?_
 refine bM ?_
 exact ge
 refine aQ ?_
 refine oC (t242 a0.jT 1 10) ?_
 rintro _ ⟨r4,hc3,rfl⟩
 cases r4
 refine oV ?_
 refine aP ?_
 refine aP ?_
 refine bM ?_
 exact ge
 refine bU ?_
 refine oC (t242 a0.jS 1 4000) ?_
 rintro _ ⟨r6,hc5,rfl⟩
 cases r6
 refine oV ?_
 refine aP ?_
 refine bM ?_
 exact ge
 refine bU ?_
 refine oC (t242 a0.j4 1 20) ?_
 rintro _ ⟨r8,hc7,rfl⟩
 cases r8
 refine oV ?_
 refine bM ?_
 exact ge
 refine bU ?_
 have hL9:=a0.elems.lk
 refine jy a0.elems ?_
 refine jG (λh10=>?_) (λh10=>?_)
 refine ac ?_
 exact ge
 refine aq ?_
 refine aK ?_
 have hNk11:=a0.elems.lk
 refine iL a0.elems.l.length (λja e h=>At [1,3] [.la 1 0,cb ja] aT.empty [(1,(bY.af a0))] e h) ?_ (k0:=0) du atR
 rintro ja e h hkk11 hA
 refine aX ?_
 have hL12:=a0.elems.lk
 refine jy a0.elems ?_
 refine iX (λh13=>?_) (λh13=>?_)
 refine aY ?_
 refine ap ?_
 have hx14:ja<a0.elems.l.length:=by omega
 refine kM ja a0.elems hx14 ?_
 generalize hqx15:a0.elems.l[ja]=x15
 refine cN ?_
 refine oC (t75 x15.name) ?_
 rintro _ ⟨r17,hc16,rfl⟩
 cases r17
 clear hc16
 refine aP ?_
 refine am ?_
 refine cr ?_
 refine bI ?_
 refine ac ?_
 exact ge
 have hc16t:=hc16 rfl
 have hNm:=hc16t
 refine aQ ?_
 refine oC (t90 x15.kind) ?_
 rintro _ ⟨r19,hc18,rfl⟩
 refine jG (λh20=>?_) (λh20=>?_)
 refine am ?_
 refine cr ?_
 refine bI ?_
 refine ac ?_
 exact ge
 refine aQ ?_
 refine jG (λh21=>?_) (λh21=>?_)
 refine aC ?_
 refine lg (λh22=>?_) (λh22=>?_)
 refine oV ?_
 refine bI ?_
 refine ac ?_
 exact ge
 refine bU ?_
 refine lg (λh23=>?_) (λh23=>?_)
 refine aC ?_
 refine oC (t242 x15.len 1 4000) ?_
 rintro _ ⟨r25,hc24,rfl⟩
 cases r25
 refine oV ?_
 refine bf ?_
 exact ge
 refine am ?_
 refine dg ?_
 refine jd ?_
 refine ab ?_
 exact gf
 refine bl ?_
 refine oV ?_
 refine dg ?_
 refine jd ?_
 refine ab ?_
 exact gf
 refine b5 ?_
 refine bU ?_
 refine lg (λh26=>?_) (λh26=>?_)
 refine aC ?_
 refine oC (t242 x15.len 1 4000) ?_
 rintro _ ⟨r28,hc27,rfl⟩
 cases r28
 refine oV ?_
 refine bf ?_
 exact ge
 refine am ?_
 refine dg ?_
 refine jd ?_
 refine ab ?_
 exact gf
 refine bl ?_
 refine oV ?_
 refine dg ?_
 refine jd ?_
 refine ab ?_
 exact gf
 refine aD ?_
 refine aK ?_
 have hNk29:=a0.signals.lk
 refine iL a0.signals.l.length (λqa e h=>At [1,5] [.la 1 0,cb qa] aT.empty [(1,(bY.af a0))] e h) ?_ (k0:=0) du atR
 rintro qa e h hkk29 hA
 refine aX ?_
 have hL30:=a0.signals.lk
 refine jy a0.signals ?_
 refine iX (λh31=>?_) (λh31=>?_)
 refine aY ?_
 refine ap ?_
 have hx32:qa<a0.signals.l.length:=by omega
 refine kM qa a0.signals hx32 ?_
 generalize hqx33:a0.signals.l[qa]=x33
 refine am ?_
 refine oC (t75 x33.name) ?_
 rintro _ ⟨r35,hc34,rfl⟩
 cases r35
 clear hc34
 refine ac ?_
 exact ge
 have hc34t:=hc34 rfl
 have hNm:=hc34t
 refine dg ?_
 refine jd ?_
 refine ab ?_
 exact gf
 refine aD ?_
 refine aK ?_
 have hNk36:=a0.lines.lk
 refine iL a0.lines.l.length (λBD e h=>At [1,6] [.la 1 0,cb BD] aT.empty [(1,(bY.af a0))] e h) ?_ (k0:=0) du atR
 rintro BD e h hkk36 hA
 refine aX ?_
 have hL37:=a0.lines.lk
 refine jy a0.lines ?_
 refine iX (λh38=>?_) (λh38=>?_)
 refine aY ?_
 refine ap ?_
 have hx39:BD<a0.lines.l.length:=by omega
 refine kM BD a0.lines hx39 ?_
 generalize hqx40:a0.lines.l[BD]=x40
 refine am ?_
 refine oC (t75 x40.name) ?_
 rintro _ ⟨r42,hc41,rfl⟩
 cases r42
 clear hc41
 refine ac ?_
 exact ge
 have hc41t:=hc41 rfl
 have hNm:=hc41t
 refine dg ?_
 refine jd ?_
 refine ab ?_
 exact gf
 refine aD ?_
 refine aA ?_
 exact gh
def aeR (_a0:Row nu) (v:AV):Prop:=∃ r0:Bool,(True)/\v=.bool r0
def t147 (a0:Row nu) :Ct 147 [Row.av mD a0] (aeR a0):=by
 refine iY I0 ?_
 refine ah ?_
 refine aK ?_
 have hNk1:=a0.lk
 refine iL a0.l.length (λk1 e h=>At [0,3] [Row.av mD a0,cb k1] aT.empty [] e h) ?_ (k0:=0) du atR
 rintro k1 e h hkk1 hA
 refine cE ?_
 have hL2:=a0.lk
 refine jy a0 ?_
 refine iX (λh3=>?_) (λh3=>?_)
 refine aZ ?_
 refine bc ?_
 refine aG ?_
 refine iL k1 (λk4 e h=>At [0,3,4] [Row.av mD a0,cb k1,cb k4] aT.empty [] e h) ?_ (k0:=0) du atR
 rintro k4 e h hkk4 hA
 refine cE ?_
 refine iX (λh5=>?_) (λh5=>?_)
 refine aY ?_
 refine bG ?_
 have hx6:k1<a0.l.length:=by omega
 refine pM k1 a0 hx6 ?_
 generalize hqx7:a0.l[k1]=x7
 refine bw ?_
 have hx8:k4<a0.l.length:=by omega
 refine pM k4 a0 hx8 ?_
 generalize hqx9:a0.l[k4]=x9
 refine rV ?_
 refine mC rfl rfl (λ_=>zo rfl rfl) (λh10=>?_) (λh10=>?_)
 refine bL ?_
 refine aA ?_
 exact gh
 refine bO ?_
 refine aI ?_
 refine jd ?_
 refine ab ?_
 exact gf
 refine aD ?_
 refine aI ?_
 refine jd ?_
 refine ab ?_
 exact gf
 refine aD ?_
 refine aA ?_
 exact ge
def P93 (_a0:bY) (_a1:Int) (v:AV):Prop:=∃ r0:Int,(r0=kn _a0 _a1)/\v=iv r0
def t93 (a0:bY) (a1:Int) :Ct 93 [.agg (bY.af a0),iv a1] (P93 a0 a1):=by
 refine iY Ma ?_
 refine aN ?_
 refine ao ?_
 refine iX (λh1=>?_) (λh1=>?_)
 refine a8 ?_
 refine ac ?_
 exact xB ⟨0,e9,rfl⟩
 refine aQ ?_
 have hL2:=a0.elems.lk
 refine jy a0.elems ?_
 refine lI (λh3=>?_) (λh3=>?_)
 refine ac ?_
 exact xB ⟨0,e9,rfl⟩
 refine aq ?_
 refine ap ?_
 have hx4:(a1).toNat<a0.elems.l.length:=by omega
 refine iI rfl (λ_=>jo (n:=a1) (r:=a0.elems) (enc:=jZ.af) rfl rfl rfl rfl rfl du hx4 rfl) ?_
 generalize hqx5:a0.elems.l[(a1).toNat]=x5
 refine bN ?_
 exact xB ⟨x5.kind,e9,rfl⟩
def P98 (_a0:bY) (_a1:iz) (v:AV):Prop:=∃ r0:iz,∃ r1:Bool,(((r1=true->lj _a0.iQ.l _a1=some r0)/\(r1=false->lj _a0.iQ.l _a1=none)))/\v=.je [.agg (iz.af r0),.bool r1]
def t98 (a0:bY) (a1:iz) :Ct 98 [.agg (bY.af a0),.agg (iz.af a1)] (P98 a0 a1):=by
 refine iY M5 ?_
 refine aa ?_
 refine bW ?_
 refine aK ?_
 have hNk1:=a0.iQ.lk
 refine iL a0.iQ.l.length (λk1 e h=>(lj (a0.iQ.l.drop k1) a1=lj a0.iQ.l a1)/\At [2,3,4,6] [.la 2 0,.la 3 0,.la 4 0,cb k1] aT.empty [(2,(bY.af a0)),(3,(iz.af a1)),(4,[iv 0,iv 0])] e h) ?_ (k0:=0) du ⟨fW,atR⟩
 rintro k1 e h hkk1 ⟨hI,hA⟩
 refine aX ?_
 have hL2:=a0.iQ.lk
 refine jy a0.iQ ?_
 refine iX (λh3=>?_) (λh3=>?_)
 refine aY ?_
 refine qs ?_
 refine ck ?_
 have hx4:k1<a0.iQ.l.length:=by omega
 refine pM k1 a0.iQ hx4 ?_
 generalize hqx5:a0.iQ.l[k1]=x5
 refine bw ?_
 refine mC rfl rfl (λ_=>rG rfl rfl rfl (λ_ _=>rfl)) (λh6=>?_) (λh6=>?_)
 refine bL ?_
 refine ap ?_
 have hx7:k1<a0.iQ.l.length:=by omega
 refine kM k1 a0.iQ hx7 ?_
 rw [hqx5]
 refine bB ?_
 exact xG ⟨x5.b,true,ey,rfl⟩
 refine bO ?_
 refine ck ?_
 have hx9:k1<a0.iQ.l.length:=by omega
 refine pM k1 a0.iQ hx9 ?_
 rw [hqx5]
 refine bw ?_
 refine mC rfl rfl (λ_=>rG rfl rfl rfl (λ_ _=>rfl)) (λh11=>?_) (λh11=>?_)
 refine bL ?_
 refine ap ?_
 have hx12:k1<a0.iQ.l.length:=by omega
 refine kM k1 a0.iQ hx12 ?_
 rw [hqx5]
 refine bB ?_
 exact xG ⟨x5.a,true,ey,rfl⟩
 refine bO ?_
 refine aI ?_
 refine jd ?_
 refine ab ?_
 exact ⟨by omega,(by (exact (KX dl dl dl dl).trans hI)),atR⟩
 refine aD ?_
 refine a6 ?_
 exact xG ⟨(⟨0,0⟩:iz),false,ey,rfl⟩
def aez (_a0:bY) (_a1:iz) (v:AV):Prop:=∃ r0:Bool,((r0=true->0<=_a1.elem/\_a1.elem<(_a0.elems.l.length:Int)/\0<=_a1.en/\_a1.en<4))/\v=.bool r0
def t243 (a0:bY) (a1:iz) :Ct 243 [.agg (bY.af a0),.agg (iz.af a1)] (aez a0 a1):=by
 refine iY JZ ?_
 refine bz ?_
 refine bG ?_
 refine xJ (λh1=>?_) (λh1=>?_)
 refine br ?_
 have hL2:=a0.elems.lk
 refine K0 a0.elems ?_
 refine rr (λh3=>?_) (λh3=>?_)
 refine cu ?_
 refine xJ (λh4=>?_) (λh4=>?_)
 iterate 8 refine rV ?_
 have hx5:(a1.elem).toNat<a0.elems.l.length:=by omega
 refine iU rfl rfl (λ_=>jo (n:=a1.elem) (r:=a0.elems) (enc:=jZ.af) rfl rfl rfl rfl rfl du hx5 rfl) ?_
 generalize hqx6:a0.elems.l[(a1.elem).toNat]=x6
 refine aJ ?_
 refine rC (t90 x6.kind) ?_
 rintro _ ⟨r8,hc7,rfl⟩
 refine rr (λh9=>?_) (λh9=>?_)
 refine rV ?_
 refine bP ?_
 exact gv
 refine rV ?_
 refine bP ?_
 exact gw
 refine bp ?_
 exact gw
 refine cy ?_
 refine bp ?_
 exact gw
 refine c8 ?_
 refine cy ?_
 refine bp ?_
 exact gw
def ag4 (_a0:bY) (v:AV):Prop:=∃ r0:Bool,(True)/\v=.bool r0
def t148 (a0:bY) (q1:lD a0):Ct 148 [.agg (bY.af a0)] (ag4 a0):=by
 refine iY I8 ?_
 have q2:=q1.elems; have q3:=q1.iQ
 refine aN ?_
 refine ah ?_
 refine aK ?_
 have hS1:=Sep.lX jW 2
 have hNk2:=a0.iQ.lk
 refine iL a0.iQ.l.length (λk2 e h=>∃ v3:AV,∃ l4:List iz,∃ H5:aT,(l4.length<=0+2*k2)/\Sep H5 (kW iz.af 2 v3 l4::[])/\At [1,3,4] [.la 1 0,v3,cb k2] H5 [(1,(bY.af a0))] e h) ?_ (k0:=0) du ⟨iJ,(([]:List iz)),aT.empty,d3,hS1,atR⟩
 rintro k2 e h hkk2 ⟨v3,l4,H5,hl7,hS6,hA⟩
 refine aX ?_
 have hL8:=a0.iQ.lk
 refine jy a0.iQ ?_
 refine iX (λh9=>?_) (λh9=>?_)
 refine aZ ?_
 refine wz [.la 1 0,v3,cb k2] H5 [(1,(bY.af a0))] ?_ (iO hS6 [(3,0)])
 refine aw ?_
 refine qd ?_
 refine cu ?_
 have hx10:k2<a0.iQ.l.length:=by omega
 refine pM k2 a0.iQ hx10 ?_
 generalize hqx11:a0.iQ.l[k2]=x11
 refine br ?_
 have hx12:k2<a0.iQ.l.length:=by omega
 refine pM k2 a0.iQ hx12 ?_
 rw [hqx11]
 refine bw ?_
 refine lR rfl rfl (kq (i:=0) [x11.a,x11.b] hS6 rfl rfl rfl rfl rfl rfl rfl rfl rfl (λ_=>rfl) (.inl rfl) dy (λ_=>rfl)) ?_
 rintro v14 H15 hS16
 refine aM ?_
 refine wz [.la 1 0,v14,cb k2] H15 [(1,(bY.af a0))] ?_ (iO hS16 [(3,0)])
 refine aI ?_
 refine jd ?_
 refine ab ?_
 exact ⟨by omega,v14,((l4++[x11.a,x11.b])),H15,dm,hS16,(iO hS16 [(3,0)])⟩
 refine aD ?_
 refine wz [.la 1 0,v3] H5 [(1,(bY.af a0))] ?_ (iO hS6 [(3,0)])
 refine aK ?_
 refine iL l4.length (λnc e h=>At [1,3,5] [.la 1 0,v3,cb nc] H5 [(1,(bY.af a0))] e h) ?_ (k0:=0) du (iO hS6 [(3,0)])
 rintro nc e h hkk17 hA
 refine cE ?_
 refine iI rfl (λ_=>mZ (i:=0) hS6 rfl rfl rfl rfl rfl rfl rfl) ?_
 refine iX (λh18=>?_) (λh18=>?_)
 refine aZ ?_
 refine wz [.la 1 0,v3,cb nc] H5 [(1,(bY.af a0))] ?_ (iO hS6 [(3,0)])
 refine aw ?_
 refine qs ?_
 refine ck ?_
 have hx19:nc<l4.length:=by first | omega | (simp<;>omega) | (simp_all; omega)
 obtain ⟨x20,hqx20⟩:∃ x,l4[nc]=x:=⟨_,rfl⟩
 refine mj rfl rfl (lS (i:=0) (m:=nc) (cs:=iz.af x20) hS6 rfl rfl rfl rfl rfl rfl rfl (jU hx19 hqx20)) ?_
 rintro a21 ⟨ha22,hea23⟩
 refine iU rfl rfl (λ_=>lZ (i:=0) (m:=nc) (o:=0) (r:=.agg (iz.af x20)) (cs:=iz.af x20) hS6 rfl (jU hx19 hqx20) hea23 rfl rfl ha22) ?_
 refine rC (t243 a0 x20) ?_
 rintro _ ⟨r25,hc24,rfl⟩
 cases r25
 clear hc24
 refine bm ?_
 refine aA ?_
 exact ge
 have hc24t:=hc24 rfl
 refine bh ?_
 refine wz [.la 1 0,v3,cb nc] H5 [(1,(bY.af a0))] ?_ (iO hS6 [(3,0)])
 refine aa ?_
 refine aG ?_
 refine iL nc (λkL e h=>At [1,3,5,6] [.la 1 0,v3,cb nc,cb kL] H5 [(1,(bY.af a0))] e h) ?_ (k0:=0) du (iO hS6 [(3,0)])
 rintro kL e h hkk26 hA
 refine cE ?_
 refine iX (λh27=>?_) (λh27=>?_)
 refine aZ ?_
 refine wz [.la 1 0,v3,cb nc,cb kL] H5 [(1,(bY.af a0))] ?_ (iO hS6 [(3,0)])
 refine aw ?_
 refine bG ?_
 have hx28:kL<l4.length:=by first | omega | (simp<;>omega) | (simp_all; omega)
 obtain ⟨x29,hqx29⟩:∃ x,l4[kL]=x:=⟨_,rfl⟩
 refine mj rfl rfl (lS (i:=0) (m:=kL) (cs:=iz.af x29) hS6 rfl rfl rfl rfl rfl rfl rfl (jU hx28 hqx29)) ?_
 rintro a30 ⟨ha31,hea32⟩
 refine iU rfl rfl (λ_=>lZ (i:=0) (m:=kL) (o:=0) (r:=.agg (iz.af x29)) (cs:=iz.af x29) hS6 rfl (jU hx28 hqx29) hea32 rfl rfl ha31) ?_
 refine aJ ?_
 have hx33:nc<l4.length:=by first | omega | (simp<;>omega) | (simp_all; omega)
 refine mj rfl rfl (lS (i:=0) (m:=nc) (cs:=iz.af x20) hS6 rfl rfl rfl rfl rfl rfl rfl (jU hx33 hqx20)) ?_
 rintro a34 ⟨ha35,hea36⟩
 refine iU rfl rfl (λ_=>lZ (i:=0) (m:=nc) (o:=0) (r:=.agg (iz.af x20)) (cs:=iz.af x20) hS6 rfl (jU hx33 hqx20) hea36 rfl rfl ha35) ?_
 refine mC rfl rfl (λ_=>rG rfl rfl rfl (λ_ _=>rfl)) (λh37=>?_) (λh37=>?_)
 refine bL ?_
 refine aA ?_
 exact ge
 refine bO ?_
 refine wz [.la 1 0,v3,cb nc,cb kL] H5 [(1,(bY.af a0))] ?_ (iO hS6 [(3,0)])
 refine aI ?_
 refine jd ?_
 refine ab ?_
 exact ⟨by omega,(iO hS6 [(3,0)])⟩
 refine aD ?_
 refine wz [.la 1 0,v3,cb nc] H5 [(1,(bY.af a0))] ?_ (iO hS6 [(3,0)])
 refine aI ?_
 refine jd ?_
 refine ab ?_
 exact ⟨by omega,(iO hS6 [(3,0)])⟩
 refine aD ?_
 refine aK ?_
 have hNk38:=a0.elems.lk
 refine iL a0.elems.l.length (λsd e h=>At [1,7] [.la 1 0,cb sd] H5 [(1,(bY.af a0))] e h) ?_ (k0:=0) du atR
 rintro sd e h hkk38 hA
 refine aX ?_
 have hL39:=a0.elems.lk
 refine jy a0.elems ?_
 refine iX (λh40=>?_) (λh40=>?_)
 refine aY ?_
 refine ap ?_
 have hx41:sd<a0.elems.l.length:=by omega
 refine kM sd a0.elems hx41 ?_
 generalize hqx42:a0.elems.l[sd]=x42
 refine am ?_
 refine jG (λh43=>?_) (λh43=>?_)
 refine au ?_
 refine ap ?_
 refine oC (t98 a0 (⟨((sd:Int)),0⟩:iz)) ?_
 rintro _ ⟨r45,r46,hc44,rfl⟩
 have hN:=hc44
 cases r46
 refine az ?_
 refine aj ?_
 refine bE ?_
 refine ac ?_
 exact ge
 refine az ?_
 refine cm ?_
 refine oC (t93 a0 r45.elem) ?_
 rintro _ ⟨r48,hc47,rfl⟩
 refine jG (λh49=>?_) (λh49=>?_)
 refine ac ?_
 exact ge
 refine dg ?_
 refine jd ?_
 refine ab ?_
 exact gf
 refine aB ?_
 refine aI ?_
 refine jd ?_
 refine ab ?_
 exact gf
 refine aD ?_
 refine aA ?_
 exact gh
def P91 (_a0:bY) (_a1:iz) (v:AV):Prop:=∃ r0:Int,(r0=(nK _a0.signals.l _a1).getD (-1))/\v=iv r0
def t91 (a0:bY) (a1:iz) :Ct 91 [.agg (bY.af a0),.agg (iz.af a1)] (P91 a0 a1):=by
 refine iY Mg ?_
 refine bz ?_
 refine aK ?_
 have hNk1:=a0.signals.lk
 refine iL a0.signals.l.length (λk1 e h=>(me a1 k1 (a0.signals.l.drop k1)=nK a0.signals.l a1)/\At [2,3,5] [.la 2 0,.la 3 0,cb k1] aT.empty [(2,(bY.af a0)),(3,(iz.af a1))] e h) ?_ (k0:=0) du ⟨fW,atR⟩
 rintro k1 e h hkk1 ⟨hI,hA⟩
 refine aX ?_
 have hL2:=a0.signals.lk
 refine jy a0.signals ?_
 refine iX (λh3=>?_) (λh3=>?_)
 refine aY ?_
 refine ck ?_
 have hx4:k1<a0.signals.l.length:=by omega
 refine pM k1 a0.signals hx4 ?_
 generalize hqx5:a0.signals.l[k1]=x5
 refine bw ?_
 refine mC rfl rfl (λ_=>rG rfl rfl rfl (λ_ _=>rfl)) (λh6=>?_) (λh6=>?_)
 refine bL ?_
 refine aO ?_
 exact xB ⟨((k1:Int)),fA,rfl⟩
 refine bO ?_
 refine aI ?_
 refine jd ?_
 refine ab ?_
 exact ⟨by omega,(by (exact (Cw dl dl dl).trans hI)),atR⟩
 refine aD ?_
 refine aA ?_
 exact xB ⟨(-1),fA,rfl⟩
def aft (_a0:bY) (v:AV):Prop:=∃ r0:Bool,(True)/\v=.bool r0
def t149 (a0:bY) :Ct 149 [.agg (bY.af a0)] (aft a0):=by
 refine iY IP ?_
 refine aN ?_
 refine aK ?_
 have hNk1:=a0.signals.lk
 refine iL a0.signals.l.length (λk1 e h=>At [1,3] [.la 1 0,cb k1] aT.empty [(1,(bY.af a0))] e h) ?_ (k0:=0) du atR
 rintro k1 e h hkk1 hA
 refine aX ?_
 have hL2:=a0.signals.lk
 refine jy a0.signals ?_
 refine iX (λh3=>?_) (λh3=>?_)
 refine aY ?_
 refine ap ?_
 have hx4:k1<a0.signals.l.length:=by omega
 refine kM k1 a0.signals hx4 ?_
 generalize hqx5:a0.signals.l[k1]=x5
 refine bW ?_
 refine ap ?_
 refine oC (t93 a0 x5.at_.elem) ?_
 rintro _ ⟨r7,hc6,rfl⟩
 refine ab ?_
 refine aH ?_
 refine oC (t243 a0 x5.at_) ?_
 rintro _ ⟨r9,hc8,rfl⟩
 cases r9
 clear hc8
 refine bE ?_
 refine oS ?_
 refine ac ?_
 exact ge
 have hc8t:=hc8 rfl
 refine aC ?_
 refine lg (λh10=>?_) (λh10=>?_)
 refine am ?_
 refine lg (λh11=>?_) (λh11=>?_)
 refine bf ?_
 exact ge
 refine bV ?_
 refine ae ?_
 refine oC (t98 a0 x5.at_) ?_
 rintro _ ⟨r13,r14,hc12,rfl⟩
 have hN:=hc12
 cases r14
 refine az ?_
 refine aj ?_
 refine bE ?_
 refine bE ?_
 refine ac ?_
 exact ge
 refine az ?_
 refine cm ?_
 refine oC (t93 a0 r13.elem) ?_
 rintro _ ⟨r16,hc15,rfl⟩
 refine jG (λh17=>?_) (λh17=>?_)
 refine bE ?_
 refine ac ?_
 exact ge
 refine aQ ?_
 refine oC (t91 a0 x5.at_) ?_
 rintro _ ⟨r19,hc18,rfl⟩
 have hR:=hc18
 refine oV ?_
 refine lg (λh20=>?_) (λh20=>?_)
 refine ac ?_
 exact ge
 refine dg ?_
 refine jd ?_
 refine ab ?_
 exact gf
 refine bj ?_
 refine bV ?_
 refine ae ?_
 refine oC (t98 a0 x5.at_) ?_
 rintro _ ⟨r22,r23,hc21,rfl⟩
 have hN:=hc21
 cases r23
 refine az ?_
 refine aj ?_
 refine bE ?_
 refine bE ?_
 refine ac ?_
 exact ge
 refine az ?_
 refine cm ?_
 refine oC (t93 a0 r22.elem) ?_
 rintro _ ⟨r25,hc24,rfl⟩
 refine jG (λh26=>?_) (λh26=>?_)
 refine bE ?_
 refine ac ?_
 exact ge
 refine aQ ?_
 refine oC (t91 a0 x5.at_) ?_
 rintro _ ⟨r28,hc27,rfl⟩
 have hR:=hc27
 refine oV ?_
 refine lg (λh29=>?_) (λh29=>?_)
 refine ac ?_
 exact ge
 refine dg ?_
 refine jd ?_
 refine ab ?_
 exact gf
 refine aD ?_
 refine aK ?_
 have hNk30:=a0.elems.lk
 refine iL a0.elems.l.length (λmf e h=>At [1,8] [.la 1 0,cb mf] aT.empty [(1,(bY.af a0))] e h) ?_ (k0:=0) du atR
 rintro mf e h hkk30 hA
 refine aX ?_
 have hL31:=a0.elems.lk
 refine jy a0.elems ?_
 refine iX (λh32=>?_) (λh32=>?_)
 refine aY ?_
 refine ap ?_
 have hx33:mf<a0.elems.l.length:=by omega
 refine kM mf a0.elems hx33 ?_
 generalize hqx34:a0.elems.l[mf]=x34
 refine am ?_
 refine jG (λh35=>?_) (λh35=>?_)
 refine aQ ?_
 refine oC (t91 a0 (⟨((mf:Int)),0⟩:iz)) ?_
 rintro _ ⟨r37,hc36,rfl⟩
 have hR:=hc36
 refine iX (λh38=>?_) (λh38=>?_)
 refine ac ?_
 exact ge
 refine dg ?_
 refine jd ?_
 refine ab ?_
 exact gf
 refine a8 ?_
 refine dg ?_
 refine jd ?_
 refine ab ?_
 exact gf
 refine aD ?_
 refine aA ?_
 exact gh
def Rr (_a0:jn Int) (_a1:Int) (v:AV):Prop:=∃ r0:Bool,(((r0=true->_a1∈_a0.l)/\(r0=false->_a1∉_a0.l)))/\v=.bool r0
def t43 (a0:jn Int) (a1:Int) :Ct 43 [py a0,iv a1] (Rr a0 a1):=by
 refine iY Oy ?_
 refine ah ?_
 refine aK ?_
 have hNk1:=a0.lk
 refine iL a0.l.length (λk1 e h=>(∀ (i:Nat) (h:i<a0.l.length),i<k1->¬ a0.l[i]=a1)/\At [0,1,5] [py a0,iv a1,cb k1] aT.empty [] e h) ?_ (k0:=0) du ⟨ee,atR⟩
 rintro k1 e h hkk1 ⟨hU,hA⟩
 refine cE ?_
 have hL2:=a0.lk
 refine iI rfl (λ_=>qE (r:=a0) (enc:=jL) rfl rfl rfl rfl rfl rfl) ?_
 refine iX (λh3=>?_) (λh3=>?_)
 refine aZ ?_
 refine wy [py a0,iv a1,cb k1] [] ?_
 refine aw ?_
 refine ae ?_
 have hx4:k1<a0.l.length:=by omega
 refine iI rfl (λ_=>qV (n:=k1) (r:=a0) (enc:=jL) rfl rfl rfl rfl rfl hx4 rfl) ?_
 generalize hqx5:a0.l[k1]=x5
 refine am ?_
 refine jG (λh6=>?_) (λh6=>?_)
 refine be ?_
 exact xB ⟨true,fg,rfl⟩
 refine aB ?_
 refine wy [py a0,iv a1,cb k1] [] ?_
 refine aI ?_
 refine jd ?_
 refine ab ?_
 exact ⟨by omega,fU,atR⟩
 refine aD ?_
 refine cJ ?_
 exact xB ⟨false,fg,rfl⟩
def afk (_a0:bY) (_a1:Row Int) (v:AV):Prop:=∃ r0:Row Int,∃ r1:Bool,(True)/\v=.je [j3 r0,.bool r1]
def t244 (a0:bY) (a1:Row Int) (q1:a1.l.length<=1000):Ct 244 [.agg (bY.af a0),j3 a1] (afk a0 a1):=by
 refine iY JH ?_
 refine bz ?_
 refine ao ?_
 have hL1:=a1.lk
 refine jy a1 ?_
 refine jG (λh2=>?_) (λh2=>?_)
 refine ci ?_
 exact gx
 refine aB ?_
 refine aK ?_
 have hNk3:=a1.lk
 refine iL a1.l.length (λk3 e h=>At [1,2,6] [j3 a1,.la 2 0,cb k3] aT.empty [(2,(bY.af a0))] e h) ?_ (k0:=0) du atR
 rintro k3 e h hkk3 hA
 refine cE ?_
 have hL4:=a1.lk
 refine jy a1 ?_
 refine iX (λh5=>?_) (λh5=>?_)
 refine aY ?_
 refine ck ?_
 have hx6:k3<a1.l.length:=by omega
 refine pM k3 a1 hx6 ?_
 generalize hqx7:a1.l[k3]=x7
 refine rV ?_
 refine rC (t93 a0 x7) ?_
 rintro _ ⟨r9,hc8,rfl⟩
 refine Aw (λh10=>?_) (λh10=>?_)
 refine bL ?_
 refine aO ?_
 exact gx
 refine bO ?_
 refine aI ?_
 refine jd ?_
 refine ab ?_
 exact gf
 refine aD ?_
 refine ao ?_
 have hL11:=a1.lk
 refine jy a1 ?_
 refine jG (λh12=>?_) (λh12=>?_)
 refine au ?_
 refine a6 ?_
 exact xG ⟨(⟨[0],.exact 1,qx,rfl,nd⟩:Row Int),true,zt⟩
 refine aB ?_
 refine ah ?_
 refine aK ?_
 refine mw (λm17 e h=>∃ n13:Int,∃ n14:Int,m17=(n14+1).toNat/\(-1<=n14)/\(n14<=1)/\At [1,2,7,8] [j3 a1,.la 2 0,iv n13,iv n14] aT.empty [(2,(bY.af a0))] e h) ?_ _ _ _ ⟨(-1),1,rfl,du,du,atR⟩
 rintro m17 e h ⟨n13,n14,hmm17,hi15,hi16,hA⟩
 refine c9 ?_
 refine lI (λh18=>?_) (λh18=>?_)
 refine aY ?_
 refine bG ?_
 have hx19:0<a1.l.length:=by omega
 refine pM 0 a1 hx19 ?_
 generalize hqx20:a1.l[0]=x20
 refine bw ?_
 refine rC (t98 a0 (⟨x20,n14⟩:iz)) ?_
 rintro _ ⟨r22,r23,hc21,rfl⟩
 have hN:=hc21
 cases r23
 refine bX ?_
 refine aL ?_
 refine ce ?_
 refine bh ?_
 refine aI ?_
 refine oP ?_
 refine ab ?_
 refine ⟨_,?_,n13,(n14 - 1),rfl,du,du,atR⟩
 omega
 refine bX ?_
 refine cU ?_
 have hx24:1<a1.l.length:=by omega
 refine pM 1 a1 hx24 ?_
 generalize hqx25:a1.l[1]=x25
 refine rV ?_
 refine CU (λh26=>?_) (λh26=>?_)
 refine bm ?_
 refine qg ?_
 refine bb ?_
 refine aI ?_
 refine oP ?_
 refine ab ?_
 refine ⟨_,?_,n14,(n14 - 1),rfl,du,du,atR⟩
 omega
 refine bh ?_
 refine aI ?_
 refine oP ?_
 refine ab ?_
 refine ⟨_,?_,n13,(n14 - 1),rfl,du,du,atR⟩
 omega
 refine aD ?_
 refine ao ?_
 refine iX (λh27=>?_) (λh27=>?_)
 refine ci ?_
 exact gx
 refine aB ?_
 refine aj ?_
 refine iI rfl (λ_=>kj rfl rfl rfl (pb .i64 1 n13)) ?_
 refine bb ?_
 refine aK ?_
 have hS28:=Sep.acX jW 1 (List.map jL [(IntKind.i64.wrap (1 - n13))]) (by intro x hx; obtain ⟨y,_,rfl⟩:=List.mem_map.mp hx; rfl) (k:=1) rfl
 have hNk29:=a1.lk
 refine iL a1.l.length (λqa e h=>∃ v30:AV,∃ l31:List Int,∃ n32:Int,∃ H33:aT,(1<=qa)/\(l31.length<=1+qa)/\Sep H33 (zsP jL 1 v30 l31::[])/\At [1,2,7,11,12] [j3 a1,.la 2 0,iv n32,v30,cb qa] H33 [(2,(bY.af a0))] e h) ?_ (k0:=1) du ⟨((.sl (List.map jL [(IntKind.i64.wrap (1 - n13))]) (.exact 1))),([(IntKind.i64.wrap (1 - n13))]),n13,aT.empty,du,d3,hS28,atR⟩
 rintro qa e h hkk29 ⟨v30,l31,n32,H33,hw35,hl36,hS34,hA⟩
 refine cE ?_
 have hL37:=a1.lk
 refine jy a1 ?_
 refine iX (λh38=>?_) (λh38=>?_)
 refine aZ ?_
 refine wz [j3 a1,.la 2 0,iv n32,v30,cb qa] H33 [(2,(bY.af a0))] ?_ (iO hS34 [(11,0)])
 refine aw ?_
 refine ck ?_
 refine EK ?_
 have hx39:((qa:Int) - 1).toNat<a1.l.length:=by omega
 refine iU rfl rfl (λ_=>jo (n:=(qa:Int) - 1) (r:=a1) (enc:=jL) rfl rfl rfl rfl rfl du hx39 rfl) ?_
 generalize hqx40:a1.l[((qa:Int) - 1).toNat]=x40
 refine bw ?_
 refine rC (t98 a0 (⟨x40,n32⟩:iz)) ?_
 rintro _ ⟨r42,r43,hc41,rfl⟩
 have hN:=hc41
 cases r43
 refine bX ?_
 refine qs ?_
 refine ck ?_
 refine cR ?_
 refine bm ?_
 refine aO ?_
 exact gx
 refine bX ?_
 refine qs ?_
 refine cM ?_
 refine cZ ?_
 have hx44:qa<a1.l.length:=by omega
 refine pM qa a1 hx44 ?_
 generalize hqx45:a1.l[qa]=x45
 refine rV ?_
 refine Aw (λh46=>?_) (λh46=>?_)
 refine bm ?_
 refine aO ?_
 exact gx
 refine bh ?_
 refine wz [j3 a1,.la 2 0,v30,cb qa,.la 13 0] H33 [(2,(bY.af a0)),(13,(iz.af r42))] ?_ (iO hS34 [(11,0)])
 refine aR ?_
 refine jt rfl (kq (i:=0) [r42.en] hS34 rfl rfl rfl rfl rfl rfl rfl rfl rfl (λ_=>rfl) (.inl rfl) dy (λ_=>rfl)) ?_
 rintro v47 H48 hS49
 refine oV ?_
 refine c7 ?_
 refine am ?_
 refine iI rfl (λ_=>kj rfl rfl rfl (pb .i64 1 r42.en)) ?_
 refine ab ?_
 refine wz [j3 a1,.la 2 0,iv (IntKind.i64.wrap (1 - r42.en)),v47,cb qa] H48 [(2,(bY.af a0))] ?_ (iO hS49 [(11,0)])
 refine aI ?_
 refine jd ?_
 refine ab ?_
 exact ⟨by omega,v47,((l31++[r42.en])),(IntKind.i64.wrap (1 - r42.en)),H48,du,dm,hS49,(iO hS49 [(11,0)])⟩
 refine aD ?_
 refine wz [v30] H33 [] ?_ (iO hS34 [(11,0)])
 refine a6 ?_
 obtain ⟨r50,hl51,hf52⟩:=lA (H:=H33) (i:=0) (l:=l31) (enc:=jL) hS34 rfl dn
 have hlq:=hl51; have hln54:=congrArg List.length hl51
 have hz53:∀ m,freeze false { H33 with iq:=[] } (m+2) v30=some (j3 r50):=λm=>hf52 _ _ (λ_=>rfl)
 exact ⟨.je [v30,.bool true],(kr (vs:=[v30,.bool true]) rfl (iN (Sep.arg (i:=0) hS34 rfl) (iN rfl jD))),.je [j3 r50,.bool true],(show freeze false { H33 with iq:=[] } 8 (.je [v30,.bool true])=some (.je [j3 r50,.bool true]) by simp only [FZ,hz53]),r50,true,zt⟩
def ad0 (_a0:bY) (v:AV):Prop:=∃ r0:Bool,(True)/\v=.bool r0
def t150 (a0:bY) (q1:lD a0):Ct 150 [.agg (bY.af a0)] (ad0 a0):=by
 refine iY IG ?_
 have q2:=q1.lines
 refine aN ?_
 refine ah ?_
 refine aK ?_
 have hS1:=Sep.lX jW 1
 have hNk2:=a0.lines.lk
 refine iL a0.lines.l.length (λk2 e h=>∃ v3:AV,∃ l4:List Int,∃ H5:aT,(l4.length<=60*k2)/\Sep H5 (qt v3 l4::[])/\At [1,3,4] [.la 1 0,v3,cb k2] H5 [(1,(bY.af a0))] e h) ?_ (k0:=0) du ⟨iJ,(([]:List Int)),aT.empty,eH,hS1,atR⟩
 rintro k2 e h hkk2 ⟨v3,l4,H5,hI,hS6,hA⟩
 refine aX ?_
 have hL7:=a0.lines.lk
 refine jy a0.lines ?_
 refine iX (λh8=>?_) (λh8=>?_)
 refine aZ ?_
 refine wz [.la 1 0,v3,cb k2] H5 [(1,(bY.af a0))] ?_ (iO hS6 [(3,0)])
 refine aw ?_
 refine ap ?_
 have hx9:k2<a0.lines.l.length:=by omega
 refine kM k2 a0.lines hx9 ?_
 generalize hqx10:a0.lines.l[k2]=x10
 have hinx10:x10∈a0.lines.l:=by rw [<- hqx10]; exact List.getElem_mem _
 have hsx10:=q1.line x10 hinx10
 refine aS ?_
 refine aK ?_
 have hNk11:=x10.elems.lk
 refine iL x10.elems.l.length (λja e h=>∃ v12:AV,∃ l13:List Int,∃ H14:aT,(l13.length<=l4.length+ja)/\Sep H14 (qt v12 l13::[])/\At [1,3,4,5,6] [.la 1 0,v12,cb k2,j3 x10.elems,cb ja] H14 [(1,(bY.af a0))] e h) ?_ (k0:=0) du ⟨v3,l4,H5,d3,hS6,(iO hS6 [(3,0)])⟩
 rintro ja e h hkk11 ⟨v12,l13,H14,hl16,hS15,hA⟩
 refine cE ?_
 have hL17:=x10.elems.lk
 refine jy x10.elems ?_
 refine iX (λh18=>?_) (λh18=>?_)
 refine aZ ?_
 refine wz [.la 1 0,v12,cb k2,j3 x10.elems,cb ja] H14 [(1,(bY.af a0))] ?_ (iO hS15 [(3,0)])
 refine aw ?_
 refine aV ?_
 have hx19:ja<x10.elems.l.length:=by omega
 refine kM ja x10.elems hx19 ?_
 generalize hqx20:x10.elems.l[ja]=x20
 refine oV ?_
 refine nU hS15 0 λr21 hl22 hln25 hz24=>?_
 refine mR (args:=[v12,iv x20]) (p:=[]) (r:=[]) (args':=[py r21,iv x20]) (R:=Rr r21 x20) rfl rfl rfl rfl rfl (iN (Sep.arg (i:=0) hS15 rfl) (iN rfl jD)) rfl e8 (kH (by show js (freeze true { H14 with iq:=[] } 8) [v12,iv x20] = _; simp only [FZ,hz24]) (iN (Sep.oW (i:=0) hS15 rfl) (iN rfl jD))) (kH eT (iN rfl (iN rfl jD))) (λh=>t43 r21 x20  h) ?_
 rintro _ ⟨r27,hc26,rfl⟩
 have hIn:=hc26
 cases r27
 refine aB ?_
 refine wz [.la 1 0,v12,cb k2,j3 x10.elems,cb ja] H14 [(1,(bY.af a0))] ?_ (iO hS15 [(3,0)])
 refine bv ?_
 have hx28:ja<x10.elems.l.length:=by omega
 refine kM ja x10.elems hx28 ?_
 rw [hqx20]
 refine am ?_
 refine jt rfl (kq (i:=0) [x20] hS15 rfl rfl rfl rfl rfl rfl rfl rfl rfl (λ_=>rfl) (.inl rfl) dy (λ_=>rfl)) ?_
 rintro v30 H31 hS32
 refine ab ?_
 refine wz [.la 1 0,v30,cb k2,j3 x10.elems,cb ja] H31 [(1,(bY.af a0))] ?_ (iO hS32 [(3,0)])
 refine aI ?_
 refine jd ?_
 refine ab ?_
 exact ⟨by omega,v30,((l13++[x20])),H31,dm,hS32,(iO hS32 [(3,0)])⟩
 refine be ?_
 exact ge
 refine aD ?_
 refine wz [.la 1 0,v12,cb k2,j3 x10.elems] H14 [(1,(bY.af a0))] ?_ (iO hS15 [(3,0)])
 refine ae ?_
 refine oC (t244 a0 x10.elems dj) ?_
 rintro _ ⟨r34,r35,hc33,rfl⟩
 cases r35
 refine bC ?_
 refine aa ?_
 refine bf ?_
 exact ge
 refine bC ?_
 refine aa ?_
 refine bV ?_
 refine wz [.la 1 0,v12,cb k2] H14 [(1,(bY.af a0))] ?_ (iO hS15 [(3,0)])
 refine aI ?_
 refine jd ?_
 refine ab ?_
 exact ⟨by omega,v12,l13,H14,dq,hS15,(iO hS15 [(3,0)])⟩
 refine aD ?_
 refine aA ?_
 exact gh
def P92 (_a0:bY) (_a1:Int) (v:AV):Prop:=∃ r0:Int,(r0=rU _a0 _a1)/\v=iv r0
def t92 (a0:bY) (a1:Int) :Ct 92 [.agg (bY.af a0),iv a1] (P92 a0 a1):=by
 refine iY Oj ?_
 refine aN ?_
 refine ao ?_
 refine iX (λh1=>?_) (λh1=>?_)
 refine a8 ?_
 refine ac ?_
 exact xB ⟨0,fc,rfl⟩
 refine aQ ?_
 have hL2:=a0.elems.lk
 refine jy a0.elems ?_
 refine lI (λh3=>?_) (λh3=>?_)
 refine ac ?_
 exact xB ⟨0,fc,rfl⟩
 refine aq ?_
 refine ap ?_
 have hx4:(a1).toNat<a0.elems.l.length:=by omega
 refine iI rfl (λ_=>jo (n:=a1) (r:=a0.elems) (enc:=jZ.af) rfl rfl rfl rfl rfl du hx4 rfl) ?_
 generalize hqx5:a0.elems.l[(a1).toNat]=x5
 refine bN ?_
 exact xB ⟨x5.len,fc,rfl⟩
def ae7 (_a0:Int) (_a1:Int) (v:AV):Prop:=∃ r0:Int,(True)/\v=iv r0
def t245 (a0:Int) (a1:Int) :Ct 245 [iv a0,iv a1] (ae7 a0 a1):=by
 refine iY JT ?_
 refine bo ?_
 refine iX (λh1=>?_) (λh1=>?_)
 refine bj ?_
 refine aU ?_
 refine aU ?_
 refine ac ?_
 exact gy
 refine am ?_
 refine ki (λh2=>?_) (λh2=>?_)
 refine aU ?_
 refine aU ?_
 refine ac ?_
 exact gy
 refine aC ?_
 refine iX (λh3=>?_) (λh3=>?_)
 refine aU ?_
 refine ac ?_
 exact gy
 refine aC ?_
 refine ki (λh4=>?_) (λh4=>?_)
 refine ac ?_
 exact gy
 refine aq ?_
 refine ah ?_
 refine aH ?_
 refine oP ?_
 refine aG ?_
 refine mw (λm9 e h=>∃ n5:Int,∃ n6:Int,m9=(n5+10).toNat/\(-10<=n5)/\(n5<=60)/\At [0,1,5] [iv n5,iv a1,iv n6] aT.empty [] e h) ?_ _ _ _ ⟨(a0 - a1),0,rfl,du,du,atR⟩
 rintro m9 e h ⟨n5,n6,hmm9,hi7,hi8,hA⟩
 refine c9 ?_
 refine ki (λh10=>?_) (λh10=>?_)
 refine aY ?_
 refine cA ?_
 refine oP ?_
 refine ab ?_
 refine ⟨_,?_,(n5 - a1),(IntKind.i64.wrap (n6+(n5))),rfl,du,du,atR⟩
 omega
 refine aD ?_
 refine aO ?_
 exact xB ⟨n6,zt⟩
def afY (_a0:bY) (v:AV):Prop:=∃ r0:Bool,(True)/\v=.bool r0
def t151 (a0:bY) :Ct 151 [.agg (bY.af a0)] (afY a0):=by
 refine iY JQ ?_
 refine aN ?_
 refine qs ?_
 refine bG ?_
 refine cZ ?_
 refine rC (t245 a0.top a0.jT) ?_
 rintro _ ⟨r2,hc1,rfl⟩
 refine iU rfl rfl (λ_=>kj rfl rfl rfl (uR .i64 a0.top r2)) ?_
 refine rr (λh3=>?_) (λh3=>?_)
 refine bL ?_
 refine aA ?_
 exact ge
 refine bO ?_
 refine aK ?_
 have hNk4:=a0.signals.lk
 refine iL a0.signals.l.length (λk4 e h=>At [1,3] [.la 1 0,cb k4] aT.empty [(1,(bY.af a0))] e h) ?_ (k0:=0) du atR
 rintro k4 e h hkk4 hA
 refine aX ?_
 have hL5:=a0.signals.lk
 refine jy a0.signals ?_
 refine iX (λh6=>?_) (λh6=>?_)
 refine aY ?_
 refine ap ?_
 have hx7:k4<a0.signals.l.length:=by omega
 refine kM k4 a0.signals hx7 ?_
 generalize hqx8:a0.signals.l[k4]=x8
 refine bW ?_
 refine bG ?_
 refine rC (t93 a0 x8.at_.elem) ?_
 rintro _ ⟨r10,hc9,rfl⟩
 refine CU (λh11=>?_) (λh11=>?_)
 refine bw ?_
 refine rC (t92 a0 x8.at_.elem) ?_
 rintro _ ⟨r13,hc12,rfl⟩
 have hLen:=hc12
 refine aJ ?_
 refine rr (λh14=>?_) (λh14=>?_)
 refine bm ?_
 refine aA ?_
 exact ge
 refine bh ?_
 refine aI ?_
 refine jd ?_
 refine ab ?_
 exact gf
 refine c8 ?_
 refine bh ?_
 refine aI ?_
 refine jd ?_
 refine ab ?_
 exact gf
 refine aD ?_
 refine aK ?_
 have hNk15:=a0.elems.lk
 refine iL a0.elems.l.length (λqw e h=>At [1,5] [.la 1 0,cb qw] aT.empty [(1,(bY.af a0))] e h) ?_ (k0:=0) du atR
 rintro qw e h hkk15 hA
 refine aX ?_
 have hL16:=a0.elems.lk
 refine jy a0.elems ?_
 refine iX (λh17=>?_) (λh17=>?_)
 refine aY ?_
 refine ck ?_
 have hx18:qw<a0.elems.l.length:=by omega
 refine pM qw a0.elems hx18 ?_
 generalize hqx19:a0.elems.l[qw]=x19
 refine aJ ?_
 refine Aw (λh20=>?_) (λh20=>?_)
 refine cu ?_
 have hx21:qw<a0.elems.l.length:=by omega
 refine pM qw a0.elems hx21 ?_
 rw [hqx19]
 refine cu ?_
 refine rr (λh23=>?_) (λh23=>?_)
 refine bm ?_
 refine aA ?_
 exact ge
 refine bh ?_
 refine aI ?_
 refine jd ?_
 refine ab ?_
 exact gf
 refine rV ?_
 iterate 9 refine rS ?_
 refine bh ?_
 refine aI ?_
 refine jd ?_
 refine ab ?_
 exact gf
 refine aD ?_
 refine aA ?_
 exact gh
def P72 (_a0:bY) (v:AV):Prop:=∃ r0:Int,(True)/\v=iv r0
def t72 (a0:bY) (q1:lD a0):Ct 72 [.agg (bY.af a0)] (P72 a0):=by
 refine iY M0 ?_
 have q2:=q1.elems; have q3:=q1.signals; have q4:=q1.lines
 refine aN ?_
 refine aH ?_
 have hL1:=a0.elems.lk
 refine jy a0.elems ?_
 refine ki (λh2=>?_) (λh2=>?_)
 refine bl ?_
 refine aP ?_
 refine bM ?_
 exact xB ⟨3,zt⟩
 refine aC ?_
 have hL3:=a0.signals.lk
 refine jy a0.signals ?_
 refine ki (λh4=>?_) (λh4=>?_)
 refine aP ?_
 refine bM ?_
 exact xB ⟨3,zt⟩
 refine aQ ?_
 have hL5:=a0.lines.lk
 refine jy a0.lines ?_
 refine ki (λh6=>?_) (λh6=>?_)
 refine bM ?_
 exact xB ⟨3,zt⟩
 refine aQ ?_
 have hL7:=a0.iQ.lk
 refine jy a0.iQ ?_
 refine ki (λh8=>?_) (λh8=>?_)
 refine ac ?_
 exact xB ⟨3,zt⟩
 refine aq ?_
 refine aj ?_
 refine oC (t145 a0 dj) ?_
 rintro _ ⟨r10,r11,r12,hc9,rfl⟩
 refine oV ?_
 refine az ?_
 refine bQ ?_
 refine oC (t146 a0) ?_
 rintro _ ⟨r14,hc13,rfl⟩
 cases r14
 refine bf ?_
 exact xB ⟨1,zt⟩
 refine dc ?_
 refine oC (t147 r10) ?_
 rintro _ ⟨r16,hc15,rfl⟩
 cases r16
 refine am ?_
 refine oC (t147 r11) ?_
 rintro _ ⟨r18,hc17,rfl⟩
 cases r18
 refine aC ?_
 refine oC (t147 r12) ?_
 rintro _ ⟨r20,hc19,rfl⟩
 cases r20
 refine dc ?_
 refine oC (t148 a0 dj) ?_
 rintro _ ⟨r22,hc21,rfl⟩
 cases r22
 refine bf ?_
 exact xB ⟨6,zt⟩
 refine dc ?_
 refine oC (t149 a0) ?_
 rintro _ ⟨r24,hc23,rfl⟩
 cases r24
 refine bf ?_
 exact xB ⟨7,zt⟩
 refine dc ?_
 refine oC (t150 a0 dj) ?_
 rintro _ ⟨r26,hc25,rfl⟩
 cases r26
 refine bf ?_
 exact xB ⟨8,zt⟩
 refine dc ?_
 refine oC (t151 a0) ?_
 rintro _ ⟨r28,hc27,rfl⟩
 cases r28
 refine bf ?_
 exact xB ⟨9,zt⟩
 refine bV ?_
 refine aA ?_
 exact gy
 refine bf ?_
 exact xB ⟨4,zt⟩
 refine aU ?_
 refine bf ?_
 exact xB ⟨4,zt⟩
 refine bj ?_
 refine aU ?_
 refine bf ?_
 exact xB ⟨4,zt⟩
def ag3 (_a0:bY) (v:AV):Prop:=∃ r0:Bool,((r0=true->lD _a0))/\v=.bool r0
def aev (a0:bY) (hJg:JG a0):Ct 33 [.agg (bY.af a0)] (ag3 a0):=by
 refine iY Mm ?_
 refine aN ?_
 refine aj ?_
 refine oC (t71 a0 dj) ?_
 rintro _ ⟨r2,hc1,rfl⟩
 cases r2
 clear hc1
 refine b5 ?_
 refine bk ?_
 exact xB ⟨false,fp,rfl⟩
 have hc1t:=hc1 rfl
 refine am ?_
 refine oC (t72 a0 dj) ?_
 rintro _ ⟨r4,hc3,rfl⟩
 refine jG (λh5=>?_) (λh5=>?_)
 refine bk ?_
 exact xB ⟨true,fp,rfl⟩
 refine bk ?_
 exact xB ⟨false,fp,rfl⟩
def P33 (_a0:bY) (v:AV):Prop:=∃ r0:Bool,(((r0=true->lD _a0))/\rs 33 [.agg (bY.af _a0)]=.bool r0)/\v=.bool r0
def t33 (a0:bY) (hJg:JG a0) (h:aT):∃ v,iZ cfg FT jx false 33 [.agg (bY.af a0)] h v h/\P33 a0 v:=by
 obtain ⟨v,hc,hP,hr⟩:=qG w9 (aev a0 hJg) h
 obtain ⟨r0,hp,rfl⟩:=hP
 exact gB
def afQ (_a0:Int) (v:AV):Prop:=∃ r0:Bool,(((r0=true->Ar _a0)/\(r0=false->¬ Ar _a0)))/\v=.bool r0
def t304 (a0:Int) :Ct 304 [.int .u8 a0] (afQ a0):=by
 refine iY I2 ?_
 refine ah ?_
 refine aj ?_
 refine lI (λh1=>?_) (λh1=>?_)
 refine am ?_
 refine tc (λh2=>?_) (λh2=>?_)
 refine bE ?_
 refine oS ?_
 refine bk ?_
 exact xB ⟨true,dY,rfl⟩
 refine aC ?_
 refine lI (λh3=>?_) (λh3=>?_)
 refine am ?_
 refine tc (λh4=>?_) (λh4=>?_)
 refine bN ?_
 exact xB ⟨true,dY,rfl⟩
 refine bN ?_
 exact gN
 refine bj ?_
 refine bN ?_
 exact gN
 refine bj ?_
 refine aC ?_
 refine lI (λh5=>?_) (λh5=>?_)
 refine am ?_
 refine tc (λh6=>?_) (λh6=>?_)
 refine bN ?_
 exact xB ⟨true,dY,rfl⟩
 refine bN ?_
 exact gN
 refine bj ?_
 refine bN ?_
 exact gN
def acZ (_a0:nu) (v:AV):Prop:=∃ r0:Bool,((xi _a0.l->r0=true))/\v=.bool r0
def ab8 (a0:nu) :Ct 252 [.str a0.l] (acZ a0):=by
 refine iY Ka ?_
 refine bo ?_
 refine oJ rfl (λ_=>zo rfl rfl) (λh2=>?_) (λh2=>?_)
 refine b5 ?_
 refine bM ?_
 exact gA
 have hp1:0<a0.l.length:=List.length_pos_iff.mpr h2
 refine aC ?_
 refine ki (λh3=>?_) (λh3=>?_)
 refine bM ?_
 exact gA
 refine aC ?_
 have hx4:0<a0.l.length:=by omega
 refine iI rfl (λ_=>y9 (n:=0) (s:=a0.l) rfl rfl rfl rfl hx4) ?_
 generalize hqc5:a0.l[0]=c5
 refine oC (t304 ((c5.toNat:Int))) ?_
 rintro _ ⟨r7,hc6,rfl⟩
 have hLt:=hc6
 cases r7
 refine bf ?_
 exact gA
 refine bV ?_
 refine aK ?_
 have hNk8:=a0.lk
 refine iL a0.l.length (λk8 e h=>(1<=k8)/\At [0,3] [.str a0.l,cb k8] aT.empty [] e h) ?_ (k0:=1) du ⟨du,atR⟩
 rintro k8 e h hkk8 ⟨hw9,hA⟩
 refine aX ?_
 refine iX (λh10=>?_) (λh10=>?_)
 refine aY ?_
 refine ae ?_
 have hx11:k8<a0.l.length:=by omega
 refine iI rfl (λ_=>y9 (n:=k8) (s:=a0.l) rfl rfl rfl rfl hx11) ?_
 generalize hqc12:a0.l[k8]=c12
 refine oC (t304 ((c12.toNat:Int))) ?_
 rintro _ ⟨r14,hc13,rfl⟩
 have hLt:=hc13
 cases r14
 refine aQ ?_
 have hx15:k8<a0.l.length:=by omega
 refine iI rfl (λ_=>y9 (n:=k8) (s:=a0.l) rfl rfl rfl rfl hx15) ?_
 generalize hqc16:a0.l[k8]=c16
 refine iX (λh17=>?_) (λh17=>?_)
 refine bl ?_
 refine bf ?_
 exact gA
 refine aC ?_
 have hx18:k8<a0.l.length:=by omega
 refine iI rfl (λ_=>y9 (n:=k8) (s:=a0.l) rfl rfl rfl rfl hx18) ?_
 generalize hqc19:a0.l[k8]=c19
 refine ki (λh20=>?_) (λh20=>?_)
 refine bf ?_
 exact gA
 refine oV ?_
 refine dg ?_
 refine jd ?_
 refine ab ?_
 exact ⟨by omega,du,atR⟩
 refine aU ?_
 refine cr ?_
 refine dg ?_
 refine jd ?_
 refine ab ?_
 exact ⟨by omega,du,atR⟩
 refine aD ?_
 refine aA ?_
 exact xB ⟨true,dz,rfl⟩
def af9 (_a0:nu) (v:AV):Prop:=∃ r0:Bool,(((xi _a0.l->r0=true))/\rs 252 [.str _a0.l]=.bool r0)/\v=.bool r0
def t252 (a0:nu)  (h:aT):∃ v,iZ cfg FT jx false 252 [.str a0.l] h v h/\af9 a0 v:=by
 obtain ⟨v,hc,hP,hr⟩:=qG w9 (ab8 a0) h
 obtain ⟨r0,hp,rfl⟩:=hP
 exact gB
def ad1 (_a0:Int) (v:AV):Prop:=∃ r0:Int,(((((_a0=1->r0=2)/\(_a0=2->r0=3)/\(_a0=3->r0=4)/\(_a0=4->r0=1)/\0<=r0/\r0<=4)/\(¬ (1<=_a0/\_a0<=4)->r0=0))/\r0=vI _a0))/\v=iv r0
def t255 (a0:Int) :Ct 255 [iv a0] (ad1 a0):=by
 refine iY Ix ?_
 refine bo ?_
 refine cz ?_
 refine jG (λh1=>?_) (λh1=>?_)
 refine ac ?_
 exact xB ⟨2,d8,rfl⟩
 refine ba ?_
 refine jG (λh2=>?_) (λh2=>?_)
 refine ac ?_
 exact xB ⟨3,d8,rfl⟩
 refine ba ?_
 refine jG (λh3=>?_) (λh3=>?_)
 refine ac ?_
 exact xB ⟨4,d8,rfl⟩
 refine ba ?_
 refine jG (λh4=>?_) (λh4=>?_)
 refine ac ?_
 exact xB ⟨1,d8,rfl⟩
 refine aq ?_
 refine aA ?_
 exact xB ⟨0,d8,rfl⟩
def aex (_a0:bY) (v:AV):Prop:=∃ r0:Bool,((r0=true->HW _a0/\0 < _a0.elems.l.length))/\v=.bool r0
def t163 (a0:bY) :Ct 163 [.agg (bY.af a0)] (aex a0):=by
 refine iY IK ?_
 refine aN ?_
 refine va ?_
 refine aH ?_
 refine iX (λh1=>?_) (λh1=>?_)
 refine b5 ?_
 refine cH ?_
 refine cH ?_
 refine bM ?_
 exact gi
 refine aC ?_
 refine ki (λh2=>?_) (λh2=>?_)
 refine cH ?_
 refine cH ?_
 refine bM ?_
 exact gi
 refine aQ ?_
 refine iX (λh3=>?_) (λh3=>?_)
 refine cF ?_
 refine cF ?_
 refine cH ?_
 refine bM ?_
 exact gi
 refine aQ ?_
 refine ki (λh4=>?_) (λh4=>?_)
 refine cF ?_
 refine cH ?_
 refine bM ?_
 exact gi
 refine aQ ?_
 refine iX (λh5=>?_) (λh5=>?_)
 refine cH ?_
 refine bM ?_
 exact gi
 refine aQ ?_
 refine ki (λh6=>?_) (λh6=>?_)
 refine cF ?_
 refine cF ?_
 refine bM ?_
 exact gi
 refine aQ ?_
 refine iX (λh7=>?_) (λh7=>?_)
 refine cF ?_
 refine bM ?_
 exact gi
 refine aQ ?_
 refine ki (λh8=>?_) (λh8=>?_)
 refine bM ?_
 exact gi
 refine aQ ?_
 have hL9:=a0.elems.lk
 refine jy a0.elems ?_
 refine jG (λh10=>?_) (λh10=>?_)
 refine ac ?_
 exact gi
 refine aq ?_
 refine qq ?_
 refine ql ?_
 refine aH ?_
 have hL11:=a0.elems.lk
 refine db ?_
 have hNk12:=a0.elems.lk
 refine iL a0.elems.l.length (λp9 e h=>(∀ (i:Nat) (h:i<a0.elems.l.length),i<p9->(1<=(a0.elems.l[i]).kind/\(a0.elems.l[i]).kind<=4)/\((a0.elems.l[i]).kind=4->(a0.elems.l[i]).len=0))/\At [1,54,55,56] [.la 1 0,jw a0.elems,cb a0.elems.l.length,cb p9] aT.empty [(1,(bY.af a0))] e h) ?_ (k0:=0) du ⟨ee,atR⟩
 rintro p9 e h hkk12 ⟨hKd,hA⟩
 refine aF ?_
 refine iX (λh13=>?_) (λh13=>?_)
 refine ak ?_
 refine bc ?_
 have hx14:p9<a0.elems.l.length:=by omega
 refine kM p9 a0.elems hx14 ?_
 generalize hqx15:a0.elems.l[p9]=x15
 refine am ?_
 refine aG ?_
 refine ae ?_
 refine oC (t252 x15.name) ?_
 rintro _ ⟨r17,⟨hc16,hc16r⟩,rfl⟩
 have hNw:=hc16
 cases r17
 refine aP ?_
 refine bf ?_
 exact gi
 refine aQ ?_
 refine oC (t255 x15.kind) ?_
 rintro _ ⟨r19,hc18,rfl⟩
 have hEnd:=hc18.2
 refine jG (λh20=>?_) (λh20=>?_)
 refine bf ?_
 exact gi
 refine dc ?_
 refine oV ?_
 refine jG (λh21=>?_) (λh21=>?_)
 refine aE ?_
 refine aH ?_
 refine lg (λh22=>?_) (λh22=>?_)
 refine be ?_
 exact gi
 refine aB ?_
 refine qe ?_
 refine qg ?_
 refine jd ?_
 refine ab ?_
 exact ⟨by omega,fx,atR⟩
 refine ba ?_
 refine am ?_
 refine iX (λh23=>?_) (λh23=>?_)
 refine b5 ?_
 refine bf ?_
 exact gi
 refine aC ?_
 refine ki (λh24=>?_) (λh24=>?_)
 refine bf ?_
 exact gi
 refine am ?_
 refine cq ?_
 refine jd ?_
 refine ab ?_
 exact ⟨by omega,fx,atR⟩
 refine ai ?_
 refine aH ?_
 have hL25:=a0.signals.lk
 refine cT ?_
 have hNk26:=a0.signals.lk
 refine iL a0.signals.l.length (λkL e h=>At [1,89,90,91] [.la 1 0,jB a0.signals,cb a0.signals.l.length,cb kL] aT.empty [(1,(bY.af a0))] e h) ?_ (k0:=0) du atR
 rintro kL e h hkk26 hA
 refine aF ?_
 refine iX (λh27=>?_) (λh27=>?_)
 refine ak ?_
 refine bc ?_
 have hx28:kL<a0.signals.l.length:=by omega
 refine kM kL a0.signals hx28 ?_
 generalize hqx29:a0.signals.l[kL]=x29
 refine cN ?_
 refine oC (t252 x29.name) ?_
 rintro _ ⟨r31,⟨hc30,hc30r⟩,rfl⟩
 have hNw:=hc30
 cases r31
 refine ac ?_
 exact gi
 refine oV ?_
 refine cq ?_
 refine jd ?_
 refine ab ?_
 exact gf
 refine ai ?_
 refine aH ?_
 have hL32:=a0.lines.lk
 refine jy a0.lines ?_
 refine aG ?_
 have hNk33:=a0.lines.lk
 refine iL a0.lines.l.length (λlF e h=>At [101,102,103] [jr a0.lines,cb a0.lines.l.length,cb lF] aT.empty [] e h) ?_ (k0:=0) du atR
 rintro lF e h hkk33 hA
 refine aF ?_
 refine iX (λh34=>?_) (λh34=>?_)
 refine ak ?_
 refine bc ?_
 have hx35:lF<a0.lines.l.length:=by omega
 refine kM lF a0.lines hx35 ?_
 generalize hqx36:a0.lines.l[lF]=x36
 refine cN ?_
 refine oC (t252 x36.name) ?_
 rintro _ ⟨r38,⟨hc37,hc37r⟩,rfl⟩
 have hNw:=hc37
 cases r38
 refine ac ?_
 exact gi
 refine oV ?_
 refine cq ?_
 refine jd ?_
 refine ab ?_
 exact gf
 refine cQ ?_
 exact xB ⟨true,dM,rfl⟩
def Ol {H:aT} (b:Nat) (pp:bY) (i:Int) (F:List jH) (hS:Sep H (j8 b (bY.af pp)::F)) (q1:0<=i) (q2:i<(pp.elems.l.length:Int)):∃ v H',iZ cfg FT jx true 165 [iv i,(iV b)] { H with iq:=[] } v H'/\(∃ r0:nu,(True)/\Sep H' (j8 b (bY.af pp)::F)/\v=.str r0.l):=by
 refine kP ID ?_
 refine ah ?_
 refine co ?_
 refine iI rfl (λ_=>pj (i:=0) (o:=0) (r:=jw pp.elems) hS rfl rfl rfl rfl) ?_
 refine oV ?_
 have hx1:(i).toNat<pp.elems.l.length:=by omega
 refine iI rfl (λ_=>jo (n:=i) (r:=pp.elems) (enc:=jZ.af) rfl rfl rfl rfl rfl du hx1 rfl) ?_
 generalize hqx2:pp.elems.l[(i).toNat]=x2
 refine bN ?_
 have hS3:=Sep.pick hS [0] 1 dt dt
 exact gn
def Np {H:aT} (b:Nat) (pp:bY) (i:Int) (F:List jH) (hS:Sep H (j8 b (bY.af pp)::F)) (q1:0<=i) (q2:i<(pp.signals.l.length:Int)):∃ v H',iZ cfg FT jx true 166 [iv i,(iV b)] { H with iq:=[] } v H'/\(∃ r0:nu,(True)/\Sep H' (j8 b (bY.af pp)::F)/\v=.str r0.l):=by
 refine kP IX ?_
 refine ah ?_
 refine co ?_
 refine iI rfl (λ_=>pj (i:=0) (o:=2) (r:=jB pp.signals) hS rfl rfl rfl rfl) ?_
 refine oV ?_
 have hx1:(i).toNat<pp.signals.l.length:=by omega
 refine iI rfl (λ_=>jo (n:=i) (r:=pp.signals) (enc:=jY.af) rfl rfl rfl rfl rfl du hx1 rfl) ?_
 generalize hqx2:pp.signals.l[(i).toNat]=x2
 refine bN ?_
 have hS3:=Sep.pick hS [0] 1 dt dt
 exact gn
def NX {H:aT} (b:Nat) (pp:bY) (i:Int) (F:List jH) (hS:Sep H (j8 b (bY.af pp)::F)) (q1:0<=i) (q2:i<(pp.lines.l.length:Int)):∃ v H',iZ cfg FT jx true 167 [iv i,(iV b)] { H with iq:=[] } v H'/\(∃ r0:nu,(True)/\Sep H' (j8 b (bY.af pp)::F)/\v=.str r0.l):=by
 refine kP Ju ?_
 refine ah ?_
 refine co ?_
 refine iI rfl (λ_=>pj (i:=0) (o:=3) (r:=jr pp.lines) hS rfl rfl rfl rfl) ?_
 refine oV ?_
 have hx1:(i).toNat<pp.lines.l.length:=by omega
 refine iI rfl (λ_=>jo (n:=i) (r:=pp.lines) (enc:=ju.af) rfl rfl rfl rfl rfl du hx1 rfl) ?_
 generalize hqx2:pp.lines.l[(i).toNat]=x2
 refine bN ?_
 have hS3:=Sep.pick hS [0] 1 dt dt
 exact gn
def N2 {H:aT} (n:Int) (b:Nat) (pp:bY) (F:List jH) (hS:Sep H (j8 b (bY.af pp)::F)) (q2:n<=(pp.elems.l.length:Int)):∃ v H',iZ cfg FT jx true 164 [iv n,.jz 165 [] [(iV b)]] { H with iq:=[] } v H'/\(∃ r0:Bool,(True)/\Sep H' (j8 b (bY.af pp)::F)/\v=.bool r0):=by
 refine kP Bc ?_
 have hqb:=pp.elems.ok
 simp only [rT] at hqb
 refine ah ?_
 refine dh ?_
 rintro _ H2 ⟨b1,rfl,hS3⟩
 refine ab ?_
 refine ao ?_
 refine aG ?_
 refine iL ((n).toNat) (λk4 e h=>∃ l5:List (List UInt8×Bool),∃ H6:aT,Sep H6 (lO b1 sK bK l5::j8 b (bY.af pp)::F)/\At [1,5,8,9] [.jz 165 [] [(iV b)],(.hm b1),iv n,cb k4] H6 [] e h) ?_ (k0:=0) du ⟨([]),H2,hS3,atR⟩
 rintro k4 e h hkk4 ⟨l5,H6,hS7,hA⟩
 refine aF ?_
 refine iX (λh8=>?_) (λh8=>?_)
 refine ak ?_
 refine bH ?_
 refine aV ?_
 have hS9:=Sep.pick hS7 [1,0] 2 dt dt
 refine jQ (H:=H6) (args:=[cb k4]) (p:=[]) (r:=[(iV b)]) rfl rfl rfl rfl rfl rfl rfl (Ol b pp ((k4:Int)) (lO b1 sK bK l5::F) hS9 dj dj) ?_
 rintro _ H10 ⟨r13,hc12,hS11,rfl⟩
 refine mB (H:=H10) (i:=1) (ek:=sK) (ev:=bK) (l:=l5) r13.l rfl rfl hS11 rfl rfl rfl rfl rfl rfl rfl rfl p3 (λy14 h15=>?_) (λh16=>?_)
 cases y14
 refine aB ?_
 refine bv ?_
 have hS17:=Sep.pick hS11 [0,1] 2 dt dt
 refine jQ (H:=H10) (args:=[cb k4]) (p:=[]) (r:=[(iV b)]) rfl rfl rfl rfl rfl rfl rfl (Ol b pp ((k4:Int)) (lO b1 sK bK l5::F) hS17 dj dj) ?_
 rintro _ H18 ⟨r21,hc20,hS19,rfl⟩
 refine jt rfl (nV (i:=1) (ek:=sK) (ev:=bK) r21.l true hS19 rfl rfl rfl rfl rfl rfl p3) ?_
 rintro _ H22 ⟨rfl,hS23⟩
 refine c7 ?_
 refine jd ?_
 refine ab ?_
 have hS24:=Sep.pick hS23 [1,0] 2 dt dt
 exact gj
 refine be ?_
 have hS25:=Sep.pick hS11 [0] 2 dt dt
 exact gk
 refine aB ?_
 refine bv ?_
 have hS26:=Sep.pick hS11 [0,1] 2 dt dt
 refine jQ (H:=H10) (args:=[cb k4]) (p:=[]) (r:=[(iV b)]) rfl rfl rfl rfl rfl rfl rfl (Ol b pp ((k4:Int)) (lO b1 sK bK l5::F) hS26 dj dj) ?_
 rintro _ H27 ⟨r30,hc29,hS28,rfl⟩
 refine jt rfl (nV (i:=1) (ek:=sK) (ev:=bK) r30.l true hS28 rfl rfl rfl rfl rfl rfl p3) ?_
 rintro _ H31 ⟨rfl,hS32⟩
 refine c7 ?_
 refine jd ?_
 refine ab ?_
 have hS33:=Sep.pick hS32 [1,0] 2 dt dt
 exact gl
 refine cQ ?_
 have hS34:=Sep.pick hS7 [1] 2 dt dt
 exact gm
def M7 {H:aT} (n:Int) (b:Nat) (pp:bY) (F:List jH) (hS:Sep H (j8 b (bY.af pp)::F)) (q2:n<=(pp.signals.l.length:Int)):∃ v H',iZ cfg FT jx true 164 [iv n,.jz 166 [] [(iV b)]] { H with iq:=[] } v H'/\(∃ r0:Bool,(True)/\Sep H' (j8 b (bY.af pp)::F)/\v=.bool r0):=by
 refine kP Bc ?_
 have hqb:=pp.signals.ok
 simp only [rT] at hqb
 refine ah ?_
 refine dh ?_
 rintro _ H2 ⟨b1,rfl,hS3⟩
 refine ab ?_
 refine ao ?_
 refine aG ?_
 refine iL ((n).toNat) (λk4 e h=>∃ l5:List (List UInt8×Bool),∃ H6:aT,Sep H6 (lO b1 sK bK l5::j8 b (bY.af pp)::F)/\At [1,5,8,9] [.jz 166 [] [(iV b)],(.hm b1),iv n,cb k4] H6 [] e h) ?_ (k0:=0) du ⟨([]),H2,hS3,atR⟩
 rintro k4 e h hkk4 ⟨l5,H6,hS7,hA⟩
 refine aF ?_
 refine iX (λh8=>?_) (λh8=>?_)
 refine ak ?_
 refine bH ?_
 refine aV ?_
 have hS9:=Sep.pick hS7 [1,0] 2 dt dt
 refine jQ (H:=H6) (args:=[cb k4]) (p:=[]) (r:=[(iV b)]) rfl rfl rfl rfl rfl rfl rfl (Np b pp ((k4:Int)) (lO b1 sK bK l5::F) hS9 dj dj) ?_
 rintro _ H10 ⟨r13,hc12,hS11,rfl⟩
 refine mB (H:=H10) (i:=1) (ek:=sK) (ev:=bK) (l:=l5) r13.l rfl rfl hS11 rfl rfl rfl rfl rfl rfl rfl rfl p3 (λy14 h15=>?_) (λh16=>?_)
 cases y14
 refine aB ?_
 refine bv ?_
 have hS17:=Sep.pick hS11 [0,1] 2 dt dt
 refine jQ (H:=H10) (args:=[cb k4]) (p:=[]) (r:=[(iV b)]) rfl rfl rfl rfl rfl rfl rfl (Np b pp ((k4:Int)) (lO b1 sK bK l5::F) hS17 dj dj) ?_
 rintro _ H18 ⟨r21,hc20,hS19,rfl⟩
 refine jt rfl (nV (i:=1) (ek:=sK) (ev:=bK) r21.l true hS19 rfl rfl rfl rfl rfl rfl p3) ?_
 rintro _ H22 ⟨rfl,hS23⟩
 refine c7 ?_
 refine jd ?_
 refine ab ?_
 have hS24:=Sep.pick hS23 [1,0] 2 dt dt
 exact gj
 refine be ?_
 have hS25:=Sep.pick hS11 [0] 2 dt dt
 exact gk
 refine aB ?_
 refine bv ?_
 have hS26:=Sep.pick hS11 [0,1] 2 dt dt
 refine jQ (H:=H10) (args:=[cb k4]) (p:=[]) (r:=[(iV b)]) rfl rfl rfl rfl rfl rfl rfl (Np b pp ((k4:Int)) (lO b1 sK bK l5::F) hS26 dj dj) ?_
 rintro _ H27 ⟨r30,hc29,hS28,rfl⟩
 refine jt rfl (nV (i:=1) (ek:=sK) (ev:=bK) r30.l true hS28 rfl rfl rfl rfl rfl rfl p3) ?_
 rintro _ H31 ⟨rfl,hS32⟩
 refine c7 ?_
 refine jd ?_
 refine ab ?_
 have hS33:=Sep.pick hS32 [1,0] 2 dt dt
 exact gl
 refine cQ ?_
 have hS34:=Sep.pick hS7 [1] 2 dt dt
 exact gm
def My {H:aT} (n:Int) (b:Nat) (pp:bY) (F:List jH) (hS:Sep H (j8 b (bY.af pp)::F)) (q2:n<=(pp.lines.l.length:Int)):∃ v H',iZ cfg FT jx true 164 [iv n,.jz 167 [] [(iV b)]] { H with iq:=[] } v H'/\(∃ r0:Bool,(True)/\Sep H' (j8 b (bY.af pp)::F)/\v=.bool r0):=by
 refine kP Bc ?_
 have hqb:=pp.lines.ok
 simp only [rT] at hqb
 refine ah ?_
 refine dh ?_
 rintro _ H2 ⟨b1,rfl,hS3⟩
 refine ab ?_
 refine ao ?_
 refine aG ?_
 refine iL ((n).toNat) (λk4 e h=>∃ l5:List (List UInt8×Bool),∃ H6:aT,Sep H6 (lO b1 sK bK l5::j8 b (bY.af pp)::F)/\At [1,5,8,9] [.jz 167 [] [(iV b)],(.hm b1),iv n,cb k4] H6 [] e h) ?_ (k0:=0) du ⟨([]),H2,hS3,atR⟩
 rintro k4 e h hkk4 ⟨l5,H6,hS7,hA⟩
 refine aF ?_
 refine iX (λh8=>?_) (λh8=>?_)
 refine ak ?_
 refine bH ?_
 refine aV ?_
 have hS9:=Sep.pick hS7 [1,0] 2 dt dt
 refine jQ (H:=H6) (args:=[cb k4]) (p:=[]) (r:=[(iV b)]) rfl rfl rfl rfl rfl rfl rfl (NX b pp ((k4:Int)) (lO b1 sK bK l5::F) hS9 dj dj) ?_
 rintro _ H10 ⟨r13,hc12,hS11,rfl⟩
 refine mB (H:=H10) (i:=1) (ek:=sK) (ev:=bK) (l:=l5) r13.l rfl rfl hS11 rfl rfl rfl rfl rfl rfl rfl rfl p3 (λy14 h15=>?_) (λh16=>?_)
 cases y14
 refine aB ?_
 refine bv ?_
 have hS17:=Sep.pick hS11 [0,1] 2 dt dt
 refine jQ (H:=H10) (args:=[cb k4]) (p:=[]) (r:=[(iV b)]) rfl rfl rfl rfl rfl rfl rfl (NX b pp ((k4:Int)) (lO b1 sK bK l5::F) hS17 dj dj) ?_
 rintro _ H18 ⟨r21,hc20,hS19,rfl⟩
 refine jt rfl (nV (i:=1) (ek:=sK) (ev:=bK) r21.l true hS19 rfl rfl rfl rfl rfl rfl p3) ?_
 rintro _ H22 ⟨rfl,hS23⟩
 refine c7 ?_
 refine jd ?_
 refine ab ?_
 have hS24:=Sep.pick hS23 [1,0] 2 dt dt
 exact gj
 refine be ?_
 have hS25:=Sep.pick hS11 [0] 2 dt dt
 exact gk
 refine aB ?_
 refine bv ?_
 have hS26:=Sep.pick hS11 [0,1] 2 dt dt
 refine jQ (H:=H10) (args:=[cb k4]) (p:=[]) (r:=[(iV b)]) rfl rfl rfl rfl rfl rfl rfl (NX b pp ((k4:Int)) (lO b1 sK bK l5::F) hS26 dj dj) ?_
 rintro _ H27 ⟨r30,hc29,hS28,rfl⟩
 refine jt rfl (nV (i:=1) (ek:=sK) (ev:=bK) r30.l true hS28 rfl rfl rfl rfl rfl rfl p3) ?_
 rintro _ H31 ⟨rfl,hS32⟩
 refine c7 ?_
 refine jd ?_
 refine ab ?_
 have hS33:=Sep.pick hS32 [1,0] 2 dt dt
 exact gl
 refine cQ ?_
 have hS34:=Sep.pick hS7 [1] 2 dt dt
 exact gm
def aeT (_a0:bY) (_a1:iz) (v:AV):Prop:=∃ r0:Bool,((r0=true->(0<=_a1.elem/\_a1.elem<(_a0.elems.l.length:Int)/\0<=_a1.en/\_a1.en<4)/\uq _a0 _a1))/\v=.bool r0
def t256 (a0:bY) (a1:iz) :Ct 256 [.agg (bY.af a0),.agg (iz.af a1)] (aeT a0 a1):=by
 refine iY Kf ?_
 refine bz ?_
 refine bG ?_
 refine xJ (λh1=>?_) (λh1=>?_)
 refine br ?_
 have hL2:=a0.elems.lk
 refine K0 a0.elems ?_
 refine rr (λh3=>?_) (λh3=>?_)
 refine cu ?_
 refine xJ (λh4=>?_) (λh4=>?_)
 iterate 8 refine rV ?_
 have hx5:(a1.elem).toNat<a0.elems.l.length:=by omega
 refine iU rfl rfl (λ_=>jo (n:=a1.elem) (r:=a0.elems) (enc:=jZ.af) rfl rfl rfl rfl rfl du hx5 rfl) ?_
 generalize hqx6:a0.elems.l[(a1.elem).toNat]=x6
 refine aJ ?_
 refine rC (t255 x6.kind) ?_
 rintro _ ⟨r8,hc7,rfl⟩
 have hEnd:=hc7.2
 refine rr (λh9=>?_) (λh9=>?_)
 refine rV ?_
 refine bP ?_
 exact xB ⟨true,eu,rfl⟩
 refine rV ?_
 refine bP ?_
 exact gC
 refine bp ?_
 exact gC
 refine cy ?_
 refine bp ?_
 exact gC
 refine c8 ?_
 refine cy ?_
 refine bp ?_
 exact gC
def aeI (_a0:bY) (v:AV):Prop:=(∃ r0:List (iz×iz),(((∀ y∈(r0:List (iz×iz)),0<=y.2.elem/\y.2.elem<(_a0.elems.l.length:Int))/\zA _a0.iQ.l)/\JV _a0)/\v=.je [.fm (jO pK pK r0) false,.bool true])\/((True)/\v=.je [.ka,iF])
def t168 (a0:bY) :Ct 168 [.agg (bY.af a0)] (aeI a0):=by
 refine iY IU ?_
 refine bz ?_
 refine cV ?_
 rintro _ H2 ⟨b1,rfl,hS3⟩
 refine ab ?_
 refine aH ?_
 have hL4:=a0.iQ.lk
 refine jy a0.iQ ?_
 refine aG ?_
 have hNk5:=a0.iQ.lk
 refine iL a0.iQ.l.length (λk5 e h=>∃ l6:List (iz×iz),∃ H7:aT,((∀ y∈(l6:List (iz×iz)),0<=y.2.elem/\y.2.elem<(a0.elems.l.length:Int)))/\(∀ x:iz,look x l6=lj (a0.iQ.l.take k5) x)/\(∀ (i:Nat) (h:i<a0.iQ.l.length),i<k5->lj (a0.iQ.l.take i) (a0.iQ.l[i]).a=none/\lj (a0.iQ.l.take i) (a0.iQ.l[i]).b=none/\(a0.iQ.l[i]).a≠(a0.iQ.l[i]).b)/\(∀ (i:Nat) (h:i<a0.iQ.l.length),i<k5->uq a0 (a0.iQ.l[i]).a/\uq a0 (a0.iQ.l[i]).b)/\Sep H7 (lO b1 pK pK l6::[])/\At [1,4,17,18,19] [.la 1 0,(.hm b1),jA a0.iQ,cb a0.iQ.l.length,cb k5] H7 [(1,(bY.af a0))] e h) ?_ (k0:=0) du ⟨([]),H2,eH,(by (intro x; rfl)),ee,ee,hS3,atR⟩
 rintro k5 e h hkk5 ⟨l6,H7,hV,hD,hJ,hJv,hS8,hA⟩
 refine aF ?_
 refine iX (λh9=>?_) (λh9=>?_)
 refine ak ?_
 refine wz [.la 1 0,(.hm b1),jA a0.iQ,cb a0.iQ.l.length,cb k5] H7 [(1,(bY.af a0))] ?_
 refine bc ?_
 have hx10:k5<a0.iQ.l.length:=by omega
 refine kM k5 a0.iQ hx10 ?_
 generalize hqx11:a0.iQ.l[k5]=x11
 refine aS ?_
 refine ap ?_
 refine mB (H:=H7) (i:=0) (ek:=pK) (ev:=pK) (l:=l6) x11.a rfl rfl hS8 rfl rfl rfl rfl rfl rfl rfl rfl lq (λy12 h13=>?_) (λh14=>?_)
 have hvy12:0<=y12.elem/\y12.elem<(a0.elems.l.length:Int):=hV _ (od h13)
 refine az ?_
 refine ap ?_
 refine mB (H:=H7) (i:=0) (ek:=pK) (ev:=pK) (l:=l6) x11.b rfl rfl hS8 rfl rfl rfl rfl rfl rfl rfl rfl lq (λy15 h16=>?_) (λh17=>?_)
 have hvy15:0<=y15.elem/\y15.elem<(a0.elems.l.length:Int):=hV _ (od h16)
 refine az ?_
 refine aH ?_
 refine oS ?_
 refine bE ?_
 refine bE ?_
 refine bE ?_
 refine bS ?_
 refine xG (.inr (⟨zT,rfl⟩))
 refine az ?_
 refine aH ?_
 refine oS ?_
 refine bE ?_
 refine bE ?_
 refine bE ?_
 refine bS ?_
 refine xG (.inr (⟨zT,rfl⟩))
 refine az ?_
 refine ap ?_
 refine mB (H:=H7) (i:=0) (ek:=pK) (ev:=pK) (l:=l6) x11.b rfl rfl hS8 rfl rfl rfl rfl rfl rfl rfl rfl lq (λy18 h19=>?_) (λh20=>?_)
 have hvy18:0<=y18.elem/\y18.elem<(a0.elems.l.length:Int):=hV _ (od h19)
 refine az ?_
 refine aV ?_
 refine bE ?_
 refine bE ?_
 refine bE ?_
 refine bS ?_
 refine xG (.inr (⟨zT,rfl⟩))
 refine ct ?_
 iterate 8 refine oV ?_
 refine oJ rfl (λ_=>rG rfl rfl rfl (λ_ _=>rfl)) (λh21=>?_) (λh21=>?_)
 refine bE ?_
 refine bE ?_
 refine bS ?_
 refine xG (.inr (⟨zT,rfl⟩))
 refine bU ?_
 refine oC (t256 a0 x11.a) ?_
 rintro _ ⟨r23,hc22,rfl⟩
 cases r23
 clear hc22
 refine oV ?_
 refine bE ?_
 refine bS ?_
 refine xG (.inr (⟨zT,rfl⟩))
 have hc22t:=hc22 rfl
 have hVp:=hc22t.2
 refine cX ?_
 refine oC (t256 a0 x11.b) ?_
 rintro _ ⟨r25,hc24,rfl⟩
 cases r25
 clear hc24
 refine oV ?_
 refine bS ?_
 refine xG (.inr (⟨zT,rfl⟩))
 have hc24t:=hc24 rfl
 have hVp:=hc24t.2
 refine bV ?_
 refine wz [.la 1 0,(.hm b1),.la 6 0,jA a0.iQ,cb a0.iQ.l.length,cb k5] H7 [(1,(bY.af a0)),(6,(jX.af x11))] ?_
 refine qd ?_
 iterate 10 refine rV ?_
 refine ra rfl rfl (nV (i:=0) (ek:=pK) (ev:=pK) (l:=l6) x11.a x11.b hS8 rfl rfl rfl rfl rfl rfl lq) ?_
 rintro _ H26 ⟨rfl,hS27⟩
 refine ⟨λcall=>(AH (mc rfl rfl rfl rfl rfl eG) (xe (mc rfl rfl rfl rfl rfl eG))),?_⟩
 refine lR rfl rfl (nV (i:=0) (ek:=pK) (ev:=pK) (l:=(put x11.a x11.b l6)) x11.b x11.a hS27 rfl rfl rfl rfl rfl rfl lq) ?_
 rintro _ H28 ⟨rfl,hS29⟩
 refine rN ?_
 refine wz [.la 1 0,(.hm b1),jA a0.iQ,cb a0.iQ.l.length,cb k5] H28 [(1,(bY.af a0))] ?_
 refine qg ?_
 refine jd ?_
 refine ab ?_
 exact ⟨by omega,((put x11.b x11.a (put x11.a x11.b l6))),H28,(by exact rk (P:=λy:iz=>0<=y.elem/\y.elem<(a0.elems.l.length:Int)) (rk (P:=λy:iz=>0<=y.elem/\y.elem<(a0.elems.l.length:Int)) hV du) du),(by exact Aj dl dl hD dl dl dl),(by exact FW dl dl hD hJ dl dl dl),(by exact nI (P:=λj:jX=>uq a0 j.a/\uq a0 j.b) dl hJv ⟨by assumption,by assumption⟩),hS29,atR⟩
 refine ai ?_
 refine wz [.la 1 0,(.hm b1)] H7 [(1,(bY.af a0))] ?_
 refine aH ?_
 have hL30:=a0.elems.lk
 refine db ?_
 have hNk31:=a0.elems.lk
 refine iL a0.elems.l.length (λmE e h=>At [1,4,74,75,76] [.la 1 0,(.hm b1),jw a0.elems,cb a0.elems.l.length,cb mE] H7 [(1,(bY.af a0))] e h) ?_ (k0:=0) du atR
 rintro mE e h hkk31 hA
 refine aF ?_
 refine iX (λh32=>?_) (λh32=>?_)
 refine ak ?_
 refine wz [.la 1 0,(.hm b1),jw a0.elems,cb a0.elems.l.length,cb mE] H7 [(1,(bY.af a0))] ?_
 refine bQ ?_
 have hx33:mE<a0.elems.l.length:=by omega
 refine kM mE a0.elems hx33 ?_
 generalize hqx34:a0.elems.l[mE]=x34
 refine bW ?_
 refine aH ?_
 refine lg (λh35=>?_) (λh35=>?_)
 refine au ?_
 refine qe ?_
 refine cB ?_
 refine jd ?_
 refine ab ?_
 exact gf
 refine aB ?_
 refine wz [.la 1 0,(.hm b1),cb mE,jw a0.elems,cb a0.elems.l.length,cb mE] H7 [(1,(bY.af a0))] ?_
 refine ap ?_
 refine mB (H:=H7) (i:=0) (ek:=pK) (ev:=pK) (l:=l6) ((⟨((mE:Int)),0⟩:iz)) rfl rfl hS8 rfl rfl rfl rfl rfl rfl rfl rfl lq (λy36 h37=>?_) (λh38=>?_)
 have hvy36:0<=y36.elem/\y36.elem<(a0.elems.l.length:Int):=hV _ (od h37)
 refine cG ?_
 iterate 7 refine oV ?_
 have hx39:(y36.elem).toNat<a0.elems.l.length:=by omega
 refine iI rfl (λ_=>jo (n:=y36.elem) (r:=a0.elems) (enc:=jZ.af) rfl rfl rfl rfl rfl du hx39 rfl) ?_
 generalize hqx40:a0.elems.l[(y36.elem).toNat]=x40
 refine am ?_
 refine jG (λh41=>?_) (λh41=>?_)
 refine bS ?_
 refine xG (.inr (⟨zT,rfl⟩))
 refine aq ?_
 refine cB ?_
 refine jd ?_
 refine ab ?_
 exact gf
 refine az ?_
 refine ap ?_
 refine cr ?_
 refine bS ?_
 refine xG (.inr (⟨zT,rfl⟩))
 refine ai ?_
 refine wz [(.hm b1)] H7 [] ?_
 refine a6 ?_
 have hz42:∀ m,freeze false { H7 with iq:=[] } (m+3) (.hm b1)=some (.fm (jO pK pK l6) false):=λm=>uE (i:=0) hS8 rfl _ _ (wu λ_=>rfl)
 refine ⟨.je [(.hm b1),.bool true],rfl,.je [.fm (jO pK pK l6) false,.bool true],(show freeze false { H7 with iq:=[] } 8 (.je [(.hm b1),.bool true])=some (.je [.fm (jO pK pK l6) false,.bool true]) by simp only [FZ,hz42]),.inl ⟨l6,(by exact ⟨⟨hV,λi h=>hJ i h du⟩,XQ hJv du⟩),rfl⟩⟩
def aeP (_a0:bY) (_a1:List (iz×iz)) (v:AV):Prop:=∃ r0:Bool,((r0=true->(∀ s∈_a0.signals.l,0<=s.at_.elem/\s.at_.elem<(_a0.elems.l.length:Int)/\0<=s.at_.en)/\za _a0.signals.l))/\v=.bool r0
def t169 (a0:bY) (a1:List (iz×iz)) (q1:(∀ y∈(a1:List (iz×iz)),0<=y.2.elem/\y.2.elem<(a0.elems.l.length:Int))):Ct 169 [.agg (bY.af a0),.fm (jO pK pK a1) false] (aeP a0 a1):=by
 refine iY HN ?_
 refine aN ?_
 refine cV ?_
 rintro _ H2 ⟨b1,rfl,hS3⟩
 refine ab ?_
 refine aH ?_
 have hL4:=a0.signals.lk
 refine cT ?_
 have hNk5:=a0.signals.lk
 refine iL a0.signals.l.length (λk5 e h=>∃ l6:List (iz×Bool),∃ H7:aT,(∀ (i:Nat) (h:i<a0.signals.l.length),i<k5->0<=(a0.signals.l[i]).at_.elem/\(a0.signals.l[i]).at_.elem<(a0.elems.l.length:Int)/\0<=(a0.signals.l[i]).at_.en)/\(∀ x:iz,(∃ y,y∈a0.signals.l.take k5/\y.at_=x)->look x l6=some true)/\(∀ (i:Nat) (h:i<a0.signals.l.length),i<k5->∀ y∈a0.signals.l.take i,y.at_≠(a0.signals.l[i]).at_)/\(∀ y∈(l6:List (iz×Bool)),y.2=true)/\Sep H7 (lO b1 pK bK l6::[])/\At [1,2,5,15,16,17] [.fm (jO pK pK a1) false,.la 2 0,(.hm b1),jB a0.signals,cb a0.signals.l.length,cb k5] H7 [(2,(bY.af a0))] e h) ?_ (k0:=0) du ⟨([]),H2,ee,(by (rintro x ⟨y,h,_⟩; simp at h)),ee,eH,hS3,atR⟩
 rintro k5 e h hkk5 ⟨l6,H7,hV,hD,hJ,hT,hS8,hA⟩
 refine aF ?_
 refine iX (λh9=>?_) (λh9=>?_)
 refine ak ?_
 refine wz [.fm (jO pK pK a1) false,.la 2 0,(.hm b1),jB a0.signals,cb a0.signals.l.length,cb k5] H7 [(2,(bY.af a0))] ?_
 refine bc ?_
 have hx10:k5<a0.signals.l.length:=by omega
 refine kM k5 a0.signals hx10 ?_
 generalize hqx11:a0.signals.l[k5]=x11
 refine aS ?_
 refine aV ?_
 refine oC (t256 a0 x11.at_) ?_
 rintro _ ⟨r13,hc12,rfl⟩
 cases r13
 clear hc12
 refine bM ?_
 exact gp
 have hc12t:=hc12 rfl
 have hVp:=hc12t.2
 refine bU ?_
 refine mB (H:=H7) (i:=0) (ek:=pK) (ev:=bK) (l:=l6) x11.at_ rfl rfl hS8 rfl rfl rfl rfl rfl rfl rfl rfl lq (λy14 h15=>?_) (λh16=>?_)
 cases y14
 exact absurd (hT _ (od h15)) eH
 refine ac ?_
 exact gp
 refine aW ?_
 refine cC ?_
 refine bU ?_
 have hx17:(x11.at_.elem).toNat<a0.elems.l.length:=by omega
 refine iI rfl (λ_=>jo (n:=x11.at_.elem) (r:=a0.elems) (enc:=jZ.af) rfl rfl rfl rfl rfl du hx17 rfl) ?_
 generalize hqx18:a0.elems.l[(x11.at_.elem).toNat]=x18
 refine aS ?_
 refine aj ?_
 refine lg (λh19=>?_) (λh19=>?_)
 refine am ?_
 refine lg (λh20=>?_) (λh20=>?_)
 refine ac ?_
 exact gp
 refine aW ?_
 refine ap ?_
 refine sj (key:=x11.at_) (l:=a1) (ek:=pK) (ev:=pK) rfl rfl rfl rfl rfl rfl rfl rfl rfl lq (λy21 h22=>?_) (λh23=>?_)
 have hvy21:0<=y21.elem/\y21.elem<(a0.elems.l.length:Int):=q1 _ (od h22)
 refine ct ?_
 refine cX ?_
 have hx24:(y21.elem).toNat<a0.elems.l.length:=by omega
 refine iI rfl (λ_=>jo (n:=y21.elem) (r:=a0.elems) (enc:=jZ.af) rfl rfl rfl rfl rfl du hx24 rfl) ?_
 generalize hqx25:a0.elems.l[(y21.elem).toNat]=x25
 refine am ?_
 refine jG (λh26=>?_) (λh26=>?_)
 refine ac ?_
 exact gp
 refine aW ?_
 refine cL ?_
 rintro _ H27 ⟨rfl,hS28⟩
 refine oN ?_
 refine wz [.fm (jO pK pK a1) false,.la 2 0,(.hm b1),jB a0.signals,cb a0.signals.l.length,cb k5] H27 [(2,(bY.af a0))] ?_
 refine qg ?_
 refine jd ?_
 refine ab ?_
 exact ⟨by omega,((put x11.at_ true l6)),H27,(by exact Da dl hV du),(by exact Du dl dl hD),(by exact C8 dl dl hD hJ dl),fZ,hS28,atR⟩
 refine az ?_
 refine aV ?_
 refine cr ?_
 refine ac ?_
 exact gp
 refine bj ?_
 refine aW ?_
 refine ap ?_
 refine sj (key:=x11.at_) (l:=a1) (ek:=pK) (ev:=pK) rfl rfl rfl rfl rfl rfl rfl rfl rfl lq (λy29 h30=>?_) (λh31=>?_)
 have hvy29:0<=y29.elem/\y29.elem<(a0.elems.l.length:Int):=q1 _ (od h30)
 refine ct ?_
 refine cX ?_
 have hx32:(y29.elem).toNat<a0.elems.l.length:=by omega
 refine iI rfl (λ_=>jo (n:=y29.elem) (r:=a0.elems) (enc:=jZ.af) rfl rfl rfl rfl rfl du hx32 rfl) ?_
 generalize hqx33:a0.elems.l[(y29.elem).toNat]=x33
 refine am ?_
 refine jG (λh34=>?_) (λh34=>?_)
 refine ac ?_
 exact gp
 refine aW ?_
 refine cL ?_
 rintro _ H35 ⟨rfl,hS36⟩
 refine oN ?_
 refine wz [.fm (jO pK pK a1) false,.la 2 0,(.hm b1),jB a0.signals,cb a0.signals.l.length,cb k5] H35 [(2,(bY.af a0))] ?_
 refine qg ?_
 refine jd ?_
 refine ab ?_
 exact ⟨by omega,((put x11.at_ true l6)),H35,(by exact Da dl hV du),(by exact Du dl dl hD),(by exact C8 dl dl hD hJ dl),fZ,hS36,atR⟩
 refine az ?_
 refine aV ?_
 refine cr ?_
 refine ac ?_
 exact gp
 refine ai ?_
 refine wz [.la 2 0,(.hm b1)] H7 [(2,(bY.af a0))] ?_
 refine aH ?_
 have hL37:=a0.elems.lk
 refine db ?_
 have hNk38:=a0.elems.lk
 refine iL a0.elems.l.length (λsd e h=>At [5,70,71,72] [(.hm b1),jw a0.elems,cb a0.elems.l.length,cb sd] H7 [] e h) ?_ (k0:=0) du atR
 rintro sd e h hkk38 hA
 refine aF ?_
 refine iX (λh39=>?_) (λh39=>?_)
 refine ak ?_
 refine wz [(.hm b1),jw a0.elems,cb a0.elems.l.length,cb sd] H7 [] ?_
 refine bQ ?_
 have hx40:sd<a0.elems.l.length:=by omega
 refine kM sd a0.elems hx40 ?_
 generalize hqx41:a0.elems.l[sd]=x41
 refine oV ?_
 refine cN ?_
 refine jG (λh42=>?_) (λh42=>?_)
 refine aQ ?_
 refine mB (H:=H7) (i:=0) (ek:=pK) (ev:=bK) (l:=l6) ((⟨((sd:Int)),0⟩:iz)) rfl rfl hS8 rfl rfl rfl rfl rfl rfl rfl rfl lq (λy43 h44=>?_) (λh45=>?_)
 cases y43
 exact absurd (hT _ (od h44)) eH
 refine bV ?_
 refine cW ?_
 refine jd ?_
 refine ab ?_
 exact gf
 refine bf ?_
 exact gp
 refine a8 ?_
 refine aq ?_
 refine cW ?_
 refine jd ?_
 refine ab ?_
 exact gf
 refine ai ?_
 refine wz [] H7 [] ?_
 refine aA ?_
 exact xB ⟨true,dX,rfl⟩
def agF (_a0:Row Int) (_a1:List (iz×iz)) (v:AV):Prop:=∃ r0:Bool,(True)/\v=.bool r0
def t257 (a0:Row Int) (a1:List (iz×iz)) :Ct 257 [j3 a0,.fm (jO pK pK a1) false] (agF a0 a1):=by
 refine iY I3 ?_
 refine bo ?_
 have hL1:=a0.lk
 refine jy a0 ?_
 refine iX (λh2=>?_) (λh2=>?_)
 refine be ?_
 exact gh
 refine aB ?_
 refine ah ?_
 refine aK ?_
 refine mw (λm7 e h=>∃ n3:Int,∃ n4:Int,m7=(n4+1).toNat/\(-1<=n4)/\(n4<=1)/\At [0,1,5,6] [j3 a0,.fm (jO pK pK a1) false,iv n3,iv n4] aT.empty [] e h) ?_ _ _ _ ⟨(-1),1,rfl,du,du,atR⟩
 rintro m7 e h ⟨n3,n4,hmm7,hi5,hi6,hA⟩
 refine c9 ?_
 refine lI (λh8=>?_) (λh8=>?_)
 refine aY ?_
 refine ae ?_
 have hx9:0<a0.l.length:=by omega
 refine kM 0 a0 hx9 ?_
 generalize hqx10:a0.l[0]=x10
 refine aC ?_
 refine sj (key:=(⟨x10,n4⟩:iz)) (l:=a1) (ek:=pK) (ev:=pK) rfl rfl rfl rfl rfl rfl rfl rfl rfl lq (λy11 h12=>?_) (λh13=>?_)
 refine az ?_
 refine cU ?_
 have hx14:1<a0.l.length:=by omega
 refine pM 1 a0 hx14 ?_
 generalize hqx15:a0.l[1]=x15
 refine rV ?_
 refine CU (λh16=>?_) (λh16=>?_)
 refine bm ?_
 refine qg ?_
 refine bb ?_
 refine aI ?_
 refine oP ?_
 refine ab ?_
 refine ⟨_,?_,n4,(n4 - 1),rfl,du,du,atR⟩
 omega
 refine bh ?_
 refine aI ?_
 refine oP ?_
 refine ab ?_
 refine ⟨_,?_,n3,(n4 - 1),rfl,du,du,atR⟩
 omega
 refine az ?_
 refine aL ?_
 refine ce ?_
 refine bh ?_
 refine aI ?_
 refine oP ?_
 refine ab ?_
 refine ⟨_,?_,n3,(n4 - 1),rfl,du,du,atR⟩
 omega
 refine aD ?_
 refine ao ?_
 refine iX (λh17=>?_) (λh17=>?_)
 refine be ?_
 exact ge
 refine aB ?_
 refine aK ?_
 have hNk18:=a0.lk
 refine iL a0.l.length (λrA e h=>∃ n19:Int,(1<=rA)/\At [0,1,5,9] [j3 a0,.fm (jO pK pK a1) false,iv n19,cb rA] aT.empty [] e h) ?_ (k0:=1) du ⟨n3,du,atR⟩
 rintro rA e h hkk18 ⟨n19,hw20,hA⟩
 refine cE ?_
 have hL21:=a0.lk
 refine jy a0 ?_
 refine iX (λh22=>?_) (λh22=>?_)
 refine aY ?_
 refine ap ?_
 refine oP ?_
 have hx23:((rA:Int) - 1).toNat<a0.l.length:=by omega
 refine iI rfl (λ_=>jo (n:=(rA:Int) - 1) (r:=a0) (enc:=jL) rfl rfl rfl rfl rfl du hx23 rfl) ?_
 generalize hqx24:a0.l[((rA:Int) - 1).toNat]=x24
 refine aC ?_
 refine sj (key:=(⟨x24,n19⟩:iz)) (l:=a1) (ek:=pK) (ev:=pK) rfl rfl rfl rfl rfl rfl rfl rfl rfl lq (λy25 h26=>?_) (λh27=>?_)
 refine az ?_
 refine qs ?_
 refine cM ?_
 refine cZ ?_
 have hx28:rA<a0.l.length:=by omega
 refine pM rA a0 hx28 ?_
 generalize hqx29:a0.l[rA]=x29
 refine rV ?_
 refine Aw (λh30=>?_) (λh30=>?_)
 refine bm ?_
 refine aA ?_
 exact ge
 refine bh ?_
 refine qg ?_
 refine am ?_
 refine iI rfl (λ_=>kj rfl rfl rfl (pb .i64 1 y25.en)) ?_
 refine ab ?_
 refine aI ?_
 refine jd ?_
 refine ab ?_
 exact ⟨by omega,(IntKind.i64.wrap (1 - y25.en)),du,atR⟩
 refine az ?_
 refine qs ?_
 refine ck ?_
 refine cR ?_
 refine bm ?_
 refine aA ?_
 exact ge
 refine aD ?_
 refine aA ?_
 exact gh
def agE (_a0:bY) (_a1:List (iz×iz)) (v:AV):Prop:=∃ r0:Bool,((r0=true->JD _a0))/\v=.bool r0
def t170 (a0:bY) (a1:List (iz×iz)) :Ct 170 [.agg (bY.af a0),.fm (jO pK pK a1) false] (agE a0 a1):=by
 refine iY Ik ?_
 refine aN ?_
 refine cV ?_
 rintro _ H2 ⟨b1,rfl,hS3⟩
 refine ab ?_
 refine aH ?_
 have hL4:=a0.lines.lk
 refine jy a0.lines ?_
 refine aG ?_
 have hNk5:=a0.lines.lk
 refine iL a0.lines.l.length (λk5 e h=>∃ l6:List (Int×Bool),∃ H7:aT,(wI a0 k5 0 l6)/\Sep H7 (lO b1 iK bK l6::[])/\At [1,2,5,12,13,14] [.fm (jO pK pK a1) false,.la 2 0,(.hm b1),jr a0.lines,cb a0.lines.l.length,cb k5] H7 [(2,(bY.af a0))] e h) ?_ (k0:=0) du ⟨([]),H2,(by exact wI.zero),hS3,atR⟩
 rintro k5 e h hkk5 ⟨l6,H7,hLn,hS8,hA⟩
 refine aF ?_
 refine iX (λh9=>?_) (λh9=>?_)
 refine ak ?_
 refine wz [.fm (jO pK pK a1) false,.la 2 0,(.hm b1),jr a0.lines,cb a0.lines.l.length,cb k5] H7 [(2,(bY.af a0))] ?_
 refine bc ?_
 have hx10:k5<a0.lines.l.length:=by omega
 refine kM k5 a0.lines hx10 ?_
 generalize hqx11:a0.lines.l[k5]=x11
 refine aS ?_
 refine aH ?_
 have hL12:=x11.elems.lk
 refine jy x11.elems ?_
 refine jG (λh13=>?_) (λh13=>?_)
 refine be ?_
 exact gq
 refine aB ?_
 refine wz [.fm (jO pK pK a1) false,.la 2 0,(.hm b1),.la 7 0,jr a0.lines,cb a0.lines.l.length,cb k5] H7 [(2,(bY.af a0)),(7,(ju.af x11))] ?_
 refine aH ?_
 have hL14:=x11.elems.lk
 refine jy x11.elems ?_
 refine aG ?_
 have hNk15:=x11.elems.lk
 refine iL x11.elems.l.length (λqw e h=>∃ l16:List (Int×Bool),∃ H17:aT,(wI a0 k5 qw l16)/\Sep H17 (lO b1 iK bK l16::[])/\At [1,2,5,7,12,13,14,23,24,25] [.fm (jO pK pK a1) false,.la 2 0,(.hm b1),.la 7 0,jr a0.lines,cb a0.lines.l.length,cb k5,j3 x11.elems,cb x11.elems.l.length,cb qw] H17 [(2,(bY.af a0)),(7,(ju.af x11))] e h) ?_ (k0:=0) du ⟨l6,H7,(by exact hLn),hS8,atR⟩
 rintro qw e h hkk15 ⟨l16,H17,hLn2,hS18,hA⟩
 refine aF ?_
 refine iX (λh19=>?_) (λh19=>?_)
 refine ak ?_
 refine wz [.fm (jO pK pK a1) false,.la 2 0,(.hm b1),.la 7 0,jr a0.lines,cb a0.lines.l.length,cb k5,j3 x11.elems,cb x11.elems.l.length,cb qw] H17 [(2,(bY.af a0)),(7,(ju.af x11))] ?_
 refine bc ?_
 have hx20:qw<x11.elems.l.length:=by omega
 refine kM qw x11.elems hx20 ?_
 generalize hqx21:x11.elems.l[qw]=x21
 refine bb ?_
 refine ao ?_
 refine iX (λh22=>?_) (λh22=>?_)
 refine a8 ?_
 refine am ?_
 iterate 7 refine oS ?_
 refine cF ?_
 refine ac ?_
 exact gq
 refine aQ ?_
 have hL23:=a0.elems.lk
 refine jy a0.elems ?_
 refine lI (λh24=>?_) (λh24=>?_)
 refine am ?_
 iterate 7 refine oS ?_
 refine cF ?_
 refine ac ?_
 exact gq
 refine bU ?_
 have hx25:(x21).toNat<a0.elems.l.length:=by omega
 refine iI rfl (λ_=>jo (n:=x21) (r:=a0.elems) (enc:=jZ.af) rfl rfl rfl rfl rfl du hx25 rfl) ?_
 generalize hqx26:a0.elems.l[(x21).toNat]=x26
 refine am ?_
 refine lg (λh27=>?_) (λh27=>?_)
 refine cF ?_
 refine ac ?_
 exact gq
 refine aQ ?_
 refine mB (H:=H17) (i:=0) (ek:=iK) (ev:=bK) (l:=l16) x21 rfl rfl hS18 rfl rfl rfl rfl rfl rfl rfl rfl qW (λy28 h29=>?_) (λh30=>?_)
 cases y28
 refine aq ?_
 refine bu ?_
 rintro _ H31 ⟨rfl,hS32⟩
 refine oN ?_
 refine wz [.fm (jO pK pK a1) false,.la 2 0,(.hm b1),.la 7 0,jr a0.lines,cb a0.lines.l.length,cb k5,j3 x11.elems,cb x11.elems.l.length,cb qw] H31 [(2,(bY.af a0)),(7,(ju.af x11))] ?_
 refine qg ?_
 refine jd ?_
 refine ab ?_
 exact ⟨by omega,((put x21 true l16)),H31,fT,hS32,atR⟩
 refine ac ?_
 exact gq
 refine aq ?_
 refine bu ?_
 rintro _ H33 ⟨rfl,hS34⟩
 refine oN ?_
 refine wz [.fm (jO pK pK a1) false,.la 2 0,(.hm b1),.la 7 0,jr a0.lines,cb a0.lines.l.length,cb k5,j3 x11.elems,cb x11.elems.l.length,cb qw] H33 [(2,(bY.af a0)),(7,(ju.af x11))] ?_
 refine qg ?_
 refine jd ?_
 refine ab ?_
 exact ⟨by omega,((put x21 true l16)),H33,fT,hS34,atR⟩
 refine ai ?_
 refine wz [.fm (jO pK pK a1) false,.la 2 0,(.hm b1),.la 7 0,jr a0.lines,cb a0.lines.l.length,cb k5] H17 [(2,(bY.af a0)),(7,(ju.af x11))] ?_
 refine ap ?_
 refine oC (t257 x11.elems a1) ?_
 rintro _ ⟨r36,hc35,rfl⟩
 cases r36
 refine ac ?_
 exact gq
 refine aq ?_
 refine wz [.fm (jO pK pK a1) false,.la 2 0,(.hm b1),jr a0.lines,cb a0.lines.l.length,cb k5] H17 [(2,(bY.af a0))] ?_
 refine qg ?_
 refine jd ?_
 refine ab ?_
 exact ⟨by omega,l16,H17,(by exact hLn2.next dl du),hS18,atR⟩
 refine ai ?_
 refine wz [] H7 [] ?_
 refine aA ?_
 exact xB ⟨true,eB,rfl⟩
def afM (_a0:Int) (_a1:Int) (v:AV):Prop:=∃ r0:Int,(True)/\v=iv r0
def t258 (a0:Int) (a1:Int) :Ct 258 [iv a0,iv a1] (afM a0 a1):=by
 refine iY IM ?_
 refine bo ?_
 refine iX (λh1=>?_) (λh1=>?_)
 refine bj ?_
 refine aU ?_
 refine aU ?_
 refine ac ?_
 exact gy
 refine am ?_
 refine ki (λh2=>?_) (λh2=>?_)
 refine aU ?_
 refine aU ?_
 refine ac ?_
 exact gy
 refine aC ?_
 refine iX (λh3=>?_) (λh3=>?_)
 refine aU ?_
 refine ac ?_
 exact gy
 refine aC ?_
 refine ki (λh4=>?_) (λh4=>?_)
 refine ac ?_
 exact gy
 refine aq ?_
 refine ah ?_
 refine aH ?_
 refine oP ?_
 refine aG ?_
 refine mw (λm9 e h=>∃ n5:Int,∃ n6:Int,m9=(n5+10).toNat/\(-10<=n5)/\(n5<=60)/\At [0,1,5] [iv n5,iv a1,iv n6] aT.empty [] e h) ?_ _ _ _ ⟨(a0 - a1),0,rfl,du,du,atR⟩
 rintro m9 e h ⟨n5,n6,hmm9,hi7,hi8,hA⟩
 refine c9 ?_
 refine ki (λh10=>?_) (λh10=>?_)
 refine aY ?_
 refine cA ?_
 refine oP ?_
 refine ab ?_
 refine ⟨_,?_,(n5 - a1),(IntKind.i64.wrap (n6+(n5))),rfl,du,du,atR⟩
 omega
 refine aD ?_
 refine aO ?_
 exact xB ⟨n6,zt⟩
def agB (_a0:bY) (v:AV):Prop:=∃ r0:Bool,(True)/\v=.bool r0
def t171 (a0:bY) (q1:(∀ s∈a0.signals.l,0<=s.at_.elem/\s.at_.elem<(a0.elems.l.length:Int)/\0<=s.at_.en)):Ct 171 [.agg (bY.af a0)] (agB a0):=by
 refine iY Ia ?_
 refine aN ?_
 refine qs ?_
 refine bG ?_
 refine cZ ?_
 refine rC (t258 a0.top a0.jT) ?_
 rintro _ ⟨r2,hc1,rfl⟩
 refine iU rfl rfl (λ_=>kj rfl rfl rfl (uR .i64 a0.top r2)) ?_
 refine rr (λh3=>?_) (λh3=>?_)
 refine bL ?_
 refine aA ?_
 exact ge
 refine bO ?_
 refine aH ?_
 have hL4:=a0.signals.lk
 refine cT ?_
 have hNk5:=a0.signals.lk
 refine iL a0.signals.l.length (λk5 e h=>At [1,20,21,22] [.la 1 0,jB a0.signals,cb a0.signals.l.length,cb k5] aT.empty [(1,(bY.af a0))] e h) ?_ (k0:=0) du atR
 rintro k5 e h hkk5 hA
 refine aF ?_
 refine iX (λh6=>?_) (λh6=>?_)
 refine ak ?_
 refine bc ?_
 have hx7:k5<a0.signals.l.length:=by omega
 refine kM k5 a0.signals hx7 ?_
 generalize hqx8:a0.signals.l[k5]=x8
 have hinx8:x8∈a0.signals.l:=by rw [<- hqx8]; exact List.getElem_mem _
 have hsx8:=q1 x8 hinx8
 refine cN ?_
 refine aC ?_
 have hx9:(x8.at_.elem).toNat<a0.elems.l.length:=by omega
 refine iI rfl (λ_=>jo (n:=x8.at_.elem) (r:=a0.elems) (enc:=jZ.af) rfl rfl rfl rfl rfl du hx9 rfl) ?_
 generalize hqx10:a0.elems.l[(x8.at_.elem).toNat]=x10
 refine cN ?_
 refine jG (λh11=>?_) (λh11=>?_)
 refine bU ?_
 refine iX (λh12=>?_) (λh12=>?_)
 refine ac ?_
 exact ge
 refine oV ?_
 refine cq ?_
 refine jd ?_
 refine ab ?_
 exact gf
 refine a8 ?_
 refine oV ?_
 refine cq ?_
 refine jd ?_
 refine ab ?_
 exact gf
 refine ai ?_
 refine aH ?_
 have hL13:=a0.elems.lk
 refine db ?_
 have hNk14:=a0.elems.lk
 refine iL a0.elems.l.length (λot e h=>At [1,45,46,47] [.la 1 0,jw a0.elems,cb a0.elems.l.length,cb ot] aT.empty [(1,(bY.af a0))] e h) ?_ (k0:=0) du atR
 rintro ot e h hkk14 hA
 refine aF ?_
 refine iX (λh15=>?_) (λh15=>?_)
 refine ak ?_
 refine bc ?_
 have hx16:ot<a0.elems.l.length:=by omega
 refine kM ot a0.elems hx16 ?_
 generalize hqx17:a0.elems.l[ot]=x17
 refine cN ?_
 refine lg (λh18=>?_) (λh18=>?_)
 refine bU ?_
 refine iX (λh19=>?_) (λh19=>?_)
 refine ac ?_
 exact ge
 refine oV ?_
 refine cq ?_
 refine jd ?_
 refine ab ?_
 exact gf
 refine a8 ?_
 refine oV ?_
 refine cq ?_
 refine jd ?_
 refine ab ?_
 exact gf
 refine cQ ?_
 exact gh
def P81 (_a0:bY) (v:AV):Prop:=∃ r0:Int,((r0=0->zA _a0.iQ.l/\za _a0.signals.l/\(∀ s∈_a0.signals.l,0<=s.at_.elem/\s.at_.elem<(_a0.elems.l.length:Int)/\0<=s.at_.en)/\_a0.elems.l.length<=40/\_a0.signals.l.length<=24/\_a0.iQ.l.length<=80/\JB _a0))/\v=iv r0
def t81 (a0:bY) :Ct 81 [.agg (bY.af a0)] (P81 a0):=by
 refine iY N6 ?_
 refine b8 ?_
 rintro _ H2 ⟨b1,rfl,hS3⟩
 refine ab ?_
 refine cC ?_
 refine pz 0 hS3 ?_
 refine mH 0 hS3 (jw a0.elems) ?_
 have hL4:=a0.elems.lk
 refine jy a0.elems ?_
 refine ki (λh5=>?_) (λh5=>?_)
 refine bl ?_
 refine aP ?_
 refine bM ?_
 exact ik
 refine oV ?_
 refine pz 0 hS3 ?_
 refine mH 0 hS3 (jB a0.signals) ?_
 have hL6:=a0.signals.lk
 refine jy a0.signals ?_
 refine ki (λh7=>?_) (λh7=>?_)
 refine aP ?_
 refine bM ?_
 exact ik
 refine am ?_
 refine pz 0 hS3 ?_
 refine mH 0 hS3 (jr a0.lines) ?_
 have hL8:=a0.lines.lk
 refine jy a0.lines ?_
 refine ki (λh9=>?_) (λh9=>?_)
 refine bM ?_
 exact ik
 refine am ?_
 refine pz 0 hS3 ?_
 refine mH 0 hS3 (jA a0.iQ) ?_
 have hL10:=a0.iQ.lk
 refine jy a0.iQ ?_
 refine ki (λh11=>?_) (λh11=>?_)
 refine ac ?_
 exact ik
 refine aq ?_
 refine wz [(iV b1)] H2 [] ?_
 refine cC ?_
 refine mH 0 hS3 (.agg (bY.af a0)) ?_
 refine oC (t163 a0) ?_
 rintro _ ⟨r13,hc12,rfl⟩
 have hKdp:=hc12
 cases r13
 refine ac ?_
 exact xB ⟨1,dr,rfl⟩
 refine aq ?_
 refine wz [(iV b1)] H2 [] ?_
 refine cC ?_
 refine pz 0 hS3 ?_
 refine mH 0 hS3 (jw a0.elems) ?_
 have hL14:=a0.elems.lk
 refine jy a0.elems ?_
 refine iI rfl (λ_=>w4 rfl rfl (xI rfl rfl)) ?_
 have hS15:=Sep.pick hS3 [0] 1 dt dt
 refine jQ (H:=H2) (args:=[cb a0.elems.l.length,.jz 165 [] [(iV b1)]]) (p:=[]) (r:=[]) rfl rfl rfl rfl rfl rfl rfl (N2 ((a0.elems.l.length:Int)) b1 a0 ([]) hS15 dj) ?_
 rintro _ H16 ⟨r19,hc18,hS17,rfl⟩
 cases r19
 refine oV ?_
 refine pz 0 hS17 ?_
 refine mH 0 hS17 (jB a0.signals) ?_
 have hL20:=a0.signals.lk
 refine jy a0.signals ?_
 refine iI rfl (λ_=>w4 rfl rfl (xI rfl rfl)) ?_
 have hS21:=Sep.pick hS17 [0] 1 dt dt
 refine jQ (H:=H16) (args:=[cb a0.signals.l.length,.jz 166 [] [(iV b1)]]) (p:=[]) (r:=[]) rfl rfl rfl rfl rfl rfl rfl (M7 ((a0.signals.l.length:Int)) b1 a0 ([]) hS21 dj) ?_
 rintro _ H22 ⟨r25,hc24,hS23,rfl⟩
 cases r25
 refine am ?_
 refine pz 0 hS23 ?_
 refine mH 0 hS23 (jr a0.lines) ?_
 have hL26:=a0.lines.lk
 refine jy a0.lines ?_
 refine iI rfl (λ_=>w4 rfl rfl (xI rfl rfl)) ?_
 have hS27:=Sep.pick hS23 [0] 1 dt dt
 refine jQ (H:=H22) (args:=[cb a0.lines.l.length,.jz 167 [] [(iV b1)]]) (p:=[]) (r:=[]) rfl rfl rfl rfl rfl rfl rfl (My ((a0.lines.l.length:Int)) b1 a0 ([]) hS27 dj) ?_
 rintro _ H28 ⟨r31,hc30,hS29,rfl⟩
 cases r31
 refine aq ?_
 refine wz [(iV b1)] H28 [] ?_
 refine aa ?_
 refine mH 0 hS29 (.agg (bY.af a0)) ?_
 refine oC (t168 a0) ?_
 rintro _ (⟨r33,hc32,rfl⟩ | ⟨hc32,rfl⟩)
 have hPre:=hc32.1.1; have hC148:=hc32.1.2; have hJvp:=hc32.2
 refine bC ?_
 refine aw ?_
 refine ae ?_
 refine ba ?_
 refine mH 0 hS29 (.agg (bY.af a0)) ?_
 refine oV ?_
 refine oC (t169 a0 r33 dj) ?_
 rintro _ ⟨r35,hc34,rfl⟩
 cases r35
 clear hc34
 refine bf ?_
 exact xB ⟨7,dr,rfl⟩
 have hc34t:=hc34 rfl
 have hPre:=hc34t.1; have hD149:=hc34t.2
 refine oV ?_
 refine ba ?_
 refine mH 0 hS29 (.agg (bY.af a0)) ?_
 refine oV ?_
 refine oC (t170 a0 r33) ?_
 rintro _ ⟨r37,hc36,rfl⟩
 have hLnp:=hc36
 cases r37
 refine bf ?_
 exact xB ⟨8,dr,rfl⟩
 refine oV ?_
 refine ba ?_
 refine mH 0 hS29 (.agg (bY.af a0)) ?_
 refine oC (t171 a0 dj) ?_
 rintro _ ⟨r39,hc38,rfl⟩
 cases r39
 refine bf ?_
 exact xB ⟨9,dr,rfl⟩
 refine bV ?_
 refine wz [] H28 [] ?_
 refine aA ?_
 exact xB ⟨0,dr,rfl⟩
 refine bC ?_
 refine bQ ?_
 refine bf ?_
 exact xB ⟨6,dr,rfl⟩
 refine ac ?_
 exact xB ⟨4,dr,rfl⟩
 refine bE ?_
 refine ac ?_
 exact xB ⟨4,dr,rfl⟩
 refine a8 ?_
 refine bE ?_
 refine ac ?_
 exact xB ⟨4,dr,rfl⟩
def XV (_a0:jn jZ) (v:AV):Prop:=∃ r0:Row jZ,((r0.l = _a0.l/\(r0.c=.nil↔_a0.c=.nil)))/\v=jw r0
def adf (a0:jn jZ) (q1:a0.l.length<=1000):G8 172 [jn.av jZ.af a0] (XV a0):=by
 refine wH Ic ?_
 refine bo ?_
 refine kY (b:=a0.isNil) rfl (λ_=>qH rfl rfl rfl rfl) (λh1=>?_) (λh1=>?_)
 refine be ?_
 exact xG ⟨(kF:Row jZ),dA,rfl⟩
 refine aB ?_
 refine ae ?_
 have hS2:=Sep.s8 jW 3
 refine jt rfl (uV (i:=0) (l:=([]:List jZ)) (enc:=jZ.af) a0.l hS2 rfl rfl rfl rfl rfl rfl rfl rfl rfl (λ_=>rfl) (.inl rfl) dy (λ_=>rfl)) ?_
 rintro v3 H4 ⟨hS5,hNN⟩
 refine ag ?_
 obtain ⟨r6,hl7,hnn,hf8⟩:=uU (H:=H4) (i:=0) (l:=(([]:List jZ)++a0.l)) (enc:=jZ.af) hS5 rfl dn
 have hlq:=hl7; have hln10:=congrArg List.length hl7
 have hz9:∀ m,freeze false { H4 with iq:=[] } (m+2) v3=some (jw r6):=λm=>hf8 _ _ (λ_=>rfl)
 exact ⟨v3,(kr (vs:=[v3]) rfl (iN (Sep.arg (i:=0) hS5 rfl) jD)),jw r6,(show freeze false { H4 with iq:=[] } 8 v3=some (jw r6) by simp only [FZ,hz9]),r6,dA,rfl⟩
def YX (_a0:jn jX) (v:AV):Prop:=∃ r0:Row jX,((r0.l = _a0.l/\(r0.c=.nil↔_a0.c=.nil)))/\v=jA r0
def YM (a0:jn jX) (q1:a0.l.length<=1000):G8 173 [jn.av jX.af a0] (YX a0):=by
 refine wH I1 ?_
 refine bo ?_
 refine kY (b:=a0.isNil) rfl (λ_=>qH rfl rfl rfl rfl) (λh1=>?_) (λh1=>?_)
 refine be ?_
 exact xG ⟨(kF:Row jX),dA,rfl⟩
 refine aB ?_
 refine ae ?_
 have hS2:=Sep.s8 jW 4
 refine jt rfl (uV (i:=0) (l:=([]:List jX)) (enc:=jX.af) a0.l hS2 rfl rfl rfl rfl rfl rfl rfl rfl rfl (λ_=>rfl) (.inl rfl) dy (λ_=>rfl)) ?_
 rintro v3 H4 ⟨hS5,hNN⟩
 refine ag ?_
 obtain ⟨r6,hl7,hnn,hf8⟩:=uU (H:=H4) (i:=0) (l:=(([]:List jX)++a0.l)) (enc:=jX.af) hS5 rfl dn
 have hlq:=hl7; have hln10:=congrArg List.length hl7
 have hz9:∀ m,freeze false { H4 with iq:=[] } (m+2) v3=some (jA r6):=λm=>hf8 _ _ (λ_=>rfl)
 exact ⟨v3,(kr (vs:=[v3]) rfl (iN (Sep.arg (i:=0) hS5 rfl) jD)),jA r6,(show freeze false { H4 with iq:=[] } 8 v3=some (jA r6) by simp only [FZ,hz9]),r6,dA,rfl⟩
def aaF (_a0:jn jY) (v:AV):Prop:=∃ r0:Row jY,((r0.l = _a0.l/\(r0.c=.nil↔_a0.c=.nil)))/\v=jB r0
def Zt (a0:jn jY) (q1:a0.l.length<=1000):G8 174 [jn.av jY.af a0] (aaF a0):=by
 refine wH Kc ?_
 refine bo ?_
 refine kY (b:=a0.isNil) rfl (λ_=>qH rfl rfl rfl rfl) (λh1=>?_) (λh1=>?_)
 refine be ?_
 exact xG ⟨(kF:Row jY),dA,rfl⟩
 refine aB ?_
 refine ae ?_
 have hS2:=Sep.s8 jW 4
 refine jt rfl (uV (i:=0) (l:=([]:List jY)) (enc:=jY.af) a0.l hS2 rfl rfl rfl rfl rfl rfl rfl rfl rfl (λ_=>rfl) (.inl rfl) dy (λ_=>rfl)) ?_
 rintro v3 H4 ⟨hS5,hNN⟩
 refine ag ?_
 obtain ⟨r6,hl7,hnn,hf8⟩:=uU (H:=H4) (i:=0) (l:=(([]:List jY)++a0.l)) (enc:=jY.af) hS5 rfl dn
 have hlq:=hl7; have hln10:=congrArg List.length hl7
 have hz9:∀ m,freeze false { H4 with iq:=[] } (m+2) v3=some (jB r6):=λm=>hf8 _ _ (λ_=>rfl)
 exact ⟨v3,(kr (vs:=[v3]) rfl (iN (Sep.arg (i:=0) hS5 rfl) jD)),jB r6,(show freeze false { H4 with iq:=[] } 8 v3=some (jB r6) by simp only [FZ,hz9]),r6,dA,rfl⟩
def aaP {H:aT} (a0:jn ju) (F:List jH) (hS:Sep H F) (q1:a0.l.length<=1000):∃ v H',iZ cfg FT mA true 175 [jn.av ju.af a0] { H with iq:=[] } v H'/\(∃ ov:AV,∃ ol:List ju,(ol=a0.l/\(ov=.sl [] .nil↔a0.c=.nil))/\Sep H' (kW ju.af 2 ov ol::F)/\v=ov):=by
 refine LX Jm ?_
 refine bo ?_
 refine kY (b:=a0.isNil) rfl (λ_=>qH rfl rfl rfl rfl) (λh1=>?_) (λh1=>?_)
 refine be ?_
 have hS2:=Sep.lX hS 2
 have hS3:=Sep.pick hS2 [0] 1 dt dt
 exact ⟨iJ,rfl,iJ,([]:List ju),eQ,Sep.iq hS3 _,rfl⟩
 refine aB ?_
 refine wz [jn.av ju.af a0] H [] ?_
 refine ae ?_
 have hS4:=Sep.s8 hS 2
 refine jt rfl (uV (i:=0) (l:=([]:List ju)) (enc:=ju.af) a0.l hS4 rfl rfl rfl rfl rfl rfl rfl rfl rfl (λ_=>rfl) (.inl rfl) dy (λ_=>rfl)) ?_
 rintro v5 H6 ⟨hS7,hNN⟩
 refine ag ?_
 have hS8:=Sep.pick hS7 [0] 1 dt dt
 exact ⟨v5,(kr (vs:=[v5]) rfl (iN (Sep.arg (i:=0) hS7 rfl) jD)),v5,(([]:List ju)++a0.l),eQ,Sep.iq hS8 _,rfl⟩
def YH (_a0:jn Int) (v:AV):Prop:=∃ r0:Row Int,((r0.l = _a0.l/\(r0.c=.nil↔_a0.c=.nil)))/\v=j3 r0
def abj (a0:jn Int) (q1:a0.l.length<=1000):G8 176 [py a0] (YH a0):=by
 refine wH JI ?_
 refine bo ?_
 refine kY (b:=a0.isNil) rfl (λ_=>qH rfl rfl rfl rfl) (λh1=>?_) (λh1=>?_)
 refine be ?_
 exact xG ⟨(kF:Row Int),dA,rfl⟩
 refine aB ?_
 refine wy [py a0] [] ?_
 refine ae ?_
 have hS2:=Sep.s8 jW 1
 refine jt rfl (uV (i:=0) (l:=([]:List Int)) (enc:=jL) a0.l hS2 rfl rfl rfl rfl rfl rfl rfl rfl rfl (λ_=>rfl) (.inl rfl) dy (λ_=>rfl)) ?_
 rintro v3 H4 ⟨hS5,hNN⟩
 refine ag ?_
 obtain ⟨r6,hl7,hnn,hf8⟩:=uU (H:=H4) (i:=0) (l:=(([]:List Int)++a0.l)) (enc:=jL) hS5 rfl dn
 have hlq:=hl7; have hln10:=congrArg List.length hl7
 have hz9:∀ m,freeze false { H4 with iq:=[] } (m+2) v3=some (j3 r6):=λm=>hf8 _ _ (λ_=>rfl)
 exact ⟨v3,(kr (vs:=[v3]) rfl (iN (Sep.arg (i:=0) hS5 rfl) jD)),j3 r6,(show freeze false { H4 with iq:=[] } 8 v3=some (j3 r6) by simp only [FZ,hz9]),r6,dA,rfl⟩
def ag9 (_a0:bY) (v:AV):Prop:=∃ r0:bY,((Ja r0 _a0/\∀ x∈r0.lines.l,x.elems.l.length<=60))/\v=.agg (bY.af r0)
def aeZ (a0:bY) (q1:lD a0):G8 82 [.agg (bY.af a0)] (ag9 a0):=by
 refine wH OA ?_
 have q2:=q1.elems; have q3:=q1.iQ; have q4:=q1.signals; have q5:=q1.lines
 refine aN ?_
 refine bG ?_
 refine rC (adf (Row.oo a0.elems) dj) ?_
 rintro _ ⟨r2,hc1,rfl⟩
 refine aJ ?_
 refine rC (YM (Row.oo a0.iQ) dj) ?_
 rintro _ ⟨r4,hc3,rfl⟩
 refine aJ ?_
 refine rC (Zt (Row.oo a0.signals) dj) ?_
 rintro _ ⟨r6,hc5,rfl⟩
 refine bX ?_
 refine ae ?_
 refine jQ (H:=aT.empty) (args:=[jr a0.lines]) (p:=[]) (r:=[]) rfl rfl rfl rfl rfl rfl rfl (aaP (Row.oo a0.lines) ([]) jW dj) ?_
 rintro ov11 H8 ⟨_,ol12,hc10,hS9,rfl⟩
 have hqF:ol12.length=(Row.oo a0.lines).l.length:=by rw [hc10.1]
 try simp only [Row.oo] at hqF
 have hLn:=hc10
 refine oV ?_
 refine iI rfl (λ_=>BL rfl rfl rfl (nN rfl rfl (Sep.cell (i:=0) hS9 rfl)) (iN (Sep.cell (i:=0) hS9 rfl) jD) rfl rfl) ?_
 refine oN ?_
 refine aH ?_
 refine iI rfl (λ_=>mZ (i:=0) (l:=ol12) (enc:=ju.af) hS9 rfl rfl rfl rfl rfl rfl rfl) ?_
 refine aG ?_
 refine iL ol12.length (λlx e h=>∃ v14:AV,∃ l15:List ju,∃ H16:aT,(l15.length=a0.lines.l.length)/\(∀ x∈l15,x.elems.l.length<=60)/\(∀ (i:Nat) (h:i<(l15).length) (h2:i<a0.lines.l.length),sM (l15)[i] a0.lines.l[i])/\((v14=.sl [] .nil↔a0.lines.c=.nil))/\Sep H16 (kW ju.af 2 v14 l15::[])/\At [1,2,22,23] [.la 1 0,.la 2 0,cb ol12.length,cb lx] H16 [(1,[jw r2,jA r4,jB r6,v14,iv a0.top,iv a0.jT,iv a0.jS,iv a0.j4,.bool a0.j9]),(2,[iJ,iJ,iJ,iJ,iv 0,iv 0,iv 0,iv 0,iF])] e h) ?_ (k0:=0) du ⟨ov11,ol12,H8,(by (simp_all [Row.oo])),(by (intro x hx; exact q1.line x (by simp_all [Row.oo]))),(by (rw [hLn.1]; exact λi h h2=>⟨rfl,rfl,Iff.rfl⟩)),(by exact hLn.2),hS9,atR⟩
 rintro lx e h hkk13 ⟨v14,l15,H16,hL,hE,hN,hV,hS17,hA⟩
 refine aF ?_
 refine iX (λh18=>?_) (λh18=>?_)
 refine ak ?_
 refine wz [.la 1 0,.la 2 0,cb ol12.length,cb lx] H16 [(1,[jw r2,jA r4,jB r6,v14,iv a0.top,iv a0.jT,iv a0.jS,iv a0.j4,.bool a0.j9]),(2,[iJ,iJ,iJ,iJ,iv 0,iv 0,iv 0,iv 0,iF])] ?_
 refine bH ?_
 refine qd ?_
 refine cZ ?_
 have hx19:lx<l15.length:=by first | omega | (simp<;>omega) | (simp_all; omega)
 obtain ⟨x20,hqx20⟩:∃ x,l15[lx]=x:=⟨_,rfl⟩
 have hinx20:x20∈l15:=by rw [<- hqx20]; exact List.getElem_mem _
 have hsx20:=hE _ hinx20
 refine mj rfl rfl (lS (i:=0) (m:=lx) (cs:=ju.af x20) hS17 rfl rfl rfl rfl rfl rfl rfl (jU hx19 hqx20)) ?_
 rintro a21 ⟨ha22,hea23⟩
 refine iU rfl rfl (λ_=>EA.R0 hea23 rfl rfl rfl ha22) ?_
 refine iU rfl rfl (λ_=>lZ (i:=0) (m:=lx) (o:=1) (r:=j3 x20.elems) (cs:=ju.af x20) hS17 rfl (jU hx19 hqx20) hea23 rfl rfl rfl) ?_
 refine rC (abj (Row.oo x20.elems) dj) ?_
 rintro _ ⟨r25,hc24,rfl⟩
 have hRN:=hc24
 have hx26:lx<l15.length:=by first | omega | (simp<;>omega) | (simp_all; omega)
 refine mj rfl rfl (lS (i:=0) (m:=lx) (cs:=ju.af x20) hS17 rfl rfl rfl rfl rfl rfl rfl (jU hx26 hqx20)) ?_
 rintro a27 ⟨ha28,hea29⟩
 refine iU rfl rfl (λ_=>EA.R0 hea29 rfl rfl rfl ha28) ?_
 refine lR rfl rfl (si (i:=0) (m:=lx) (o:=1) x20 (⟨x20.name,r25⟩:ju) hS17 rfl hx26 hqx20 hea29 rfl rfl rfl rfl rfl rfl) ?_
 rintro _ H30 ⟨rfl,hS31⟩
 refine rN ?_
 refine wz [.la 1 0,.la 2 0,cb ol12.length,cb lx] H30 [(1,[jw r2,jA r4,jB r6,v14,iv a0.top,iv a0.jT,iv a0.jS,iv a0.j4,.bool a0.j9]),(2,[iJ,iJ,iJ,iJ,iv 0,iv 0,iv 0,iv 0,iF])] ?_
 refine qg ?_
 refine jd ?_
 refine ab ?_
 exact ⟨by omega,v14,((l15.set lx (⟨x20.name,r25⟩:ju))),H30,(by (simp<;>omega)),(by exact zv hE (by show List.length (Row.l _)<=60; rw [hRN.1]; assumption)),(by (refine KN (x:=?x) hN ?h1 ?h2 ?h3; (case h2=>assumption); exact ⟨rfl,hRN⟩)),(by exact hV),hS31,atR⟩
 refine ai ?_
 refine wz [.la 1 0,.la 2 0,.la 2 0] H16 [(1,[jw r2,jA r4,jB r6,v14,iv a0.top,iv a0.jT,iv a0.jS,iv a0.j4,.bool a0.j9]),(2,[iJ,iJ,iJ,iJ,iv 0,iv 0,iv 0,iv 0,iF]),(2,[iJ,iJ,iJ,iJ,iv 0,iv 0,iv 0,iv 0,iF])] ?_
 refine aj ?_
 refine iI rfl (λ_=>BL rfl rfl rfl rfl (iN rfl (iN rfl (iN rfl (iN (Sep.cell (i:=0) hS17 rfl) (iN rfl (iN rfl (iN rfl (iN rfl (iN rfl jD))))))))) rfl rfl) ?_
 refine oN ?_
 refine qr ?_
 obtain ⟨r32,hl33,hnn,hf34⟩:=uU (H:=H16) (i:=0) (l:=l15) (enc:=ju.af) hS17 rfl dn
 have hlq:=hl33; have hln36:=congrArg List.length hl33
 have hz35:∀ m,freeze false { H16 with iq:=[(1,[jw r2,jA r4,jB r6,v14,iv a0.top,iv a0.jT,iv a0.jS,iv a0.j4,.bool a0.j9]),(2,[jw r2,jA r4,jB r6,v14,iv a0.top,iv a0.jT,iv a0.jS,iv a0.j4,.bool a0.j9])] } (m+2) v14=some (jr r32):=λm=>hf34 _ _ (λ_=>by simp only [ju.af,js,so,sB,tY,sg,tW])
 exact ⟨.agg [jw r2,jA r4,jB r6,v14,iv a0.top,iv a0.jT,iv a0.jS,iv a0.j4,.bool a0.j9],(kr (vs:=[.agg [jw r2,jA r4,jB r6,v14,iv a0.top,iv a0.jT,iv a0.jS,iv a0.j4,.bool a0.j9]]) rfl rfl),.agg [jw r2,jA r4,jB r6,jr r32,iv a0.top,iv a0.jT,iv a0.jS,iv a0.j4,.bool a0.j9],(show freeze false { H16 with iq:=[(1,[jw r2,jA r4,jB r6,v14,iv a0.top,iv a0.jT,iv a0.jS,iv a0.j4,.bool a0.j9]),(2,[jw r2,jA r4,jB r6,v14,iv a0.top,iv a0.jT,iv a0.jS,iv a0.j4,.bool a0.j9])] } 8 (.agg [jw r2,jA r4,jB r6,v14,iv a0.top,iv a0.jT,iv a0.jS,iv a0.j4,.bool a0.j9])=some (.agg [jw r2,jA r4,jB r6,jr r32,iv a0.top,iv a0.jT,iv a0.jS,iv a0.j4,.bool a0.j9]) by simp only [FZ,hz35]),(⟨r2,r4,r6,r32,a0.top,a0.jT,a0.jS,a0.j4,a0.j9⟩:bY),(by refine ⟨⟨by assumption,by assumption,by assumption,hnn.trans hV,by simp_all,?_,rfl,rfl,rfl,rfl,rfl⟩,by simp_all⟩; simp_all),rfl⟩
def V7:jx 82=some (sJ cfg FT mA 82):=by rfl
def P82 (_a0:bY) (v:AV):Prop:=∃ r0:bY,(r0.elems.l = _a0.elems.l/\r0.iQ.l = _a0.iQ.l/\r0.signals.l = _a0.signals.l/\r0.lines.l.length = _a0.lines.l.length/\(∀ x∈r0.lines.l,x.elems.l.length<=60)/\r0 = _a0.canon)/\v=.agg (bY.af r0)
def t82 (a0:bY) (q1:lD a0) (h:aT):∃ v,iZ cfg FT jx false 82 [.agg (bY.af a0)] h v h/\P82 a0 v:=by
 obtain ⟨v,hc,r0,⟨h1,h2⟩,rfl⟩:=aeZ a0 q1 h
 refine ⟨_,Ij V7 hc,a0.canon,⟨rfl,rfl,rfl,by simp [bY.canon,Row.canon,Row.xl],?_,rfl⟩,GN h1⟩
 intro x hx
 simp only [bY.canon,Row.canon,Row.xl,List.mem_map] at hx
 obtain ⟨y,hy,rfl⟩:=hx
 exact q1.line y hy
end Go.Sx
