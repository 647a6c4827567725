/- Proves what some functions of the program answer, by walking through them. -/
import Derived.Test.YtgoeonlbgdamhaaGreatHag
import Derived.Test.YtgoeonlbgdamhaaGreatHaj
import Derived.Test.YtgoeonlbgdamhaaGreatHal
set_option linter.all false
set_option maxRecDepth 100000
set_option maxHeartbeats 0
namespace Go.Sx
open Go Go.Proofs
def P90 (_a0:bS) (v:AV):Prop:=∃ r0:Bool,((r0=true->mu _a0))/\v=.bool r0
def t90 (a0:bS) (hJg:JG a0):Ct 90 [.agg (bS.af a0)] (P90 a0):=by
 refine ja ML ?_
 refine bb ?_
 refine aQ ?_
 have hL1:=a0.elems.lk
 refine jb a0.elems ?_
 refine jI (λh2=>?_) (λh2=>?_)
 refine bF ?_
 refine aV ?_
 refine bQ ?_
 exact ib
 refine aK ?_
 have hL3:=a0.iO.lk
 refine jb a0.iO ?_
 refine jI (λh4=>?_) (λh4=>?_)
 refine aV ?_
 refine bQ ?_
 exact ib
 refine bk ?_
 have hL5:=a0.signals.lk
 refine jb a0.signals ?_
 refine jI (λh6=>?_) (λh6=>?_)
 refine bQ ?_
 exact ib
 refine bk ?_
 have hL7:=a0.lines.lk
 refine jb a0.lines ?_
 refine jI (λh8=>?_) (λh8=>?_)
 refine aq ?_
 exact ib
 refine aA ?_
 refine aX ?_
 have hNk9:=a0.lines.lk
 refine iF a0.lines.l.length (λk9 e h=>(∀ (i:Nat) (h:i<a0.lines.l.length),i<k9->(a0.lines.l[i]).elems.l.length<=60)/\At [1,3] [.la 1 0,ir k9] aT.empty [(1,(bS.af a0))] e h) ?_ (k0:=0) dT ⟨eE,atR⟩
 rintro k9 e h hkk9 ⟨hI,hA⟩
 refine ca ?_
 have hL10:=a0.lines.lk
 refine jb a0.lines ?_
 refine iV (λh11=>?_) (λh11=>?_)
 refine bP ?_
 refine aP ?_
 have hx12:k9<a0.lines.l.length:=by omega
 refine kH k9 a0.lines hx12 ?_
 generalize hqx13:a0.lines.l[k9]=x13
 refine aj ?_
 have hL14:=x13.elems.lk
 refine jb x13.elems ?_
 refine jI (λh15=>?_) (λh15=>?_)
 refine oV ?_
 refine dk ?_
 refine aq ?_
 exact ib
 refine bk ?_
 have hx16:k9<a0.lines.l.length:=by omega
 refine kH k9 a0.lines hx16 ?_
 rw [hqx13]
 refine aK ?_
 refine jI (λh18=>?_) (λh18=>?_)
 refine aq ?_
 exact ib
 refine bW ?_
 refine jc ?_
 refine ab ?_
 exact ⟨by omega,(by (intro i h h2; rcases Nat.lt_succ_iff_lt_or_eq.mp h2 with h3 | h3; exact hI i h h3; subst h3; simp_all; try omega)),atR⟩
 refine aJ ?_
 refine aX ?_
 have hNk19:=a0.elems.lk
 refine iF a0.elems.l.length (λnh e h=>At [1,4] [.la 1 0,ir nh] aT.empty [(1,(bS.af a0))] e h) ?_ (k0:=0) dT atR
 rintro nh e h hkk19 hA
 refine ca ?_
 have hL20:=a0.elems.lk
 refine jb a0.elems ?_
 refine iV (λh21=>?_) (λh21=>?_)
 refine bP ?_
 refine aP ?_
 have hx22:nh<a0.elems.l.length:=by omega
 refine kH nh a0.elems hx22 ?_
 generalize hqx23:a0.elems.l[nh]=x23
 refine aK ?_
 refine jI (λh24=>?_) (λh24=>?_)
 refine bu ?_
 exact ib
 refine aC ?_
 refine aM ?_
 refine jc ?_
 refine ab ?_
 exact gm
 refine aJ ?_
 refine aX ?_
 have hNk25:=a0.signals.lk
 refine iF a0.signals.l.length (λkT e h=>At [1,5] [.la 1 0,ir kT] aT.empty [(1,(bS.af a0))] e h) ?_ (k0:=0) dT atR
 rintro kT e h hkk25 hA
 refine ca ?_
 have hL26:=a0.signals.lk
 refine jb a0.signals ?_
 refine iV (λh27=>?_) (λh27=>?_)
 refine bP ?_
 refine aP ?_
 have hx28:kT<a0.signals.l.length:=by omega
 refine kH kT a0.signals hx28 ?_
 generalize hqx29:a0.signals.l[kT]=x29
 refine aK ?_
 refine jI (λh30=>?_) (λh30=>?_)
 refine bu ?_
 exact ib
 refine aC ?_
 refine aM ?_
 refine jc ?_
 refine ab ?_
 exact gm
 refine c7 ?_
 exact xB ⟨true,d8,rfl⟩
def afN (_a0:bS) (v:AV):Prop:=∃ r0:Row nm,∃ r1:Row nm,∃ r2:Row nm,(True)/\v=.je [Row.av my r0,Row.av my r1,Row.av my r2]
def t164 (a0:bS) (q1:mu a0):Ct 164 [.agg (bS.af a0)] (afN a0):=by
 refine ja Jk ?_
 have q2:=q1.elems; have q3:=q1.signals; have q4:=q1.lines
 refine aa ?_
 refine cg ?_
 refine bR ?_
 refine aX ?_
 have hS1:=Sep.mn j1 1
 have hNk2:=a0.elems.lk
 refine iF a0.elems.l.length (λk2 e h=>∃ v3:AV,∃ l4:List nm,∃ H5:aT,(l4.length<=0+k2)/\Sep H5 (nH my 1 v3 l4::[])/\At [1,5,6,7,8] [.la 1 0,v3,iE,iE,ir k2] H5 [(1,(bS.af a0))] e h) ?_ (k0:=0) dT ⟨iE,(([]:List nm)),aT.empty,ew,hS1,atR⟩
 rintro k2 e h hkk2 ⟨v3,l4,H5,hl7,hS6,hA⟩
 refine ca ?_
 have hL8:=a0.elems.lk
 refine jb a0.elems ?_
 refine iV (λh9=>?_) (λh9=>?_)
 refine a8 ?_
 refine wz [.la 1 0,v3,iE,iE,ir k2] H5 [(1,(bS.af a0))] ?_ (jd hS6 [(5,0)])
 refine aD ?_
 refine qg ?_
 refine bk ?_
 have hx10:k2<a0.elems.l.length:=by omega
 refine kH k2 a0.elems hx10 ?_
 generalize hqx11:a0.elems.l[k2]=x11
 refine aK ?_
 refine jq rfl (jZ (i:=0) [x11.name] hS6 rfl rfl rfl rfl rfl rfl rfl rfl rfl (λ_=>rfl) (.inl rfl) dW (λ_=>rfl)) ?_
 rintro v12 H13 hS14
 refine ab ?_
 refine wz [.la 1 0,v12,iE,iE,ir k2] H13 [(1,(bS.af a0))] ?_ (jd hS14 [(5,0)])
 refine aM ?_
 refine jc ?_
 refine ab ?_
 exact ⟨by omega,v12,((l4++[x11.name])),H13,dP,hS14,(jd hS14 [(5,0)])⟩
 refine aJ ?_
 refine wz [.la 1 0,v3,iE,iE] H5 [(1,(bS.af a0))] ?_ (jd hS6 [(5,0)])
 refine aX ?_
 have hS15:=Sep.mn hS6 1
 have hNk16:=a0.signals.lk
 refine iF a0.signals.l.length (λo4 e h=>∃ v17:AV,∃ l18:List nm,∃ H19:aT,(l18.length<=0+o4)/\Sep H19 (nH my 1 v17 l18::nH my 1 v3 l4::[])/\At [1,5,6,7,9] [.la 1 0,v3,v17,iE,ir o4] H19 [(1,(bS.af a0))] e h) ?_ (k0:=0) dT ⟨iE,(([]:List nm)),H5,ew,hS15,(jd hS15 [(5,1)])⟩
 rintro o4 e h hkk16 ⟨v17,l18,H19,hl21,hS20,hA⟩
 refine ca ?_
 have hL22:=a0.signals.lk
 refine jb a0.signals ?_
 refine iV (λh23=>?_) (λh23=>?_)
 refine a8 ?_
 refine wz [.la 1 0,v3,v17,iE,ir o4] H19 [(1,(bS.af a0))] ?_ (jd hS20 [(5,1),(6,0)])
 refine aD ?_
 refine qg ?_
 refine bk ?_
 have hx24:o4<a0.signals.l.length:=by omega
 refine kH o4 a0.signals hx24 ?_
 generalize hqx25:a0.signals.l[o4]=x25
 refine aK ?_
 refine jq rfl (jZ (i:=0) [x25.name] hS20 rfl rfl rfl rfl rfl rfl rfl rfl rfl (λ_=>rfl) (.inl rfl) dW (λ_=>rfl)) ?_
 rintro v26 H27 hS28
 refine ab ?_
 refine wz [.la 1 0,v3,v26,iE,ir o4] H27 [(1,(bS.af a0))] ?_ (jd hS28 [(5,1),(6,0)])
 refine aM ?_
 refine jc ?_
 refine ab ?_
 exact ⟨by omega,v26,((l18++[x25.name])),H27,dP,hS28,(jd hS28 [(5,1),(6,0)])⟩
 refine aJ ?_
 refine wz [.la 1 0,v3,v17,iE] H19 [(1,(bS.af a0))] ?_ (jd hS20 [(5,1),(6,0)])
 refine aX ?_
 have hS29:=Sep.mn hS20 1
 have hNk30:=a0.lines.lk
 refine iF a0.lines.l.length (λo3 e h=>∃ v31:AV,∃ l32:List nm,∃ H33:aT,(l32.length<=0+o3)/\Sep H33 (nH my 1 v31 l32::nH my 1 v17 l18::nH my 1 v3 l4::[])/\At [1,5,6,7,10] [.la 1 0,v3,v17,v31,ir o3] H33 [(1,(bS.af a0))] e h) ?_ (k0:=0) dT ⟨iE,(([]:List nm)),H19,ew,hS29,(jd hS29 [(5,2),(6,1)])⟩
 rintro o3 e h hkk30 ⟨v31,l32,H33,hl35,hS34,hA⟩
 refine ca ?_
 have hL36:=a0.lines.lk
 refine jb a0.lines ?_
 refine iV (λh37=>?_) (λh37=>?_)
 refine a8 ?_
 refine wz [.la 1 0,v3,v17,v31,ir o3] H33 [(1,(bS.af a0))] ?_ (jd hS34 [(5,2),(6,1),(7,0)])
 refine aD ?_
 refine qg ?_
 refine bk ?_
 have hx38:o3<a0.lines.l.length:=by omega
 refine kH o3 a0.lines hx38 ?_
 generalize hqx39:a0.lines.l[o3]=x39
 refine aK ?_
 refine jq rfl (jZ (i:=0) [x39.name] hS34 rfl rfl rfl rfl rfl rfl rfl rfl rfl (λ_=>rfl) (.inl rfl) dW (λ_=>rfl)) ?_
 rintro v40 H41 hS42
 refine ab ?_
 refine wz [.la 1 0,v3,v17,v40,ir o3] H41 [(1,(bS.af a0))] ?_ (jd hS42 [(5,2),(6,1),(7,0)])
 refine aM ?_
 refine jc ?_
 refine ab ?_
 exact ⟨by omega,v40,((l32++[x39.name])),H41,dP,hS42,(jd hS42 [(5,2),(6,1),(7,0)])⟩
 refine aJ ?_
 refine wz [v3,v17,v31] H33 [] ?_ (jd hS34 [(5,2),(6,1),(7,0)])
 refine ae ?_
 refine ck ?_
 obtain ⟨r43,hl44,hf45⟩:=lS (H:=H33) (i:=2) (l:=l4) (enc:=my) hS34 rfl dQ
 have hlq:=hl44; have hln47:=congrArg List.length hl44
 have hz46:∀ m,freeze false { H33 with iq:=[] } (m+2) v3=some (Row.av my r43):=λm=>hf45 _ _ (λ_=>rfl)
 obtain ⟨r48,hl49,hf50⟩:=lS (H:=H33) (i:=1) (l:=l18) (enc:=my) hS34 rfl dQ
 have hlq:=hl49; have hln52:=congrArg List.length hl49
 have hz51:∀ m,freeze false { H33 with iq:=[] } (m+2) v17=some (Row.av my r48):=λm=>hf50 _ _ (λ_=>rfl)
 obtain ⟨r53,hl54,hf55⟩:=lS (H:=H33) (i:=0) (l:=l32) (enc:=my) hS34 rfl dQ
 have hlq:=hl54; have hln57:=congrArg List.length hl54
 have hz56:∀ m,freeze false { H33 with iq:=[] } (m+2) v31=some (Row.av my r53):=λm=>hf55 _ _ (λ_=>rfl)
 exact ⟨.je [v3,v17,v31],(kY (vs:=[v3,v17,v31]) rfl (iM (Sep.arg (i:=2) hS34 rfl) (iM (Sep.arg (i:=1) hS34 rfl) (iM (Sep.arg (i:=0) hS34 rfl) jP)))),.je [Row.av my r43,Row.av my r48,Row.av my r53],(show freeze false { H33 with iq:=[] } 8 (.je [v3,v17,v31])=some (.je [Row.av my r43,Row.av my r48,Row.av my r53]) by simp only [FZ,hz46,hz51,hz56]),r43,r48,r53,zt⟩
def P94 (_a0:nm) (v:AV):Prop:=∃ r0:Bool,((r0=true->wJ _a0.l))/\v=.bool r0
def t94 (a0:nm) :Ct 94 [.str a0.l] (P94 a0):=by
 refine ja Mn ?_
 refine aU ?_
 refine aX ?_
 have hNk1:=a0.lk
 refine iF a0.l.length (λk1 e h=>(∀ (i:Nat) (h:i<a0.l.length),i<k1->B4 i ((a0.l[i]).toNat:Int))/\At [0,3] [.str a0.l,ir k1] aT.empty [] e h) ?_ (k0:=0) dT ⟨eE,atR⟩
 rintro k1 e h hkk1 ⟨hC,hA⟩
 refine ca ?_
 refine iV (λh2=>?_) (λh2=>?_)
 refine bP ?_
 refine ae ?_
 have hx3:k1<a0.l.length:=by omega
 refine iz rfl (λ_=>yz (n:=k1) (s:=a0.l) rfl rfl rfl rfl hx3) ?_
 generalize hqc4:a0.l[k1]=c4
 refine cR ?_
 refine kL (λh5=>?_) (λh5=>?_)
 refine aj ?_
 refine ux (λh6=>?_) (λh6=>?_)
 refine bw ?_
 refine oS ?_
 refine bo ?_
 refine aP ?_
 iterate 10 refine oS ?_
 refine bW ?_
 refine jc ?_
 refine ab ?_
 exact ic
 refine aK ?_
 refine kL (λh7=>?_) (λh7=>?_)
 refine aj ?_
 refine ux (λh8=>?_) (λh8=>?_)
 refine dh ?_
 refine be ?_
 refine dk ?_
 refine bW ?_
 refine jc ?_
 refine ab ?_
 exact ic
 refine ba ?_
 refine bp ?_
 refine iY (λh9=>?_) (λh9=>?_)
 refine be ?_
 refine bI ?_
 refine bc ?_
 exact ig
 refine aj ?_
 refine iV (λh10=>?_) (λh10=>?_)
 refine bI ?_
 refine bc ?_
 exact ig
 refine aK ?_
 refine jI (λh11=>?_) (λh11=>?_)
 refine bc ?_
 exact ig
 refine oV ?_
 refine bW ?_
 refine jc ?_
 refine ab ?_
 exact ic
 refine be ?_
 refine ba ?_
 refine bp ?_
 refine iY (λh12=>?_) (λh12=>?_)
 refine be ?_
 refine bI ?_
 refine bc ?_
 exact ig
 refine aj ?_
 refine iV (λh13=>?_) (λh13=>?_)
 refine bI ?_
 refine bc ?_
 exact ig
 refine aK ?_
 refine jI (λh14=>?_) (λh14=>?_)
 refine bc ?_
 exact ig
 refine oV ?_
 refine bW ?_
 refine jc ?_
 refine ab ?_
 exact ic
 refine be ?_
 refine aK ?_
 refine kL (λh15=>?_) (λh15=>?_)
 refine aj ?_
 refine ux (λh16=>?_) (λh16=>?_)
 refine dh ?_
 refine be ?_
 refine dk ?_
 refine bW ?_
 refine jc ?_
 refine ab ?_
 exact ic
 refine ba ?_
 refine bp ?_
 refine iY (λh17=>?_) (λh17=>?_)
 refine be ?_
 refine bI ?_
 refine bc ?_
 exact ig
 refine aj ?_
 refine iV (λh18=>?_) (λh18=>?_)
 refine bI ?_
 refine bc ?_
 exact ig
 refine aK ?_
 refine jI (λh19=>?_) (λh19=>?_)
 refine bc ?_
 exact ig
 refine oV ?_
 refine bW ?_
 refine jc ?_
 refine ab ?_
 exact ic
 refine be ?_
 refine ba ?_
 refine bp ?_
 refine iY (λh20=>?_) (λh20=>?_)
 refine be ?_
 refine bI ?_
 refine bc ?_
 exact ig
 refine aj ?_
 refine iV (λh21=>?_) (λh21=>?_)
 refine bI ?_
 refine bc ?_
 exact ig
 refine aK ?_
 refine jI (λh22=>?_) (λh22=>?_)
 refine bc ?_
 exact ig
 refine oV ?_
 refine bW ?_
 refine jc ?_
 refine ab ?_
 exact ic
 refine aJ ?_
 refine ae ?_
 refine kL (λh23=>?_) (λh23=>?_)
 refine aK ?_
 refine ux (λh24=>?_) (λh24=>?_)
 refine bE ?_
 exact xB ⟨true,eb,rfl⟩
 refine bE ?_
 exact ig
 refine cr ?_
 refine bE ?_
 exact ig
def aev (_a0:Int) (v:AV):Prop:=∃ r0:Int,((((_a0=1->r0=2)/\(_a0=2->r0=3)/\(_a0=3->r0=4)/\(_a0=4->r0=1)/\0<=r0/\r0<=4)/\(¬ (1<=_a0/\_a0<=4)->r0=0)))/\v=iv r0
def t109 (a0:Int) :Ct 109 [iv a0] (aev a0):=by
 refine ja Hy ?_
 refine bN ?_
 refine cT ?_
 refine iY (λh1=>?_) (λh1=>?_)
 refine aq ?_
 exact xB ⟨2,eI,rfl⟩
 refine aS ?_
 refine iY (λh2=>?_) (λh2=>?_)
 refine aq ?_
 exact xB ⟨3,eI,rfl⟩
 refine aS ?_
 refine iY (λh3=>?_) (λh3=>?_)
 refine aq ?_
 exact xB ⟨4,eI,rfl⟩
 refine aS ?_
 refine iY (λh4=>?_) (λh4=>?_)
 refine aq ?_
 exact xB ⟨1,eI,rfl⟩
 refine aA ?_
 refine a6 ?_
 exact xB ⟨0,eI,rfl⟩
def afu (_a0:Int) (_a1:Int) (_a2:Int) (v:AV):Prop:=∃ r0:Bool,(True)/\v=.bool r0
def t265 (a0:Int) (a1:Int) (a2:Int) :Ct 265 [iv a0,iv a1,iv a2] (afu a0 a1 a2):=by
 refine ja Jf ?_
 refine aU ?_
 refine ae ?_
 refine kL (λh1=>?_) (λh1=>?_)
 refine aK ?_
 refine ux (λh2=>?_) (λh2=>?_)
 refine bE ?_
 exact gn
 refine bE ?_
 exact gl
 refine cr ?_
 refine bE ?_
 exact gl
def aem (_a0:bS) (v:AV):Prop:=∃ r0:Bool,(True)/\v=.bool r0
def t165 (a0:bS) :Ct 165 [.agg (bS.af a0)] (aem a0):=by
 refine ja Hn ?_
 refine bb ?_
 refine aQ ?_
 refine oC (t265 a0.top 1 60) ?_
 rintro _ ⟨r2,hc1,rfl⟩
 cases r2
 refine aV ?_
 refine aV ?_
 refine aV ?_
 refine bQ ?_
 exact gl
 refine bk ?_
 refine oC (t265 a0.jY 1 10) ?_
 rintro _ ⟨r4,hc3,rfl⟩
 cases r4
 refine oV ?_
 refine aV ?_
 refine aV ?_
 refine bQ ?_
 exact gl
 refine ci ?_
 refine oC (t265 a0.j5 1 4000) ?_
 rintro _ ⟨r6,hc5,rfl⟩
 cases r6
 refine oV ?_
 refine aV ?_
 refine bQ ?_
 exact gl
 refine ci ?_
 refine oC (t265 a0.j8 1 20) ?_
 rintro _ ⟨r8,hc7,rfl⟩
 cases r8
 refine oV ?_
 refine bQ ?_
 exact gl
 refine ci ?_
 have hL9:=a0.elems.lk
 refine jb a0.elems ?_
 refine iY (λh10=>?_) (λh10=>?_)
 refine aq ?_
 exact gl
 refine aA ?_
 refine aX ?_
 have hNk11:=a0.elems.lk
 refine iF a0.elems.l.length (λiU e h=>At [1,3] [.la 1 0,ir iU] aT.empty [(1,(bS.af a0))] e h) ?_ (k0:=0) dT atR
 rintro iU e h hkk11 hA
 refine ca ?_
 have hL12:=a0.elems.lk
 refine jb a0.elems ?_
 refine iV (λh13=>?_) (λh13=>?_)
 refine bP ?_
 refine aP ?_
 have hx14:iU<a0.elems.l.length:=by omega
 refine kH iU a0.elems hx14 ?_
 generalize hqx15:a0.elems.l[iU]=x15
 refine dh ?_
 refine oC (t94 x15.name) ?_
 rintro _ ⟨r17,hc16,rfl⟩
 cases r17
 clear hc16
 refine aV ?_
 refine aj ?_
 refine cC ?_
 refine aq ?_
 exact gl
 have hc16t:=hc16 rfl
 have hNm:=hc16t
 refine bk ?_
 refine oC (t109 x15.kind) ?_
 rintro _ ⟨r19,hc18,rfl⟩
 refine iY (λh20=>?_) (λh20=>?_)
 refine aj ?_
 refine cC ?_
 refine aq ?_
 exact gl
 refine bk ?_
 refine iY (λh21=>?_) (λh21=>?_)
 refine aK ?_
 refine kE (λh22=>?_) (λh22=>?_)
 refine aK ?_
 iterate 9 refine oS ?_
 refine aq ?_
 exact gl
 refine ci ?_
 refine kE (λh23=>?_) (λh23=>?_)
 refine aK ?_
 refine oC (t265 x15.len 1 4000) ?_
 rintro _ ⟨r25,hc24,rfl⟩
 cases r25
 refine oV ?_
 refine bc ?_
 exact gl
 refine aj ?_
 refine bW ?_
 refine jc ?_
 refine ab ?_
 exact gm
 refine bF ?_
 refine oV ?_
 refine bW ?_
 refine jc ?_
 refine ab ?_
 exact gm
 refine cr ?_
 refine ci ?_
 refine kE (λh26=>?_) (λh26=>?_)
 refine aK ?_
 refine oC (t265 x15.len 1 4000) ?_
 rintro _ ⟨r28,hc27,rfl⟩
 cases r28
 refine oV ?_
 refine bc ?_
 exact gl
 refine aj ?_
 refine bW ?_
 refine jc ?_
 refine ab ?_
 exact gm
 refine bF ?_
 refine oV ?_
 refine bW ?_
 refine jc ?_
 refine ab ?_
 exact gm
 refine aJ ?_
 refine aX ?_
 have hNk29:=a0.signals.lk
 refine iF a0.signals.l.length (λp7 e h=>At [1,5] [.la 1 0,ir p7] aT.empty [(1,(bS.af a0))] e h) ?_ (k0:=0) dT atR
 rintro p7 e h hkk29 hA
 refine ca ?_
 have hL30:=a0.signals.lk
 refine jb a0.signals ?_
 refine iV (λh31=>?_) (λh31=>?_)
 refine bP ?_
 refine aP ?_
 have hx32:p7<a0.signals.l.length:=by omega
 refine kH p7 a0.signals hx32 ?_
 generalize hqx33:a0.signals.l[p7]=x33
 refine aj ?_
 refine oC (t94 x33.name) ?_
 rintro _ ⟨r35,hc34,rfl⟩
 cases r35
 clear hc34
 refine aq ?_
 exact gl
 have hc34t:=hc34 rfl
 have hNm:=hc34t
 refine bW ?_
 refine jc ?_
 refine ab ?_
 exact gm
 refine aJ ?_
 refine aX ?_
 have hNk36:=a0.lines.lk
 refine iF a0.lines.l.length (λta e h=>At [1,6] [.la 1 0,ir ta] aT.empty [(1,(bS.af a0))] e h) ?_ (k0:=0) dT atR
 rintro ta e h hkk36 hA
 refine ca ?_
 have hL37:=a0.lines.lk
 refine jb a0.lines ?_
 refine iV (λh38=>?_) (λh38=>?_)
 refine bP ?_
 refine aP ?_
 have hx39:ta<a0.lines.l.length:=by omega
 refine kH ta a0.lines hx39 ?_
 generalize hqx40:a0.lines.l[ta]=x40
 refine aj ?_
 refine oC (t94 x40.name) ?_
 rintro _ ⟨r42,hc41,rfl⟩
 cases r42
 clear hc41
 refine aq ?_
 exact gl
 have hc41t:=hc41 rfl
 have hNm:=hc41t
 refine bW ?_
 refine jc ?_
 refine ab ?_
 exact gm
 refine c7 ?_
 exact gn
def acy (_a0:Row nm) (v:AV):Prop:=∃ r0:Bool,(True)/\v=.bool r0
def t166 (a0:Row nm) :Ct 166 [Row.av my a0] (acy a0):=by
 refine ja IP ?_
 refine aU ?_
 refine aX ?_
 have hNk1:=a0.lk
 refine iF a0.l.length (λk1 e h=>At [0,3] [Row.av my a0,ir k1] aT.empty [] e h) ?_ (k0:=0) dT atR
 rintro k1 e h hkk1 hA
 refine cZ ?_
 have hL2:=a0.lk
 refine jb a0 ?_
 refine iV (λh3=>?_) (λh3=>?_)
 refine a8 ?_
 refine bi ?_
 refine aL ?_
 refine iF k1 (λk4 e h=>At [0,3,4] [Row.av my a0,ir k1,ir k4] aT.empty [] e h) ?_ (k0:=0) dT atR
 rintro k4 e h hkk4 hA
 refine cZ ?_
 refine iV (λh5=>?_) (λh5=>?_)
 refine bP ?_
 refine bX ?_
 have hx6:k1<a0.l.length:=by omega
 refine lh k1 a0 hx6 ?_
 generalize hqx7:a0.l[k1]=x7
 refine bf ?_
 have hx8:k4<a0.l.length:=by omega
 refine lh k4 a0 hx8 ?_
 generalize hqx9:a0.l[k4]=x9
 refine rV ?_
 refine nS rfl rfl (λ_=>ze rfl rfl) (λh10=>?_) (λh10=>?_)
 refine rN ?_
 refine ac ?_
 exact gn
 refine cO ?_
 refine aM ?_
 refine jc ?_
 refine ab ?_
 exact gm
 refine aJ ?_
 refine aM ?_
 refine jc ?_
 refine ab ?_
 exact gm
 refine c7 ?_
 exact gl
def P84 (_a0:bS) (_a1:iu) (v:AV):Prop:=∃ r0:iu,∃ r1:Bool,(((r1=true->lq _a0.iO.l _a1=some r0)/\(r1=false->lq _a0.iO.l _a1=none)))/\v=.je [.agg (iu.af r0),.bool r1]
def t84 (a0:bS) (a1:iu) :Ct 84 [.agg (bS.af a0),.agg (iu.af a1)] (P84 a0 a1):=by
 refine ja Ld ?_
 refine aa ?_
 refine cg ?_
 refine aX ?_
 have hNk1:=a0.iO.lk
 refine iF a0.iO.l.length (λk1 e h=>(lq (a0.iO.l.drop k1) a1=lq a0.iO.l a1)/\At [2,3,4,6] [.la 2 0,.la 3 0,.la 4 0,ir k1] aT.empty [(2,(bS.af a0)),(3,(iu.af a1)),(4,[iv 0,iv 0])] e h) ?_ (k0:=0) dT ⟨(by rfl),atR⟩
 rintro k1 e h hkk1 ⟨hI,hA⟩
 refine ca ?_
 have hL2:=a0.iO.lk
 refine jb a0.iO ?_
 refine iV (λh3=>?_) (λh3=>?_)
 refine bP ?_
 refine qs ?_
 refine cY ?_
 have hx4:k1<a0.iO.l.length:=by omega
 refine lh k1 a0.iO hx4 ?_
 generalize hqx5:a0.iO.l[k1]=x5
 refine bf ?_
 refine nS rfl rfl (λ_=>wj rfl rfl rfl (λ_ _=>rfl)) (λh6=>?_) (λh6=>?_)
 refine rN ?_
 refine qT ?_
 refine aP ?_
 have hx7:k1<a0.iO.l.length:=by omega
 refine kH k1 a0.iO hx7 ?_
 rw [hqx5]
 refine ck ?_
 exact xG ⟨x5.b,true,eN,rfl⟩
 refine cO ?_
 refine cY ?_
 have hx9:k1<a0.iO.l.length:=by omega
 refine lh k1 a0.iO hx9 ?_
 rw [hqx5]
 refine bf ?_
 refine nS rfl rfl (λ_=>wj rfl rfl rfl (λ_ _=>rfl)) (λh11=>?_) (λh11=>?_)
 refine rN ?_
 refine qT ?_
 refine aP ?_
 have hx12:k1<a0.iO.l.length:=by omega
 refine kH k1 a0.iO hx12 ?_
 rw [hqx5]
 refine ck ?_
 exact xG ⟨x5.a,true,eN,rfl⟩
 refine cO ?_
 refine aM ?_
 refine jc ?_
 refine ab ?_
 exact ⟨by omega,(by (exact (KN dS dS dS dS).trans hI)),atR⟩
 refine aJ ?_
 refine bj ?_
 exact xG ⟨(⟨0,0⟩:iu),false,eN,rfl⟩
def acB (_a0:bS) (_a1:Int) (v:AV):Prop:=∃ r0:Int,(r0=kr _a0 _a1)/\v=iv r0
def t111 (a0:bS) (a1:Int) :Ct 111 [.agg (bS.af a0),iv a1] (acB a0 a1):=by
 refine ja If ?_
 refine bb ?_
 refine ah ?_
 refine iV (λh1=>?_) (λh1=>?_)
 refine bB ?_
 refine aq ?_
 exact xB ⟨0,fx,rfl⟩
 refine bk ?_
 have hL2:=a0.elems.lk
 refine jb a0.elems ?_
 refine kL (λh3=>?_) (λh3=>?_)
 refine aq ?_
 exact xB ⟨0,fx,rfl⟩
 refine aA ?_
 refine aP ?_
 have hx4:(a1).toNat<a0.elems.l.length:=by omega
 refine iz rfl (λ_=>jh (n:=a1) (r:=a0.elems) (enc:=j9.af) rfl rfl rfl rfl rfl dT hx4 rfl) ?_
 generalize hqx5:a0.elems.l[(a1).toNat]=x5
 refine b8 ?_
 exact xB ⟨x5.kind,fx,rfl⟩
def aeF (_a0:bS) (_a1:iu) (v:AV):Prop:=∃ r0:Bool,((r0=true->0<=_a1.elem/\_a1.elem<(_a0.elems.l.length:Int)/\0<=_a1.en/\_a1.en<4))/\v=.bool r0
def t254 (a0:bS) (a1:iu) :Ct 254 [.agg (bS.af a0),.agg (iu.af a1)] (aeF a0 a1):=by
 refine ja Hm ?_
 refine bR ?_
 refine bX ?_
 refine kN (λh1=>?_) (λh1=>?_)
 refine cu ?_
 have hL2:=a0.elems.lk
 refine Ca a0.elems ?_
 refine mK (λh3=>?_) (λh3=>?_)
 refine a7 ?_
 refine kN (λh4=>?_) (λh4=>?_)
 refine dG ?_
 have hx5:(a1.elem).toNat<a0.elems.l.length:=by omega
 refine iN rfl rfl (λ_=>jh (n:=a1.elem) (r:=a0.elems) (enc:=j9.af) rfl rfl rfl rfl rfl dT hx5 rfl) ?_
 generalize hqx6:a0.elems.l[(a1.elem).toNat]=x6
 refine ay ?_
 refine rC (t109 x6.kind) ?_
 rintro _ ⟨r8,hc7,rfl⟩
 refine mK (λh9=>?_) (λh9=>?_)
 refine br ?_
 exact gA
 refine br ?_
 exact gB
 refine bM ?_
 iterate 5 refine rS ?_
 refine br ?_
 exact gB
 refine au ?_
 iterate 11 refine rS ?_
 refine br ?_
 exact gB
 refine rV ?_
 iterate 6 refine rS ?_
 refine au ?_
 iterate 11 refine rS ?_
 refine br ?_
 exact gB
def afG (_a0:bS) (v:AV):Prop:=∃ r0:Bool,(True)/\v=.bool r0
def t167 (a0:bS) (q1:mu a0):Ct 167 [.agg (bS.af a0)] (afG a0):=by
 refine ja GO ?_
 have q2:=q1.elems; have q3:=q1.iO
 refine bb ?_
 refine aU ?_
 refine aX ?_
 have hS1:=Sep.mn j1 2
 have hNk2:=a0.iO.lk
 refine iF a0.iO.l.length (λk2 e h=>∃ v3:AV,∃ l4:List iu,∃ H5:aT,(l4.length<=0+2*k2)/\Sep H5 (nH iu.af 2 v3 l4::[])/\At [1,3,4] [.la 1 0,v3,ir k2] H5 [(1,(bS.af a0))] e h) ?_ (k0:=0) dT ⟨iE,(([]:List iu)),aT.empty,ew,hS1,atR⟩
 rintro k2 e h hkk2 ⟨v3,l4,H5,hl7,hS6,hA⟩
 refine ca ?_
 have hL8:=a0.iO.lk
 refine jb a0.iO ?_
 refine iV (λh9=>?_) (λh9=>?_)
 refine a8 ?_
 refine wz [.la 1 0,v3,ir k2] H5 [(1,(bS.af a0))] ?_ (jd hS6 [(3,0)])
 refine aD ?_
 refine qd ?_
 refine a7 ?_
 have hx10:k2<a0.iO.l.length:=by omega
 refine lh k2 a0.iO hx10 ?_
 generalize hqx11:a0.iO.l[k2]=x11
 refine cu ?_
 have hx12:k2<a0.iO.l.length:=by omega
 refine lh k2 a0.iO hx12 ?_
 rw [hqx11]
 refine bf ?_
 refine l3 rfl rfl (jZ (i:=0) [x11.a,x11.b] hS6 rfl rfl rfl rfl rfl rfl rfl rfl rfl (λ_=>rfl) (.inl rfl) dW (λ_=>rfl)) ?_
 rintro v14 H15 hS16
 refine aI ?_
 refine wz [.la 1 0,v14,ir k2] H15 [(1,(bS.af a0))] ?_ (jd hS16 [(3,0)])
 refine aM ?_
 refine jc ?_
 refine ab ?_
 exact ⟨by omega,v14,((l4++[x11.a,x11.b])),H15,dP,hS16,(jd hS16 [(3,0)])⟩
 refine aJ ?_
 refine wz [.la 1 0,v3] H5 [(1,(bS.af a0))] ?_ (jd hS6 [(3,0)])
 refine aX ?_
 refine iF l4.length (λmF e h=>At [1,3,5] [.la 1 0,v3,ir mF] H5 [(1,(bS.af a0))] e h) ?_ (k0:=0) dT (jd hS6 [(3,0)])
 rintro mF e h hkk17 hA
 refine cZ ?_
 refine iz rfl (λ_=>oJ (i:=0) hS6 rfl rfl rfl rfl rfl rfl rfl) ?_
 refine iV (λh18=>?_) (λh18=>?_)
 refine a8 ?_
 refine wz [.la 1 0,v3,ir mF] H5 [(1,(bS.af a0))] ?_ (jd hS6 [(3,0)])
 refine aD ?_
 refine qs ?_
 refine cY ?_
 have hx19:mF<l4.length:=by first | omega | (simp<;>omega) | (simp_all; omega)
 obtain ⟨x20,hqx20⟩:∃ x,l4[mF]=x:=⟨_,rfl⟩
 refine pd rfl rfl (nd (i:=0) (m:=mF) (cs:=iu.af x20) hS6 rfl rfl rfl rfl rfl rfl rfl (lO hx19 hqx20)) ?_
 rintro a21 ⟨ha22,hea23⟩
 refine iN rfl rfl (λ_=>o9 (i:=0) (m:=mF) (o:=0) (r:=.agg (iu.af x20)) (cs:=iu.af x20) hS6 rfl (lO hx19 hqx20) hea23 rfl rfl ha22) ?_
 refine rC (t254 a0 x20) ?_
 rintro _ ⟨r25,hc24,rfl⟩
 cases r25
 clear hc24
 refine c8 ?_
 exact gl
 have hc24t:=hc24 rfl
 refine bD ?_
 refine wz [.la 1 0,v3,ir mF] H5 [(1,(bS.af a0))] ?_ (jd hS6 [(3,0)])
 refine aa ?_
 refine aL ?_
 refine iF mF (λkG e h=>At [1,3,5,6] [.la 1 0,v3,ir mF,ir kG] H5 [(1,(bS.af a0))] e h) ?_ (k0:=0) dT (jd hS6 [(3,0)])
 rintro kG e h hkk26 hA
 refine cZ ?_
 refine iV (λh27=>?_) (λh27=>?_)
 refine a8 ?_
 refine wz [.la 1 0,v3,ir mF,ir kG] H5 [(1,(bS.af a0))] ?_ (jd hS6 [(3,0)])
 refine aD ?_
 refine bX ?_
 have hx28:kG<l4.length:=by first | omega | (simp<;>omega) | (simp_all; omega)
 obtain ⟨x29,hqx29⟩:∃ x,l4[kG]=x:=⟨_,rfl⟩
 refine pd rfl rfl (nd (i:=0) (m:=kG) (cs:=iu.af x29) hS6 rfl rfl rfl rfl rfl rfl rfl (lO hx28 hqx29)) ?_
 rintro a30 ⟨ha31,hea32⟩
 refine iN rfl rfl (λ_=>o9 (i:=0) (m:=kG) (o:=0) (r:=.agg (iu.af x29)) (cs:=iu.af x29) hS6 rfl (lO hx28 hqx29) hea32 rfl rfl ha31) ?_
 refine ay ?_
 have hx33:mF<l4.length:=by first | omega | (simp<;>omega) | (simp_all; omega)
 refine pd rfl rfl (nd (i:=0) (m:=mF) (cs:=iu.af x20) hS6 rfl rfl rfl rfl rfl rfl rfl (lO hx33 hqx20)) ?_
 rintro a34 ⟨ha35,hea36⟩
 refine iN rfl rfl (λ_=>o9 (i:=0) (m:=mF) (o:=0) (r:=.agg (iu.af x20)) (cs:=iu.af x20) hS6 rfl (lO hx33 hqx20) hea36 rfl rfl ha35) ?_
 refine nS rfl rfl (λ_=>wj rfl rfl rfl (λ_ _=>rfl)) (λh37=>?_) (λh37=>?_)
 refine rN ?_
 refine ac ?_
 exact gl
 refine cO ?_
 refine wz [.la 1 0,v3,ir mF,ir kG] H5 [(1,(bS.af a0))] ?_ (jd hS6 [(3,0)])
 refine aM ?_
 refine jc ?_
 refine ab ?_
 exact ⟨by omega,(jd hS6 [(3,0)])⟩
 refine aJ ?_
 refine wz [.la 1 0,v3,ir mF] H5 [(1,(bS.af a0))] ?_ (jd hS6 [(3,0)])
 refine aM ?_
 refine jc ?_
 refine ab ?_
 exact ⟨by omega,(jd hS6 [(3,0)])⟩
 refine aJ ?_
 refine aX ?_
 have hNk38:=a0.elems.lk
 refine iF a0.elems.l.length (λrP e h=>At [1,7] [.la 1 0,ir rP] H5 [(1,(bS.af a0))] e h) ?_ (k0:=0) dT atR
 rintro rP e h hkk38 hA
 refine ca ?_
 have hL39:=a0.elems.lk
 refine jb a0.elems ?_
 refine iV (λh40=>?_) (λh40=>?_)
 refine bP ?_
 refine aP ?_
 have hx41:rP<a0.elems.l.length:=by omega
 refine kH rP a0.elems hx41 ?_
 generalize hqx42:a0.elems.l[rP]=x42
 refine aj ?_
 refine iY (λh43=>?_) (λh43=>?_)
 refine az ?_
 refine aP ?_
 refine oC (t84 a0 (⟨((rP:Int)),0⟩:iu)) ?_
 rintro _ ⟨r45,r46,hc44,rfl⟩
 have hN:=hc44
 cases r46
 refine cW ?_
 refine bw ?_
 refine aq ?_
 exact gl
 refine cW ?_
 refine ci ?_
 refine oC (t111 a0 r45.elem) ?_
 rintro _ ⟨r48,hc47,rfl⟩
 refine iY (λh49=>?_) (λh49=>?_)
 refine aq ?_
 exact gl
 refine bW ?_
 refine jc ?_
 refine ab ?_
 exact gm
 refine aC ?_
 refine aM ?_
 refine jc ?_
 refine ab ?_
 exact gm
 refine c7 ?_
 exact gn
def acv (_a0:bS) (_a1:iu) (v:AV):Prop:=∃ r0:Int,(r0=(nC _a0.signals.l _a1).getD (-1))/\v=iv r0
def t110 (a0:bS) (a1:iu) :Ct 110 [.agg (bS.af a0),.agg (iu.af a1)] (acv a0 a1):=by
 refine ja Ig ?_
 refine bR ?_
 refine aX ?_
 have hNk1:=a0.signals.lk
 refine iF a0.signals.l.length (λk1 e h=>(mg a1 k1 (a0.signals.l.drop k1)=nC a0.signals.l a1)/\At [2,3,5] [.la 2 0,.la 3 0,ir k1] aT.empty [(2,(bS.af a0)),(3,(iu.af a1))] e h) ?_ (k0:=0) dT ⟨(by rfl),atR⟩
 rintro k1 e h hkk1 ⟨hI,hA⟩
 refine ca ?_
 have hL2:=a0.signals.lk
 refine jb a0.signals ?_
 refine iV (λh3=>?_) (λh3=>?_)
 refine bP ?_
 refine cY ?_
 have hx4:k1<a0.signals.l.length:=by omega
 refine lh k1 a0.signals hx4 ?_
 generalize hqx5:a0.signals.l[k1]=x5
 refine bf ?_
 refine nS rfl rfl (λ_=>wj rfl rfl rfl (λ_ _=>rfl)) (λh6=>?_) (λh6=>?_)
 refine rN ?_
 refine qT ?_
 refine bv ?_
 exact xB ⟨((k1:Int)),fR,rfl⟩
 refine cO ?_
 refine aM ?_
 refine jc ?_
 refine ab ?_
 exact ⟨by omega,(by (exact (BM dS dS dS).trans hI)),atR⟩
 refine c7 ?_
 exact xB ⟨(-1),fR,rfl⟩
def ac1 (_a0:bS) (v:AV):Prop:=∃ r0:Bool,(True)/\v=.bool r0
def t168 (a0:bS) :Ct 168 [.agg (bS.af a0)] (ac1 a0):=by
 refine ja Ii ?_
 refine bb ?_
 refine aX ?_
 have hNk1:=a0.signals.lk
 refine iF a0.signals.l.length (λk1 e h=>At [1,3] [.la 1 0,ir k1] aT.empty [(1,(bS.af a0))] e h) ?_ (k0:=0) dT atR
 rintro k1 e h hkk1 hA
 refine ca ?_
 have hL2:=a0.signals.lk
 refine jb a0.signals ?_
 refine iV (λh3=>?_) (λh3=>?_)
 refine bP ?_
 refine aP ?_
 have hx4:k1<a0.signals.l.length:=by omega
 refine kH k1 a0.signals hx4 ?_
 generalize hqx5:a0.signals.l[k1]=x5
 refine cg ?_
 refine aP ?_
 refine oC (t111 a0 x5.at_.elem) ?_
 rintro _ ⟨r7,hc6,rfl⟩
 refine ab ?_
 refine aQ ?_
 refine oC (t254 a0 x5.at_) ?_
 rintro _ ⟨r9,hc8,rfl⟩
 cases r9
 clear hc8
 refine bw ?_
 refine oS ?_
 refine aq ?_
 exact gl
 have hc8t:=hc8 rfl
 refine aK ?_
 refine kE (λh10=>?_) (λh10=>?_)
 refine aj ?_
 refine kE (λh11=>?_) (λh11=>?_)
 refine bc ?_
 exact gl
 refine dF ?_
 refine ae ?_
 refine oC (t84 a0 x5.at_) ?_
 rintro _ ⟨r13,r14,hc12,rfl⟩
 have hN:=hc12
 cases r14
 refine cW ?_
 refine bw ?_
 refine bw ?_
 refine aq ?_
 exact gl
 refine cW ?_
 refine ci ?_
 refine oC (t111 a0 r13.elem) ?_
 rintro _ ⟨r16,hc15,rfl⟩
 refine iY (λh17=>?_) (λh17=>?_)
 refine bw ?_
 refine aq ?_
 exact gl
 refine bk ?_
 refine oC (t110 a0 x5.at_) ?_
 rintro _ ⟨r19,hc18,rfl⟩
 have hR:=hc18
 refine oV ?_
 refine kE (λh20=>?_) (λh20=>?_)
 refine aq ?_
 exact gl
 refine bW ?_
 refine jc ?_
 refine ab ?_
 exact gm
 refine be ?_
 refine dF ?_
 refine ae ?_
 refine oC (t84 a0 x5.at_) ?_
 rintro _ ⟨r22,r23,hc21,rfl⟩
 have hN:=hc21
 cases r23
 refine cW ?_
 refine bw ?_
 refine bw ?_
 refine aq ?_
 exact gl
 refine cW ?_
 refine ci ?_
 refine oC (t111 a0 r22.elem) ?_
 rintro _ ⟨r25,hc24,rfl⟩
 refine iY (λh26=>?_) (λh26=>?_)
 refine bw ?_
 refine aq ?_
 exact gl
 refine bk ?_
 refine oC (t110 a0 x5.at_) ?_
 rintro _ ⟨r28,hc27,rfl⟩
 have hR:=hc27
 refine oV ?_
 refine kE (λh29=>?_) (λh29=>?_)
 refine aq ?_
 exact gl
 refine bW ?_
 refine jc ?_
 refine ab ?_
 exact gm
 refine aJ ?_
 refine aX ?_
 have hNk30:=a0.elems.lk
 refine iF a0.elems.l.length (λo3 e h=>At [1,8] [.la 1 0,ir o3] aT.empty [(1,(bS.af a0))] e h) ?_ (k0:=0) dT atR
 rintro o3 e h hkk30 hA
 refine ca ?_
 have hL31:=a0.elems.lk
 refine jb a0.elems ?_
 refine iV (λh32=>?_) (λh32=>?_)
 refine bP ?_
 refine aP ?_
 have hx33:o3<a0.elems.l.length:=by omega
 refine kH o3 a0.elems hx33 ?_
 generalize hqx34:a0.elems.l[o3]=x34
 refine aj ?_
 refine iY (λh35=>?_) (λh35=>?_)
 refine bk ?_
 refine oC (t110 a0 (⟨((o3:Int)),0⟩:iu)) ?_
 rintro _ ⟨r37,hc36,rfl⟩
 have hR:=hc36
 refine iV (λh38=>?_) (λh38=>?_)
 refine aq ?_
 exact gl
 refine bW ?_
 refine jc ?_
 refine ab ?_
 exact gm
 refine bB ?_
 refine bW ?_
 refine jc ?_
 refine ab ?_
 exact gm
 refine c7 ?_
 exact gn
def Rq (_a0:jo Int) (_a1:Int) (v:AV):Prop:=∃ r0:Bool,(((r0=true->_a1∈_a0.l)/\(r0=false->_a1∉_a0.l)))/\v=.bool r0
def t55 (a0:jo Int) (a1:Int) :Ct 55 [py a0,iv a1] (Rq a0 a1):=by
 refine ja MO ?_
 refine aU ?_
 refine aX ?_
 have hNk1:=a0.lk
 refine iF a0.l.length (λk1 e h=>(∀ (i:Nat) (h:i<a0.l.length),i<k1->¬ a0.l[i]=a1)/\At [0,1,5] [py a0,iv a1,ir k1] aT.empty [] e h) ?_ (k0:=0) dT ⟨eE,atR⟩
 rintro k1 e h hkk1 ⟨hU,hA⟩
 refine cZ ?_
 have hL2:=a0.lk
 refine iz rfl (λ_=>pP (r:=a0) (enc:=iP) rfl rfl rfl rfl rfl rfl) ?_
 refine iV (λh3=>?_) (λh3=>?_)
 refine bP ?_
 refine ae ?_
 have hx4:k1<a0.l.length:=by omega
 refine iz rfl (λ_=>pV (n:=k1) (r:=a0) (enc:=iP) rfl rfl rfl rfl rfl hx4 rfl) ?_
 generalize hqx5:a0.l[k1]=x5
 refine aj ?_
 refine iY (λh6=>?_) (λh6=>?_)
 refine bu ?_
 exact xB ⟨true,fA,rfl⟩
 refine aC ?_
 refine aM ?_
 refine jc ?_
 refine ab ?_
 exact ⟨by omega,gb,atR⟩
 refine c7 ?_
 exact xB ⟨false,fA,rfl⟩
def afD (_a0:bS) (_a1:Row Int) (v:AV):Prop:=∃ r0:Row Int,∃ r1:Bool,(True)/\v=.je [jV r0,.bool r1]
def t266 (a0:bS) (a1:Row Int) (q1:a1.l.length<=1000):Ct 266 [.agg (bS.af a0),jV a1] (afD a0 a1):=by
 refine ja Hi ?_
 refine bR ?_
 refine ah ?_
 have hL1:=a1.lk
 refine jb a1 ?_
 refine iY (λh2=>?_) (λh2=>?_)
 refine dy ?_
 exact gC
 refine aC ?_
 refine aX ?_
 have hNk3:=a1.lk
 refine iF a1.l.length (λk3 e h=>At [1,2,6] [jV a1,.la 2 0,ir k3] aT.empty [(2,(bS.af a0))] e h) ?_ (k0:=0) dT atR
 rintro k3 e h hkk3 hA
 refine cZ ?_
 have hL4:=a1.lk
 refine jb a1 ?_
 refine iV (λh5=>?_) (λh5=>?_)
 refine bP ?_
 refine cY ?_
 have hx6:k3<a1.l.length:=by omega
 refine lh k3 a1 hx6 ?_
 generalize hqx7:a1.l[k3]=x7
 refine rV ?_
 refine rC (t111 a0 x7) ?_
 rintro _ ⟨r9,hc8,rfl⟩
 refine vx (λh10=>?_) (λh10=>?_)
 refine rN ?_
 refine qT ?_
 refine bv ?_
 exact gC
 refine cO ?_
 refine aM ?_
 refine jc ?_
 refine ab ?_
 exact gm
 refine aJ ?_
 refine ah ?_
 have hL11:=a1.lk
 refine jb a1 ?_
 refine iY (λh12=>?_) (λh12=>?_)
 refine az ?_
 refine bj ?_
 exact xG ⟨(⟨[0],.exact 1,nM,rfl,lN⟩:Row Int),true,zt⟩
 refine aC ?_
 refine aU ?_
 refine aX ?_
 refine kF (λm17 e h=>∃ n13:Int,∃ n14:Int,m17=(n14+1).toNat/\(-1<=n14)/\(n14<=1)/\At [1,2,7,8] [jV a1,.la 2 0,iv n13,iv n14] aT.empty [(2,(bS.af a0))] e h) ?_ _ _ _ ⟨(-1),1,rfl,dT,dT,atR⟩
 rintro m17 e h ⟨n13,n14,hmm17,hi15,hi16,hA⟩
 refine bL ?_
 refine kL (λh18=>?_) (λh18=>?_)
 refine bP ?_
 refine bX ?_
 have hx19:0<a1.l.length:=by omega
 refine lh 0 a1 hx19 ?_
 generalize hqx20:a1.l[0]=x20
 refine bf ?_
 refine rC (t84 a0 (⟨x20,n14⟩:iu)) ?_
 rintro _ ⟨r22,r23,hc21,rfl⟩
 have hN:=hc21
 cases r23
 refine bG ?_
 refine aH ?_
 refine bM ?_
 refine bD ?_
 refine aM ?_
 refine jT ?_
 refine ab ?_
 refine ⟨_,?_,n13,(n14 - 1),rfl,dT,dT,atR⟩
 omega
 refine bG ?_
 refine aH ?_
 refine cu ?_
 have hx24:1<a1.l.length:=by omega
 refine lh 1 a1 hx24 ?_
 generalize hqx25:a1.l[1]=x25
 refine rV ?_
 refine lE (λh26=>?_) (λh26=>?_)
 refine cf ?_
 refine qg ?_
 refine bo ?_
 refine aM ?_
 refine jT ?_
 refine ab ?_
 refine ⟨_,?_,n14,(n14 - 1),rfl,dT,dT,atR⟩
 omega
 refine bD ?_
 refine aM ?_
 refine jT ?_
 refine ab ?_
 refine ⟨_,?_,n13,(n14 - 1),rfl,dT,dT,atR⟩
 omega
 refine aJ ?_
 refine ah ?_
 refine iV (λh27=>?_) (λh27=>?_)
 refine dy ?_
 exact gC
 refine aC ?_
 refine aE ?_
 refine iz rfl (λ_=>iZ rfl rfl rfl (jF .i64 1 n13)) ?_
 refine bo ?_
 refine aX ?_
 have hS28:=Sep.Yw j1 1 (List.map iP [(IntKind.i64.wrap (1 - n13))]) (by intro x hx; obtain ⟨y,_,rfl⟩:=List.mem_map.mp hx; rfl) (k:=1) rfl
 have hNk29:=a1.lk
 refine iF a1.l.length (λp7 e h=>∃ v30:AV,∃ l31:List Int,∃ n32:Int,∃ H33:aT,(1<=p7)/\(l31.length<=1+p7)/\Sep H33 (zsP iP 1 v30 l31::[])/\At [1,2,7,11,12] [jV a1,.la 2 0,iv n32,v30,ir p7] H33 [(2,(bS.af a0))] e h) ?_ (k0:=1) dT ⟨((.sl (List.map iP [(IntKind.i64.wrap (1 - n13))]) (.exact 1))),([(IntKind.i64.wrap (1 - n13))]),n13,aT.empty,dT,ew,hS28,atR⟩
 rintro p7 e h hkk29 ⟨v30,l31,n32,H33,hw35,hl36,hS34,hA⟩
 refine cZ ?_
 have hL37:=a1.lk
 refine jb a1 ?_
 refine iV (λh38=>?_) (λh38=>?_)
 refine a8 ?_
 refine wz [jV a1,.la 2 0,iv n32,v30,ir p7] H33 [(2,(bS.af a0))] ?_ (jd hS34 [(11,0)])
 refine aD ?_
 refine cY ?_
 refine Qx ?_
 have hx39:((p7:Int) - 1).toNat<a1.l.length:=by omega
 refine iN rfl rfl (λ_=>jh (n:=(p7:Int) - 1) (r:=a1) (enc:=iP) rfl rfl rfl rfl rfl dT hx39 rfl) ?_
 generalize hqx40:a1.l[((p7:Int) - 1).toNat]=x40
 refine bf ?_
 refine rC (t84 a0 (⟨x40,n32⟩:iu)) ?_
 rintro _ ⟨r42,r43,hc41,rfl⟩
 have hN:=hc41
 cases r43
 refine bG ?_
 refine qs ?_
 refine cY ?_
 iterate 7 refine rS ?_
 refine cf ?_
 refine bv ?_
 exact gC
 refine bG ?_
 refine bZ ?_
 iterate 7 refine rV ?_
 have hx44:p7<a1.l.length:=by omega
 refine lh p7 a1 hx44 ?_
 generalize hqx45:a1.l[p7]=x45
 refine rV ?_
 refine vx (λh46=>?_) (λh46=>?_)
 refine cf ?_
 refine bv ?_
 exact gC
 refine bD ?_
 refine wz [jV a1,.la 2 0,v30,ir p7,.la 13 0] H33 [(2,(bS.af a0)),(13,(iu.af r42))] ?_ (jd hS34 [(11,0)])
 refine bp ?_
 refine jq rfl (jZ (i:=0) [r42.en] hS34 rfl rfl rfl rfl rfl rfl rfl rfl rfl (λ_=>rfl) (.inl rfl) dW (λ_=>rfl)) ?_
 rintro v47 H48 hS49
 refine ab ?_
 refine bh ?_
 refine iz rfl (λ_=>iZ rfl rfl rfl (jF .i64 1 r42.en)) ?_
 refine ab ?_
 refine wz [jV a1,.la 2 0,iv (IntKind.i64.wrap (1 - r42.en)),v47,ir p7] H48 [(2,(bS.af a0))] ?_ (jd hS49 [(11,0)])
 refine aM ?_
 refine jc ?_
 refine ab ?_
 exact ⟨by omega,v47,((l31++[r42.en])),(IntKind.i64.wrap (1 - r42.en)),H48,dT,dP,hS49,(jd hS49 [(11,0)])⟩
 refine aJ ?_
 refine wz [v30] H33 [] ?_ (jd hS34 [(11,0)])
 refine bj ?_
 obtain ⟨r50,hl51,hf52⟩:=lS (H:=H33) (i:=0) (l:=l31) (enc:=iP) hS34 rfl dQ
 have hlq:=hl51; have hln54:=congrArg List.length hl51
 have hz53:∀ m,freeze false { H33 with iq:=[] } (m+2) v30=some (jV r50):=λm=>hf52 _ _ (λ_=>rfl)
 exact ⟨.je [v30,.bool true],(kY (vs:=[v30,.bool true]) rfl (iM (Sep.arg (i:=0) hS34 rfl) (iM rfl jP))),.je [jV r50,.bool true],(show freeze false { H33 with iq:=[] } 8 (.je [v30,.bool true])=some (.je [jV r50,.bool true]) by simp only [FZ,hz53]),r50,true,zt⟩
def acV (_a0:bS) (v:AV):Prop:=∃ r0:Bool,(True)/\v=.bool r0
def t169 (a0:bS) (q1:mu a0):Ct 169 [.agg (bS.af a0)] (acV a0):=by
 refine ja IQ ?_
 have q2:=q1.lines
 refine bb ?_
 refine aU ?_
 refine aX ?_
 have hS1:=Sep.mn j1 1
 have hNk2:=a0.lines.lk
 refine iF a0.lines.l.length (λk2 e h=>∃ v3:AV,∃ l4:List Int,∃ H5:aT,(l4.length<=60*k2)/\Sep H5 (ot v3 l4::[])/\At [1,3,4] [.la 1 0,v3,ir k2] H5 [(1,(bS.af a0))] e h) ?_ (k0:=0) dT ⟨iE,(([]:List Int)),aT.empty,fp,hS1,atR⟩
 rintro k2 e h hkk2 ⟨v3,l4,H5,hI,hS6,hA⟩
 refine ca ?_
 have hL7:=a0.lines.lk
 refine jb a0.lines ?_
 refine iV (λh8=>?_) (λh8=>?_)
 refine a8 ?_
 refine wz [.la 1 0,v3,ir k2] H5 [(1,(bS.af a0))] ?_ (jd hS6 [(3,0)])
 refine aD ?_
 refine aP ?_
 have hx9:k2<a0.lines.l.length:=by omega
 refine kH k2 a0.lines hx9 ?_
 generalize hqx10:a0.lines.l[k2]=x10
 have hinx10:x10∈a0.lines.l:=by rw [<- hqx10]; exact List.getElem_mem _
 have hsx10:=q1.line x10 hinx10
 refine ba ?_
 refine aX ?_
 have hNk11:=x10.elems.lk
 refine iF x10.elems.l.length (λiU e h=>∃ v12:AV,∃ l13:List Int,∃ H14:aT,(l13.length<=l4.length+iU)/\Sep H14 (ot v12 l13::[])/\At [1,3,4,5,6] [.la 1 0,v12,ir k2,jV x10.elems,ir iU] H14 [(1,(bS.af a0))] e h) ?_ (k0:=0) dT ⟨v3,l4,H5,ew,hS6,(jd hS6 [(3,0)])⟩
 rintro iU e h hkk11 ⟨v12,l13,H14,hl16,hS15,hA⟩
 refine cZ ?_
 have hL17:=x10.elems.lk
 refine jb x10.elems ?_
 refine iV (λh18=>?_) (λh18=>?_)
 refine a8 ?_
 refine wz [.la 1 0,v12,ir k2,jV x10.elems,ir iU] H14 [(1,(bS.af a0))] ?_ (jd hS15 [(3,0)])
 refine aD ?_
 refine aW ?_
 have hx19:iU<x10.elems.l.length:=by omega
 refine kH iU x10.elems hx19 ?_
 generalize hqx20:x10.elems.l[iU]=x20
 refine oV ?_
 refine nN hS15 0 λr21 hl22 hln25 hz24=>?_
 refine mS (args:=[v12,iv x20]) (p:=[]) (r:=[]) (args':=[py r21,iv x20]) (R:=Rq r21 x20) rfl rfl rfl rfl rfl (iM (Sep.arg (i:=0) hS15 rfl) (iM rfl jP)) rfl fw (kO (by show ju (freeze true { H14 with iq:=[] } 8) [v12,iv x20] = _; simp only [FZ,hz24]) (iM (Sep.oZ (i:=0) hS15 rfl) (iM rfl jP))) (kO fg (iM rfl (iM rfl jP))) (λh=>t55 r21 x20  h) ?_
 rintro _ ⟨r27,hc26,rfl⟩
 have hIn:=hc26
 cases r27
 refine aC ?_
 refine wz [.la 1 0,v12,ir k2,jV x10.elems,ir iU] H14 [(1,(bS.af a0))] ?_ (jd hS15 [(3,0)])
 refine bl ?_
 have hx28:iU<x10.elems.l.length:=by omega
 refine kH iU x10.elems hx28 ?_
 rw [hqx20]
 refine aj ?_
 refine jq rfl (jZ (i:=0) [x20] hS15 rfl rfl rfl rfl rfl rfl rfl rfl rfl (λ_=>rfl) (.inl rfl) dW (λ_=>rfl)) ?_
 rintro v30 H31 hS32
 refine ab ?_
 refine wz [.la 1 0,v30,ir k2,jV x10.elems,ir iU] H31 [(1,(bS.af a0))] ?_ (jd hS32 [(3,0)])
 refine aM ?_
 refine jc ?_
 refine ab ?_
 exact ⟨by omega,v30,((l13++[x20])),H31,dP,hS32,(jd hS32 [(3,0)])⟩
 refine bu ?_
 exact gl
 refine aJ ?_
 refine wz [.la 1 0,v12,ir k2,jV x10.elems] H14 [(1,(bS.af a0))] ?_ (jd hS15 [(3,0)])
 refine ae ?_
 refine oC (t266 a0 x10.elems dK) ?_
 rintro _ ⟨r34,r35,hc33,rfl⟩
 cases r35
 refine aK ?_
 refine c9 ?_
 refine bc ?_
 exact gl
 refine aK ?_
 refine c9 ?_
 refine dF ?_
 refine wz [.la 1 0,v12,ir k2] H14 [(1,(bS.af a0))] ?_ (jd hS15 [(3,0)])
 refine aM ?_
 refine jc ?_
 refine ab ?_
 exact ⟨by omega,v12,l13,H14,dU,hS15,(jd hS15 [(3,0)])⟩
 refine c7 ?_
 exact gn
def P83 (_a0:bS) (_a1:Int) (v:AV):Prop:=∃ r0:Int,(r0=rT _a0 _a1)/\v=iv r0
def t83 (a0:bS) (a1:Int) :Ct 83 [.agg (bS.af a0),iv a1] (P83 a0 a1):=by
 refine ja MW ?_
 refine bb ?_
 refine ah ?_
 refine iV (λh1=>?_) (λh1=>?_)
 refine bB ?_
 refine aq ?_
 exact xB ⟨0,fy,rfl⟩
 refine bk ?_
 have hL2:=a0.elems.lk
 refine jb a0.elems ?_
 refine kL (λh3=>?_) (λh3=>?_)
 refine aq ?_
 exact xB ⟨0,fy,rfl⟩
 refine aA ?_
 refine aP ?_
 have hx4:(a1).toNat<a0.elems.l.length:=by omega
 refine iz rfl (λ_=>jh (n:=a1) (r:=a0.elems) (enc:=j9.af) rfl rfl rfl rfl rfl dT hx4 rfl) ?_
 generalize hqx5:a0.elems.l[(a1).toNat]=x5
 refine b8 ?_
 exact xB ⟨x5.len,fy,rfl⟩
def afb (_a0:Int) (_a1:Int) (v:AV):Prop:=∃ r0:Int,(True)/\v=iv r0
def t267 (a0:Int) (a1:Int) :Ct 267 [iv a0,iv a1] (afb a0 a1):=by
 refine ja G6 ?_
 refine bN ?_
 refine iV (λh1=>?_) (λh1=>?_)
 refine be ?_
 refine bI ?_
 refine bI ?_
 refine aq ?_
 exact gD
 refine aj ?_
 refine jI (λh2=>?_) (λh2=>?_)
 refine bI ?_
 refine bI ?_
 refine aq ?_
 exact gD
 refine aK ?_
 refine iV (λh3=>?_) (λh3=>?_)
 refine bI ?_
 refine aq ?_
 exact gD
 refine aK ?_
 refine jI (λh4=>?_) (λh4=>?_)
 refine aq ?_
 exact gD
 refine aA ?_
 refine aU ?_
 refine aQ ?_
 refine jT ?_
 refine aL ?_
 refine kF (λm9 e h=>∃ n5:Int,∃ n6:Int,m9=(n5+10).toNat/\(-10<=n5)/\(n5<=60)/\At [0,1,5] [iv n5,iv a1,iv n6] aT.empty [] e h) ?_ _ _ _ ⟨(a0 - a1),0,rfl,dT,dT,atR⟩
 rintro m9 e h ⟨n5,n6,hmm9,hi7,hi8,hA⟩
 refine bL ?_
 refine jI (λh10=>?_) (λh10=>?_)
 refine bP ?_
 refine bh ?_
 refine iz rfl (λ_=>iZ rfl rfl rfl (uw .i64 n6 n5)) ?_
 refine ab ?_
 refine bh ?_
 refine jT ?_
 refine ab ?_
 refine ⟨_,?_,(n5 - a1),(IntKind.i64.wrap (n6+(n5))),rfl,dT,dT,atR⟩
 omega
 refine aJ ?_
 refine bv ?_
 exact xB ⟨n6,zt⟩
def ad8 (_a0:bS) (v:AV):Prop:=∃ r0:Bool,(True)/\v=.bool r0
def t170 (a0:bS) :Ct 170 [.agg (bS.af a0)] (ad8 a0):=by
 refine ja Iq ?_
 refine bb ?_
 refine bZ ?_
 refine dG ?_
 refine rC (t267 a0.top a0.jY) ?_
 rintro _ ⟨r2,hc1,rfl⟩
 refine iN rfl rfl (λ_=>iZ rfl rfl rfl (uw .i64 a0.top r2)) ?_
 refine mK (λh3=>?_) (λh3=>?_)
 refine rN ?_
 refine ac ?_
 exact gl
 refine cO ?_
 refine aX ?_
 have hNk4:=a0.signals.lk
 refine iF a0.signals.l.length (λk4 e h=>At [1,3] [.la 1 0,ir k4] aT.empty [(1,(bS.af a0))] e h) ?_ (k0:=0) dT atR
 rintro k4 e h hkk4 hA
 refine ca ?_
 have hL5:=a0.signals.lk
 refine jb a0.signals ?_
 refine iV (λh6=>?_) (λh6=>?_)
 refine bP ?_
 refine aP ?_
 have hx7:k4<a0.signals.l.length:=by omega
 refine kH k4 a0.signals hx7 ?_
 generalize hqx8:a0.signals.l[k4]=x8
 refine cg ?_
 refine bX ?_
 refine rC (t111 a0 x8.at_.elem) ?_
 rintro _ ⟨r10,hc9,rfl⟩
 refine lE (λh11=>?_) (λh11=>?_)
 refine bf ?_
 refine rC (t83 a0 x8.at_.elem) ?_
 rintro _ ⟨r13,hc12,rfl⟩
 have hLen:=hc12
 refine ay ?_
 refine mK (λh14=>?_) (λh14=>?_)
 refine c8 ?_
 exact gl
 refine bD ?_
 refine aM ?_
 refine jc ?_
 refine ab ?_
 exact gm
 refine rV ?_
 iterate 6 refine rS ?_
 refine bD ?_
 refine aM ?_
 refine jc ?_
 refine ab ?_
 exact gm
 refine aJ ?_
 refine aX ?_
 have hNk15:=a0.elems.lk
 refine iF a0.elems.l.length (λqu e h=>At [1,5] [.la 1 0,ir qu] aT.empty [(1,(bS.af a0))] e h) ?_ (k0:=0) dT atR
 rintro qu e h hkk15 hA
 refine ca ?_
 have hL16:=a0.elems.lk
 refine jb a0.elems ?_
 refine iV (λh17=>?_) (λh17=>?_)
 refine bP ?_
 refine cY ?_
 have hx18:qu<a0.elems.l.length:=by omega
 refine lh qu a0.elems hx18 ?_
 generalize hqx19:a0.elems.l[qu]=x19
 refine ay ?_
 refine vx (λh20=>?_) (λh20=>?_)
 refine a7 ?_
 have hx21:qu<a0.elems.l.length:=by omega
 refine lh qu a0.elems hx21 ?_
 rw [hqx19]
 refine a7 ?_
 refine mK (λh23=>?_) (λh23=>?_)
 refine c8 ?_
 exact gl
 refine bD ?_
 refine aM ?_
 refine jc ?_
 refine ab ?_
 exact gm
 refine rV ?_
 iterate 9 refine rS ?_
 refine bD ?_
 refine aM ?_
 refine jc ?_
 refine ab ?_
 exact gm
 refine c7 ?_
 exact gn
def P91 (_a0:bS) (v:AV):Prop:=∃ r0:Int,(True)/\v=iv r0
def t91 (a0:bS) (q1:mu a0):Ct 91 [.agg (bS.af a0)] (P91 a0):=by
 refine ja Mr ?_
 have q2:=q1.elems; have q3:=q1.signals; have q4:=q1.lines
 refine bb ?_
 refine aQ ?_
 have hL1:=a0.elems.lk
 refine jb a0.elems ?_
 refine jI (λh2=>?_) (λh2=>?_)
 refine bF ?_
 refine aV ?_
 refine bQ ?_
 exact xB ⟨3,zt⟩
 refine aK ?_
 have hL3:=a0.signals.lk
 refine jb a0.signals ?_
 refine jI (λh4=>?_) (λh4=>?_)
 refine aV ?_
 refine bQ ?_
 exact xB ⟨3,zt⟩
 refine bk ?_
 have hL5:=a0.lines.lk
 refine jb a0.lines ?_
 refine jI (λh6=>?_) (λh6=>?_)
 refine bQ ?_
 exact xB ⟨3,zt⟩
 refine bk ?_
 have hL7:=a0.iO.lk
 refine jb a0.iO ?_
 refine jI (λh8=>?_) (λh8=>?_)
 refine aq ?_
 exact xB ⟨3,zt⟩
 refine dE ?_
 refine oC (t164 a0 dK) ?_
 rintro _ ⟨r10,r11,r12,hc9,rfl⟩
 refine oV ?_
 refine aF ?_
 refine bT ?_
 refine oC (t165 a0) ?_
 rintro _ ⟨r14,hc13,rfl⟩
 cases r14
 refine bc ?_
 exact xB ⟨1,zt⟩
 refine dA ?_
 refine oC (t166 r10) ?_
 rintro _ ⟨r16,hc15,rfl⟩
 cases r16
 refine aj ?_
 refine oC (t166 r11) ?_
 rintro _ ⟨r18,hc17,rfl⟩
 cases r18
 refine aK ?_
 refine oC (t166 r12) ?_
 rintro _ ⟨r20,hc19,rfl⟩
 cases r20
 refine dA ?_
 refine oC (t167 a0 dK) ?_
 rintro _ ⟨r22,hc21,rfl⟩
 cases r22
 refine bc ?_
 exact xB ⟨6,zt⟩
 refine dA ?_
 refine oC (t168 a0) ?_
 rintro _ ⟨r24,hc23,rfl⟩
 cases r24
 refine bc ?_
 exact xB ⟨7,zt⟩
 refine dA ?_
 refine oC (t169 a0 dK) ?_
 rintro _ ⟨r26,hc25,rfl⟩
 cases r26
 refine bc ?_
 exact xB ⟨8,zt⟩
 refine dA ?_
 refine oC (t170 a0) ?_
 rintro _ ⟨r28,hc27,rfl⟩
 cases r28
 refine bc ?_
 exact xB ⟨9,zt⟩
 refine dF ?_
 refine a6 ?_
 exact gD
 refine bc ?_
 exact xB ⟨4,zt⟩
 refine bI ?_
 refine bc ?_
 exact xB ⟨4,zt⟩
 refine be ?_
 refine bI ?_
 refine bc ?_
 exact xB ⟨4,zt⟩
def adu (_a0:bS) (v:AV):Prop:=∃ r0:Bool,((r0=true->mu _a0))/\v=.bool r0
def aeS (a0:bS) (hJg:JG a0):Ct 45 [.agg (bS.af a0)] (adu a0):=by
 refine ja LF ?_
 refine aE ?_
 refine cR ?_
 refine oC (t90 a0 dK) ?_
 rintro _ ⟨r2,hc1,rfl⟩
 cases r2
 clear hc1
 refine cr ?_
 refine bE ?_
 exact xB ⟨false,fJ,rfl⟩
 have hc1t:=hc1 rfl
 refine aj ?_
 refine oC (t91 a0 dK) ?_
 rintro _ ⟨r4,hc3,rfl⟩
 refine iY (λh5=>?_) (λh5=>?_)
 refine bE ?_
 exact xB ⟨true,fJ,rfl⟩
 refine bE ?_
 exact xB ⟨false,fJ,rfl⟩
def P45 (_a0:bS) (v:AV):Prop:=∃ r0:Bool,(((r0=true->mu _a0))/\rs 45 [.agg (bS.af _a0)]=.bool r0)/\v=.bool r0
def t45 (a0:bS) (hJg:JG a0) (h:aT):∃ v,jf cfg FT jA false 45 [.agg (bS.af a0)] h v h/\P45 a0 v:=by
 obtain ⟨v,hc,hP,hr⟩:=rX yT (aeS a0 hJg) h
 obtain ⟨r0,hp,rfl⟩:=hP
 exact gG
def adq (_a0:Int) (v:AV):Prop:=∃ r0:Bool,(((r0=true->zR _a0)/\(r0=false->¬ zR _a0)))/\v=.bool r0
def t326 (a0:Int) :Ct 326 [.int .u8 a0] (adq a0):=by
 refine ja IJ ?_
 refine aa ?_
 refine cR ?_
 refine kL (λh1=>?_) (λh1=>?_)
 refine aj ?_
 refine ux (λh2=>?_) (λh2=>?_)
 refine bw ?_
 refine oS ?_
 refine bE ?_
 exact xB ⟨true,ez,rfl⟩
 refine aK ?_
 refine kL (λh3=>?_) (λh3=>?_)
 refine aj ?_
 refine ux (λh4=>?_) (λh4=>?_)
 refine b8 ?_
 exact xB ⟨true,ez,rfl⟩
 refine b8 ?_
 exact gL
 refine be ?_
 refine b8 ?_
 exact gL
 refine be ?_
 refine aK ?_
 refine kL (λh5=>?_) (λh5=>?_)
 refine aj ?_
 refine ux (λh6=>?_) (λh6=>?_)
 refine b8 ?_
 exact xB ⟨true,ez,rfl⟩
 refine b8 ?_
 exact gL
 refine be ?_
 refine b8 ?_
 exact gL
def aa9 (_a0:nm) (v:AV):Prop:=∃ r0:Bool,((wJ _a0.l->r0=true))/\v=.bool r0
def aad (a0:nm) :Ct 274 [.str a0.l] (aa9 a0):=by
 refine ja HA ?_
 refine bN ?_
 refine pe rfl (λ_=>ze rfl rfl) (λh2=>?_) (λh2=>?_)
 refine cr ?_
 refine bQ ?_
 exact gF
 have hp1:0<a0.l.length:=List.length_pos_iff.mpr h2
 refine aK ?_
 refine jI (λh3=>?_) (λh3=>?_)
 refine bQ ?_
 exact gF
 refine aK ?_
 have hx4:0<a0.l.length:=by omega
 refine iz rfl (λ_=>yz (n:=0) (s:=a0.l) rfl rfl rfl rfl hx4) ?_
 generalize hqc5:a0.l[0]=c5
 refine oC (t326 ((c5.toNat:Int))) ?_
 rintro _ ⟨r7,hc6,rfl⟩
 have hLt:=hc6
 cases r7
 refine bc ?_
 exact gF
 refine dF ?_
 refine aX ?_
 have hNk8:=a0.lk
 refine iF a0.l.length (λk8 e h=>(1<=k8)/\At [0,3] [.str a0.l,ir k8] aT.empty [] e h) ?_ (k0:=1) dT ⟨dT,atR⟩
 rintro k8 e h hkk8 ⟨hw9,hA⟩
 refine ca ?_
 refine iV (λh10=>?_) (λh10=>?_)
 refine bP ?_
 refine ae ?_
 have hx11:k8<a0.l.length:=by omega
 refine iz rfl (λ_=>yz (n:=k8) (s:=a0.l) rfl rfl rfl rfl hx11) ?_
 generalize hqc12:a0.l[k8]=c12
 refine oC (t326 ((c12.toNat:Int))) ?_
 rintro _ ⟨r14,hc13,rfl⟩
 have hLt:=hc13
 cases r14
 refine bk ?_
 have hx15:k8<a0.l.length:=by omega
 refine iz rfl (λ_=>yz (n:=k8) (s:=a0.l) rfl rfl rfl rfl hx15) ?_
 generalize hqc16:a0.l[k8]=c16
 refine iV (λh17=>?_) (λh17=>?_)
 refine bF ?_
 refine bc ?_
 exact gF
 refine aK ?_
 have hx18:k8<a0.l.length:=by omega
 refine iz rfl (λ_=>yz (n:=k8) (s:=a0.l) rfl rfl rfl rfl hx18) ?_
 generalize hqc19:a0.l[k8]=c19
 refine jI (λh20=>?_) (λh20=>?_)
 refine bc ?_
 exact gF
 refine oV ?_
 refine bW ?_
 refine jc ?_
 refine ab ?_
 exact ⟨by omega,dT,atR⟩
 refine bI ?_
 refine dk ?_
 refine bW ?_
 refine jc ?_
 refine ab ?_
 exact ⟨by omega,dT,atR⟩
 refine c7 ?_
 exact xB ⟨true,d7,rfl⟩
def ada (_a0:nm) (v:AV):Prop:=∃ r0:Bool,(((wJ _a0.l->r0=true))/\rs 274 [.str _a0.l]=.bool r0)/\v=.bool r0
def t274 (a0:nm)  (h:aT):∃ v,jf cfg FT jA false 274 [.str a0.l] h v h/\ada a0 v:=by
 obtain ⟨v,hc,hP,hr⟩:=rX yT (aad a0) h
 obtain ⟨r0,hp,rfl⟩:=hP
 exact gG
def acL (_a0:Int) (v:AV):Prop:=∃ r0:Int,((((_a0=1->r0=2)/\(_a0=2->r0=3)/\(_a0=3->r0=4)/\(_a0=4->r0=1)/\0<=r0/\r0<=4)/\(¬ (1<=_a0/\_a0<=4)->r0=0)))/\v=iv r0
def t277 (a0:Int) :Ct 277 [iv a0] (acL a0):=by
 refine ja G4 ?_
 refine bN ?_
 refine cT ?_
 refine iY (λh1=>?_) (λh1=>?_)
 refine aq ?_
 exact xB ⟨2,eI,rfl⟩
 refine aS ?_
 refine iY (λh2=>?_) (λh2=>?_)
 refine aq ?_
 exact xB ⟨3,eI,rfl⟩
 refine aS ?_
 refine iY (λh3=>?_) (λh3=>?_)
 refine aq ?_
 exact xB ⟨4,eI,rfl⟩
 refine aS ?_
 refine iY (λh4=>?_) (λh4=>?_)
 refine aq ?_
 exact xB ⟨1,eI,rfl⟩
 refine aA ?_
 refine a6 ?_
 exact xB ⟨0,eI,rfl⟩
def aeP (_a0:bS) (v:AV):Prop:=∃ r0:Bool,((r0=true->IM _a0))/\v=.bool r0
def t181 (a0:bS) :Ct 181 [.agg (bS.af a0)] (aeP a0):=by
 refine ja I5 ?_
 refine bb ?_
 refine u1 ?_
 refine aQ ?_
 refine iV (λh1=>?_) (λh1=>?_)
 refine cr ?_
 refine cX ?_
 refine cX ?_
 refine bQ ?_
 exact gp
 refine aK ?_
 refine jI (λh2=>?_) (λh2=>?_)
 refine cX ?_
 refine cX ?_
 refine bQ ?_
 exact gp
 refine bk ?_
 refine iV (λh3=>?_) (λh3=>?_)
 refine cH ?_
 refine cH ?_
 refine cX ?_
 refine bQ ?_
 exact gp
 refine bk ?_
 refine jI (λh4=>?_) (λh4=>?_)
 refine cH ?_
 refine cX ?_
 refine bQ ?_
 exact gp
 refine bk ?_
 refine iV (λh5=>?_) (λh5=>?_)
 refine cX ?_
 refine bQ ?_
 exact gp
 refine bk ?_
 refine jI (λh6=>?_) (λh6=>?_)
 refine cH ?_
 refine cH ?_
 refine bQ ?_
 exact gp
 refine bk ?_
 refine iV (λh7=>?_) (λh7=>?_)
 refine cH ?_
 refine bQ ?_
 exact gp
 refine bk ?_
 refine jI (λh8=>?_) (λh8=>?_)
 refine bQ ?_
 exact gp
 refine bk ?_
 have hL9:=a0.elems.lk
 refine jb a0.elems ?_
 refine iY (λh10=>?_) (λh10=>?_)
 refine aq ?_
 exact gp
 refine aA ?_
 refine qq ?_
 refine ql ?_
 refine aQ ?_
 have hL11:=a0.elems.lk
 refine jb a0.elems ?_
 refine aL ?_
 have hNk12:=a0.elems.lk
 refine iF a0.elems.l.length (λqf e h=>(∀ (i:Nat) (h:i<a0.elems.l.length),i<qf->(1<=(a0.elems.l[i]).kind/\(a0.elems.l[i]).kind<=4)/\((a0.elems.l[i]).kind=4->(a0.elems.l[i]).len=0))/\At [1,54,55,56] [.la 1 0,jw a0.elems,ir a0.elems.l.length,ir qf] aT.empty [(1,(bS.af a0))] e h) ?_ (k0:=0) dT ⟨eE,atR⟩
 rintro qf e h hkk12 ⟨hKd,hA⟩
 refine aO ?_
 refine iV (λh13=>?_) (λh13=>?_)
 refine b5 ?_
 have hx14:qf<a0.elems.l.length:=by omega
 refine kH qf a0.elems hx14 ?_
 generalize hqx15:a0.elems.l[qf]=x15
 refine aj ?_
 refine aL ?_
 refine ae ?_
 refine oC (t274 x15.name) ?_
 rintro _ ⟨r17,⟨hc16,hc16r⟩,rfl⟩
 have hNw:=hc16
 cases r17
 refine aV ?_
 refine bc ?_
 exact gp
 refine bk ?_
 refine oC (t277 x15.kind) ?_
 rintro _ ⟨r19,hc18,rfl⟩
 refine iY (λh20=>?_) (λh20=>?_)
 refine bc ?_
 exact gp
 refine dA ?_
 refine oV ?_
 refine iY (λh21=>?_) (λh21=>?_)
 refine aN ?_
 refine aQ ?_
 refine kE (λh22=>?_) (λh22=>?_)
 refine bu ?_
 exact gp
 refine aC ?_
 refine qe ?_
 refine qg ?_
 refine jc ?_
 refine ab ?_
 exact ⟨by omega,fM,atR⟩
 refine aS ?_
 refine aj ?_
 refine iV (λh23=>?_) (λh23=>?_)
 refine cr ?_
 refine bc ?_
 exact gp
 refine aK ?_
 refine jI (λh24=>?_) (λh24=>?_)
 refine bc ?_
 exact gp
 refine oV ?_
 refine cD ?_
 refine jc ?_
 refine ab ?_
 exact ⟨by omega,fM,atR⟩
 refine ao ?_
 refine aQ ?_
 have hL25:=a0.signals.lk
 refine da ?_
 have hNk26:=a0.signals.lk
 refine iF a0.signals.l.length (λkG e h=>At [1,89,90,91] [.la 1 0,jD a0.signals,ir a0.signals.l.length,ir kG] aT.empty [(1,(bS.af a0))] e h) ?_ (k0:=0) dT atR
 rintro kG e h hkk26 hA
 refine aO ?_
 refine iV (λh27=>?_) (λh27=>?_)
 refine b5 ?_
 have hx28:kG<a0.signals.l.length:=by omega
 refine kH kG a0.signals hx28 ?_
 generalize hqx29:a0.signals.l[kG]=x29
 refine dh ?_
 refine oC (t274 x29.name) ?_
 rintro _ ⟨r31,⟨hc30,hc30r⟩,rfl⟩
 have hNw:=hc30
 cases r31
 refine aq ?_
 exact gp
 refine cD ?_
 refine jc ?_
 refine ab ?_
 exact gm
 refine ao ?_
 refine aQ ?_
 have hL32:=a0.lines.lk
 refine jb a0.lines ?_
 refine aL ?_
 have hNk33:=a0.lines.lk
 refine iF a0.lines.l.length (λkW e h=>At [101,102,103] [jr a0.lines,ir a0.lines.l.length,ir kW] aT.empty [] e h) ?_ (k0:=0) dT atR
 rintro kW e h hkk33 hA
 refine aO ?_
 refine iV (λh34=>?_) (λh34=>?_)
 refine b5 ?_
 have hx35:kW<a0.lines.l.length:=by omega
 refine kH kW a0.lines hx35 ?_
 generalize hqx36:a0.lines.l[kW]=x36
 refine dh ?_
 refine oC (t274 x36.name) ?_
 rintro _ ⟨r38,⟨hc37,hc37r⟩,rfl⟩
 have hNw:=hc37
 cases r38
 refine aq ?_
 exact gp
 refine cD ?_
 refine jc ?_
 refine ab ?_
 exact gm
 refine cG ?_
 exact xB ⟨true,ee,rfl⟩
def MQ {H:aT} (b:Nat) (pp:bS) (i:Int) (F:List jL) (hS:Sep H (kM b (bS.af pp)::F)) (q1:0<=i) (q2:i<(pp.elems.l.length:Int)):∃ v H',jf cfg FT jA true 183 [iv i,(iX b)] { H with iq:=[] } v H'/\(∃ r0:nm,(True)/\Sep H' (kM b (bS.af pp)::F)/\v=.str r0.l):=by
 refine lW IG ?_
 refine aU ?_
 refine cL ?_
 refine iz rfl (λ_=>nT (i:=0) (o:=0) (r:=jw pp.elems) hS rfl rfl rfl rfl) ?_
 refine oV ?_
 have hx1:(i).toNat<pp.elems.l.length:=by omega
 refine iz rfl (λ_=>jh (n:=i) (r:=pp.elems) (enc:=j9.af) rfl rfl rfl rfl rfl dT hx1 rfl) ?_
 generalize hqx2:pp.elems.l[(i).toNat]=x2
 refine b8 ?_
 have hS3:=Sep.pick hS [0] 1 dX dX
 exact gv
def My {H:aT} (b:Nat) (pp:bS) (i:Int) (F:List jL) (hS:Sep H (kM b (bS.af pp)::F)) (q1:0<=i) (q2:i<(pp.signals.l.length:Int)):∃ v H',jf cfg FT jA true 184 [iv i,(iX b)] { H with iq:=[] } v H'/\(∃ r0:nm,(True)/\Sep H' (kM b (bS.af pp)::F)/\v=.str r0.l):=by
 refine lW I9 ?_
 refine aU ?_
 refine cL ?_
 refine iz rfl (λ_=>nT (i:=0) (o:=2) (r:=jD pp.signals) hS rfl rfl rfl rfl) ?_
 refine oV ?_
 have hx1:(i).toNat<pp.signals.l.length:=by omega
 refine iz rfl (λ_=>jh (n:=i) (r:=pp.signals) (enc:=j6.af) rfl rfl rfl rfl rfl dT hx1 rfl) ?_
 generalize hqx2:pp.signals.l[(i).toNat]=x2
 refine b8 ?_
 have hS3:=Sep.pick hS [0] 1 dX dX
 exact gv
def LK {H:aT} (b:Nat) (pp:bS) (i:Int) (F:List jL) (hS:Sep H (kM b (bS.af pp)::F)) (q1:0<=i) (q2:i<(pp.lines.l.length:Int)):∃ v H',jf cfg FT jA true 185 [iv i,(iX b)] { H with iq:=[] } v H'/\(∃ r0:nm,(True)/\Sep H' (kM b (bS.af pp)::F)/\v=.str r0.l):=by
 refine lW Ib ?_
 refine aU ?_
 refine cL ?_
 refine iz rfl (λ_=>nT (i:=0) (o:=3) (r:=jr pp.lines) hS rfl rfl rfl rfl) ?_
 refine oV ?_
 have hx1:(i).toNat<pp.lines.l.length:=by omega
 refine iz rfl (λ_=>jh (n:=i) (r:=pp.lines) (enc:=jx.af) rfl rfl rfl rfl rfl dT hx1 rfl) ?_
 generalize hqx2:pp.lines.l[(i).toNat]=x2
 refine b8 ?_
 have hS3:=Sep.pick hS [0] 1 dX dX
 exact gv
def Lu {H:aT} (n:Int) (b:Nat) (pp:bS) (F:List jL) (hS:Sep H (kM b (bS.af pp)::F)) (q2:n<=(pp.elems.l.length:Int)):∃ v H',jf cfg FT jA true 182 [iv n,.jN 183 [] [(iX b)]] { H with iq:=[] } v H'/\(∃ r0:Bool,(True)/\Sep H' (kM b (bS.af pp)::F)/\v=.bool r0):=by
 refine lW AS ?_
 have hqb:=pp.elems.ok
 simp only [rl] at hqb
 refine aU ?_
 refine dH ?_
 rintro _ H2 ⟨b1,rfl,hS3⟩
 refine ab ?_
 refine ah ?_
 refine aL ?_
 refine iF ((n).toNat) (λk4 e h=>∃ l5:List (List UInt8×Bool),∃ H6:aT,Sep H6 (lJ b1 sK bK l5::kM b (bS.af pp)::F)/\At [1,5,8,9] [.jN 183 [] [(iX b)],(.hm b1),iv n,ir k4] H6 [] e h) ?_ (k0:=0) dT ⟨([]),H2,hS3,atR⟩
 rintro k4 e h hkk4 ⟨l5,H6,hS7,hA⟩
 refine aO ?_
 refine iV (λh8=>?_) (λh8=>?_)
 refine b5 ?_
 refine bo ?_
 refine aW ?_
 have hS9:=Sep.pick hS7 [1,0] 2 dX dX
 refine kj (H:=H6) (args:=[ir k4]) (p:=[]) (r:=[(iX b)]) rfl rfl rfl rfl rfl rfl rfl (MQ b pp ((k4:Int)) (lJ b1 sK bK l5::F) hS9 dK dK) ?_
 rintro _ H10 ⟨r13,hc12,hS11,rfl⟩
 refine mw (H:=H10) (i:=1) (ek:=sK) (ev:=bK) (l:=l5) r13.l rfl rfl hS11 rfl rfl rfl rfl rfl rfl rfl rfl pU (λy14 h15=>?_) (λh16=>?_)
 cases y14
 refine aC ?_
 refine bl ?_
 have hS17:=Sep.pick hS11 [0,1] 2 dX dX
 refine kj (H:=H10) (args:=[ir k4]) (p:=[]) (r:=[(iX b)]) rfl rfl rfl rfl rfl rfl rfl (MQ b pp ((k4:Int)) (lJ b1 sK bK l5::F) hS17 dK dK) ?_
 rintro _ H18 ⟨r21,hc20,hS19,rfl⟩
 refine jq rfl (mZ (i:=1) (ek:=sK) (ev:=bK) r21.l true hS19 rfl rfl rfl rfl rfl rfl pU) ?_
 rintro _ H22 ⟨rfl,hS23⟩
 refine cV ?_
 refine jc ?_
 refine ab ?_
 have hS24:=Sep.pick hS23 [1,0] 2 dX dX
 exact gq
 refine bu ?_
 have hS25:=Sep.pick hS11 [0] 2 dX dX
 exact gr
 refine aC ?_
 refine bl ?_
 have hS26:=Sep.pick hS11 [0,1] 2 dX dX
 refine kj (H:=H10) (args:=[ir k4]) (p:=[]) (r:=[(iX b)]) rfl rfl rfl rfl rfl rfl rfl (MQ b pp ((k4:Int)) (lJ b1 sK bK l5::F) hS26 dK dK) ?_
 rintro _ H27 ⟨r30,hc29,hS28,rfl⟩
 refine jq rfl (mZ (i:=1) (ek:=sK) (ev:=bK) r30.l true hS28 rfl rfl rfl rfl rfl rfl pU) ?_
 rintro _ H31 ⟨rfl,hS32⟩
 refine cV ?_
 refine jc ?_
 refine ab ?_
 have hS33:=Sep.pick hS32 [1,0] 2 dX dX
 exact gt
 refine cG ?_
 have hS34:=Sep.pick hS7 [1] 2 dX dX
 exact gu
def Ls {H:aT} (n:Int) (b:Nat) (pp:bS) (F:List jL) (hS:Sep H (kM b (bS.af pp)::F)) (q2:n<=(pp.signals.l.length:Int)):∃ v H',jf cfg FT jA true 182 [iv n,.jN 184 [] [(iX b)]] { H with iq:=[] } v H'/\(∃ r0:Bool,(True)/\Sep H' (kM b (bS.af pp)::F)/\v=.bool r0):=by
 refine lW AS ?_
 have hqb:=pp.signals.ok
 simp only [rl] at hqb
 refine aU ?_
 refine dH ?_
 rintro _ H2 ⟨b1,rfl,hS3⟩
 refine ab ?_
 refine ah ?_
 refine aL ?_
 refine iF ((n).toNat) (λk4 e h=>∃ l5:List (List UInt8×Bool),∃ H6:aT,Sep H6 (lJ b1 sK bK l5::kM b (bS.af pp)::F)/\At [1,5,8,9] [.jN 184 [] [(iX b)],(.hm b1),iv n,ir k4] H6 [] e h) ?_ (k0:=0) dT ⟨([]),H2,hS3,atR⟩
 rintro k4 e h hkk4 ⟨l5,H6,hS7,hA⟩
 refine aO ?_
 refine iV (λh8=>?_) (λh8=>?_)
 refine b5 ?_
 refine bo ?_
 refine aW ?_
 have hS9:=Sep.pick hS7 [1,0] 2 dX dX
 refine kj (H:=H6) (args:=[ir k4]) (p:=[]) (r:=[(iX b)]) rfl rfl rfl rfl rfl rfl rfl (My b pp ((k4:Int)) (lJ b1 sK bK l5::F) hS9 dK dK) ?_
 rintro _ H10 ⟨r13,hc12,hS11,rfl⟩
 refine mw (H:=H10) (i:=1) (ek:=sK) (ev:=bK) (l:=l5) r13.l rfl rfl hS11 rfl rfl rfl rfl rfl rfl rfl rfl pU (λy14 h15=>?_) (λh16=>?_)
 cases y14
 refine aC ?_
 refine bl ?_
 have hS17:=Sep.pick hS11 [0,1] 2 dX dX
 refine kj (H:=H10) (args:=[ir k4]) (p:=[]) (r:=[(iX b)]) rfl rfl rfl rfl rfl rfl rfl (My b pp ((k4:Int)) (lJ b1 sK bK l5::F) hS17 dK dK) ?_
 rintro _ H18 ⟨r21,hc20,hS19,rfl⟩
 refine jq rfl (mZ (i:=1) (ek:=sK) (ev:=bK) r21.l true hS19 rfl rfl rfl rfl rfl rfl pU) ?_
 rintro _ H22 ⟨rfl,hS23⟩
 refine cV ?_
 refine jc ?_
 refine ab ?_
 have hS24:=Sep.pick hS23 [1,0] 2 dX dX
 exact gq
 refine bu ?_
 have hS25:=Sep.pick hS11 [0] 2 dX dX
 exact gr
 refine aC ?_
 refine bl ?_
 have hS26:=Sep.pick hS11 [0,1] 2 dX dX
 refine kj (H:=H10) (args:=[ir k4]) (p:=[]) (r:=[(iX b)]) rfl rfl rfl rfl rfl rfl rfl (My b pp ((k4:Int)) (lJ b1 sK bK l5::F) hS26 dK dK) ?_
 rintro _ H27 ⟨r30,hc29,hS28,rfl⟩
 refine jq rfl (mZ (i:=1) (ek:=sK) (ev:=bK) r30.l true hS28 rfl rfl rfl rfl rfl rfl pU) ?_
 rintro _ H31 ⟨rfl,hS32⟩
 refine cV ?_
 refine jc ?_
 refine ab ?_
 have hS33:=Sep.pick hS32 [1,0] 2 dX dX
 exact gt
 refine cG ?_
 have hS34:=Sep.pick hS7 [1] 2 dX dX
 exact gu
def K6 {H:aT} (n:Int) (b:Nat) (pp:bS) (F:List jL) (hS:Sep H (kM b (bS.af pp)::F)) (q2:n<=(pp.lines.l.length:Int)):∃ v H',jf cfg FT jA true 182 [iv n,.jN 185 [] [(iX b)]] { H with iq:=[] } v H'/\(∃ r0:Bool,(True)/\Sep H' (kM b (bS.af pp)::F)/\v=.bool r0):=by
 refine lW AS ?_
 have hqb:=pp.lines.ok
 simp only [rl] at hqb
 refine aU ?_
 refine dH ?_
 rintro _ H2 ⟨b1,rfl,hS3⟩
 refine ab ?_
 refine ah ?_
 refine aL ?_
 refine iF ((n).toNat) (λk4 e h=>∃ l5:List (List UInt8×Bool),∃ H6:aT,Sep H6 (lJ b1 sK bK l5::kM b (bS.af pp)::F)/\At [1,5,8,9] [.jN 185 [] [(iX b)],(.hm b1),iv n,ir k4] H6 [] e h) ?_ (k0:=0) dT ⟨([]),H2,hS3,atR⟩
 rintro k4 e h hkk4 ⟨l5,H6,hS7,hA⟩
 refine aO ?_
 refine iV (λh8=>?_) (λh8=>?_)
 refine b5 ?_
 refine bo ?_
 refine aW ?_
 have hS9:=Sep.pick hS7 [1,0] 2 dX dX
 refine kj (H:=H6) (args:=[ir k4]) (p:=[]) (r:=[(iX b)]) rfl rfl rfl rfl rfl rfl rfl (LK b pp ((k4:Int)) (lJ b1 sK bK l5::F) hS9 dK dK) ?_
 rintro _ H10 ⟨r13,hc12,hS11,rfl⟩
 refine mw (H:=H10) (i:=1) (ek:=sK) (ev:=bK) (l:=l5) r13.l rfl rfl hS11 rfl rfl rfl rfl rfl rfl rfl rfl pU (λy14 h15=>?_) (λh16=>?_)
 cases y14
 refine aC ?_
 refine bl ?_
 have hS17:=Sep.pick hS11 [0,1] 2 dX dX
 refine kj (H:=H10) (args:=[ir k4]) (p:=[]) (r:=[(iX b)]) rfl rfl rfl rfl rfl rfl rfl (LK b pp ((k4:Int)) (lJ b1 sK bK l5::F) hS17 dK dK) ?_
 rintro _ H18 ⟨r21,hc20,hS19,rfl⟩
 refine jq rfl (mZ (i:=1) (ek:=sK) (ev:=bK) r21.l true hS19 rfl rfl rfl rfl rfl rfl pU) ?_
 rintro _ H22 ⟨rfl,hS23⟩
 refine cV ?_
 refine jc ?_
 refine ab ?_
 have hS24:=Sep.pick hS23 [1,0] 2 dX dX
 exact gq
 refine bu ?_
 have hS25:=Sep.pick hS11 [0] 2 dX dX
 exact gr
 refine aC ?_
 refine bl ?_
 have hS26:=Sep.pick hS11 [0,1] 2 dX dX
 refine kj (H:=H10) (args:=[ir k4]) (p:=[]) (r:=[(iX b)]) rfl rfl rfl rfl rfl rfl rfl (LK b pp ((k4:Int)) (lJ b1 sK bK l5::F) hS26 dK dK) ?_
 rintro _ H27 ⟨r30,hc29,hS28,rfl⟩
 refine jq rfl (mZ (i:=1) (ek:=sK) (ev:=bK) r30.l true hS28 rfl rfl rfl rfl rfl rfl pU) ?_
 rintro _ H31 ⟨rfl,hS32⟩
 refine cV ?_
 refine jc ?_
 refine ab ?_
 have hS33:=Sep.pick hS32 [1,0] 2 dX dX
 exact gt
 refine cG ?_
 have hS34:=Sep.pick hS7 [1] 2 dX dX
 exact gu
def adV (_a0:bS) (_a1:iu) (v:AV):Prop:=∃ r0:Bool,((r0=true->0<=_a1.elem/\_a1.elem<(_a0.elems.l.length:Int)/\0<=_a1.en/\_a1.en<4))/\v=.bool r0
def t278 (a0:bS) (a1:iu) :Ct 278 [.agg (bS.af a0),.agg (iu.af a1)] (adV a0 a1):=by
 refine ja G7 ?_
 refine bR ?_
 refine bX ?_
 refine kN (λh1=>?_) (λh1=>?_)
 refine cu ?_
 have hL2:=a0.elems.lk
 refine Ca a0.elems ?_
 refine mK (λh3=>?_) (λh3=>?_)
 refine a7 ?_
 refine kN (λh4=>?_) (λh4=>?_)
 refine dG ?_
 have hx5:(a1.elem).toNat<a0.elems.l.length:=by omega
 refine iN rfl rfl (λ_=>jh (n:=a1.elem) (r:=a0.elems) (enc:=j9.af) rfl rfl rfl rfl rfl dT hx5 rfl) ?_
 generalize hqx6:a0.elems.l[(a1.elem).toNat]=x6
 refine ay ?_
 refine rC (t277 x6.kind) ?_
 rintro _ ⟨r8,hc7,rfl⟩
 refine mK (λh9=>?_) (λh9=>?_)
 refine br ?_
 exact gA
 refine br ?_
 exact gB
 refine bM ?_
 iterate 5 refine rS ?_
 refine br ?_
 exact gB
 refine au ?_
 iterate 11 refine rS ?_
 refine br ?_
 exact gB
 refine rV ?_
 iterate 6 refine rS ?_
 refine au ?_
 iterate 11 refine rS ?_
 refine br ?_
 exact gB
def acM (_a0:bS) (v:AV):Prop:=(∃ r0:List (iu×iu),(((∀ y∈(r0:List (iu×iu)),0<=y.2.elem/\y.2.elem<(_a0.elems.l.length:Int))/\yI _a0.iO.l)/\JV _a0)/\v=.je [.fm (jO pK pK r0) false,.bool true])\/((True)/\v=.je [.kg,iD])
def t186 (a0:bS) :Ct 186 [.agg (bS.af a0)] (acM a0):=by
 refine ja Io ?_
 refine bR ?_
 refine cI ?_
 rintro _ H2 ⟨b1,rfl,hS3⟩
 refine ab ?_
 refine aQ ?_
 have hL4:=a0.iO.lk
 refine jb a0.iO ?_
 refine aL ?_
 have hNk5:=a0.iO.lk
 refine iF a0.iO.l.length (λk5 e h=>∃ l6:List (iu×iu),∃ H7:aT,((∀ y∈(l6:List (iu×iu)),0<=y.2.elem/\y.2.elem<(a0.elems.l.length:Int)))/\(∀ x:iu,look x l6=lq (a0.iO.l.take k5) x)/\(∀ (i:Nat) (h:i<a0.iO.l.length),i<k5->lq (a0.iO.l.take i) (a0.iO.l[i]).a=none/\lq (a0.iO.l.take i) (a0.iO.l[i]).b=none/\(a0.iO.l[i]).a≠(a0.iO.l[i]).b)/\(∀ (i:Nat) (h:i<a0.iO.l.length),i<k5->VE a0 (a0.iO.l[i]).a.elem/\VE a0 (a0.iO.l[i]).b.elem)/\Sep H7 (lJ b1 pK pK l6::[])/\At [1,4,17,18,19] [.la 1 0,(.hm b1),jC a0.iO,ir a0.iO.l.length,ir k5] H7 [(1,(bS.af a0))] e h) ?_ (k0:=0) dT ⟨([]),H2,fp,(by (intro x; rfl)),eE,eE,hS3,atR⟩
 rintro k5 e h hkk5 ⟨l6,H7,hV,hD,hJ,hJv,hS8,hA⟩
 refine aO ?_
 refine iV (λh9=>?_) (λh9=>?_)
 refine ap ?_
 refine wz [.la 1 0,(.hm b1),jC a0.iO,ir a0.iO.l.length,ir k5] H7 [(1,(bS.af a0))] ?_
 refine bi ?_
 have hx10:k5<a0.iO.l.length:=by omega
 refine kH k5 a0.iO hx10 ?_
 generalize hqx11:a0.iO.l[k5]=x11
 refine ba ?_
 refine aP ?_
 refine mw (H:=H7) (i:=0) (ek:=pK) (ev:=pK) (l:=l6) x11.a rfl rfl hS8 rfl rfl rfl rfl rfl rfl rfl rfl lx (λy12 h13=>?_) (λh14=>?_)
 have hvy12:0<=y12.elem/\y12.elem<(a0.elems.l.length:Int):=hV _ (oi h13)
 refine aF ?_
 refine aP ?_
 refine mw (H:=H7) (i:=0) (ek:=pK) (ev:=pK) (l:=l6) x11.b rfl rfl hS8 rfl rfl rfl rfl rfl rfl rfl rfl lx (λy15 h16=>?_) (λh17=>?_)
 have hvy15:0<=y15.elem/\y15.elem<(a0.elems.l.length:Int):=hV _ (oi h16)
 refine ct ?_
 refine oS ?_
 refine bw ?_
 refine bw ?_
 refine bw ?_
 refine oV ?_
 refine dy ?_
 refine xG (.inr (⟨zT,rfl⟩))
 refine ct ?_
 refine oS ?_
 refine bw ?_
 refine bw ?_
 refine bw ?_
 refine oV ?_
 refine dy ?_
 refine xG (.inr (⟨zT,rfl⟩))
 refine aF ?_
 refine aP ?_
 refine mw (H:=H7) (i:=0) (ek:=pK) (ev:=pK) (l:=l6) x11.b rfl rfl hS8 rfl rfl rfl rfl rfl rfl rfl rfl lx (λy18 h19=>?_) (λh20=>?_)
 have hvy18:0<=y18.elem/\y18.elem<(a0.elems.l.length:Int):=hV _ (oi h19)
 refine aF ?_
 refine aW ?_
 refine bw ?_
 refine bw ?_
 refine bw ?_
 refine oV ?_
 refine dy ?_
 refine xG (.inr (⟨zT,rfl⟩))
 refine ct ?_
 iterate 7 refine oV ?_
 refine pe rfl (λ_=>wj rfl rfl rfl (λ_ _=>rfl)) (λh21=>?_) (λh21=>?_)
 refine bw ?_
 refine bw ?_
 refine oV ?_
 refine dy ?_
 refine xG (.inr (⟨zT,rfl⟩))
 refine ci ?_
 refine oC (t278 a0 x11.a) ?_
 rintro _ ⟨r23,hc22,rfl⟩
 cases r23
 clear hc22
 refine oV ?_
 refine bw ?_
 refine oV ?_
 refine dy ?_
 refine xG (.inr (⟨zT,rfl⟩))
 have hc22t:=hc22 rfl
 iterate 6 refine oV ?_
 refine oC (t278 a0 x11.b) ?_
 rintro _ ⟨r25,hc24,rfl⟩
 cases r25
 clear hc24
 refine aj ?_
 refine dy ?_
 refine xG (.inr (⟨zT,rfl⟩))
 have hc24t:=hc24 rfl
 refine dF ?_
 refine wz [.la 1 0,(.hm b1),.la 6 0,jC a0.iO,ir a0.iO.l.length,ir k5] H7 [(1,(bS.af a0)),(6,(j3.af x11))] ?_
 refine qd ?_
 iterate 10 refine rV ?_
 refine qN rfl rfl (mZ (i:=0) (ek:=pK) (ev:=pK) (l:=l6) x11.a x11.b hS8 rfl rfl rfl rfl rfl rfl lx) ?_
 rintro _ H26 ⟨rfl,hS27⟩
 refine ⟨λcall=>(zE (l8 rfl rfl rfl rfl rfl eU) (wM (l8 rfl rfl rfl rfl rfl eU))),?_⟩
 refine l3 rfl rfl (mZ (i:=0) (ek:=pK) (ev:=pK) (l:=(put x11.a x11.b l6)) x11.b x11.a hS27 rfl rfl rfl rfl rfl rfl lx) ?_
 rintro _ H28 ⟨rfl,hS29⟩
 refine rN ?_
 refine wz [.la 1 0,(.hm b1),jC a0.iO,ir a0.iO.l.length,ir k5] H28 [(1,(bS.af a0))] ?_
 refine qg ?_
 refine jc ?_
 refine ab ?_
 exact ⟨by omega,((put x11.b x11.a (put x11.a x11.b l6))),H28,(by exact qR (P:=λy:iu=>0<=y.elem/\y.elem<(a0.elems.l.length:Int)) (qR (P:=λy:iu=>0<=y.elem/\y.elem<(a0.elems.l.length:Int)) hV dT) dT),(by exact zD dS dS hD dS dS dS),(by exact Eh dS dS hD hJ dS dS dS),(by exact lC (P:=λj:j3=>VE a0 j.a.elem/\VE a0 j.b.elem) dS hJv (by unfold VE; omega)),hS29,atR⟩
 refine ao ?_
 refine wz [.la 1 0,(.hm b1)] H7 [(1,(bS.af a0))] ?_
 refine aQ ?_
 have hL30:=a0.elems.lk
 refine jb a0.elems ?_
 refine aL ?_
 have hNk31:=a0.elems.lk
 refine iF a0.elems.l.length (λnE e h=>At [1,4,74,75,76] [.la 1 0,(.hm b1),jw a0.elems,ir a0.elems.l.length,ir nE] H7 [(1,(bS.af a0))] e h) ?_ (k0:=0) dT atR
 rintro nE e h hkk31 hA
 refine aO ?_
 refine iV (λh32=>?_) (λh32=>?_)
 refine ap ?_
 refine wz [.la 1 0,(.hm b1),jw a0.elems,ir a0.elems.l.length,ir nE] H7 [(1,(bS.af a0))] ?_
 refine bT ?_
 have hx33:nE<a0.elems.l.length:=by omega
 refine kH nE a0.elems hx33 ?_
 generalize hqx34:a0.elems.l[nE]=x34
 refine cg ?_
 refine aQ ?_
 refine kE (λh35=>?_) (λh35=>?_)
 refine az ?_
 refine qe ?_
 refine cU ?_
 refine jc ?_
 refine ab ?_
 exact gm
 refine aC ?_
 refine wz [.la 1 0,(.hm b1),ir nE,jw a0.elems,ir a0.elems.l.length,ir nE] H7 [(1,(bS.af a0))] ?_
 refine aP ?_
 refine mw (H:=H7) (i:=0) (ek:=pK) (ev:=pK) (l:=l6) ((⟨((nE:Int)),0⟩:iu)) rfl rfl hS8 rfl rfl rfl rfl rfl rfl rfl rfl lx (λy36 h37=>?_) (λh38=>?_)
 have hvy36:0<=y36.elem/\y36.elem<(a0.elems.l.length:Int):=hV _ (oi h37)
 refine cW ?_
 iterate 6 refine oV ?_
 have hx39:(y36.elem).toNat<a0.elems.l.length:=by omega
 refine iz rfl (λ_=>jh (n:=y36.elem) (r:=a0.elems) (enc:=j9.af) rfl rfl rfl rfl rfl dT hx39 rfl) ?_
 generalize hqx40:a0.elems.l[(y36.elem).toNat]=x40
 refine aj ?_
 refine iY (λh41=>?_) (λh41=>?_)
 refine oV ?_
 refine dy ?_
 refine xG (.inr (⟨zT,rfl⟩))
 refine aA ?_
 refine cU ?_
 refine jc ?_
 refine ab ?_
 exact gm
 refine aF ?_
 refine aP ?_
 refine dk ?_
 refine oV ?_
 refine dy ?_
 refine xG (.inr (⟨zT,rfl⟩))
 refine ao ?_
 refine wz [(.hm b1)] H7 [] ?_
 refine bj ?_
 have hz42:∀ m,freeze false { H7 with iq:=[] } (m+3) (.hm b1)=some (.fm (jO pK pK l6) false):=λm=>tW (i:=0) hS8 rfl _ _ (vH λ_=>rfl)
 refine ⟨.je [(.hm b1),.bool true],rfl,.je [.fm (jO pK pK l6) false,.bool true],(show freeze false { H7 with iq:=[] } 8 (.je [(.hm b1),.bool true])=some (.je [.fm (jO pK pK l6) false,.bool true]) by simp only [FZ,hz42]),.inl ⟨l6,(by exact ⟨⟨hV,λi h=>hJ i h dT⟩,WJ hJv dT⟩),rfl⟩⟩
def afr (_a0:bS) (_a1:List (iu×iu)) (v:AV):Prop:=∃ r0:Bool,((r0=true->(∀ s∈_a0.signals.l,0<=s.at_.elem/\s.at_.elem<(_a0.elems.l.length:Int)/\0<=s.at_.en)/\yA _a0.signals.l))/\v=.bool r0
def t187 (a0:bS) (a1:List (iu×iu)) (q1:(∀ y∈(a1:List (iu×iu)),0<=y.2.elem/\y.2.elem<(a0.elems.l.length:Int))):Ct 187 [.agg (bS.af a0),.fm (jO pK pK a1) false] (afr a0 a1):=by
 refine ja HQ ?_
 refine bb ?_
 refine cI ?_
 rintro _ H2 ⟨b1,rfl,hS3⟩
 refine ab ?_
 refine aQ ?_
 have hL4:=a0.signals.lk
 refine da ?_
 have hNk5:=a0.signals.lk
 refine iF a0.signals.l.length (λk5 e h=>∃ l6:List (iu×Bool),∃ H7:aT,(∀ (i:Nat) (h:i<a0.signals.l.length),i<k5->0<=(a0.signals.l[i]).at_.elem/\(a0.signals.l[i]).at_.elem<(a0.elems.l.length:Int)/\0<=(a0.signals.l[i]).at_.en)/\(∀ x:iu,(∃ y,y∈a0.signals.l.take k5/\y.at_=x)->look x l6=some true)/\(∀ (i:Nat) (h:i<a0.signals.l.length),i<k5->∀ y∈a0.signals.l.take i,y.at_≠(a0.signals.l[i]).at_)/\(∀ y∈(l6:List (iu×Bool)),y.2=true)/\Sep H7 (lJ b1 pK bK l6::[])/\At [1,2,5,15,16,17] [.fm (jO pK pK a1) false,.la 2 0,(.hm b1),jD a0.signals,ir a0.signals.l.length,ir k5] H7 [(2,(bS.af a0))] e h) ?_ (k0:=0) dT ⟨([]),H2,eE,(by (rintro x ⟨y,h,_⟩; simp at h)),eE,fp,hS3,atR⟩
 rintro k5 e h hkk5 ⟨l6,H7,hV,hD,hJ,hT,hS8,hA⟩
 refine aO ?_
 refine iV (λh9=>?_) (λh9=>?_)
 refine ap ?_
 refine wz [.fm (jO pK pK a1) false,.la 2 0,(.hm b1),jD a0.signals,ir a0.signals.l.length,ir k5] H7 [(2,(bS.af a0))] ?_
 refine bi ?_
 have hx10:k5<a0.signals.l.length:=by omega
 refine kH k5 a0.signals hx10 ?_
 generalize hqx11:a0.signals.l[k5]=x11
 refine ba ?_
 refine aW ?_
 refine oC (t278 a0 x11.at_) ?_
 rintro _ ⟨r13,hc12,rfl⟩
 cases r13
 clear hc12
 refine bQ ?_
 exact gw
 have hc12t:=hc12 rfl
 refine ci ?_
 refine mw (H:=H7) (i:=0) (ek:=pK) (ev:=bK) (l:=l6) x11.at_ rfl rfl hS8 rfl rfl rfl rfl rfl rfl rfl rfl lx (λy14 h15=>?_) (λh16=>?_)
 cases y14
 exact absurd (hT _ (oi h15)) fp
 refine aq ?_
 exact gw
 refine bg ?_
 refine cy ?_
 refine ci ?_
 have hx17:(x11.at_.elem).toNat<a0.elems.l.length:=by omega
 refine iz rfl (λ_=>jh (n:=x11.at_.elem) (r:=a0.elems) (enc:=j9.af) rfl rfl rfl rfl rfl dT hx17 rfl) ?_
 generalize hqx18:a0.elems.l[(x11.at_.elem).toNat]=x18
 refine aj ?_
 refine cR ?_
 refine kE (λh19=>?_) (λh19=>?_)
 refine aj ?_
 refine kE (λh20=>?_) (λh20=>?_)
 refine aq ?_
 exact gw
 refine bg ?_
 refine aP ?_
 refine wA (key:=x11.at_) (l:=a1) (ek:=pK) (ev:=pK) rfl rfl rfl rfl rfl rfl rfl rfl rfl lx (λy21 h22=>?_) (λh23=>?_)
 have hvy21:0<=y21.elem/\y21.elem<(a0.elems.l.length:Int):=q1 _ (oi h22)
 refine ct ?_
 refine ci ?_
 have hx24:(y21.elem).toNat<a0.elems.l.length:=by omega
 refine iz rfl (λ_=>jh (n:=y21.elem) (r:=a0.elems) (enc:=j9.af) rfl rfl rfl rfl rfl dT hx24 rfl) ?_
 generalize hqx25:a0.elems.l[(y21.elem).toNat]=x25
 refine aj ?_
 refine iY (λh26=>?_) (λh26=>?_)
 refine aq ?_
 exact gw
 refine bg ?_
 refine c3 ?_
 rintro _ H27 ⟨rfl,hS28⟩
 refine oN ?_
 refine wz [.fm (jO pK pK a1) false,.la 2 0,(.hm b1),jD a0.signals,ir a0.signals.l.length,ir k5] H27 [(2,(bS.af a0))] ?_
 refine qg ?_
 refine jc ?_
 refine ab ?_
 exact ⟨by omega,((put x11.at_ true l6)),H27,(by exact Cr dS hV dT),(by exact Cy dS dS hD),(by exact Ch dS dS hD hJ dS),gd,hS28,atR⟩
 refine aF ?_
 refine aW ?_
 refine dk ?_
 refine aq ?_
 exact gw
 refine be ?_
 refine bg ?_
 refine aP ?_
 refine wA (key:=x11.at_) (l:=a1) (ek:=pK) (ev:=pK) rfl rfl rfl rfl rfl rfl rfl rfl rfl lx (λy29 h30=>?_) (λh31=>?_)
 have hvy29:0<=y29.elem/\y29.elem<(a0.elems.l.length:Int):=q1 _ (oi h30)
 refine ct ?_
 refine ci ?_
 have hx32:(y29.elem).toNat<a0.elems.l.length:=by omega
 refine iz rfl (λ_=>jh (n:=y29.elem) (r:=a0.elems) (enc:=j9.af) rfl rfl rfl rfl rfl dT hx32 rfl) ?_
 generalize hqx33:a0.elems.l[(y29.elem).toNat]=x33
 refine aj ?_
 refine iY (λh34=>?_) (λh34=>?_)
 refine aq ?_
 exact gw
 refine bg ?_
 refine c3 ?_
 rintro _ H35 ⟨rfl,hS36⟩
 refine oN ?_
 refine wz [.fm (jO pK pK a1) false,.la 2 0,(.hm b1),jD a0.signals,ir a0.signals.l.length,ir k5] H35 [(2,(bS.af a0))] ?_
 refine qg ?_
 refine jc ?_
 refine ab ?_
 exact ⟨by omega,((put x11.at_ true l6)),H35,(by exact Cr dS hV dT),(by exact Cy dS dS hD),(by exact Ch dS dS hD hJ dS),gd,hS36,atR⟩
 refine aF ?_
 refine aW ?_
 refine dk ?_
 refine aq ?_
 exact gw
 refine ao ?_
 refine wz [.la 2 0,(.hm b1)] H7 [(2,(bS.af a0))] ?_
 refine aQ ?_
 have hL37:=a0.elems.lk
 refine jb a0.elems ?_
 refine aL ?_
 have hNk38:=a0.elems.lk
 refine iF a0.elems.l.length (λrP e h=>At [5,70,71,72] [(.hm b1),jw a0.elems,ir a0.elems.l.length,ir rP] H7 [] e h) ?_ (k0:=0) dT atR
 rintro rP e h hkk38 hA
 refine aO ?_
 refine iV (λh39=>?_) (λh39=>?_)
 refine ap ?_
 refine wz [(.hm b1),jw a0.elems,ir a0.elems.l.length,ir rP] H7 [] ?_
 refine bT ?_
 have hx40:rP<a0.elems.l.length:=by omega
 refine kH rP a0.elems hx40 ?_
 generalize hqx41:a0.elems.l[rP]=x41
 refine oV ?_
 refine dh ?_
 refine iY (λh42=>?_) (λh42=>?_)
 refine bk ?_
 refine mw (H:=H7) (i:=0) (ek:=pK) (ev:=bK) (l:=l6) ((⟨((rP:Int)),0⟩:iu)) rfl rfl hS8 rfl rfl rfl rfl rfl rfl rfl rfl lx (λy43 h44=>?_) (λh45=>?_)
 cases y43
 exact absurd (hT _ (oi h44)) fp
 refine dF ?_
 refine db ?_
 refine jc ?_
 refine ab ?_
 exact gm
 refine bc ?_
 exact gw
 refine bB ?_
 refine aA ?_
 refine db ?_
 refine jc ?_
 refine ab ?_
 exact gm
 refine ao ?_
 refine wz [] H7 [] ?_
 refine a6 ?_
 exact xB ⟨true,ey,rfl⟩
def aep (_a0:Row Int) (_a1:List (iu×iu)) (v:AV):Prop:=∃ r0:Bool,(True)/\v=.bool r0
def t279 (a0:Row Int) (a1:List (iu×iu)) :Ct 279 [jV a0,.fm (jO pK pK a1) false] (aep a0 a1):=by
 refine ja Ix ?_
 refine bN ?_
 have hL1:=a0.lk
 refine jb a0 ?_
 refine iV (λh2=>?_) (λh2=>?_)
 refine bu ?_
 exact gn
 refine aC ?_
 refine aU ?_
 refine aX ?_
 refine kF (λm7 e h=>∃ n3:Int,∃ n4:Int,m7=(n4+1).toNat/\(-1<=n4)/\(n4<=1)/\At [0,1,5,6] [jV a0,.fm (jO pK pK a1) false,iv n3,iv n4] aT.empty [] e h) ?_ _ _ _ ⟨(-1),1,rfl,dT,dT,atR⟩
 rintro m7 e h ⟨n3,n4,hmm7,hi5,hi6,hA⟩
 refine bL ?_
 refine kL (λh8=>?_) (λh8=>?_)
 refine bP ?_
 refine ae ?_
 have hx9:0<a0.l.length:=by omega
 refine kH 0 a0 hx9 ?_
 generalize hqx10:a0.l[0]=x10
 refine aK ?_
 refine wA (key:=(⟨x10,n4⟩:iu)) (l:=a1) (ek:=pK) (ev:=pK) rfl rfl rfl rfl rfl rfl rfl rfl rfl lx (λy11 h12=>?_) (λh13=>?_)
 refine aF ?_
 refine aH ?_
 refine cu ?_
 have hx14:1<a0.l.length:=by omega
 refine lh 1 a0 hx14 ?_
 generalize hqx15:a0.l[1]=x15
 refine rV ?_
 refine lE (λh16=>?_) (λh16=>?_)
 refine cf ?_
 refine qg ?_
 refine bo ?_
 refine aM ?_
 refine jT ?_
 refine ab ?_
 refine ⟨_,?_,n4,(n4 - 1),rfl,dT,dT,atR⟩
 omega
 refine bD ?_
 refine aM ?_
 refine jT ?_
 refine ab ?_
 refine ⟨_,?_,n3,(n4 - 1),rfl,dT,dT,atR⟩
 omega
 refine aF ?_
 refine aH ?_
 refine bM ?_
 refine bD ?_
 refine aM ?_
 refine jT ?_
 refine ab ?_
 refine ⟨_,?_,n3,(n4 - 1),rfl,dT,dT,atR⟩
 omega
 refine aJ ?_
 refine ah ?_
 refine iV (λh17=>?_) (λh17=>?_)
 refine bu ?_
 exact gl
 refine aC ?_
 refine aX ?_
 have hNk18:=a0.lk
 refine iF a0.l.length (λrj e h=>∃ n19:Int,(1<=rj)/\At [0,1,5,9] [jV a0,.fm (jO pK pK a1) false,iv n19,ir rj] aT.empty [] e h) ?_ (k0:=1) dT ⟨n3,dT,atR⟩
 rintro rj e h hkk18 ⟨n19,hw20,hA⟩
 refine cZ ?_
 have hL21:=a0.lk
 refine jb a0 ?_
 refine iV (λh22=>?_) (λh22=>?_)
 refine bP ?_
 refine aP ?_
 refine jT ?_
 have hx23:((rj:Int) - 1).toNat<a0.l.length:=by omega
 refine iz rfl (λ_=>jh (n:=(rj:Int) - 1) (r:=a0) (enc:=iP) rfl rfl rfl rfl rfl dT hx23 rfl) ?_
 generalize hqx24:a0.l[((rj:Int) - 1).toNat]=x24
 refine aK ?_
 refine wA (key:=(⟨x24,n19⟩:iu)) (l:=a1) (ek:=pK) (ev:=pK) rfl rfl rfl rfl rfl rfl rfl rfl rfl lx (λy25 h26=>?_) (λh27=>?_)
 refine aF ?_
 refine bZ ?_
 iterate 7 refine rV ?_
 have hx28:rj<a0.l.length:=by omega
 refine lh rj a0 hx28 ?_
 generalize hqx29:a0.l[rj]=x29
 refine rV ?_
 refine vx (λh30=>?_) (λh30=>?_)
 refine c8 ?_
 exact gl
 refine bD ?_
 refine bh ?_
 refine iz rfl (λ_=>iZ rfl rfl rfl (jF .i64 1 y25.en)) ?_
 refine ab ?_
 refine aM ?_
 refine jc ?_
 refine ab ?_
 exact ⟨by omega,(IntKind.i64.wrap (1 - y25.en)),dT,atR⟩
 refine aF ?_
 refine qs ?_
 refine cY ?_
 iterate 3 refine rS ?_
 refine aY ?_
 exact gl
 refine c7 ?_
 exact gn
def ac3 (_a0:bS) (_a1:List (iu×iu)) (v:AV):Prop:=∃ r0:Bool,((r0=true->HM _a0))/\v=.bool r0
def t188 (a0:bS) (a1:List (iu×iu)) :Ct 188 [.agg (bS.af a0),.fm (jO pK pK a1) false] (ac3 a0 a1):=by
 refine ja GF ?_
 refine bb ?_
 refine cI ?_
 rintro _ H2 ⟨b1,rfl,hS3⟩
 refine ab ?_
 refine aQ ?_
 have hL4:=a0.lines.lk
 refine jb a0.lines ?_
 refine aL ?_
 have hNk5:=a0.lines.lk
 refine iF a0.lines.l.length (λk5 e h=>∃ l6:List (Int×Bool),∃ H7:aT,(vU a0 k5 0 l6)/\Sep H7 (lJ b1 iK bK l6::[])/\At [1,2,5,12,13,14] [.fm (jO pK pK a1) false,.la 2 0,(.hm b1),jr a0.lines,ir a0.lines.l.length,ir k5] H7 [(2,(bS.af a0))] e h) ?_ (k0:=0) dT ⟨([]),H2,(by exact vU.zero),hS3,atR⟩
 rintro k5 e h hkk5 ⟨l6,H7,hLn,hS8,hA⟩
 refine aO ?_
 refine iV (λh9=>?_) (λh9=>?_)
 refine ap ?_
 refine wz [.fm (jO pK pK a1) false,.la 2 0,(.hm b1),jr a0.lines,ir a0.lines.l.length,ir k5] H7 [(2,(bS.af a0))] ?_
 refine bi ?_
 have hx10:k5<a0.lines.l.length:=by omega
 refine kH k5 a0.lines hx10 ?_
 generalize hqx11:a0.lines.l[k5]=x11
 refine ba ?_
 refine aQ ?_
 have hL12:=x11.elems.lk
 refine jb x11.elems ?_
 refine iY (λh13=>?_) (λh13=>?_)
 refine bu ?_
 exact gx
 refine aC ?_
 refine wz [.fm (jO pK pK a1) false,.la 2 0,(.hm b1),.la 7 0,jr a0.lines,ir a0.lines.l.length,ir k5] H7 [(2,(bS.af a0)),(7,(jx.af x11))] ?_
 refine aQ ?_
 have hL14:=x11.elems.lk
 refine jb x11.elems ?_
 refine aL ?_
 have hNk15:=x11.elems.lk
 refine iF x11.elems.l.length (λqu e h=>∃ l16:List (Int×Bool),∃ H17:aT,(vU a0 k5 qu l16)/\Sep H17 (lJ b1 iK bK l16::[])/\At [1,2,5,7,12,13,14,23,24,25] [.fm (jO pK pK a1) false,.la 2 0,(.hm b1),.la 7 0,jr a0.lines,ir a0.lines.l.length,ir k5,jV x11.elems,ir x11.elems.l.length,ir qu] H17 [(2,(bS.af a0)),(7,(jx.af x11))] e h) ?_ (k0:=0) dT ⟨l6,H7,(by exact hLn),hS8,atR⟩
 rintro qu e h hkk15 ⟨l16,H17,hLn2,hS18,hA⟩
 refine aO ?_
 refine iV (λh19=>?_) (λh19=>?_)
 refine ap ?_
 refine wz [.fm (jO pK pK a1) false,.la 2 0,(.hm b1),.la 7 0,jr a0.lines,ir a0.lines.l.length,ir k5,jV x11.elems,ir x11.elems.l.length,ir qu] H17 [(2,(bS.af a0)),(7,(jx.af x11))] ?_
 refine bi ?_
 have hx20:qu<x11.elems.l.length:=by omega
 refine kH qu x11.elems hx20 ?_
 generalize hqx21:x11.elems.l[qu]=x21
 refine bo ?_
 refine ah ?_
 refine iV (λh22=>?_) (λh22=>?_)
 refine bB ?_
 refine cE ?_
 refine cH ?_
 refine aq ?_
 exact gx
 refine bk ?_
 have hL23:=a0.elems.lk
 refine jb a0.elems ?_
 refine kL (λh24=>?_) (λh24=>?_)
 refine cE ?_
 refine cH ?_
 refine aq ?_
 exact gx
 refine ci ?_
 have hx25:(x21).toNat<a0.elems.l.length:=by omega
 refine iz rfl (λ_=>jh (n:=x21) (r:=a0.elems) (enc:=j9.af) rfl rfl rfl rfl rfl dT hx25 rfl) ?_
 generalize hqx26:a0.elems.l[(x21).toNat]=x26
 refine aj ?_
 refine kE (λh27=>?_) (λh27=>?_)
 refine cH ?_
 refine aq ?_
 exact gx
 refine bk ?_
 refine mw (H:=H17) (i:=0) (ek:=iK) (ev:=bK) (l:=l16) x21 rfl rfl hS18 rfl rfl rfl rfl rfl rfl rfl rfl pY (λy28 h29=>?_) (λh30=>?_)
 cases y28
 refine aA ?_
 refine bO ?_
 rintro _ H31 ⟨rfl,hS32⟩
 refine oN ?_
 refine wz [.fm (jO pK pK a1) false,.la 2 0,(.hm b1),.la 7 0,jr a0.lines,ir a0.lines.l.length,ir k5,jV x11.elems,ir x11.elems.l.length,ir qu] H31 [(2,(bS.af a0)),(7,(jx.af x11))] ?_
 refine qg ?_
 refine jc ?_
 refine ab ?_
 exact ⟨by omega,((put x21 true l16)),H31,ga,hS32,atR⟩
 refine aq ?_
 exact gx
 refine aA ?_
 refine bO ?_
 rintro _ H33 ⟨rfl,hS34⟩
 refine oN ?_
 refine wz [.fm (jO pK pK a1) false,.la 2 0,(.hm b1),.la 7 0,jr a0.lines,ir a0.lines.l.length,ir k5,jV x11.elems,ir x11.elems.l.length,ir qu] H33 [(2,(bS.af a0)),(7,(jx.af x11))] ?_
 refine qg ?_
 refine jc ?_
 refine ab ?_
 exact ⟨by omega,((put x21 true l16)),H33,ga,hS34,atR⟩
 refine ao ?_
 refine wz [.fm (jO pK pK a1) false,.la 2 0,(.hm b1),.la 7 0,jr a0.lines,ir a0.lines.l.length,ir k5] H17 [(2,(bS.af a0)),(7,(jx.af x11))] ?_
 refine aP ?_
 refine oC (t279 x11.elems a1) ?_
 rintro _ ⟨r36,hc35,rfl⟩
 cases r36
 refine aq ?_
 exact gx
 refine aA ?_
 refine wz [.fm (jO pK pK a1) false,.la 2 0,(.hm b1),jr a0.lines,ir a0.lines.l.length,ir k5] H17 [(2,(bS.af a0))] ?_
 refine qg ?_
 refine jc ?_
 refine ab ?_
 exact ⟨by omega,l16,H17,(by exact hLn2.next dS dT),hS18,atR⟩
 refine ao ?_
 refine wz [] H7 [] ?_
 refine a6 ?_
 exact xB ⟨true,eQ,rfl⟩
def ac7 (_a0:Int) (_a1:Int) (v:AV):Prop:=∃ r0:Int,(True)/\v=iv r0
def t280 (a0:Int) (a1:Int) :Ct 280 [iv a0,iv a1] (ac7 a0 a1):=by
 refine ja Jb ?_
 refine bN ?_
 refine iV (λh1=>?_) (λh1=>?_)
 refine be ?_
 refine bI ?_
 refine bI ?_
 refine aq ?_
 exact gD
 refine aj ?_
 refine jI (λh2=>?_) (λh2=>?_)
 refine bI ?_
 refine bI ?_
 refine aq ?_
 exact gD
 refine aK ?_
 refine iV (λh3=>?_) (λh3=>?_)
 refine bI ?_
 refine aq ?_
 exact gD
 refine aK ?_
 refine jI (λh4=>?_) (λh4=>?_)
 refine aq ?_
 exact gD
 refine aA ?_
 refine aU ?_
 refine aQ ?_
 refine jT ?_
 refine aL ?_
 refine kF (λm9 e h=>∃ n5:Int,∃ n6:Int,m9=(n5+10).toNat/\(-10<=n5)/\(n5<=60)/\At [0,1,5] [iv n5,iv a1,iv n6] aT.empty [] e h) ?_ _ _ _ ⟨(a0 - a1),0,rfl,dT,dT,atR⟩
 rintro m9 e h ⟨n5,n6,hmm9,hi7,hi8,hA⟩
 refine bL ?_
 refine jI (λh10=>?_) (λh10=>?_)
 refine bP ?_
 refine bh ?_
 refine iz rfl (λ_=>iZ rfl rfl rfl (uw .i64 n6 n5)) ?_
 refine ab ?_
 refine bh ?_
 refine jT ?_
 refine ab ?_
 refine ⟨_,?_,(n5 - a1),(IntKind.i64.wrap (n6+(n5))),rfl,dT,dT,atR⟩
 omega
 refine aJ ?_
 refine bv ?_
 exact xB ⟨n6,zt⟩
def acS (_a0:bS) (v:AV):Prop:=∃ r0:Bool,(True)/\v=.bool r0
def t189 (a0:bS) (q1:(∀ s∈a0.signals.l,0<=s.at_.elem/\s.at_.elem<(a0.elems.l.length:Int)/\0<=s.at_.en)):Ct 189 [.agg (bS.af a0)] (acS a0):=by
 refine ja Hv ?_
 refine bb ?_
 refine bZ ?_
 refine dG ?_
 refine rC (t280 a0.top a0.jY) ?_
 rintro _ ⟨r2,hc1,rfl⟩
 refine iN rfl rfl (λ_=>iZ rfl rfl rfl (uw .i64 a0.top r2)) ?_
 refine mK (λh3=>?_) (λh3=>?_)
 refine rN ?_
 refine ac ?_
 exact gl
 refine cO ?_
 refine aQ ?_
 have hL4:=a0.signals.lk
 refine da ?_
 have hNk5:=a0.signals.lk
 refine iF a0.signals.l.length (λk5 e h=>At [1,20,21,22] [.la 1 0,jD a0.signals,ir a0.signals.l.length,ir k5] aT.empty [(1,(bS.af a0))] e h) ?_ (k0:=0) dT atR
 rintro k5 e h hkk5 hA
 refine aO ?_
 refine iV (λh6=>?_) (λh6=>?_)
 refine b5 ?_
 have hx7:k5<a0.signals.l.length:=by omega
 refine kH k5 a0.signals hx7 ?_
 generalize hqx8:a0.signals.l[k5]=x8
 have hinx8:x8∈a0.signals.l:=by rw [<- hqx8]; exact List.getElem_mem _
 have hsx8:=q1 x8 hinx8
 refine dh ?_
 refine aK ?_
 have hx9:(x8.at_.elem).toNat<a0.elems.l.length:=by omega
 refine iz rfl (λ_=>jh (n:=x8.at_.elem) (r:=a0.elems) (enc:=j9.af) rfl rfl rfl rfl rfl dT hx9 rfl) ?_
 generalize hqx10:a0.elems.l[(x8.at_.elem).toNat]=x10
 refine dh ?_
 refine iY (λh11=>?_) (λh11=>?_)
 refine ci ?_
 refine iV (λh12=>?_) (λh12=>?_)
 refine aq ?_
 exact gl
 refine cD ?_
 refine jc ?_
 refine ab ?_
 exact gm
 refine bB ?_
 refine cD ?_
 refine jc ?_
 refine ab ?_
 exact gm
 refine ao ?_
 refine aQ ?_
 have hL13:=a0.elems.lk
 refine jb a0.elems ?_
 refine aL ?_
 have hNk14:=a0.elems.lk
 refine iF a0.elems.l.length (λou e h=>At [1,45,46,47] [.la 1 0,jw a0.elems,ir a0.elems.l.length,ir ou] aT.empty [(1,(bS.af a0))] e h) ?_ (k0:=0) dT atR
 rintro ou e h hkk14 hA
 refine aO ?_
 refine iV (λh15=>?_) (λh15=>?_)
 refine b5 ?_
 have hx16:ou<a0.elems.l.length:=by omega
 refine kH ou a0.elems hx16 ?_
 generalize hqx17:a0.elems.l[ou]=x17
 refine dh ?_
 refine kE (λh18=>?_) (λh18=>?_)
 refine ci ?_
 refine iV (λh19=>?_) (λh19=>?_)
 refine aq ?_
 exact gl
 refine cD ?_
 refine jc ?_
 refine ab ?_
 exact gm
 refine bB ?_
 refine cD ?_
 refine jc ?_
 refine ab ?_
 exact gm
 refine cG ?_
 exact gn
def aff (_a0:bS) (v:AV):Prop:=∃ r0:Int,((r0=0->yI _a0.iO.l/\yA _a0.signals.l/\(∀ s∈_a0.signals.l,0<=s.at_.elem/\s.at_.elem<(_a0.elems.l.length:Int)/\0<=s.at_.en)/\_a0.elems.l.length<=40/\_a0.signals.l.length<=24/\_a0.iO.l.length<=80/\Nc _a0))/\v=iv r0
def t100 (a0:bS) :Ct 100 [.agg (bS.af a0)] (aff a0):=by
 refine ja I8 ?_
 refine cA ?_
 rintro _ H2 ⟨b1,rfl,hS3⟩
 refine ab ?_
 refine cy ?_
 refine pq 0 hS3 ?_
 refine mX 0 hS3 (jw a0.elems) ?_
 have hL4:=a0.elems.lk
 refine jb a0.elems ?_
 refine jI (λh5=>?_) (λh5=>?_)
 refine bF ?_
 refine aV ?_
 refine bQ ?_
 exact ge
 refine oV ?_
 refine pq 0 hS3 ?_
 refine mX 0 hS3 (jD a0.signals) ?_
 have hL6:=a0.signals.lk
 refine jb a0.signals ?_
 refine jI (λh7=>?_) (λh7=>?_)
 refine aV ?_
 refine bQ ?_
 exact ge
 refine aj ?_
 refine pq 0 hS3 ?_
 refine mX 0 hS3 (jr a0.lines) ?_
 have hL8:=a0.lines.lk
 refine jb a0.lines ?_
 refine jI (λh9=>?_) (λh9=>?_)
 refine bQ ?_
 exact ge
 refine aj ?_
 refine pq 0 hS3 ?_
 refine mX 0 hS3 (jC a0.iO) ?_
 have hL10:=a0.iO.lk
 refine jb a0.iO ?_
 refine jI (λh11=>?_) (λh11=>?_)
 refine aq ?_
 exact ge
 refine aA ?_
 refine wz [(iX b1)] H2 [] ?_
 refine cy ?_
 refine mX 0 hS3 (.agg (bS.af a0)) ?_
 refine oC (t181 a0) ?_
 rintro _ ⟨r13,hc12,rfl⟩
 have hKdp:=hc12
 cases r13
 refine aq ?_
 exact xB ⟨1,dV,rfl⟩
 refine aA ?_
 refine wz [(iX b1)] H2 [] ?_
 refine cy ?_
 refine pq 0 hS3 ?_
 refine mX 0 hS3 (jw a0.elems) ?_
 have hL14:=a0.elems.lk
 refine jb a0.elems ?_
 refine iz rfl (λ_=>yW rfl rfl (yS rfl rfl)) ?_
 have hS15:=Sep.pick hS3 [0] 1 dX dX
 refine kj (H:=H2) (args:=[ir a0.elems.l.length,.jN 183 [] [(iX b1)]]) (p:=[]) (r:=[]) rfl rfl rfl rfl rfl rfl rfl (Lu ((a0.elems.l.length:Int)) b1 a0 ([]) hS15 dK) ?_
 rintro _ H16 ⟨r19,hc18,hS17,rfl⟩
 cases r19
 refine oV ?_
 refine pq 0 hS17 ?_
 refine mX 0 hS17 (jD a0.signals) ?_
 have hL20:=a0.signals.lk
 refine jb a0.signals ?_
 refine iz rfl (λ_=>yW rfl rfl (yS rfl rfl)) ?_
 have hS21:=Sep.pick hS17 [0] 1 dX dX
 refine kj (H:=H16) (args:=[ir a0.signals.l.length,.jN 184 [] [(iX b1)]]) (p:=[]) (r:=[]) rfl rfl rfl rfl rfl rfl rfl (Ls ((a0.signals.l.length:Int)) b1 a0 ([]) hS21 dK) ?_
 rintro _ H22 ⟨r25,hc24,hS23,rfl⟩
 cases r25
 refine aj ?_
 refine pq 0 hS23 ?_
 refine mX 0 hS23 (jr a0.lines) ?_
 have hL26:=a0.lines.lk
 refine jb a0.lines ?_
 refine iz rfl (λ_=>yW rfl rfl (yS rfl rfl)) ?_
 have hS27:=Sep.pick hS23 [0] 1 dX dX
 refine kj (H:=H22) (args:=[ir a0.lines.l.length,.jN 185 [] [(iX b1)]]) (p:=[]) (r:=[]) rfl rfl rfl rfl rfl rfl rfl (K6 ((a0.lines.l.length:Int)) b1 a0 ([]) hS27 dK) ?_
 rintro _ H28 ⟨r31,hc30,hS29,rfl⟩
 cases r31
 refine aA ?_
 refine wz [(iX b1)] H28 [] ?_
 refine aa ?_
 refine mX 0 hS29 (.agg (bS.af a0)) ?_
 refine oC (t186 a0) ?_
 rintro _ (⟨r33,hc32,rfl⟩ | ⟨hc32,rfl⟩)
 have hPre:=hc32.1.1; have hC148:=hc32.1.2; have hJvp:=hc32.2
 refine cF ?_
 refine aD ?_
 refine ae ?_
 refine aS ?_
 refine mX 0 hS29 (.agg (bS.af a0)) ?_
 refine oV ?_
 refine oC (t187 a0 r33 dK) ?_
 rintro _ ⟨r35,hc34,rfl⟩
 cases r35
 clear hc34
 refine bc ?_
 exact xB ⟨7,dV,rfl⟩
 have hc34t:=hc34 rfl
 have hPre:=hc34t.1; have hD149:=hc34t.2
 refine oV ?_
 refine aS ?_
 refine mX 0 hS29 (.agg (bS.af a0)) ?_
 refine oV ?_
 refine oC (t188 a0 r33) ?_
 rintro _ ⟨r37,hc36,rfl⟩
 have hLnp:=hc36
 cases r37
 refine bc ?_
 exact xB ⟨8,dV,rfl⟩
 refine oV ?_
 refine aS ?_
 refine mX 0 hS29 (.agg (bS.af a0)) ?_
 refine oC (t189 a0 dK) ?_
 rintro _ ⟨r39,hc38,rfl⟩
 cases r39
 refine bc ?_
 exact xB ⟨9,dV,rfl⟩
 refine dF ?_
 refine wz [] H28 [] ?_
 refine a6 ?_
 exact xB ⟨0,dV,rfl⟩
 refine cF ?_
 refine bT ?_
 refine bc ?_
 exact xB ⟨6,dV,rfl⟩
 refine aq ?_
 exact xB ⟨4,dV,rfl⟩
 refine bw ?_
 refine aq ?_
 exact xB ⟨4,dV,rfl⟩
 refine bB ?_
 refine bw ?_
 refine aq ?_
 exact xB ⟨4,dV,rfl⟩
def aaY (_a0:jo j9) (v:AV):Prop:=∃ r0:Row j9,((r0.l = _a0.l/\(r0.c=.nil↔_a0.c=.nil)))/\v=jw r0
def YL (a0:jo j9) (q1:a0.l.length<=1000):GA 190 [jo.av j9.af a0] (aaY a0):=by
 refine wc Hl ?_
 refine bN ?_
 refine kS (b:=a0.isNil) rfl (λ_=>qJ rfl rfl rfl rfl) (λh1=>?_) (λh1=>?_)
 refine bu ?_
 exact xG ⟨(kI:Row j9),d9,rfl⟩
 refine aC ?_
 refine ae ?_
 have hS2:=Sep.qZ j1 3
 refine jq rfl (uk (i:=0) (l:=([]:List j9)) (enc:=j9.af) a0.l hS2 rfl rfl rfl rfl rfl rfl rfl rfl rfl (λ_=>rfl) (.inl rfl) dW (λ_=>rfl)) ?_
 rintro v3 H4 ⟨hS5,hNN⟩
 refine ai ?_
 obtain ⟨r6,hl7,hnn,hf8⟩:=tV (H:=H4) (i:=0) (l:=(([]:List j9)++a0.l)) (enc:=j9.af) hS5 rfl dQ
 have hlq:=hl7; have hln10:=congrArg List.length hl7
 have hz9:∀ m,freeze false { H4 with iq:=[] } (m+2) v3=some (jw r6):=λm=>hf8 _ _ (λ_=>rfl)
 exact ⟨v3,(kY (vs:=[v3]) rfl (iM (Sep.arg (i:=0) hS5 rfl) jP)),jw r6,(show freeze false { H4 with iq:=[] } 8 v3=some (jw r6) by simp only [FZ,hz9]),r6,d9,rfl⟩
def aa0 (_a0:jo j3) (v:AV):Prop:=∃ r0:Row j3,((r0.l = _a0.l/\(r0.c=.nil↔_a0.c=.nil)))/\v=jC r0
def YO (a0:jo j3) (q1:a0.l.length<=1000):GA 191 [jo.av j3.af a0] (aa0 a0):=by
 refine wc GG ?_
 refine bN ?_
 refine kS (b:=a0.isNil) rfl (λ_=>qJ rfl rfl rfl rfl) (λh1=>?_) (λh1=>?_)
 refine bu ?_
 exact xG ⟨(kI:Row j3),d9,rfl⟩
 refine aC ?_
 refine ae ?_
 have hS2:=Sep.qZ j1 4
 refine jq rfl (uk (i:=0) (l:=([]:List j3)) (enc:=j3.af) a0.l hS2 rfl rfl rfl rfl rfl rfl rfl rfl rfl (λ_=>rfl) (.inl rfl) dW (λ_=>rfl)) ?_
 rintro v3 H4 ⟨hS5,hNN⟩
 refine ai ?_
 obtain ⟨r6,hl7,hnn,hf8⟩:=tV (H:=H4) (i:=0) (l:=(([]:List j3)++a0.l)) (enc:=j3.af) hS5 rfl dQ
 have hlq:=hl7; have hln10:=congrArg List.length hl7
 have hz9:∀ m,freeze false { H4 with iq:=[] } (m+2) v3=some (jC r6):=λm=>hf8 _ _ (λ_=>rfl)
 exact ⟨v3,(kY (vs:=[v3]) rfl (iM (Sep.arg (i:=0) hS5 rfl) jP)),jC r6,(show freeze false { H4 with iq:=[] } 8 v3=some (jC r6) by simp only [FZ,hz9]),r6,d9,rfl⟩
def Yl (_a0:jo j6) (v:AV):Prop:=∃ r0:Row j6,((r0.l = _a0.l/\(r0.c=.nil↔_a0.c=.nil)))/\v=jD r0
def Zl (a0:jo j6) (q1:a0.l.length<=1000):GA 192 [jo.av j6.af a0] (Yl a0):=by
 refine wc Ha ?_
 refine bN ?_
 refine kS (b:=a0.isNil) rfl (λ_=>qJ rfl rfl rfl rfl) (λh1=>?_) (λh1=>?_)
 refine bu ?_
 exact xG ⟨(kI:Row j6),d9,rfl⟩
 refine aC ?_
 refine ae ?_
 have hS2:=Sep.qZ j1 4
 refine jq rfl (uk (i:=0) (l:=([]:List j6)) (enc:=j6.af) a0.l hS2 rfl rfl rfl rfl rfl rfl rfl rfl rfl (λ_=>rfl) (.inl rfl) dW (λ_=>rfl)) ?_
 rintro v3 H4 ⟨hS5,hNN⟩
 refine ai ?_
 obtain ⟨r6,hl7,hnn,hf8⟩:=tV (H:=H4) (i:=0) (l:=(([]:List j6)++a0.l)) (enc:=j6.af) hS5 rfl dQ
 have hlq:=hl7; have hln10:=congrArg List.length hl7
 have hz9:∀ m,freeze false { H4 with iq:=[] } (m+2) v3=some (jD r6):=λm=>hf8 _ _ (λ_=>rfl)
 exact ⟨v3,(kY (vs:=[v3]) rfl (iM (Sep.arg (i:=0) hS5 rfl) jP)),jD r6,(show freeze false { H4 with iq:=[] } 8 v3=some (jD r6) by simp only [FZ,hz9]),r6,d9,rfl⟩
def Zx {H:aT} (a0:jo jx) (F:List jL) (hS:Sep H F) (q1:a0.l.length<=1000):∃ v H',jf cfg FT mr true 193 [jo.av jx.af a0] { H with iq:=[] } v H'/\(∃ ov:AV,∃ ol:List jx,(ol=a0.l/\(ov=.sl [] .nil↔a0.c=.nil))/\Sep H' (nH jx.af 2 ov ol::F)/\v=ov):=by
 refine J4 HJ ?_
 refine bN ?_
 refine kS (b:=a0.isNil) rfl (λ_=>qJ rfl rfl rfl rfl) (λh1=>?_) (λh1=>?_)
 refine bu ?_
 have hS2:=Sep.mn hS 2
 have hS3:=Sep.pick hS2 [0] 1 dX dX
 exact ⟨iE,rfl,iE,([]:List jx),fd,Sep.iq hS3 _,rfl⟩
 refine aC ?_
 refine wz [jo.av jx.af a0] H [] ?_
 refine ae ?_
 have hS4:=Sep.qZ hS 2
 refine jq rfl (uk (i:=0) (l:=([]:List jx)) (enc:=jx.af) a0.l hS4 rfl rfl rfl rfl rfl rfl rfl rfl rfl (λ_=>rfl) (.inl rfl) dW (λ_=>rfl)) ?_
 rintro v5 H6 ⟨hS7,hNN⟩
 refine ai ?_
 have hS8:=Sep.pick hS7 [0] 1 dX dX
 exact ⟨v5,(kY (vs:=[v5]) rfl (iM (Sep.arg (i:=0) hS7 rfl) jP)),v5,(([]:List jx)++a0.l),fd,Sep.iq hS8 _,rfl⟩
def abF (_a0:jo Int) (v:AV):Prop:=∃ r0:Row Int,((r0.l = _a0.l/\(r0.c=.nil↔_a0.c=.nil)))/\v=jV r0
def aae (a0:jo Int) (q1:a0.l.length<=1000):GA 194 [py a0] (abF a0):=by
 refine wc Is ?_
 refine bN ?_
 refine kS (b:=a0.isNil) rfl (λ_=>qJ rfl rfl rfl rfl) (λh1=>?_) (λh1=>?_)
 refine bu ?_
 exact xG ⟨(kI:Row Int),d9,rfl⟩
 refine aC ?_
 refine wy [py a0] [] ?_
 refine ae ?_
 have hS2:=Sep.qZ j1 1
 refine jq rfl (uk (i:=0) (l:=([]:List Int)) (enc:=iP) a0.l hS2 rfl rfl rfl rfl rfl rfl rfl rfl rfl (λ_=>rfl) (.inl rfl) dW (λ_=>rfl)) ?_
 rintro v3 H4 ⟨hS5,hNN⟩
 refine ai ?_
 obtain ⟨r6,hl7,hnn,hf8⟩:=tV (H:=H4) (i:=0) (l:=(([]:List Int)++a0.l)) (enc:=iP) hS5 rfl dQ
 have hlq:=hl7; have hln10:=congrArg List.length hl7
 have hz9:∀ m,freeze false { H4 with iq:=[] } (m+2) v3=some (jV r6):=λm=>hf8 _ _ (λ_=>rfl)
 exact ⟨v3,(kY (vs:=[v3]) rfl (iM (Sep.arg (i:=0) hS5 rfl) jP)),jV r6,(show freeze false { H4 with iq:=[] } 8 v3=some (jV r6) by simp only [FZ,hz9]),r6,d9,rfl⟩
def V2 (_a0:bS) (v:AV):Prop:=∃ r0:bS,((GX r0 _a0/\∀ x∈r0.lines.l,x.elems.l.length<=60))/\v=.agg (bS.af r0)
def Zn (a0:bS) (q1:mu a0):GA 101 [.agg (bS.af a0)] (V2 a0):=by
 refine wc IY ?_
 have q2:=q1.elems; have q3:=q1.iO; have q4:=q1.signals; have q5:=q1.lines
 refine bb ?_
 refine bX ?_
 refine rC (YL (Row.ow a0.elems) dK) ?_
 rintro _ ⟨r2,hc1,rfl⟩
 refine ay ?_
 refine rC (YO (Row.ow a0.iO) dK) ?_
 rintro _ ⟨r4,hc3,rfl⟩
 refine ay ?_
 refine rC (Zl (Row.ow a0.signals) dK) ?_
 rintro _ ⟨r6,hc5,rfl⟩
 refine bG ?_
 refine ae ?_
 refine kj (H:=aT.empty) (args:=[jr a0.lines]) (p:=[]) (r:=[]) rfl rfl rfl rfl rfl rfl rfl (Zx (Row.ow a0.lines) ([]) j1 dK) ?_
 rintro ov11 H8 ⟨_,ol12,hc10,hS9,rfl⟩
 have hqF:ol12.length=(Row.ow a0.lines).l.length:=by rw [hc10.1]
 try simp only [Row.ow] at hqF
 have hLn:=hc10
 refine oV ?_
 refine iz rfl (λ_=>yL rfl rfl rfl (nG rfl rfl (Sep.cell (i:=0) hS9 rfl)) (iM (Sep.cell (i:=0) hS9 rfl) jP) rfl rfl) ?_
 refine oN ?_
 refine aQ ?_
 refine iz rfl (λ_=>oJ (i:=0) (l:=ol12) (enc:=jx.af) hS9 rfl rfl rfl rfl rfl rfl rfl) ?_
 refine aL ?_
 refine iF ol12.length (λly e h=>∃ v14:AV,∃ l15:List jx,∃ H16:aT,(l15.length=a0.lines.l.length)/\(∀ x∈l15,x.elems.l.length<=60)/\(∀ (i:Nat) (h:i<(l15).length) (h2:i<a0.lines.l.length),sv (l15)[i] a0.lines.l[i])/\((v14=.sl [] .nil↔a0.lines.c=.nil))/\Sep H16 (nH jx.af 2 v14 l15::[])/\At [1,2,22,23] [.la 1 0,.la 2 0,ir ol12.length,ir ly] H16 [(1,[jw r2,jC r4,jD r6,v14,iv a0.top,iv a0.jY,iv a0.j5,iv a0.j8,.bool a0.ke]),(2,[iE,iE,iE,iE,iv 0,iv 0,iv 0,iv 0,iD])] e h) ?_ (k0:=0) dT ⟨ov11,ol12,H8,(by (simp_all [Row.ow])),(by (intro x hx; exact q1.line x (by simp_all [Row.ow]))),(by (rw [hLn.1]; exact λi h h2=>⟨rfl,rfl,Iff.rfl⟩)),(by exact hLn.2),hS9,atR⟩
 rintro ly e h hkk13 ⟨v14,l15,H16,hL,hE,hN,hV,hS17,hA⟩
 refine aO ?_
 refine iV (λh18=>?_) (λh18=>?_)
 refine ap ?_
 refine wz [.la 1 0,.la 2 0,ir ol12.length,ir ly] H16 [(1,[jw r2,jC r4,jD r6,v14,iv a0.top,iv a0.jY,iv a0.j5,iv a0.j8,.bool a0.ke]),(2,[iE,iE,iE,iE,iv 0,iv 0,iv 0,iv 0,iD])] ?_
 refine aD ?_
 refine bb ?_
 refine qd ?_
 refine cJ ?_
 have hx19:ly<l15.length:=by first | omega | (simp<;>omega) | (simp_all; omega)
 obtain ⟨x20,hqx20⟩:∃ x,l15[ly]=x:=⟨_,rfl⟩
 have hinx20:x20∈l15:=by rw [<- hqx20]; exact List.getElem_mem _
 have hsx20:=hE _ hinx20
 refine pd rfl rfl (nd (i:=0) (m:=ly) (cs:=jx.af x20) hS17 rfl rfl rfl rfl rfl rfl rfl (lO hx19 hqx20)) ?_
 rintro a21 ⟨ha22,hea23⟩
 refine iN rfl rfl (λ_=>EA.Rx hea23 rfl rfl rfl ha22) ?_
 refine iN rfl rfl (λ_=>o9 (i:=0) (m:=ly) (o:=1) (r:=jV x20.elems) (cs:=jx.af x20) hS17 rfl (lO hx19 hqx20) hea23 rfl rfl rfl) ?_
 refine rC (aae (Row.ow x20.elems) dK) ?_
 rintro _ ⟨r25,hc24,rfl⟩
 have hRN:=hc24
 have hx26:ly<l15.length:=by first | omega | (simp<;>omega) | (simp_all; omega)
 refine pd rfl rfl (nd (i:=0) (m:=ly) (cs:=jx.af x20) hS17 rfl rfl rfl rfl rfl rfl rfl (lO hx26 hqx20)) ?_
 rintro a27 ⟨ha28,hea29⟩
 refine iN rfl rfl (λ_=>EA.Rx hea29 rfl rfl rfl ha28) ?_
 refine l3 rfl rfl (vB (i:=0) (m:=ly) (o:=1) x20 (⟨x20.name,r25⟩:jx) hS17 rfl hx26 hqx20 hea29 rfl rfl rfl rfl rfl rfl) ?_
 rintro _ H30 ⟨rfl,hS31⟩
 refine rN ?_
 refine wz [.la 1 0,.la 2 0,ir ol12.length,ir ly] H30 [(1,[jw r2,jC r4,jD r6,v14,iv a0.top,iv a0.jY,iv a0.j5,iv a0.j8,.bool a0.ke]),(2,[iE,iE,iE,iE,iv 0,iv 0,iv 0,iv 0,iD])] ?_
 refine qg ?_
 refine jc ?_
 refine ab ?_
 exact ⟨by omega,v14,((l15.set ly (⟨x20.name,r25⟩:jx))),H30,(by (simp<;>omega)),(by exact Gh hE (by show List.length (Row.l _)<=60; rw [hRN.1]; assumption)),(by (refine Jp (x:=?x) hN ?h1 ?h2 ?h3; (case h2=>assumption); exact ⟨rfl,hRN⟩)),(by exact hV),hS31,atR⟩
 refine ao ?_
 refine wz [.la 1 0,.la 2 0,.la 2 0] H16 [(1,[jw r2,jC r4,jD r6,v14,iv a0.top,iv a0.jY,iv a0.j5,iv a0.j8,.bool a0.ke]),(2,[iE,iE,iE,iE,iv 0,iv 0,iv 0,iv 0,iD]),(2,[iE,iE,iE,iE,iv 0,iv 0,iv 0,iv 0,iD])] ?_
 refine aE ?_
 refine iz rfl (λ_=>yL rfl rfl rfl rfl (iM rfl (iM rfl (iM rfl (iM (Sep.cell (i:=0) hS17 rfl) (iM rfl (iM rfl (iM rfl (iM rfl (iM rfl jP))))))))) rfl rfl) ?_
 refine oN ?_
 refine qr ?_
 obtain ⟨r32,hl33,hnn,hf34⟩:=tV (H:=H16) (i:=0) (l:=l15) (enc:=jx.af) hS17 rfl dQ
 have hlq:=hl33; have hln36:=congrArg List.length hl33
 have hz35:∀ m,freeze false { H16 with iq:=[(1,[jw r2,jC r4,jD r6,v14,iv a0.top,iv a0.jY,iv a0.j5,iv a0.j8,.bool a0.ke]),(2,[jw r2,jC r4,jD r6,v14,iv a0.top,iv a0.jY,iv a0.j5,iv a0.j8,.bool a0.ke])] } (m+2) v14=some (jr r32):=λm=>hf34 _ _ (λ_=>by simp only [jx.af,ju,uj,tH,wi,tO,wb])
 exact ⟨.agg [jw r2,jC r4,jD r6,v14,iv a0.top,iv a0.jY,iv a0.j5,iv a0.j8,.bool a0.ke],(kY (vs:=[.agg [jw r2,jC r4,jD r6,v14,iv a0.top,iv a0.jY,iv a0.j5,iv a0.j8,.bool a0.ke]]) rfl rfl),.agg [jw r2,jC r4,jD r6,jr r32,iv a0.top,iv a0.jY,iv a0.j5,iv a0.j8,.bool a0.ke],(show freeze false { H16 with iq:=[(1,[jw r2,jC r4,jD r6,v14,iv a0.top,iv a0.jY,iv a0.j5,iv a0.j8,.bool a0.ke]),(2,[jw r2,jC r4,jD r6,v14,iv a0.top,iv a0.jY,iv a0.j5,iv a0.j8,.bool a0.ke])] } 8 (.agg [jw r2,jC r4,jD r6,v14,iv a0.top,iv a0.jY,iv a0.j5,iv a0.j8,.bool a0.ke])=some (.agg [jw r2,jC r4,jD r6,jr r32,iv a0.top,iv a0.jY,iv a0.j5,iv a0.j8,.bool a0.ke]) by simp only [FZ,hz35]),(⟨r2,r4,r6,r32,a0.top,a0.jY,a0.j5,a0.j8,a0.ke⟩:bS),(by refine ⟨⟨by assumption,by assumption,by assumption,hnn.trans hV,by simp_all,?_,rfl,rfl,rfl,rfl,rfl⟩,by simp_all⟩; simp_all),rfl⟩
def Sc:jA 101=some (sy cfg FT mr 101):=by rfl
def adm (_a0:bS) (v:AV):Prop:=∃ r0:bS,(r0.elems.l = _a0.elems.l/\r0.iO.l = _a0.iO.l/\r0.signals.l = _a0.signals.l/\r0.lines.l.length = _a0.lines.l.length/\(∀ x∈r0.lines.l,x.elems.l.length<=60)/\r0 = _a0.canon)/\v=.agg (bS.af r0)
def t101 (a0:bS) (q1:mu a0) (h:aT):∃ v,jf cfg FT jA false 101 [.agg (bS.af a0)] h v h/\adm a0 v:=by
 obtain ⟨v,hc,r0,⟨h1,h2⟩,rfl⟩:=Zn a0 q1 h
 refine ⟨_,Hs Sc hc,a0.canon,⟨rfl,rfl,rfl,by simp [bS.canon,Row.canon,Row.yD],?_,rfl⟩,FH h1⟩
 intro x hx
 simp only [bS.canon,Row.canon,Row.yD,List.mem_map] at hx
 obtain ⟨y,hy,rfl⟩:=hx
 exact q1.line y hy
end Go.Sx
