/- Proves what some functions of the program answer, by walking through them. -/
import Derived.Test.YtpelnddplemngaaGreatHag
import Derived.Test.YtpelnddplemngaaGreatHaj
import Derived.Test.YtpelnddplemngaaGreatHal
set_option linter.all false
set_option maxRecDepth 100000
set_option maxHeartbeats 0
namespace Go.Sx
open Go Go.Proofs
def P47 (_a0:bG) (v:AV):Prop:=∃ r0:Bool,((r0=true->lS _a0))/\v=.bool r0
def t47 (a0:bG) (hJg:JG a0):Ct 47 [.agg (bG.ag a0)] (P47 a0):=by
 refine jf Oe ?_
 refine aX ?_
 refine aZ ?_
 have hL1:=a0.elems.lk
 refine jK a0.elems ?_
 refine kn (λh2=>?_) (λh2=>?_)
 refine bl ?_
 refine aU ?_
 refine bN ?_
 exact iu
 refine aH ?_
 have hL3:=a0.jd.lk
 refine jK a0.jd ?_
 refine kn (λh4=>?_) (λh4=>?_)
 refine aU ?_
 refine bN ?_
 exact iu
 refine aO ?_
 have hL5:=a0.signals.lk
 refine jK a0.signals ?_
 refine kn (λh6=>?_) (λh6=>?_)
 refine bN ?_
 exact iu
 refine aO ?_
 have hL7:=a0.lines.lk
 refine jK a0.lines ?_
 refine kn (λh8=>?_) (λh8=>?_)
 refine ac ?_
 exact iu
 refine ah ?_
 refine ck ?_
 have hNk9:=a0.lines.lk
 refine iW a0.lines.l.length (λk9 e h=>(∀ (i:Nat) (h:i<a0.lines.l.length),i<k9->(a0.lines.l[i]).elems.l.length<=60)/\At [1,3] [.la 1 0,iF k9] aT.empty [(1,(bG.ag a0))] e h) ?_ (k0:=0) dD ⟨eA,atR⟩
 rintro k9 e h hkk9 ⟨hI,hA⟩
 refine bb ?_
 have hL10:=a0.lines.lk
 refine jK a0.lines ?_
 refine jk (λh11=>?_) (λh11=>?_)
 refine be ?_
 refine aJ ?_
 have hx12:k9<a0.lines.l.length:=by omega
 refine kQ k9 a0.lines hx12 ?_
 generalize hqx13:a0.lines.l[k9]=x13
 refine aw ?_
 have hL14:=x13.elems.lk
 refine jK x13.elems ?_
 refine kn (λh15=>?_) (λh15=>?_)
 refine oV ?_
 refine cz ?_
 refine ac ?_
 exact iu
 refine aO ?_
 have hx16:k9<a0.lines.l.length:=by omega
 refine kQ k9 a0.lines hx16 ?_
 rw [hqx13]
 refine aH ?_
 refine kn (λh18=>?_) (λh18=>?_)
 refine ac ?_
 exact iu
 refine dr ?_
 refine jq ?_
 refine ab ?_
 exact ⟨by omega,(by (intro i h h2; rcases Nat.lt_succ_iff_lt_or_eq.mp h2 with h3 | h3; exact hI i h h3; subst h3; simp_all; try omega)),atR⟩
 refine aM ?_
 refine ck ?_
 have hNk19:=a0.elems.lk
 refine iW a0.elems.l.length (λlr e h=>At [1,4] [.la 1 0,iF lr] aT.empty [(1,(bG.ag a0))] e h) ?_ (k0:=0) dD atR
 rintro lr e h hkk19 hA
 refine bb ?_
 have hL20:=a0.elems.lk
 refine jK a0.elems ?_
 refine jk (λh21=>?_) (λh21=>?_)
 refine be ?_
 refine aJ ?_
 have hx22:lr<a0.elems.l.length:=by omega
 refine kQ lr a0.elems hx22 ?_
 generalize hqx23:a0.elems.l[lr]=x23
 refine aH ?_
 refine kn (λh24=>?_) (λh24=>?_)
 refine bh ?_
 exact iu
 refine aG ?_
 refine aS ?_
 refine jq ?_
 refine ab ?_
 exact gn
 refine aM ?_
 refine ck ?_
 have hNk25:=a0.signals.lk
 refine iW a0.signals.l.length (λpd e h=>At [1,5] [.la 1 0,iF pd] aT.empty [(1,(bG.ag a0))] e h) ?_ (k0:=0) dD atR
 rintro pd e h hkk25 hA
 refine bb ?_
 have hL26:=a0.signals.lk
 refine jK a0.signals ?_
 refine jk (λh27=>?_) (λh27=>?_)
 refine be ?_
 refine aJ ?_
 have hx28:pd<a0.signals.l.length:=by omega
 refine kQ pd a0.signals hx28 ?_
 generalize hqx29:a0.signals.l[pd]=x29
 refine aH ?_
 refine kn (λh30=>?_) (λh30=>?_)
 refine bh ?_
 exact iu
 refine aG ?_
 refine aS ?_
 refine jq ?_
 refine ab ?_
 exact gn
 refine aM ?_
 refine aI ?_
 exact xB ⟨true,dX,rfl⟩
def afW (_a0:bG) (v:AV):Prop:=∃ r0:Row ns,∃ r1:Row ns,∃ r2:Row ns,(True)/\v=.jl [Row.av mf r0,Row.av mf r1,Row.av mf r2]
def t105 (a0:bG) (q1:lS a0):Ct 105 [.agg (bG.ag a0)] (afW a0):=by
 refine jf JX ?_
 have q2:=q1.elems; have q3:=q1.signals; have q4:=q1.lines
 refine aa ?_
 refine bW ?_
 refine cg ?_
 refine ck ?_
 have hS1:=Sep.mX kB 1
 have hNk2:=a0.elems.lk
 refine iW a0.elems.l.length (λk2 e h=>∃ v3:AV,∃ l4:List ns,∃ H5:aT,(l4.length<=0+k2)/\Sep H5 (nZ mf 1 v3 l4::[])/\At [1,5,6,7,8] [.la 1 0,v3,iS,iS,iF k2] H5 [(1,(bG.ag a0))] e h) ?_ (k0:=0) dD ⟨iS,(([]:List ns)),aT.empty,ew,hS1,atR⟩
 rintro k2 e h hkk2 ⟨v3,l4,H5,hl7,hS6,hA⟩
 refine bb ?_
 have hL8:=a0.elems.lk
 refine jK a0.elems ?_
 refine jk (λh9=>?_) (λh9=>?_)
 refine bX ?_
 refine wz [.la 1 0,v3,iS,iS,iF k2] H5 [(1,(bG.ag a0))] ?_ (jD hS6 [(5,0)])
 refine aF ?_
 refine qg ?_
 refine aO ?_
 have hx10:k2<a0.elems.l.length:=by omega
 refine kQ k2 a0.elems hx10 ?_
 generalize hqx11:a0.elems.l[k2]=x11
 refine aH ?_
 refine jG rfl (lf (i:=0) (l:=l4) (enc:=mf) [x11.name] hS6 rfl rfl rfl rfl rfl rfl rfl rfl rfl (λ_=>rfl) (.inl rfl) dJ (λ_=>rfl)) ?_
 rintro v12 H13 hS14
 refine ab ?_
 refine wz [.la 1 0,v12,iS,iS,iF k2] H13 [(1,(bG.ag a0))] ?_ (jD hS14 [(5,0)])
 refine aS ?_
 refine jq ?_
 refine ab ?_
 exact ⟨by omega,v12,((l4++[x11.name])),H13,dB,hS14,(jD hS14 [(5,0)])⟩
 refine aM ?_
 refine wz [.la 1 0,v3,iS,iS] H5 [(1,(bG.ag a0))] ?_ (jD hS6 [(5,0)])
 refine ck ?_
 have hS15:=Sep.mX hS6 1
 have hNk16:=a0.signals.lk
 refine iW a0.signals.l.length (λrk e h=>∃ v17:AV,∃ l18:List ns,∃ H19:aT,(l18.length<=0+rk)/\Sep H19 (nZ mf 1 v17 l18::nZ mf 1 v3 l4::[])/\At [1,5,6,7,9] [.la 1 0,v3,v17,iS,iF rk] H19 [(1,(bG.ag a0))] e h) ?_ (k0:=0) dD ⟨iS,(([]:List ns)),H5,ew,hS15,(jD hS15 [(5,1)])⟩
 rintro rk e h hkk16 ⟨v17,l18,H19,hl21,hS20,hA⟩
 refine bb ?_
 have hL22:=a0.signals.lk
 refine jK a0.signals ?_
 refine jk (λh23=>?_) (λh23=>?_)
 refine bX ?_
 refine wz [.la 1 0,v3,v17,iS,iF rk] H19 [(1,(bG.ag a0))] ?_ (jD hS20 [(5,1),(6,0)])
 refine aF ?_
 refine qg ?_
 refine aO ?_
 have hx24:rk<a0.signals.l.length:=by omega
 refine kQ rk a0.signals hx24 ?_
 generalize hqx25:a0.signals.l[rk]=x25
 refine aH ?_
 refine jG rfl (lf (i:=0) (l:=l18) (enc:=mf) [x25.name] hS20 rfl rfl rfl rfl rfl rfl rfl rfl rfl (λ_=>rfl) (.inl rfl) dJ (λ_=>rfl)) ?_
 rintro v26 H27 hS28
 refine ab ?_
 refine wz [.la 1 0,v3,v26,iS,iF rk] H27 [(1,(bG.ag a0))] ?_ (jD hS28 [(5,1),(6,0)])
 refine aS ?_
 refine jq ?_
 refine ab ?_
 exact ⟨by omega,v26,((l18++[x25.name])),H27,dB,hS28,(jD hS28 [(5,1),(6,0)])⟩
 refine aM ?_
 refine wz [.la 1 0,v3,v17,iS] H19 [(1,(bG.ag a0))] ?_ (jD hS20 [(5,1),(6,0)])
 refine ck ?_
 have hS29:=Sep.mX hS20 1
 have hNk30:=a0.lines.lk
 refine iW a0.lines.l.length (λsg e h=>∃ v31:AV,∃ l32:List ns,∃ H33:aT,(l32.length<=0+sg)/\Sep H33 (nZ mf 1 v31 l32::nZ mf 1 v17 l18::nZ mf 1 v3 l4::[])/\At [1,5,6,7,10] [.la 1 0,v3,v17,v31,iF sg] H33 [(1,(bG.ag a0))] e h) ?_ (k0:=0) dD ⟨iS,(([]:List ns)),H19,ew,hS29,(jD hS29 [(5,2),(6,1)])⟩
 rintro sg e h hkk30 ⟨v31,l32,H33,hl35,hS34,hA⟩
 refine bb ?_
 have hL36:=a0.lines.lk
 refine jK a0.lines ?_
 refine jk (λh37=>?_) (λh37=>?_)
 refine bX ?_
 refine wz [.la 1 0,v3,v17,v31,iF sg] H33 [(1,(bG.ag a0))] ?_ (jD hS34 [(5,2),(6,1),(7,0)])
 refine aF ?_
 refine qg ?_
 refine aO ?_
 have hx38:sg<a0.lines.l.length:=by omega
 refine kQ sg a0.lines hx38 ?_
 generalize hqx39:a0.lines.l[sg]=x39
 refine aH ?_
 refine jG rfl (lf (i:=0) (l:=l32) (enc:=mf) [x39.name] hS34 rfl rfl rfl rfl rfl rfl rfl rfl rfl (λ_=>rfl) (.inl rfl) dJ (λ_=>rfl)) ?_
 rintro v40 H41 hS42
 refine ab ?_
 refine wz [.la 1 0,v3,v17,v40,iF sg] H41 [(1,(bG.ag a0))] ?_ (jD hS42 [(5,2),(6,1),(7,0)])
 refine aS ?_
 refine jq ?_
 refine ab ?_
 exact ⟨by omega,v40,((l32++[x39.name])),H41,dB,hS42,(jD hS42 [(5,2),(6,1),(7,0)])⟩
 refine aM ?_
 refine wz [v3,v17,v31] H33 [] ?_ (jD hS34 [(5,2),(6,1),(7,0)])
 refine ae ?_
 refine bI ?_
 obtain ⟨r43,hl44,hf45⟩:=mE (H:=H33) (i:=2) (l:=l4) (enc:=mf) hS34 rfl dz
 have hlq:=hl44; have hln47:=congrArg List.length hl44
 have hz46:∀ m,freeze false { H33 with iI:=[] } (m+2) v3=some (Row.av mf r43):=λm=>hf45 _ _ (λ_=>rfl)
 obtain ⟨r48,hl49,hf50⟩:=mE (H:=H33) (i:=1) (l:=l18) (enc:=mf) hS34 rfl dz
 have hlq:=hl49; have hln52:=congrArg List.length hl49
 have hz51:∀ m,freeze false { H33 with iI:=[] } (m+2) v17=some (Row.av mf r48):=λm=>hf50 _ _ (λ_=>rfl)
 obtain ⟨r53,hl54,hf55⟩:=mE (H:=H33) (i:=0) (l:=l32) (enc:=mf) hS34 rfl dz
 have hlq:=hl54; have hln57:=congrArg List.length hl54
 have hz56:∀ m,freeze false { H33 with iI:=[] } (m+2) v31=some (Row.av mf r53):=λm=>hf55 _ _ (λ_=>rfl)
 exact ⟨.jl [v3,v17,v31],(lN (vs:=[v3,v17,v31]) rfl (jb (Sep.arg (i:=2) hS34 rfl) (jb (Sep.arg (i:=1) hS34 rfl) (jb (Sep.arg (i:=0) hS34 rfl) kg)))),.jl [Row.av mf r43,Row.av mf r48,Row.av mf r53],(show freeze false { H33 with iI:=[] } 8 (.jl [v3,v17,v31])=some (.jl [Row.av mf r43,Row.av mf r48,Row.av mf r53]) by simp only [FZ,hz46,hz51,hz56]),r43,r48,r53,zt⟩
def P51 (_a0:ns) (v:AV):Prop:=∃ r0:Bool,((r0=true->xk _a0.l))/\v=.bool r0
def t51 (a0:ns) :Ct 51 [.str a0.l] (P51 a0):=by
 refine jf MV ?_
 refine br ?_
 refine ck ?_
 have hNk1:=a0.lk
 refine iW a0.l.length (λk1 e h=>(∀ (i:Nat) (h:i<a0.l.length),i<k1->Cw i ((a0.l[i]).toNat:Int))/\At [0,3] [.str a0.l,iF k1] aT.empty [] e h) ?_ (k0:=0) dD ⟨eA,atR⟩
 rintro k1 e h hkk1 ⟨hC,hA⟩
 refine bb ?_
 refine jk (λh2=>?_) (λh2=>?_)
 refine bX ?_
 refine wy [.str a0.l,iF k1] [] ?_
 refine aF ?_
 refine ae ?_
 have hx3:k1<a0.l.length:=by omega
 refine iT rfl (λ_=>yK (n:=k1) (s:=a0.l) rfl rfl rfl rfl hx3) ?_
 generalize hqc4:a0.l[k1]=c4
 refine cV ?_
 refine lP (λh5=>?_) (λh5=>?_)
 refine aw ?_
 refine sj (λh6=>?_) (λh6=>?_)
 refine oV ?_
 refine cL ?_
 refine cq ?_
 refine aJ ?_
 iterate 10 refine oS ?_
 refine bH ?_
 refine jq ?_
 refine ab ?_
 exact iw
 refine aH ?_
 refine lP (λh7=>?_) (λh7=>?_)
 refine aw ?_
 refine sj (λh8=>?_) (λh8=>?_)
 refine cP ?_
 refine bk ?_
 refine cz ?_
 refine bH ?_
 refine jq ?_
 refine ab ?_
 exact iw
 refine bd ?_
 refine bD ?_
 refine jz (λh9=>?_) (λh9=>?_)
 refine bk ?_
 refine a7 ?_
 refine bp ?_
 exact iy
 refine aw ?_
 refine jk (λh10=>?_) (λh10=>?_)
 refine a7 ?_
 refine bp ?_
 exact iy
 refine aH ?_
 refine kn (λh11=>?_) (λh11=>?_)
 refine bp ?_
 exact iy
 refine oV ?_
 refine bH ?_
 refine jq ?_
 refine ab ?_
 exact iw
 refine bk ?_
 refine bd ?_
 refine bD ?_
 refine jz (λh12=>?_) (λh12=>?_)
 refine bk ?_
 refine a7 ?_
 refine bp ?_
 exact iy
 refine aw ?_
 refine jk (λh13=>?_) (λh13=>?_)
 refine a7 ?_
 refine bp ?_
 exact iy
 refine aH ?_
 refine kn (λh14=>?_) (λh14=>?_)
 refine bp ?_
 exact iy
 refine oV ?_
 refine bH ?_
 refine jq ?_
 refine ab ?_
 exact iw
 refine bk ?_
 refine aH ?_
 refine lP (λh15=>?_) (λh15=>?_)
 refine aw ?_
 refine sj (λh16=>?_) (λh16=>?_)
 refine cP ?_
 refine bk ?_
 refine cz ?_
 refine bH ?_
 refine jq ?_
 refine ab ?_
 exact iw
 refine bd ?_
 refine bD ?_
 refine jz (λh17=>?_) (λh17=>?_)
 refine bk ?_
 refine a7 ?_
 refine bp ?_
 exact iy
 refine aw ?_
 refine jk (λh18=>?_) (λh18=>?_)
 refine a7 ?_
 refine bp ?_
 exact iy
 refine aH ?_
 refine kn (λh19=>?_) (λh19=>?_)
 refine bp ?_
 exact iy
 refine oV ?_
 refine bH ?_
 refine jq ?_
 refine ab ?_
 exact iw
 refine bk ?_
 refine bd ?_
 refine bD ?_
 refine jz (λh20=>?_) (λh20=>?_)
 refine bk ?_
 refine a7 ?_
 refine bp ?_
 exact iy
 refine aw ?_
 refine jk (λh21=>?_) (λh21=>?_)
 refine a7 ?_
 refine bp ?_
 exact iy
 refine aH ?_
 refine kn (λh22=>?_) (λh22=>?_)
 refine bp ?_
 exact iy
 refine oV ?_
 refine bH ?_
 refine jq ?_
 refine ab ?_
 exact iw
 refine aM ?_
 refine wy [.str a0.l] [] ?_
 refine ae ?_
 refine lP (λh23=>?_) (λh23=>?_)
 refine aH ?_
 refine sj (λh24=>?_) (λh24=>?_)
 refine a8 ?_
 exact xB ⟨true,dZ,rfl⟩
 refine a8 ?_
 exact iy
 refine bO ?_
 refine a8 ?_
 exact iy
def P54 (_a0:Int) (v:AV):Prop:=∃ r0:Int,(((_a0=1->r0=2)/\(_a0=2->r0=3)/\(_a0=3->r0=4)/\(_a0=4->r0=1)/\0<=r0/\r0<=4))/\v=iv r0
def t54 (a0:Int) :Ct 54 [iv a0] (P54 a0):=by
 refine jf NT ?_
 refine bC ?_
 refine cN ?_
 refine jz (λh1=>?_) (λh1=>?_)
 refine ac ?_
 exact xB ⟨2,dD,rfl⟩
 refine bf ?_
 refine jz (λh2=>?_) (λh2=>?_)
 refine ac ?_
 exact xB ⟨3,dD,rfl⟩
 refine bf ?_
 refine jz (λh3=>?_) (λh3=>?_)
 refine ac ?_
 exact xB ⟨4,dD,rfl⟩
 refine bf ?_
 refine jz (λh4=>?_) (λh4=>?_)
 refine ac ?_
 exact xB ⟨1,dD,rfl⟩
 refine ah ?_
 refine aI ?_
 exact xB ⟨0,dD,rfl⟩
def aiz (_a0:Int) (_a1:Int) (_a2:Int) (v:AV):Prop:=∃ r0:Bool,(True)/\v=.bool r0
def t205 (a0:Int) (a1:Int) (a2:Int) :Ct 205 [iv a0,iv a1,iv a2] (aiz a0 a1 a2):=by
 refine jf IE ?_
 refine cC ?_
 refine lP (λh1=>?_) (λh1=>?_)
 refine aH ?_
 refine sj (λh2=>?_) (λh2=>?_)
 refine a8 ?_
 exact gp
 refine a8 ?_
 exact gm
 refine bO ?_
 refine a8 ?_
 exact gm
def ail (_a0:bG) (v:AV):Prop:=∃ r0:Bool,(True)/\v=.bool r0
def t106 (a0:bG) :Ct 106 [.agg (bG.ag a0)] (ail a0):=by
 refine jf Ie ?_
 refine aX ?_
 refine aZ ?_
 refine oC (t205 a0.top 1 60) ?_
 rintro _ ⟨r2,hc1,rfl⟩
 cases r2
 refine aU ?_
 refine aU ?_
 refine aU ?_
 refine bN ?_
 exact gm
 refine aO ?_
 refine oC (t205 a0.jT 1 10) ?_
 rintro _ ⟨r4,hc3,rfl⟩
 cases r4
 refine oV ?_
 refine aU ?_
 refine aU ?_
 refine bN ?_
 exact gm
 refine bR ?_
 refine oC (t205 a0.kq 1 4000) ?_
 rintro _ ⟨r6,hc5,rfl⟩
 cases r6
 refine oV ?_
 refine aU ?_
 refine bN ?_
 exact gm
 refine bR ?_
 refine oC (t205 a0.jX 1 20) ?_
 rintro _ ⟨r8,hc7,rfl⟩
 cases r8
 refine oV ?_
 refine bN ?_
 exact gm
 refine bR ?_
 have hL9:=a0.elems.lk
 refine jK a0.elems ?_
 refine jz (λh10=>?_) (λh10=>?_)
 refine ac ?_
 exact gm
 refine ah ?_
 refine ck ?_
 have hNk11:=a0.elems.lk
 refine iW a0.elems.l.length (λkM e h=>At [1,3] [.la 1 0,iF kM] aT.empty [(1,(bG.ag a0))] e h) ?_ (k0:=0) dD atR
 rintro kM e h hkk11 hA
 refine bb ?_
 have hL12:=a0.elems.lk
 refine jK a0.elems ?_
 refine jk (λh13=>?_) (λh13=>?_)
 refine be ?_
 refine aJ ?_
 have hx14:kM<a0.elems.l.length:=by omega
 refine kQ kM a0.elems hx14 ?_
 generalize hqx15:a0.elems.l[kM]=x15
 refine cP ?_
 refine oC (t51 x15.name) ?_
 rintro _ ⟨r17,hc16,rfl⟩
 cases r17
 clear hc16
 refine aU ?_
 refine aw ?_
 refine cz ?_
 refine bV ?_
 refine ac ?_
 exact gm
 have hc16t:=hc16 rfl
 have hNm:=hc16t
 refine aO ?_
 refine oC (t54 x15.kind) ?_
 rintro _ ⟨r19,hc18,rfl⟩
 refine jz (λh20=>?_) (λh20=>?_)
 refine aw ?_
 refine cz ?_
 refine bV ?_
 refine ac ?_
 exact gm
 refine aO ?_
 refine jz (λh21=>?_) (λh21=>?_)
 refine aH ?_
 refine lb (λh22=>?_) (λh22=>?_)
 refine oV ?_
 refine bV ?_
 refine ac ?_
 exact gm
 refine bR ?_
 refine lb (λh23=>?_) (λh23=>?_)
 refine aH ?_
 refine oC (t205 x15.len 1 4000) ?_
 rintro _ ⟨r25,hc24,rfl⟩
 cases r25
 refine oV ?_
 refine bp ?_
 exact gm
 refine aw ?_
 refine dr ?_
 refine jq ?_
 refine ab ?_
 exact gn
 refine bl ?_
 refine oV ?_
 refine dr ?_
 refine jq ?_
 refine ab ?_
 exact gn
 refine bO ?_
 refine bR ?_
 refine lb (λh26=>?_) (λh26=>?_)
 refine aH ?_
 refine oC (t205 x15.len 1 4000) ?_
 rintro _ ⟨r28,hc27,rfl⟩
 cases r28
 refine oV ?_
 refine bp ?_
 exact gm
 refine aw ?_
 refine dr ?_
 refine jq ?_
 refine ab ?_
 exact gn
 refine bl ?_
 refine oV ?_
 refine dr ?_
 refine jq ?_
 refine ab ?_
 exact gn
 refine aM ?_
 refine ck ?_
 have hNk29:=a0.signals.lk
 refine iW a0.signals.l.length (λkC e h=>At [1,5] [.la 1 0,iF kC] aT.empty [(1,(bG.ag a0))] e h) ?_ (k0:=0) dD atR
 rintro kC e h hkk29 hA
 refine bb ?_
 have hL30:=a0.signals.lk
 refine jK a0.signals ?_
 refine jk (λh31=>?_) (λh31=>?_)
 refine be ?_
 refine aJ ?_
 have hx32:kC<a0.signals.l.length:=by omega
 refine kQ kC a0.signals hx32 ?_
 generalize hqx33:a0.signals.l[kC]=x33
 refine aw ?_
 refine oC (t51 x33.name) ?_
 rintro _ ⟨r35,hc34,rfl⟩
 cases r35
 clear hc34
 refine ac ?_
 exact gm
 have hc34t:=hc34 rfl
 have hNm:=hc34t
 refine dr ?_
 refine jq ?_
 refine ab ?_
 exact gn
 refine aM ?_
 refine ck ?_
 have hNk36:=a0.lines.lk
 refine iW a0.lines.l.length (λpA e h=>At [1,6] [.la 1 0,iF pA] aT.empty [(1,(bG.ag a0))] e h) ?_ (k0:=0) dD atR
 rintro pA e h hkk36 hA
 refine bb ?_
 have hL37:=a0.lines.lk
 refine jK a0.lines ?_
 refine jk (λh38=>?_) (λh38=>?_)
 refine be ?_
 refine aJ ?_
 have hx39:pA<a0.lines.l.length:=by omega
 refine kQ pA a0.lines hx39 ?_
 generalize hqx40:a0.lines.l[pA]=x40
 refine aw ?_
 refine oC (t51 x40.name) ?_
 rintro _ ⟨r42,hc41,rfl⟩
 cases r42
 clear hc41
 refine ac ?_
 exact gm
 have hc41t:=hc41 rfl
 have hNm:=hc41t
 refine dr ?_
 refine jq ?_
 refine ab ?_
 exact gn
 refine aM ?_
 refine aI ?_
 exact gp
def afd (_a0:Row ns) (v:AV):Prop:=∃ r0:Bool,(True)/\v=.bool r0
def t107 (a0:Row ns) :Ct 107 [Row.av mf a0] (afd a0):=by
 refine jf Jz ?_
 refine br ?_
 refine ck ?_
 have hNk1:=a0.lk
 refine iW a0.l.length (λk1 e h=>At [0,3] [Row.av mf a0,iF k1] aT.empty [] e h) ?_ (k0:=0) dD atR
 rintro k1 e h hkk1 hA
 refine cG ?_
 have hL2:=a0.lk
 refine jK a0 ?_
 refine jk (λh3=>?_) (λh3=>?_)
 refine be ?_
 refine bj ?_
 refine iW k1 (λk4 e h=>At [0,3,4] [Row.av mf a0,iF k1,iF k4] aT.empty [] e h) ?_ (k0:=0) dD atR
 rintro k4 e h hkk4 hA
 refine cG ?_
 refine jk (λh5=>?_) (λh5=>?_)
 refine be ?_
 refine cD ?_
 have hx6:k1<a0.l.length:=by omega
 refine rP k1 a0 hx6 ?_
 generalize hqx7:a0.l[k1]=x7
 refine bB ?_
 have hx8:k4<a0.l.length:=by omega
 refine rP k4 a0 hx8 ?_
 generalize hqx9:a0.l[k4]=x9
 refine rV ?_
 refine o3 rfl rfl (λ_=>uh rfl rfl) (λh10=>?_) (λh10=>?_)
 refine cH ?_
 refine aI ?_
 exact gp
 refine cT ?_
 refine aS ?_
 refine jq ?_
 refine ab ?_
 exact gn
 refine aM ?_
 refine aS ?_
 refine jq ?_
 refine ab ?_
 exact gn
 refine aM ?_
 refine aI ?_
 exact gm
def P56 (_a0:bG) (_a1:Int) (v:AV):Prop:=∃ r0:Int,(r0=kN _a0 _a1)/\v=iv r0
def t56 (a0:bG) (a1:Int) :Ct 56 [.agg (bG.ag a0),iv a1] (P56 a0 a1):=by
 refine jf Nb ?_
 refine ao ?_
 refine az ?_
 refine jk (λh1=>?_) (λh1=>?_)
 refine bQ ?_
 refine ac ?_
 exact xB ⟨0,fu,rfl⟩
 refine aO ?_
 have hL2:=a0.elems.lk
 refine jK a0.elems ?_
 refine lP (λh3=>?_) (λh3=>?_)
 refine ac ?_
 exact xB ⟨0,fu,rfl⟩
 refine ah ?_
 refine aJ ?_
 have hx4:(a1).toNat<a0.elems.l.length:=by omega
 refine iT rfl (λ_=>jA (n:=a1) (r:=a0.elems) (enc:=ko.ag) rfl rfl rfl rfl rfl dD hx4 rfl) ?_
 generalize hqx5:a0.elems.l[(a1).toNat]=x5
 refine bU ?_
 exact xB ⟨x5.kind,fu,rfl⟩
def P57 (_a0:bG) (_a1:iM) (v:AV):Prop:=∃ r0:iM,∃ r1:Bool,(((r1=true->lI _a0.jd.l _a1=some r0)/\(r1=false->lI _a0.jd.l _a1=none)))/\v=.jl [.agg (iM.ag r0),.bool r1]
def t57 (a0:bG) (a1:iM) :Ct 57 [.agg (bG.ag a0),.agg (iM.ag a1)] (P57 a0 a1):=by
 refine jf Oy ?_
 refine aa ?_
 refine bW ?_
 refine ck ?_
 have hNk1:=a0.jd.lk
 refine iW a0.jd.l.length (λk1 e h=>(lI (a0.jd.l.drop k1) a1=lI a0.jd.l a1)/\At [2,3,4,6] [.la 2 0,.la 3 0,.la 4 0,iF k1] aT.empty [(2,(bG.ag a0)),(3,(iM.ag a1)),(4,[iv 0,iv 0])] e h) ?_ (k0:=0) dD ⟨fT,atR⟩
 rintro k1 e h hkk1 ⟨hI,hA⟩
 refine bb ?_
 have hL2:=a0.jd.lk
 refine jK a0.jd ?_
 refine jk (λh3=>?_) (λh3=>?_)
 refine be ?_
 refine qs ?_
 refine cE ?_
 have hx4:k1<a0.jd.l.length:=by omega
 refine rP k1 a0.jd hx4 ?_
 generalize hqx5:a0.jd.l[k1]=x5
 refine bB ?_
 refine o3 rfl rfl (λ_=>wO rfl rfl rfl (λ_ _=>rfl)) (λh6=>?_) (λh6=>?_)
 refine cH ?_
 refine aJ ?_
 have hx7:k1<a0.jd.l.length:=by omega
 refine kQ k1 a0.jd hx7 ?_
 rw [hqx5]
 refine bI ?_
 exact xG ⟨x5.b,true,eI,rfl⟩
 refine cT ?_
 refine cE ?_
 have hx9:k1<a0.jd.l.length:=by omega
 refine rP k1 a0.jd hx9 ?_
 rw [hqx5]
 refine bB ?_
 refine o3 rfl rfl (λ_=>wO rfl rfl rfl (λ_ _=>rfl)) (λh11=>?_) (λh11=>?_)
 refine cH ?_
 refine aJ ?_
 have hx12:k1<a0.jd.l.length:=by omega
 refine kQ k1 a0.jd hx12 ?_
 rw [hqx5]
 refine bI ?_
 exact xG ⟨x5.a,true,eI,rfl⟩
 refine cT ?_
 refine aS ?_
 refine jq ?_
 refine ab ?_
 exact ⟨by omega,(by (exact (LN dv dv dv dv).trans hI)),atR⟩
 refine aM ?_
 refine bu ?_
 exact xG ⟨(⟨0,0⟩:iM),false,eI,rfl⟩
def ahi (_a0:bG) (_a1:iM) (v:AV):Prop:=∃ r0:Bool,((r0=true->0<=_a1.elem/\_a1.elem<(_a0.elems.l.length:Int)/\0<=_a1.en/\_a1.en<4))/\v=.bool r0
def t206 (a0:bG) (a1:iM) :Ct 206 [.agg (bG.ag a0),.agg (iM.ag a1)] (ahi a0 a1):=by
 refine jf I6 ?_
 refine cg ?_
 refine cD ?_
 refine vQ (λh1=>?_) (λh1=>?_)
 refine co ?_
 have hL2:=a0.elems.lk
 refine LB a0.elems ?_
 refine qY (λh3=>?_) (λh3=>?_)
 refine bT ?_
 refine vQ (λh4=>?_) (λh4=>?_)
 iterate 8 refine rV ?_
 have hx5:(a1.elem).toNat<a0.elems.l.length:=by omega
 refine jh rfl rfl (λ_=>jA (n:=a1.elem) (r:=a0.elems) (enc:=ko.ag) rfl rfl rfl rfl rfl dD hx5 rfl) ?_
 generalize hqx6:a0.elems.l[(a1.elem).toNat]=x6
 refine aP ?_
 refine rC (t54 x6.kind) ?_
 rintro _ ⟨r8,hc7,rfl⟩
 refine qY (λh9=>?_) (λh9=>?_)
 refine bm ?_
 exact gP
 refine bm ?_
 exact gQ
 refine b8 ?_
 iterate 5 refine rS ?_
 refine bm ?_
 exact gQ
 refine b5 ?_
 exact gQ
 refine dk ?_
 refine b5 ?_
 exact gQ
def aiD (_a0:bG) (v:AV):Prop:=∃ r0:Bool,(True)/\v=.bool r0
def t108 (a0:bG) (q1:lS a0):Ct 108 [.agg (bG.ag a0)] (aiD a0):=by
 refine jf Hp ?_
 have q2:=q1.elems; have q3:=q1.jd
 refine aX ?_
 refine br ?_
 refine ck ?_
 have hS1:=Sep.mX kB 2
 have hNk2:=a0.jd.lk
 refine iW a0.jd.l.length (λk2 e h=>∃ v3:AV,∃ l4:List iM,∃ H5:aT,(l4.length<=0+2*k2)/\Sep H5 (nZ iM.ag 2 v3 l4::[])/\At [1,3,4] [.la 1 0,v3,iF k2] H5 [(1,(bG.ag a0))] e h) ?_ (k0:=0) dD ⟨iS,(([]:List iM)),aT.empty,ew,hS1,atR⟩
 rintro k2 e h hkk2 ⟨v3,l4,H5,hl7,hS6,hA⟩
 refine bb ?_
 have hL8:=a0.jd.lk
 refine jK a0.jd ?_
 refine jk (λh9=>?_) (λh9=>?_)
 refine bX ?_
 refine wz [.la 1 0,v3,iF k2] H5 [(1,(bG.ag a0))] ?_ (jD hS6 [(3,0)])
 refine aF ?_
 refine qd ?_
 refine bT ?_
 have hx10:k2<a0.jd.l.length:=by omega
 refine rP k2 a0.jd hx10 ?_
 generalize hqx11:a0.jd.l[k2]=x11
 refine co ?_
 have hx12:k2<a0.jd.l.length:=by omega
 refine rP k2 a0.jd hx12 ?_
 rw [hqx11]
 refine bB ?_
 refine mF rfl rfl (lf (i:=0) [x11.a,x11.b] hS6 rfl rfl rfl rfl rfl rfl rfl rfl rfl (λ_=>rfl) (.inl rfl) dJ (λ_=>rfl)) ?_
 rintro v14 H15 hS16
 refine aR ?_
 refine wz [.la 1 0,v14,iF k2] H15 [(1,(bG.ag a0))] ?_ (jD hS16 [(3,0)])
 refine aS ?_
 refine jq ?_
 refine ab ?_
 exact ⟨by omega,v14,((l4++[x11.a,x11.b])),H15,dB,hS16,(jD hS16 [(3,0)])⟩
 refine aM ?_
 refine wz [.la 1 0,v3] H5 [(1,(bG.ag a0))] ?_ (jD hS6 [(3,0)])
 refine ck ?_
 refine iW l4.length (λkA e h=>At [1,3,5] [.la 1 0,v3,iF kA] H5 [(1,(bG.ag a0))] e h) ?_ (k0:=0) dD (jD hS6 [(3,0)])
 rintro kA e h hkk17 hA
 refine cG ?_
 refine iT rfl (λ_=>oT (i:=0) hS6 rfl rfl rfl rfl rfl rfl rfl) ?_
 refine jk (λh18=>?_) (λh18=>?_)
 refine bX ?_
 refine wz [.la 1 0,v3,iF kA] H5 [(1,(bG.ag a0))] ?_ (jD hS6 [(3,0)])
 refine aF ?_
 refine qs ?_
 refine cE ?_
 have hx19:kA<l4.length:=by first | omega | (simp<;>omega) | (simp_all; omega)
 obtain ⟨x20,hqx20⟩:∃ x,l4[kA]=x:=⟨_,rfl⟩
 refine pC rfl rfl (nY (i:=0) (m:=kA) (cs:=iM.ag x20) hS6 rfl rfl rfl rfl rfl rfl rfl (mn hx19 hqx20)) ?_
 rintro a21 ⟨ha22,hea23⟩
 refine jh rfl rfl (λ_=>qJ (i:=0) (m:=kA) (o:=0) (r:=.agg (iM.ag x20)) (cs:=iM.ag x20) hS6 rfl (mn hx19 hqx20) hea23 rfl rfl ha22) ?_
 refine rC (t206 a0 x20) ?_
 rintro _ ⟨r25,hc24,rfl⟩
 cases r25
 clear hc24
 refine bz ?_
 refine aI ?_
 exact gm
 have hc24t:=hc24 rfl
 refine bo ?_
 refine wz [.la 1 0,v3,iF kA] H5 [(1,(bG.ag a0))] ?_ (jD hS6 [(3,0)])
 refine bj ?_
 refine iW kA (λkR e h=>At [1,3,5,6] [.la 1 0,v3,iF kA,iF kR] H5 [(1,(bG.ag a0))] e h) ?_ (k0:=0) dD (jD hS6 [(3,0)])
 rintro kR e h hkk26 hA
 refine cG ?_
 refine jk (λh27=>?_) (λh27=>?_)
 refine bX ?_
 refine wz [.la 1 0,v3,iF kA,iF kR] H5 [(1,(bG.ag a0))] ?_ (jD hS6 [(3,0)])
 refine aF ?_
 refine cD ?_
 have hx28:kR<l4.length:=by first | omega | (simp<;>omega) | (simp_all; omega)
 obtain ⟨x29,hqx29⟩:∃ x,l4[kR]=x:=⟨_,rfl⟩
 refine pC rfl rfl (nY (i:=0) (m:=kR) (cs:=iM.ag x29) hS6 rfl rfl rfl rfl rfl rfl rfl (mn hx28 hqx29)) ?_
 rintro a30 ⟨ha31,hea32⟩
 refine jh rfl rfl (λ_=>qJ (i:=0) (m:=kR) (o:=0) (r:=.agg (iM.ag x29)) (cs:=iM.ag x29) hS6 rfl (mn hx28 hqx29) hea32 rfl rfl ha31) ?_
 refine aP ?_
 have hx33:kA<l4.length:=by first | omega | (simp<;>omega) | (simp_all; omega)
 refine pC rfl rfl (nY (i:=0) (m:=kA) (cs:=iM.ag x20) hS6 rfl rfl rfl rfl rfl rfl rfl (mn hx33 hqx20)) ?_
 rintro a34 ⟨ha35,hea36⟩
 refine jh rfl rfl (λ_=>qJ (i:=0) (m:=kA) (o:=0) (r:=.agg (iM.ag x20)) (cs:=iM.ag x20) hS6 rfl (mn hx33 hqx20) hea36 rfl rfl ha35) ?_
 refine o3 rfl rfl (λ_=>wO rfl rfl rfl (λ_ _=>rfl)) (λh37=>?_) (λh37=>?_)
 refine cH ?_
 refine aI ?_
 exact gm
 refine cT ?_
 refine wz [.la 1 0,v3,iF kA,iF kR] H5 [(1,(bG.ag a0))] ?_ (jD hS6 [(3,0)])
 refine aS ?_
 refine jq ?_
 refine ab ?_
 exact ⟨by omega,(jD hS6 [(3,0)])⟩
 refine aM ?_
 refine wz [.la 1 0,v3,iF kA] H5 [(1,(bG.ag a0))] ?_ (jD hS6 [(3,0)])
 refine aS ?_
 refine jq ?_
 refine ab ?_
 exact ⟨by omega,(jD hS6 [(3,0)])⟩
 refine aM ?_
 refine ck ?_
 have hNk38:=a0.elems.lk
 refine iW a0.elems.l.length (λnd e h=>At [1,7] [.la 1 0,iF nd] H5 [(1,(bG.ag a0))] e h) ?_ (k0:=0) dD atR
 rintro nd e h hkk38 hA
 refine bb ?_
 have hL39:=a0.elems.lk
 refine jK a0.elems ?_
 refine jk (λh40=>?_) (λh40=>?_)
 refine be ?_
 refine aJ ?_
 have hx41:nd<a0.elems.l.length:=by omega
 refine kQ nd a0.elems hx41 ?_
 generalize hqx42:a0.elems.l[nd]=x42
 refine aw ?_
 refine jz (λh43=>?_) (λh43=>?_)
 refine aC ?_
 refine aJ ?_
 refine oC (t57 a0 (⟨((nd:Int)),0⟩:iM)) ?_
 rintro _ ⟨r45,r46,hc44,rfl⟩
 have hN:=hc44
 cases r46
 refine bR ?_
 refine cV ?_
 refine bL ?_
 refine ac ?_
 exact gm
 refine cQ ?_
 refine cM ?_
 refine oC (t56 a0 r45.elem) ?_
 rintro _ ⟨r48,hc47,rfl⟩
 refine jz (λh49=>?_) (λh49=>?_)
 refine ac ?_
 exact gm
 refine dr ?_
 refine jq ?_
 refine ab ?_
 exact gn
 refine aG ?_
 refine aS ?_
 refine jq ?_
 refine ab ?_
 exact gn
 refine aM ?_
 refine aI ?_
 exact gp
def P55 (_a0:bG) (_a1:iM) (v:AV):Prop:=∃ r0:Int,(r0=(nP _a0.signals.l _a1).getD (-1))/\v=iv r0
def t55 (a0:bG) (a1:iM) :Ct 55 [.agg (bG.ag a0),.agg (iM.ag a1)] (P55 a0 a1):=by
 refine jf M6 ?_
 refine cg ?_
 refine ck ?_
 have hNk1:=a0.signals.lk
 refine iW a0.signals.l.length (λk1 e h=>(mr a1 k1 (a0.signals.l.drop k1)=nP a0.signals.l a1)/\At [2,3,5] [.la 2 0,.la 3 0,iF k1] aT.empty [(2,(bG.ag a0)),(3,(iM.ag a1))] e h) ?_ (k0:=0) dD ⟨fT,atR⟩
 rintro k1 e h hkk1 ⟨hI,hA⟩
 refine bb ?_
 have hL2:=a0.signals.lk
 refine jK a0.signals ?_
 refine jk (λh3=>?_) (λh3=>?_)
 refine be ?_
 refine cE ?_
 have hx4:k1<a0.signals.l.length:=by omega
 refine rP k1 a0.signals hx4 ?_
 generalize hqx5:a0.signals.l[k1]=x5
 refine bB ?_
 refine o3 rfl rfl (λ_=>wO rfl rfl rfl (λ_ _=>rfl)) (λh6=>?_) (λh6=>?_)
 refine cH ?_
 refine bJ ?_
 exact xB ⟨((k1:Int)),fR,rfl⟩
 refine cT ?_
 refine aS ?_
 refine jq ?_
 refine ab ?_
 exact ⟨by omega,(by (exact (CG dv dv dv).trans hI)),atR⟩
 refine aM ?_
 refine aI ?_
 exact xB ⟨(-1),fR,rfl⟩
def ags (_a0:bG) (v:AV):Prop:=∃ r0:Bool,(True)/\v=.bool r0
def t109 (a0:bG) :Ct 109 [.agg (bG.ag a0)] (ags a0):=by
 refine jf Hx ?_
 refine aX ?_
 refine ck ?_
 have hNk1:=a0.signals.lk
 refine iW a0.signals.l.length (λk1 e h=>At [1,3] [.la 1 0,iF k1] aT.empty [(1,(bG.ag a0))] e h) ?_ (k0:=0) dD atR
 rintro k1 e h hkk1 hA
 refine bb ?_
 have hL2:=a0.signals.lk
 refine jK a0.signals ?_
 refine jk (λh3=>?_) (λh3=>?_)
 refine be ?_
 refine aJ ?_
 have hx4:k1<a0.signals.l.length:=by omega
 refine kQ k1 a0.signals hx4 ?_
 generalize hqx5:a0.signals.l[k1]=x5
 refine bW ?_
 refine aJ ?_
 refine oC (t56 a0 x5.at_.elem) ?_
 rintro _ ⟨r7,hc6,rfl⟩
 refine ab ?_
 refine aZ ?_
 refine oC (t206 a0 x5.at_) ?_
 rintro _ ⟨r9,hc8,rfl⟩
 cases r9
 clear hc8
 refine oV ?_
 refine cL ?_
 refine ac ?_
 exact gm
 have hc8t:=hc8 rfl
 refine aH ?_
 refine lb (λh10=>?_) (λh10=>?_)
 refine aw ?_
 refine lb (λh11=>?_) (λh11=>?_)
 refine bp ?_
 exact gm
 refine ca ?_
 refine ae ?_
 refine oC (t57 a0 x5.at_) ?_
 rintro _ ⟨r13,r14,hc12,rfl⟩
 have hN:=hc12
 cases r14
 refine bR ?_
 refine cV ?_
 refine bL ?_
 refine bL ?_
 refine ac ?_
 exact gm
 refine cQ ?_
 refine cM ?_
 refine oC (t56 a0 r13.elem) ?_
 rintro _ ⟨r16,hc15,rfl⟩
 refine jz (λh17=>?_) (λh17=>?_)
 refine bL ?_
 refine ac ?_
 exact gm
 refine aO ?_
 refine oC (t55 a0 x5.at_) ?_
 rintro _ ⟨r19,hc18,rfl⟩
 have hR:=hc18
 refine oV ?_
 refine lb (λh20=>?_) (λh20=>?_)
 refine ac ?_
 exact gm
 refine dr ?_
 refine jq ?_
 refine ab ?_
 exact gn
 refine bk ?_
 refine ca ?_
 refine ae ?_
 refine oC (t57 a0 x5.at_) ?_
 rintro _ ⟨r22,r23,hc21,rfl⟩
 have hN:=hc21
 cases r23
 refine bR ?_
 refine cV ?_
 refine bL ?_
 refine bL ?_
 refine ac ?_
 exact gm
 refine cQ ?_
 refine cM ?_
 refine oC (t56 a0 r22.elem) ?_
 rintro _ ⟨r25,hc24,rfl⟩
 refine jz (λh26=>?_) (λh26=>?_)
 refine bL ?_
 refine ac ?_
 exact gm
 refine aO ?_
 refine oC (t55 a0 x5.at_) ?_
 rintro _ ⟨r28,hc27,rfl⟩
 have hR:=hc27
 refine oV ?_
 refine lb (λh29=>?_) (λh29=>?_)
 refine ac ?_
 exact gm
 refine dr ?_
 refine jq ?_
 refine ab ?_
 exact gn
 refine aM ?_
 refine ck ?_
 have hNk30:=a0.elems.lk
 refine iW a0.elems.l.length (λsg e h=>At [1,8] [.la 1 0,iF sg] aT.empty [(1,(bG.ag a0))] e h) ?_ (k0:=0) dD atR
 rintro sg e h hkk30 hA
 refine bb ?_
 have hL31:=a0.elems.lk
 refine jK a0.elems ?_
 refine jk (λh32=>?_) (λh32=>?_)
 refine be ?_
 refine aJ ?_
 have hx33:sg<a0.elems.l.length:=by omega
 refine kQ sg a0.elems hx33 ?_
 generalize hqx34:a0.elems.l[sg]=x34
 refine aw ?_
 refine jz (λh35=>?_) (λh35=>?_)
 refine aO ?_
 refine oC (t55 a0 (⟨((sg:Int)),0⟩:iM)) ?_
 rintro _ ⟨r37,hc36,rfl⟩
 have hR:=hc36
 refine jk (λh38=>?_) (λh38=>?_)
 refine ac ?_
 exact gm
 refine dr ?_
 refine jq ?_
 refine ab ?_
 exact gn
 refine bQ ?_
 refine dr ?_
 refine jq ?_
 refine ab ?_
 exact gn
 refine aM ?_
 refine aI ?_
 exact gp
def TC (_a0:jm Int) (_a1:Int) (v:AV):Prop:=∃ r0:Bool,(((r0=true->_a1∈_a0.l)/\(r0=false->_a1∉_a0.l)))/\v=.bool r0
def t24 (a0:jm Int) (a1:Int) :Ct 24 [qj a0,iv a1] (TC a0 a1):=by
 refine jf NB ?_
 refine br ?_
 refine ck ?_
 have hNk1:=a0.lk
 refine iW a0.l.length (λk1 e h=>(∀ (i:Nat) (h:i<a0.l.length),i<k1->¬ a0.l[i]=a1)/\At [0,1,5] [qj a0,iv a1,iF k1] aT.empty [] e h) ?_ (k0:=0) dD ⟨eA,atR⟩
 rintro k1 e h hkk1 ⟨hU,hA⟩
 refine cG ?_
 have hL2:=a0.lk
 refine iT rfl (λ_=>oH (r:=a0) (enc:=j4) rfl rfl rfl rfl rfl rfl) ?_
 refine jk (λh3=>?_) (λh3=>?_)
 refine be ?_
 refine ae ?_
 have hx4:k1<a0.l.length:=by omega
 refine iT rfl (λ_=>nQ (n:=k1) (r:=a0) (enc:=j4) rfl rfl rfl rfl rfl hx4 rfl) ?_
 generalize hqx5:a0.l[k1]=x5
 refine aw ?_
 refine jz (λh6=>?_) (λh6=>?_)
 refine bh ?_
 exact xB ⟨true,fz,rfl⟩
 refine aG ?_
 refine aS ?_
 refine jq ?_
 refine ab ?_
 exact ⟨by omega,gf,atR⟩
 refine aM ?_
 refine aI ?_
 exact xB ⟨false,fz,rfl⟩
def ag0 (_a0:bG) (_a1:Row Int) (v:AV):Prop:=∃ r0:Row Int,∃ r1:Bool,(True)/\v=.jl [kr r0,.bool r1]
def t207 (a0:bG) (a1:Row Int) (q1:a1.l.length<=1000):Ct 207 [.agg (bG.ag a0),kr a1] (ag0 a0 a1):=by
 refine jf I7 ?_
 refine ae ?_
 refine az ?_
 have hL1:=a1.lk
 refine jK a1 ?_
 refine jz (λh2=>?_) (λh2=>?_)
 refine aN ?_
 exact gR
 refine aG ?_
 refine ck ?_
 have hNk3:=a1.lk
 refine iW a1.l.length (λk3 e h=>At [1,2,6] [kr a1,.la 2 0,iF k3] aT.empty [(2,(bG.ag a0))] e h) ?_ (k0:=0) dD atR
 rintro k3 e h hkk3 hA
 refine cG ?_
 have hL4:=a1.lk
 refine jK a1 ?_
 refine jk (λh5=>?_) (λh5=>?_)
 refine be ?_
 refine cE ?_
 have hx6:k3<a1.l.length:=by omega
 refine rP k3 a1 hx6 ?_
 generalize hqx7:a1.l[k3]=x7
 refine rV ?_
 refine rC (t56 a0 x7) ?_
 rintro _ ⟨r9,hc8,rfl⟩
 refine AB (λh10=>?_) (λh10=>?_)
 refine cH ?_
 refine bJ ?_
 exact gR
 refine cT ?_
 refine aS ?_
 refine jq ?_
 refine ab ?_
 exact gn
 refine aM ?_
 refine aB ?_
 have hL11:=a1.lk
 refine jK a1 ?_
 refine jz (λh12=>?_) (λh12=>?_)
 refine aC ?_
 refine bu ?_
 exact xG ⟨(⟨[0],.exact 1,qt,rfl,mZ⟩:Row Int),true,zt⟩
 refine aG ?_
 refine br ?_
 refine ck ?_
 refine nS (λm17 e h=>∃ n13:Int,∃ n14:Int,m17=(n14+1).toNat/\(-1<=n14)/\(n14<=1)/\At [1,2,7,8] [kr a1,.la 2 0,iv n13,iv n14] aT.empty [(2,(bG.ag a0))] e h) ?_ _ _ _ ⟨(-1),1,rfl,dD,dD,atR⟩
 rintro m17 e h ⟨n13,n14,hmm17,hi15,hi16,hA⟩
 refine rA hA ?_
 refine aB ?_
 refine lP (λh18=>?_) (λh18=>?_)
 refine be ?_
 refine cD ?_
 have hx19:0<a1.l.length:=by omega
 refine rP 0 a1 hx19 ?_
 generalize hqx20:a1.l[0]=x20
 refine bB ?_
 refine rC (t57 a0 (⟨x20,n14⟩:iM)) ?_
 rintro _ ⟨r22,r23,hc21,rfl⟩
 have hN:=hc21
 cases r23
 refine bw ?_
 refine aV ?_
 refine b8 ?_
 refine bo ?_
 refine aS ?_
 refine nI ?_
 refine ab ?_
 refine ⟨_,?_,n13,(n14 - 1),rfl,dD,dD,atR⟩
 omega
 refine bw ?_
 refine dt ?_
 have hx24:1<a1.l.length:=by omega
 refine rP 1 a1 hx24 ?_
 generalize hqx25:a1.l[1]=x25
 refine rV ?_
 refine Cx (λh26=>?_) (λh26=>?_)
 refine bz ?_
 refine qg ?_
 refine cq ?_
 refine aS ?_
 refine nI ?_
 refine ab ?_
 refine ⟨_,?_,n14,(n14 - 1),rfl,dD,dD,atR⟩
 omega
 refine bo ?_
 refine aS ?_
 refine nI ?_
 refine ab ?_
 refine ⟨_,?_,n13,(n14 - 1),rfl,dD,dD,atR⟩
 omega
 refine aM ?_
 refine aB ?_
 refine jk (λh27=>?_) (λh27=>?_)
 refine aN ?_
 exact gR
 refine aG ?_
 refine ao ?_
 refine iT rfl (λ_=>j9 rfl rfl rfl (pW .i64 1 n13)) ?_
 refine cq ?_
 refine ck ?_
 have hS28:=Sep.Y1 kB 1 (List.map j4 [(IntKind.i64.wrap (1 - n13))]) (by intro x hx; obtain ⟨y,_,rfl⟩:=List.mem_map.mp hx; rfl) (k:=1) rfl
 have hNk29:=a1.lk
 refine iW a1.l.length (λkC e h=>∃ v30:AV,∃ l31:List Int,∃ n32:Int,∃ H33:aT,(1<=kC)/\(l31.length<=1+kC)/\Sep H33 (zsP j4 1 v30 l31::[])/\At [1,2,7,11,12] [kr a1,.la 2 0,iv n32,v30,iF kC] H33 [(2,(bG.ag a0))] e h) ?_ (k0:=1) dD ⟨((.sl (List.map j4 [(IntKind.i64.wrap (1 - n13))]) (.exact 1))),([(IntKind.i64.wrap (1 - n13))]),n13,aT.empty,dD,ew,hS28,atR⟩
 rintro kC e h hkk29 ⟨v30,l31,n32,H33,hw35,hl36,hS34,hA⟩
 refine cG ?_
 have hL37:=a1.lk
 refine jK a1 ?_
 refine jk (λh38=>?_) (λh38=>?_)
 refine bX ?_
 refine wz [kr a1,.la 2 0,iv n32,v30,iF kC] H33 [(2,(bG.ag a0))] ?_ (jD hS34 [(11,0)])
 refine aF ?_
 refine cE ?_
 refine WG ?_
 have hx39:((kC:Int) - 1).toNat<a1.l.length:=by omega
 refine jh rfl rfl (λ_=>jA (n:=(kC:Int) - 1) (r:=a1) (enc:=j4) rfl rfl rfl rfl rfl dD hx39 rfl) ?_
 generalize hqx40:a1.l[((kC:Int) - 1).toNat]=x40
 refine bB ?_
 refine rC (t57 a0 (⟨x40,n32⟩:iM)) ?_
 rintro _ ⟨r42,r43,hc41,rfl⟩
 have hN:=hc41
 cases r43
 refine bw ?_
 refine qs ?_
 refine cE ?_
 iterate 7 refine rS ?_
 refine bz ?_
 refine bJ ?_
 exact gR
 refine bw ?_
 refine qs ?_
 refine cZ ?_
 refine c8 ?_
 have hx44:kC<a1.l.length:=by omega
 refine rP kC a1 hx44 ?_
 generalize hqx45:a1.l[kC]=x45
 refine rV ?_
 refine AB (λh46=>?_) (λh46=>?_)
 refine bz ?_
 refine bJ ?_
 exact gR
 refine bo ?_
 refine wz [kr a1,.la 2 0,v30,iF kC,.la 13 0] H33 [(2,(bG.ag a0)),(13,(iM.ag r42))] ?_ (jD hS34 [(11,0)])
 refine bD ?_
 refine jG rfl (lf (i:=0) [r42.en] hS34 rfl rfl rfl rfl rfl rfl rfl rfl rfl (λ_=>rfl) (.inl rfl) dJ (λ_=>rfl)) ?_
 rintro v47 H48 hS49
 refine ab ?_
 refine cm ?_
 refine iT rfl (λ_=>j9 rfl rfl rfl (pW .i64 1 r42.en)) ?_
 refine ab ?_
 refine wz [kr a1,.la 2 0,iv (IntKind.i64.wrap (1 - r42.en)),v47,iF kC] H48 [(2,(bG.ag a0))] ?_ (jD hS49 [(11,0)])
 refine aS ?_
 refine jq ?_
 refine ab ?_
 exact ⟨by omega,v47,((l31++[r42.en])),(IntKind.i64.wrap (1 - r42.en)),H48,dD,dB,hS49,(jD hS49 [(11,0)])⟩
 refine aM ?_
 refine wz [v30] H33 [] ?_ (jD hS34 [(11,0)])
 refine bu ?_
 obtain ⟨r50,hl51,hf52⟩:=mE (H:=H33) (i:=0) (l:=l31) (enc:=j4) hS34 rfl dz
 have hlq:=hl51; have hln54:=congrArg List.length hl51
 have hz53:∀ m,freeze false { H33 with iI:=[] } (m+2) v30=some (kr r50):=λm=>hf52 _ _ (λ_=>rfl)
 exact ⟨.jl [v30,.bool true],(lN (vs:=[v30,.bool true]) rfl (jb (Sep.arg (i:=0) hS34 rfl) (jb rfl kg))),.jl [kr r50,.bool true],(show freeze false { H33 with iI:=[] } 8 (.jl [v30,.bool true])=some (.jl [kr r50,.bool true]) by simp only [FZ,hz53]),r50,true,zt⟩
def aii (_a0:bG) (v:AV):Prop:=∃ r0:Bool,(True)/\v=.bool r0
def t110 (a0:bG) (q1:lS a0):Ct 110 [.agg (bG.ag a0)] (aii a0):=by
 refine jf Hl ?_
 have q2:=q1.lines
 refine aX ?_
 refine br ?_
 refine ck ?_
 have hS1:=Sep.mX kB 1
 have hNk2:=a0.lines.lk
 refine iW a0.lines.l.length (λk2 e h=>∃ v3:AV,∃ l4:List Int,∃ H5:aT,(l4.length<=60*k2)/\Sep H5 (qo v3 l4::[])/\At [1,3,4] [.la 1 0,v3,iF k2] H5 [(1,(bG.ag a0))] e h) ?_ (k0:=0) dD ⟨iS,(([]:List Int)),aT.empty,fg,hS1,atR⟩
 rintro k2 e h hkk2 ⟨v3,l4,H5,hI,hS6,hA⟩
 refine bb ?_
 have hL7:=a0.lines.lk
 refine jK a0.lines ?_
 refine jk (λh8=>?_) (λh8=>?_)
 refine bX ?_
 refine wz [.la 1 0,v3,iF k2] H5 [(1,(bG.ag a0))] ?_ (jD hS6 [(3,0)])
 refine aF ?_
 refine aJ ?_
 have hx9:k2<a0.lines.l.length:=by omega
 refine kQ k2 a0.lines hx9 ?_
 generalize hqx10:a0.lines.l[k2]=x10
 have hinx10:x10∈a0.lines.l:=by rw [<- hqx10]; exact List.getElem_mem _
 have hsx10:=q1.line x10 hinx10
 refine bd ?_
 refine ck ?_
 have hNk11:=x10.elems.lk
 refine iW x10.elems.l.length (λkM e h=>∃ v12:AV,∃ l13:List Int,∃ H14:aT,(l13.length<=l4.length+kM)/\Sep H14 (qo v12 l13::[])/\At [1,3,4,5,6] [.la 1 0,v12,iF k2,kr x10.elems,iF kM] H14 [(1,(bG.ag a0))] e h) ?_ (k0:=0) dD ⟨v3,l4,H5,ew,hS6,(jD hS6 [(3,0)])⟩
 rintro kM e h hkk11 ⟨v12,l13,H14,hl16,hS15,hA⟩
 refine cG ?_
 have hL17:=x10.elems.lk
 refine jK x10.elems ?_
 refine jk (λh18=>?_) (λh18=>?_)
 refine bX ?_
 refine wz [.la 1 0,v12,iF k2,kr x10.elems,iF kM] H14 [(1,(bG.ag a0))] ?_ (jD hS15 [(3,0)])
 refine aF ?_
 refine bM ?_
 have hx19:kM<x10.elems.l.length:=by omega
 refine kQ kM x10.elems hx19 ?_
 generalize hqx20:x10.elems.l[kM]=x20
 refine oV ?_
 refine oh hS15 0 λr21 hl22 hln25 hz24=>?_
 refine mV (args:=[v12,iv x20]) (p:=[]) (r:=[]) (args':=[qj r21,iv x20]) (R:=TC r21 x20) rfl rfl rfl rfl rfl (jb (Sep.arg (i:=0) hS15 rfl) (jb rfl kg)) rfl fp (lj (by show jJ (freeze true { H14 with iI:=[] } 8) [v12,iv x20] = _; simp only [FZ,hz24]) (jb (Sep.oX (i:=0) hS15 rfl) (jb rfl kg))) (lj fe (jb rfl (jb rfl kg))) (λh=>t24 r21 x20  h) ?_
 rintro _ ⟨r27,hc26,rfl⟩
 have hIn:=hc26
 cases r27
 refine aG ?_
 refine wz [.la 1 0,v12,iF k2,kr x10.elems,iF kM] H14 [(1,(bG.ag a0))] ?_ (jD hS15 [(3,0)])
 refine bv ?_
 have hx28:kM<x10.elems.l.length:=by omega
 refine kQ kM x10.elems hx28 ?_
 rw [hqx20]
 refine aw ?_
 refine jG rfl (lf (H:=H14) (i:=0) (l:=l13) (enc:=j4) [x20] hS15 rfl rfl rfl rfl rfl rfl rfl rfl rfl (λ_=>rfl) (.inl rfl) dJ (λ_=>rfl)) ?_
 rintro v30 H31 hS32
 refine ab ?_
 refine wz [.la 1 0,v30,iF k2,kr x10.elems,iF kM] H31 [(1,(bG.ag a0))] ?_ (jD hS32 [(3,0)])
 refine aS ?_
 refine jq ?_
 refine ab ?_
 exact ⟨by omega,v30,((l13++[x20])),H31,dB,hS32,(jD hS32 [(3,0)])⟩
 refine bh ?_
 exact gm
 refine aM ?_
 refine wz [.la 1 0,v12,iF k2,kr x10.elems] H14 [(1,(bG.ag a0))] ?_ (jD hS15 [(3,0)])
 refine ae ?_
 refine oC (t207 a0 x10.elems dw) ?_
 rintro _ ⟨r34,r35,hc33,rfl⟩
 cases r35
 refine aO ?_
 refine aW ?_
 refine bp ?_
 exact gm
 refine aO ?_
 refine aW ?_
 refine ca ?_
 refine wz [.la 1 0,v12,iF k2] H14 [(1,(bG.ag a0))] ?_ (jD hS15 [(3,0)])
 refine aS ?_
 refine jq ?_
 refine ab ?_
 exact ⟨by omega,v12,l13,H14,dC,hS15,(jD hS15 [(3,0)])⟩
 refine aM ?_
 refine aI ?_
 exact gp
def P9 (_a0:bG) (_a1:Int) (v:AV):Prop:=∃ r0:Int,(r0=nV _a0 _a1)/\v=iv r0
def t9 (a0:bG) (a1:Int) :Ct 9 [.agg (bG.ag a0),iv a1] (P9 a0 a1):=by
 refine jf V7 ?_
 refine ao ?_
 refine az ?_
 refine jk (λh1=>?_) (λh1=>?_)
 refine bQ ?_
 refine ac ?_
 exact xB ⟨0,fw,rfl⟩
 refine aO ?_
 have hL2:=a0.elems.lk
 refine jK a0.elems ?_
 refine lP (λh3=>?_) (λh3=>?_)
 refine ac ?_
 exact xB ⟨0,fw,rfl⟩
 refine ah ?_
 refine aJ ?_
 have hx4:(a1).toNat<a0.elems.l.length:=by omega
 refine iT rfl (λ_=>jA (n:=a1) (r:=a0.elems) (enc:=ko.ag) rfl rfl rfl rfl rfl dD hx4 rfl) ?_
 generalize hqx5:a0.elems.l[(a1).toNat]=x5
 refine bU ?_
 exact xB ⟨x5.len,fw,rfl⟩
def agE (_a0:Int) (_a1:Int) (v:AV):Prop:=∃ r0:Int,(True)/\v=iv r0
def t208 (a0:Int) (a1:Int) :Ct 208 [iv a0,iv a1] (agE a0 a1):=by
 refine jf Ia ?_
 refine bC ?_
 refine jk (λh1=>?_) (λh1=>?_)
 refine bk ?_
 refine a7 ?_
 refine a7 ?_
 refine ac ?_
 exact gS
 refine aw ?_
 refine kn (λh2=>?_) (λh2=>?_)
 refine a7 ?_
 refine a7 ?_
 refine ac ?_
 exact gS
 refine aH ?_
 refine jk (λh3=>?_) (λh3=>?_)
 refine a7 ?_
 refine ac ?_
 exact gS
 refine aH ?_
 refine kn (λh4=>?_) (λh4=>?_)
 refine ac ?_
 exact gS
 refine ah ?_
 refine br ?_
 refine aZ ?_
 refine nI ?_
 refine aL ?_
 refine nS (λm9 e h=>∃ n5:Int,∃ n6:Int,m9=(n5+10).toNat/\(-10<=n5)/\(n5<=60)/\At [0,1,5] [iv n5,iv a1,iv n6] aT.empty [] e h) ?_ _ _ _ ⟨(a0 - a1),0,rfl,dD,dD,atR⟩
 rintro m9 e h ⟨n5,n6,hmm9,hi7,hi8,hA⟩
 refine rA hA ?_
 refine aB ?_
 refine kn (λh10=>?_) (λh10=>?_)
 refine be ?_
 refine cm ?_
 refine iT rfl (λ_=>j9 rfl rfl rfl (mu .i64 n6 n5)) ?_
 refine ab ?_
 refine cm ?_
 refine nI ?_
 refine ab ?_
 refine ⟨_,?_,(n5 - a1),(IntKind.i64.wrap (n6+(n5))),rfl,dD,dD,atR⟩
 omega
 refine aM ?_
 refine bJ ?_
 exact xB ⟨n6,zt⟩
def ahr (_a0:bG) (v:AV):Prop:=∃ r0:Bool,(True)/\v=.bool r0
def t111 (a0:bG) :Ct 111 [.agg (bG.ag a0)] (ahr a0):=by
 refine jf IH ?_
 refine ao ?_
 refine aA ?_
 refine cD ?_
 refine c8 ?_
 refine rC (t208 a0.top a0.jT) ?_
 rintro _ ⟨r2,hc1,rfl⟩
 refine jh rfl rfl (λ_=>j9 rfl rfl rfl (mu .i64 a0.top r2)) ?_
 refine qY (λh3=>?_) (λh3=>?_)
 refine cH ?_
 refine aI ?_
 exact gm
 refine cT ?_
 refine ck ?_
 have hNk4:=a0.signals.lk
 refine iW a0.signals.l.length (λk4 e h=>At [1,3] [.la 1 0,iF k4] aT.empty [(1,(bG.ag a0))] e h) ?_ (k0:=0) dD atR
 rintro k4 e h hkk4 hA
 refine bb ?_
 have hL5:=a0.signals.lk
 refine jK a0.signals ?_
 refine jk (λh6=>?_) (λh6=>?_)
 refine be ?_
 refine aJ ?_
 have hx7:k4<a0.signals.l.length:=by omega
 refine kQ k4 a0.signals hx7 ?_
 generalize hqx8:a0.signals.l[k4]=x8
 refine bW ?_
 refine cD ?_
 refine rC (t56 a0 x8.at_.elem) ?_
 rintro _ ⟨r10,hc9,rfl⟩
 refine Cx (λh11=>?_) (λh11=>?_)
 refine bB ?_
 refine rC (t9 a0 x8.at_.elem) ?_
 rintro _ ⟨r13,hc12,rfl⟩
 have hLen:=hc12
 refine aP ?_
 refine qY (λh14=>?_) (λh14=>?_)
 refine bz ?_
 refine aI ?_
 exact gm
 refine bo ?_
 refine aS ?_
 refine jq ?_
 refine ab ?_
 exact gn
 refine dk ?_
 refine bo ?_
 refine aS ?_
 refine jq ?_
 refine ab ?_
 exact gn
 refine aM ?_
 refine ck ?_
 have hNk15:=a0.elems.lk
 refine iW a0.elems.l.length (λkG e h=>At [1,5] [.la 1 0,iF kG] aT.empty [(1,(bG.ag a0))] e h) ?_ (k0:=0) dD atR
 rintro kG e h hkk15 hA
 refine bb ?_
 have hL16:=a0.elems.lk
 refine jK a0.elems ?_
 refine jk (λh17=>?_) (λh17=>?_)
 refine be ?_
 refine cE ?_
 have hx18:kG<a0.elems.l.length:=by omega
 refine rP kG a0.elems hx18 ?_
 generalize hqx19:a0.elems.l[kG]=x19
 refine aP ?_
 refine AB (λh20=>?_) (λh20=>?_)
 refine bT ?_
 have hx21:kG<a0.elems.l.length:=by omega
 refine rP kG a0.elems hx21 ?_
 rw [hqx19]
 refine bT ?_
 refine qY (λh23=>?_) (λh23=>?_)
 refine bz ?_
 refine aI ?_
 exact gm
 refine bo ?_
 refine aS ?_
 refine jq ?_
 refine ab ?_
 exact gn
 refine rV ?_
 iterate 9 refine rS ?_
 refine bo ?_
 refine aS ?_
 refine jq ?_
 refine ab ?_
 exact gn
 refine aM ?_
 refine aI ?_
 exact gp
def P48 (_a0:bG) (v:AV):Prop:=∃ r0:Int,(True)/\v=iv r0
def t48 (a0:bG) (q1:lS a0):Ct 48 [.agg (bG.ag a0)] (P48 a0):=by
 refine jf Nn ?_
 have q2:=q1.elems; have q3:=q1.signals; have q4:=q1.lines
 refine aX ?_
 refine aZ ?_
 have hL1:=a0.elems.lk
 refine jK a0.elems ?_
 refine kn (λh2=>?_) (λh2=>?_)
 refine bl ?_
 refine aU ?_
 refine bN ?_
 exact xB ⟨3,zt⟩
 refine aH ?_
 have hL3:=a0.signals.lk
 refine jK a0.signals ?_
 refine kn (λh4=>?_) (λh4=>?_)
 refine aU ?_
 refine bN ?_
 exact xB ⟨3,zt⟩
 refine aO ?_
 have hL5:=a0.lines.lk
 refine jK a0.lines ?_
 refine kn (λh6=>?_) (λh6=>?_)
 refine bN ?_
 exact xB ⟨3,zt⟩
 refine aO ?_
 have hL7:=a0.jd.lk
 refine jK a0.jd ?_
 refine kn (λh8=>?_) (λh8=>?_)
 refine ac ?_
 exact xB ⟨3,zt⟩
 refine ah ?_
 refine wy [.la 1 0] [(1,(bG.ag a0))] ?_
 refine ao ?_
 refine oC (t105 a0 dw) ?_
 rintro _ ⟨r10,r11,r12,hc9,rfl⟩
 refine oV ?_
 refine aQ ?_
 refine bE ?_
 refine oC (t106 a0) ?_
 rintro _ ⟨r14,hc13,rfl⟩
 cases r14
 refine bp ?_
 exact xB ⟨1,zt⟩
 refine cq ?_
 refine cX ?_
 refine oC (t107 r10) ?_
 rintro _ ⟨r16,hc15,rfl⟩
 cases r16
 refine aw ?_
 refine oC (t107 r11) ?_
 rintro _ ⟨r18,hc17,rfl⟩
 cases r18
 refine aH ?_
 refine oC (t107 r12) ?_
 rintro _ ⟨r20,hc19,rfl⟩
 cases r20
 refine cq ?_
 refine cX ?_
 refine oC (t108 a0 dw) ?_
 rintro _ ⟨r22,hc21,rfl⟩
 cases r22
 refine bp ?_
 exact xB ⟨6,zt⟩
 refine cq ?_
 refine cX ?_
 refine oC (t109 a0) ?_
 rintro _ ⟨r24,hc23,rfl⟩
 cases r24
 refine bp ?_
 exact xB ⟨7,zt⟩
 refine cq ?_
 refine cX ?_
 refine oC (t110 a0 dw) ?_
 rintro _ ⟨r26,hc25,rfl⟩
 cases r26
 refine bp ?_
 exact xB ⟨8,zt⟩
 refine cq ?_
 refine cX ?_
 refine oC (t111 a0) ?_
 rintro _ ⟨r28,hc27,rfl⟩
 cases r28
 refine bp ?_
 exact xB ⟨9,zt⟩
 refine ca ?_
 refine dm ?_
 exact gS
 refine bp ?_
 exact xB ⟨4,zt⟩
 refine a7 ?_
 refine bp ?_
 exact xB ⟨4,zt⟩
 refine bk ?_
 refine a7 ?_
 refine bp ?_
 exact xB ⟨4,zt⟩
def agT (_a0:bG) (v:AV):Prop:=∃ r0:Bool,((r0=true->lS _a0))/\v=.bool r0
def ahq (a0:bG) (hJg:JG a0):Ct 18 [.agg (bG.ag a0)] (agT a0):=by
 refine jf Oz ?_
 refine ao ?_
 refine cV ?_
 refine oC (t47 a0 dw) ?_
 rintro _ ⟨r2,hc1,rfl⟩
 cases r2
 clear hc1
 refine bO ?_
 refine a8 ?_
 exact xB ⟨false,fG,rfl⟩
 have hc1t:=hc1 rfl
 refine aw ?_
 refine oC (t48 a0 dw) ?_
 rintro _ ⟨r4,hc3,rfl⟩
 refine jz (λh5=>?_) (λh5=>?_)
 refine a8 ?_
 exact xB ⟨true,fG,rfl⟩
 refine a8 ?_
 exact xB ⟨false,fG,rfl⟩
def P18 (_a0:bG) (v:AV):Prop:=∃ r0:Bool,(((r0=true->lS _a0))/\rs 18 [.agg (bG.ag _a0)]=.bool r0)/\v=.bool r0
def t18 (a0:bG) (hJg:JG a0) (h:aT):∃ v,ji cfg FT js false 18 [.agg (bG.ag a0)] h v h/\P18 a0 v:=by
 obtain ⟨v,hc,hP,hr⟩:=nX rD (ahq a0 hJg) h
 obtain ⟨r0,hp,rfl⟩:=hP
 exact gv
def aiC (_a0:Int) (v:AV):Prop:=∃ r0:Bool,(((r0=true->AH _a0)/\(r0=false->¬ AH _a0)))/\v=.bool r0
def t286 (a0:Int) :Ct 286 [.int .u8 a0] (aiC a0):=by
 refine jf Jg ?_
 refine aa ?_
 refine cV ?_
 refine lP (λh1=>?_) (λh1=>?_)
 refine aw ?_
 refine sj (λh2=>?_) (λh2=>?_)
 refine oV ?_
 refine cL ?_
 refine a8 ?_
 exact xB ⟨true,ei,rfl⟩
 refine aH ?_
 refine lP (λh3=>?_) (λh3=>?_)
 refine aw ?_
 refine sj (λh4=>?_) (λh4=>?_)
 refine bU ?_
 exact xB ⟨true,ei,rfl⟩
 refine bU ?_
 exact ic
 refine bk ?_
 refine bU ?_
 exact ic
 refine bk ?_
 refine aH ?_
 refine lP (λh5=>?_) (λh5=>?_)
 refine aw ?_
 refine sj (λh6=>?_) (λh6=>?_)
 refine bU ?_
 exact xB ⟨true,ei,rfl⟩
 refine bU ?_
 exact ic
 refine bk ?_
 refine bU ?_
 exact ic
def XC (_a0:ns) (v:AV):Prop:=∃ r0:Bool,((xk _a0.l->r0=true))/\v=.bool r0
def acr (a0:ns) :Ct 215 [.str a0.l] (XC a0):=by
 refine jf Ik ?_
 refine bC ?_
 refine om rfl (λ_=>uh rfl rfl) (λh2=>?_) (λh2=>?_)
 refine bO ?_
 refine bN ?_
 exact gU
 have hp1:0<a0.l.length:=List.length_pos_iff.mpr h2
 refine aH ?_
 refine kn (λh3=>?_) (λh3=>?_)
 refine bN ?_
 exact gU
 refine aH ?_
 have hx4:0<a0.l.length:=by omega
 refine iT rfl (λ_=>yK (n:=0) (s:=a0.l) rfl rfl rfl rfl hx4) ?_
 generalize hqc5:a0.l[0]=c5
 refine oC (t286 ((c5.toNat:Int))) ?_
 rintro _ ⟨r7,hc6,rfl⟩
 have hLt:=hc6
 cases r7
 refine bp ?_
 exact gU
 refine ca ?_
 refine ck ?_
 have hNk8:=a0.lk
 refine iW a0.l.length (λk8 e h=>(1<=k8)/\At [0,3] [.str a0.l,iF k8] aT.empty [] e h) ?_ (k0:=1) dD ⟨dD,atR⟩
 rintro k8 e h hkk8 ⟨hw9,hA⟩
 refine bb ?_
 refine jk (λh10=>?_) (λh10=>?_)
 refine be ?_
 refine ae ?_
 have hx11:k8<a0.l.length:=by omega
 refine iT rfl (λ_=>yK (n:=k8) (s:=a0.l) rfl rfl rfl rfl hx11) ?_
 generalize hqc12:a0.l[k8]=c12
 refine oC (t286 ((c12.toNat:Int))) ?_
 rintro _ ⟨r14,hc13,rfl⟩
 have hLt:=hc13
 cases r14
 refine aO ?_
 have hx15:k8<a0.l.length:=by omega
 refine iT rfl (λ_=>yK (n:=k8) (s:=a0.l) rfl rfl rfl rfl hx15) ?_
 generalize hqc16:a0.l[k8]=c16
 refine jk (λh17=>?_) (λh17=>?_)
 refine bl ?_
 refine bp ?_
 exact gU
 refine aH ?_
 have hx18:k8<a0.l.length:=by omega
 refine iT rfl (λ_=>yK (n:=k8) (s:=a0.l) rfl rfl rfl rfl hx18) ?_
 generalize hqc19:a0.l[k8]=c19
 refine kn (λh20=>?_) (λh20=>?_)
 refine bp ?_
 exact gU
 refine oV ?_
 refine dr ?_
 refine jq ?_
 refine ab ?_
 exact ⟨by omega,dD,atR⟩
 refine a7 ?_
 refine cz ?_
 refine dr ?_
 refine jq ?_
 refine ab ?_
 exact ⟨by omega,dD,atR⟩
 refine aM ?_
 refine aI ?_
 exact xB ⟨true,dK,rfl⟩
def aht (_a0:ns) (v:AV):Prop:=∃ r0:Bool,(((xk _a0.l->r0=true))/\rs 215 [.str _a0.l]=.bool r0)/\v=.bool r0
def t215 (a0:ns)  (h:aT):∃ v,ji cfg FT js false 215 [.str a0.l] h v h/\aht a0 v:=by
 obtain ⟨v,hc,hP,hr⟩:=nX rD (acr a0) h
 obtain ⟨r0,hp,rfl⟩:=hP
 exact gv
def afQ (_a0:Int) (v:AV):Prop:=∃ r0:Int,((((_a0=1->r0=2)/\(_a0=2->r0=3)/\(_a0=3->r0=4)/\(_a0=4->r0=1)/\0<=r0/\r0<=4)/\(¬ (1<=_a0/\_a0<=4)->r0=0)))/\v=iv r0
def t220 (a0:Int) :Ct 220 [iv a0] (afQ a0):=by
 refine jf Ir ?_
 refine bC ?_
 refine cN ?_
 refine jz (λh1=>?_) (λh1=>?_)
 refine ac ?_
 exact xB ⟨2,fc,rfl⟩
 refine bf ?_
 refine jz (λh2=>?_) (λh2=>?_)
 refine ac ?_
 exact xB ⟨3,fc,rfl⟩
 refine bf ?_
 refine jz (λh3=>?_) (λh3=>?_)
 refine ac ?_
 exact xB ⟨4,fc,rfl⟩
 refine bf ?_
 refine jz (λh4=>?_) (λh4=>?_)
 refine ac ?_
 exact xB ⟨1,fc,rfl⟩
 refine ah ?_
 refine aI ?_
 exact xB ⟨0,fc,rfl⟩
def aib (_a0:bG) (v:AV):Prop:=∃ r0:Bool,((r0=true->IQ _a0))/\v=.bool r0
def t123 (a0:bG) :Ct 123 [.agg (bG.ag a0)] (aib a0):=by
 refine jf J2 ?_
 refine aX ?_
 refine sT ?_
 refine aZ ?_
 refine jk (λh1=>?_) (λh1=>?_)
 refine bO ?_
 refine aD ?_
 refine aD ?_
 refine aD ?_
 refine bN ?_
 exact gE
 refine aH ?_
 refine kn (λh2=>?_) (λh2=>?_)
 refine aD ?_
 refine aD ?_
 refine aD ?_
 refine bN ?_
 exact gE
 refine aO ?_
 refine jk (λh3=>?_) (λh3=>?_)
 refine cf ?_
 refine aD ?_
 refine aD ?_
 refine bN ?_
 exact gE
 refine aO ?_
 refine kn (λh4=>?_) (λh4=>?_)
 refine aD ?_
 refine aD ?_
 refine bN ?_
 exact gE
 refine aO ?_
 refine jk (λh5=>?_) (λh5=>?_)
 refine cf ?_
 refine aD ?_
 refine bN ?_
 exact gE
 refine aO ?_
 refine kn (λh6=>?_) (λh6=>?_)
 refine aD ?_
 refine bN ?_
 exact gE
 refine aO ?_
 refine jk (λh7=>?_) (λh7=>?_)
 refine cf ?_
 refine bN ?_
 exact gE
 refine aO ?_
 refine kn (λh8=>?_) (λh8=>?_)
 refine bN ?_
 exact gE
 refine aO ?_
 have hL9:=a0.elems.lk
 refine jK a0.elems ?_
 refine jz (λh10=>?_) (λh10=>?_)
 refine ac ?_
 exact gE
 refine ah ?_
 refine wy [.la 1 0] [(1,(bG.ag a0))] ?_
 refine qq ?_
 refine ql ?_
 refine aZ ?_
 have hL11:=a0.elems.lk
 refine jK a0.elems ?_
 refine aL ?_
 have hNk12:=a0.elems.lk
 refine iW a0.elems.l.length (λmw e h=>(∀ (i:Nat) (h:i<a0.elems.l.length),i<mw->(1<=(a0.elems.l[i]).kind/\(a0.elems.l[i]).kind<=4)/\((a0.elems.l[i]).kind=4->(a0.elems.l[i]).len=0))/\At [1,54,55,56] [.la 1 0,jI a0.elems,iF a0.elems.l.length,iF mw] aT.empty [(1,(bG.ag a0))] e h) ?_ (k0:=0) dD ⟨eA,atR⟩
 rintro mw e h hkk12 ⟨hKd,hA⟩
 refine aK ?_
 refine jk (λh13=>?_) (λh13=>?_)
 refine aq ?_
 refine wy [.la 1 0,jI a0.elems,iF a0.elems.l.length,iF mw] [(1,(bG.ag a0))] ?_
 refine bg ?_
 have hx14:mw<a0.elems.l.length:=by omega
 refine kQ mw a0.elems hx14 ?_
 generalize hqx15:a0.elems.l[mw]=x15
 refine aw ?_
 refine aL ?_
 refine ae ?_
 refine oC (t215 x15.name) ?_
 rintro _ ⟨r17,⟨hc16,hc16r⟩,rfl⟩
 have hNw:=hc16
 cases r17
 refine aU ?_
 refine bp ?_
 exact gE
 refine aO ?_
 refine oC (t220 x15.kind) ?_
 rintro _ ⟨r19,hc18,rfl⟩
 refine jz (λh20=>?_) (λh20=>?_)
 refine bp ?_
 exact gE
 refine cq ?_
 refine qF ?_
 refine ae ?_
 refine jz (λh21=>?_) (λh21=>?_)
 refine bc ?_
 refine aZ ?_
 refine lb (λh22=>?_) (λh22=>?_)
 refine bh ?_
 exact gE
 refine aG ?_
 refine wy [.la 1 0,jI a0.elems,iF a0.elems.l.length,iF mw] [(1,(bG.ag a0))] ?_
 refine qe ?_
 refine cW ?_
 refine jq ?_
 refine ab ?_
 exact ⟨by omega,fK,atR⟩
 refine bf ?_
 refine aw ?_
 refine jk (λh23=>?_) (λh23=>?_)
 refine bO ?_
 refine bp ?_
 exact gE
 refine aH ?_
 refine kn (λh24=>?_) (λh24=>?_)
 refine bp ?_
 exact gE
 refine ca ?_
 refine cW ?_
 refine jq ?_
 refine ab ?_
 exact ⟨by omega,fK,atR⟩
 refine ap ?_
 refine wy [.la 1 0] [(1,(bG.ag a0))] ?_
 refine aZ ?_
 have hL25:=a0.signals.lk
 refine db ?_
 have hNk26:=a0.signals.lk
 refine iW a0.signals.l.length (λkR e h=>At [1,89,90,91] [.la 1 0,jP a0.signals,iF a0.signals.l.length,iF kR] aT.empty [(1,(bG.ag a0))] e h) ?_ (k0:=0) dD atR
 rintro kR e h hkk26 hA
 refine aK ?_
 refine jk (λh27=>?_) (λh27=>?_)
 refine aq ?_
 refine wy [.la 1 0,jP a0.signals,iF a0.signals.l.length,iF kR] [(1,(bG.ag a0))] ?_
 refine bg ?_
 have hx28:kR<a0.signals.l.length:=by omega
 refine kQ kR a0.signals hx28 ?_
 generalize hqx29:a0.signals.l[kR]=x29
 refine cP ?_
 refine oC (t215 x29.name) ?_
 rintro _ ⟨r31,⟨hc30,hc30r⟩,rfl⟩
 have hNw:=hc30
 cases r31
 refine ac ?_
 exact gE
 refine ah ?_
 refine wy [.la 1 0,jP a0.signals,iF a0.signals.l.length,iF kR] [(1,(bG.ag a0))] ?_
 refine qg ?_
 refine jq ?_
 refine ab ?_
 exact gn
 refine ap ?_
 refine wy [.la 1 0] [(1,(bG.ag a0))] ?_
 refine aZ ?_
 have hL32:=a0.lines.lk
 refine jK a0.lines ?_
 refine aL ?_
 have hNk33:=a0.lines.lk
 refine iW a0.lines.l.length (λtA e h=>At [101,102,103] [jH a0.lines,iF a0.lines.l.length,iF tA] aT.empty [] e h) ?_ (k0:=0) dD atR
 rintro tA e h hkk33 hA
 refine aK ?_
 refine jk (λh34=>?_) (λh34=>?_)
 refine aq ?_
 refine wy [jH a0.lines,iF a0.lines.l.length,iF tA] [] ?_
 refine bg ?_
 have hx35:tA<a0.lines.l.length:=by omega
 refine kQ tA a0.lines hx35 ?_
 generalize hqx36:a0.lines.l[tA]=x36
 refine cP ?_
 refine oC (t215 x36.name) ?_
 rintro _ ⟨r38,⟨hc37,hc37r⟩,rfl⟩
 have hNw:=hc37
 cases r38
 refine ac ?_
 exact gE
 refine ah ?_
 refine wy [jH a0.lines,iF a0.lines.l.length,iF tA] [] ?_
 refine qg ?_
 refine jq ?_
 refine ab ?_
 exact gn
 refine ap ?_
 refine dm ?_
 exact xB ⟨true,d4,rfl⟩
def NR {H:aT} (b:Nat) (pp:bG) (i:Int) (F:List jW) (hS:Sep H (j7 b (bG.ag pp)::F)) (q1:0<=i) (q2:i<(pp.elems.l.length:Int)):∃ v H',ji cfg FT js true 125 [iv i,(je b)] { H with iI:=[] } v H'/\(∃ r0:ns,(True)/\Sep H' (j7 b (bG.ag pp)::F)/\v=.str r0.l):=by
 refine kh Jx ?_
 refine aa ?_
 refine aW ?_
 refine iT rfl (λ_=>pB (i:=0) hS rfl rfl rfl rfl rfl) ?_
 refine iT rfl (λ_=>oY (i:=0) (o:=0) (r:=jI pp.elems) hS rfl rfl rfl rfl) ?_
 refine oV ?_
 have hx1:(i).toNat<pp.elems.l.length:=by omega
 refine iT rfl (λ_=>jA (n:=i) (r:=pp.elems) (enc:=ko.ag) rfl rfl rfl rfl rfl dD hx1 rfl) ?_
 generalize hqx2:pp.elems.l[(i).toNat]=x2
 refine bU ?_
 have hS3:=Sep.pick hS [0] 1 dA dA
 exact gJ
def ND {H:aT} (b:Nat) (pp:bG) (i:Int) (F:List jW) (hS:Sep H (j7 b (bG.ag pp)::F)) (q1:0<=i) (q2:i<(pp.signals.l.length:Int)):∃ v H',ji cfg FT js true 126 [iv i,(je b)] { H with iI:=[] } v H'/\(∃ r0:ns,(True)/\Sep H' (j7 b (bG.ag pp)::F)/\v=.str r0.l):=by
 refine kh Ij ?_
 refine aa ?_
 refine aW ?_
 refine nh 0 hS ?_
 refine lU 0 hS (jP pp.signals) ?_
 refine oV ?_
 have hx1:(i).toNat<pp.signals.l.length:=by omega
 refine iT rfl (λ_=>jA (n:=i) (r:=pp.signals) (enc:=kb.ag) rfl rfl rfl rfl rfl dD hx1 rfl) ?_
 generalize hqx2:pp.signals.l[(i).toNat]=x2
 refine bU ?_
 have hS3:=Sep.pick hS [0] 1 dA dA
 exact gJ
def NV {H:aT} (b:Nat) (pp:bG) (i:Int) (F:List jW) (hS:Sep H (j7 b (bG.ag pp)::F)) (q1:0<=i) (q2:i<(pp.lines.l.length:Int)):∃ v H',ji cfg FT js true 127 [iv i,(je b)] { H with iI:=[] } v H'/\(∃ r0:ns,(True)/\Sep H' (j7 b (bG.ag pp)::F)/\v=.str r0.l):=by
 refine kh IL ?_
 refine aa ?_
 refine aW ?_
 refine iT rfl (λ_=>pB (i:=0) hS rfl rfl rfl rfl rfl) ?_
 refine iT rfl (λ_=>oY (i:=0) (o:=3) (r:=jH pp.lines) hS rfl rfl rfl rfl) ?_
 refine oV ?_
 have hx1:(i).toNat<pp.lines.l.length:=by omega
 refine iT rfl (λ_=>jA (n:=i) (r:=pp.lines) (enc:=jN.ag) rfl rfl rfl rfl rfl dD hx1 rfl) ?_
 generalize hqx2:pp.lines.l[(i).toNat]=x2
 refine bU ?_
 have hS3:=Sep.pick hS [0] 1 dA dA
 exact gJ
def Ow {H:aT} (n:Int) (b:Nat) (pp:bG) (F:List jW) (hS:Sep H (j7 b (bG.ag pp)::F)) (q2:n<=(pp.elems.l.length:Int)):∃ v H',ji cfg FT js true 124 [iv n,.jQ 125 [] [(je b)]] { H with iI:=[] } v H'/\(∃ r0:Bool,(True)/\Sep H' (j7 b (bG.ag pp)::F)/\v=.bool r0):=by
 refine kh Cc ?_
 have hqb:=pp.elems.ok
 simp only [rX] at hqb
 refine aa ?_
 refine aW ?_
 refine jG rfl (mc hS) ?_
 rintro _ H2 ⟨b1,rfl,hS3⟩
 refine az ?_
 refine aL ?_
 refine iW ((n).toNat) (λk4 e h=>∃ l5:List (List UInt8×Bool),∃ H6:aT,Sep H6 (lW b1 sK bK l5::j7 b (bG.ag pp)::F)/\At [1,5,8,9] [.jQ 125 [] [(je b)],(.hm b1),iv n,iF k4] H6 [] e h) ?_ (k0:=0) dD ⟨([]),H2,hS3,atR⟩
 rintro k4 e h hkk4 ⟨l5,H6,hS7,hA⟩
 refine aK ?_
 refine jk (λh8=>?_) (λh8=>?_)
 refine bP ?_
 refine bM ?_
 have hS9:=Sep.pick hS7 [1,0] 2 dA dA
 refine jV (H:=H6) (args:=[iF k4]) (p:=[]) (r:=[(je b)]) rfl rfl rfl rfl rfl rfl rfl (NR b pp ((k4:Int)) (lW b1 sK bK l5::F) hS9 dw dw) ?_
 rintro _ H10 ⟨r13,hc12,hS11,rfl⟩
 refine ma (H:=H10) (i:=1) (ek:=sK) (ev:=bK) (l:=l5) r13.l rfl rfl hS11 rfl rfl rfl rfl rfl rfl rfl rfl p7 (λy14 h15=>?_) (λh16=>?_)
 cases y14
 refine aG ?_
 refine bv ?_
 have hS17:=Sep.pick hS11 [0,1] 2 dA dA
 refine jV (H:=H10) (args:=[iF k4]) (p:=[]) (r:=[(je b)]) rfl rfl rfl rfl rfl rfl rfl (NR b pp ((k4:Int)) (lW b1 sK bK l5::F) hS17 dw dw) ?_
 rintro _ H18 ⟨r21,hc20,hS19,rfl⟩
 refine jG rfl (nj (i:=1) (ek:=sK) (ev:=bK) r21.l true hS19 rfl rfl rfl rfl rfl rfl p7) ?_
 rintro _ H22 ⟨rfl,hS23⟩
 refine dj ?_
 refine jq ?_
 refine ab ?_
 have hS24:=Sep.pick hS23 [1,0] 2 dA dA
 exact gF
 refine bh ?_
 have hS25:=Sep.pick hS11 [0] 2 dA dA
 exact gG
 refine aG ?_
 refine bv ?_
 have hS26:=Sep.pick hS11 [0,1] 2 dA dA
 refine jV (H:=H10) (args:=[iF k4]) (p:=[]) (r:=[(je b)]) rfl rfl rfl rfl rfl rfl rfl (NR b pp ((k4:Int)) (lW b1 sK bK l5::F) hS26 dw dw) ?_
 rintro _ H27 ⟨r30,hc29,hS28,rfl⟩
 refine jG rfl (nj (i:=1) (ek:=sK) (ev:=bK) r30.l true hS28 rfl rfl rfl rfl rfl rfl p7) ?_
 rintro _ H31 ⟨rfl,hS32⟩
 refine dj ?_
 refine jq ?_
 refine ab ?_
 have hS33:=Sep.pick hS32 [1,0] 2 dA dA
 exact gH
 refine cy ?_
 have hS34:=Sep.pick hS7 [1] 2 dA dA
 exact gI
def Mp {H:aT} (n:Int) (b:Nat) (pp:bG) (F:List jW) (hS:Sep H (j7 b (bG.ag pp)::F)) (q2:n<=(pp.signals.l.length:Int)):∃ v H',ji cfg FT js true 124 [iv n,.jQ 126 [] [(je b)]] { H with iI:=[] } v H'/\(∃ r0:Bool,(True)/\Sep H' (j7 b (bG.ag pp)::F)/\v=.bool r0):=by
 refine kh Cc ?_
 have hqb:=pp.signals.ok
 simp only [rX] at hqb
 refine aa ?_
 refine aW ?_
 refine jG rfl (mc hS) ?_
 rintro _ H2 ⟨b1,rfl,hS3⟩
 refine az ?_
 refine aL ?_
 refine iW ((n).toNat) (λk4 e h=>∃ l5:List (List UInt8×Bool),∃ H6:aT,Sep H6 (lW b1 sK bK l5::j7 b (bG.ag pp)::F)/\At [1,5,8,9] [.jQ 126 [] [(je b)],(.hm b1),iv n,iF k4] H6 [] e h) ?_ (k0:=0) dD ⟨([]),H2,hS3,atR⟩
 rintro k4 e h hkk4 ⟨l5,H6,hS7,hA⟩
 refine aK ?_
 refine jk (λh8=>?_) (λh8=>?_)
 refine bP ?_
 refine bM ?_
 have hS9:=Sep.pick hS7 [1,0] 2 dA dA
 refine jV (H:=H6) (args:=[iF k4]) (p:=[]) (r:=[(je b)]) rfl rfl rfl rfl rfl rfl rfl (ND b pp ((k4:Int)) (lW b1 sK bK l5::F) hS9 dw dw) ?_
 rintro _ H10 ⟨r13,hc12,hS11,rfl⟩
 refine ma (H:=H10) (i:=1) (ek:=sK) (ev:=bK) (l:=l5) r13.l rfl rfl hS11 rfl rfl rfl rfl rfl rfl rfl rfl p7 (λy14 h15=>?_) (λh16=>?_)
 cases y14
 refine aG ?_
 refine bv ?_
 have hS17:=Sep.pick hS11 [0,1] 2 dA dA
 refine jV (H:=H10) (args:=[iF k4]) (p:=[]) (r:=[(je b)]) rfl rfl rfl rfl rfl rfl rfl (ND b pp ((k4:Int)) (lW b1 sK bK l5::F) hS17 dw dw) ?_
 rintro _ H18 ⟨r21,hc20,hS19,rfl⟩
 refine jG rfl (nj (i:=1) (ek:=sK) (ev:=bK) r21.l true hS19 rfl rfl rfl rfl rfl rfl p7) ?_
 rintro _ H22 ⟨rfl,hS23⟩
 refine dj ?_
 refine jq ?_
 refine ab ?_
 have hS24:=Sep.pick hS23 [1,0] 2 dA dA
 exact gF
 refine bh ?_
 have hS25:=Sep.pick hS11 [0] 2 dA dA
 exact gG
 refine aG ?_
 refine bv ?_
 have hS26:=Sep.pick hS11 [0,1] 2 dA dA
 refine jV (H:=H10) (args:=[iF k4]) (p:=[]) (r:=[(je b)]) rfl rfl rfl rfl rfl rfl rfl (ND b pp ((k4:Int)) (lW b1 sK bK l5::F) hS26 dw dw) ?_
 rintro _ H27 ⟨r30,hc29,hS28,rfl⟩
 refine jG rfl (nj (i:=1) (ek:=sK) (ev:=bK) r30.l true hS28 rfl rfl rfl rfl rfl rfl p7) ?_
 rintro _ H31 ⟨rfl,hS32⟩
 refine dj ?_
 refine jq ?_
 refine ab ?_
 have hS33:=Sep.pick hS32 [1,0] 2 dA dA
 exact gH
 refine cy ?_
 have hS34:=Sep.pick hS7 [1] 2 dA dA
 exact gI
def MJ {H:aT} (n:Int) (b:Nat) (pp:bG) (F:List jW) (hS:Sep H (j7 b (bG.ag pp)::F)) (q2:n<=(pp.lines.l.length:Int)):∃ v H',ji cfg FT js true 124 [iv n,.jQ 127 [] [(je b)]] { H with iI:=[] } v H'/\(∃ r0:Bool,(True)/\Sep H' (j7 b (bG.ag pp)::F)/\v=.bool r0):=by
 refine kh Cc ?_
 have hqb:=pp.lines.ok
 simp only [rX] at hqb
 refine aa ?_
 refine aW ?_
 refine jG rfl (mc hS) ?_
 rintro _ H2 ⟨b1,rfl,hS3⟩
 refine az ?_
 refine aL ?_
 refine iW ((n).toNat) (λk4 e h=>∃ l5:List (List UInt8×Bool),∃ H6:aT,Sep H6 (lW b1 sK bK l5::j7 b (bG.ag pp)::F)/\At [1,5,8,9] [.jQ 127 [] [(je b)],(.hm b1),iv n,iF k4] H6 [] e h) ?_ (k0:=0) dD ⟨([]),H2,hS3,atR⟩
 rintro k4 e h hkk4 ⟨l5,H6,hS7,hA⟩
 refine aK ?_
 refine jk (λh8=>?_) (λh8=>?_)
 refine bP ?_
 refine bM ?_
 have hS9:=Sep.pick hS7 [1,0] 2 dA dA
 refine jV (H:=H6) (args:=[iF k4]) (p:=[]) (r:=[(je b)]) rfl rfl rfl rfl rfl rfl rfl (NV b pp ((k4:Int)) (lW b1 sK bK l5::F) hS9 dw dw) ?_
 rintro _ H10 ⟨r13,hc12,hS11,rfl⟩
 refine ma (H:=H10) (i:=1) (ek:=sK) (ev:=bK) (l:=l5) r13.l rfl rfl hS11 rfl rfl rfl rfl rfl rfl rfl rfl p7 (λy14 h15=>?_) (λh16=>?_)
 cases y14
 refine aG ?_
 refine bv ?_
 have hS17:=Sep.pick hS11 [0,1] 2 dA dA
 refine jV (H:=H10) (args:=[iF k4]) (p:=[]) (r:=[(je b)]) rfl rfl rfl rfl rfl rfl rfl (NV b pp ((k4:Int)) (lW b1 sK bK l5::F) hS17 dw dw) ?_
 rintro _ H18 ⟨r21,hc20,hS19,rfl⟩
 refine jG rfl (nj (i:=1) (ek:=sK) (ev:=bK) r21.l true hS19 rfl rfl rfl rfl rfl rfl p7) ?_
 rintro _ H22 ⟨rfl,hS23⟩
 refine dj ?_
 refine jq ?_
 refine ab ?_
 have hS24:=Sep.pick hS23 [1,0] 2 dA dA
 exact gF
 refine bh ?_
 have hS25:=Sep.pick hS11 [0] 2 dA dA
 exact gG
 refine aG ?_
 refine bv ?_
 have hS26:=Sep.pick hS11 [0,1] 2 dA dA
 refine jV (H:=H10) (args:=[iF k4]) (p:=[]) (r:=[(je b)]) rfl rfl rfl rfl rfl rfl rfl (NV b pp ((k4:Int)) (lW b1 sK bK l5::F) hS26 dw dw) ?_
 rintro _ H27 ⟨r30,hc29,hS28,rfl⟩
 refine jG rfl (nj (i:=1) (ek:=sK) (ev:=bK) r30.l true hS28 rfl rfl rfl rfl rfl rfl p7) ?_
 rintro _ H31 ⟨rfl,hS32⟩
 refine dj ?_
 refine jq ?_
 refine ab ?_
 have hS33:=Sep.pick hS32 [1,0] 2 dA dA
 exact gH
 refine cy ?_
 have hS34:=Sep.pick hS7 [1] 2 dA dA
 exact gI
def agK (_a0:bG) (_a1:iM) (v:AV):Prop:=∃ r0:Bool,((r0=true->0<=_a1.elem/\_a1.elem<(_a0.elems.l.length:Int)/\0<=_a1.en/\_a1.en<4))/\v=.bool r0
def t221 (a0:bG) (a1:iM) :Ct 221 [.agg (bG.ag a0),.agg (iM.ag a1)] (agK a0 a1):=by
 refine jf Ix ?_
 refine cg ?_
 refine cD ?_
 refine vQ (λh1=>?_) (λh1=>?_)
 refine co ?_
 have hL2:=a0.elems.lk
 refine LB a0.elems ?_
 refine qY (λh3=>?_) (λh3=>?_)
 refine bT ?_
 refine vQ (λh4=>?_) (λh4=>?_)
 iterate 8 refine rV ?_
 have hx5:(a1.elem).toNat<a0.elems.l.length:=by omega
 refine jh rfl rfl (λ_=>jA (n:=a1.elem) (r:=a0.elems) (enc:=ko.ag) rfl rfl rfl rfl rfl dD hx5 rfl) ?_
 generalize hqx6:a0.elems.l[(a1.elem).toNat]=x6
 refine aP ?_
 refine rC (t220 x6.kind) ?_
 rintro _ ⟨r8,hc7,rfl⟩
 refine qY (λh9=>?_) (λh9=>?_)
 refine bm ?_
 exact gP
 refine bm ?_
 exact gQ
 refine b8 ?_
 iterate 5 refine rS ?_
 refine bm ?_
 exact gQ
 refine b5 ?_
 exact gQ
 refine dk ?_
 refine b5 ?_
 exact gQ
def agM (_a0:bG) (v:AV):Prop:=(∃ r0:List (iM×iM),(((∀ y∈(r0:List (iM×iM)),0<=y.2.elem/\y.2.elem<(_a0.elems.l.length:Int))/\y6 _a0.jd.l)/\JV _a0)/\v=.jl [.fm (j1 pK pK r0) false,.bool true])\/((True)/\v=.jl [.kJ,iR])
def t128 (a0:bG) :Ct 128 [.agg (bG.ag a0)] (agM a0):=by
 refine jf IK ?_
 refine ae ?_
 refine aW ?_
 refine jG rfl (mc kB) ?_
 rintro _ H2 ⟨b1,rfl,hS3⟩
 refine ab ?_
 refine aZ ?_
 have hL4:=a0.jd.lk
 refine jK a0.jd ?_
 refine aL ?_
 have hNk5:=a0.jd.lk
 refine iW a0.jd.l.length (λk5 e h=>∃ l6:List (iM×iM),∃ H7:aT,((∀ y∈(l6:List (iM×iM)),0<=y.2.elem/\y.2.elem<(a0.elems.l.length:Int)))/\(∀ x:iM,look x l6=lI (a0.jd.l.take k5) x)/\(∀ (i:Nat) (h:i<a0.jd.l.length),i<k5->lI (a0.jd.l.take i) (a0.jd.l[i]).a=none/\lI (a0.jd.l.take i) (a0.jd.l[i]).b=none/\(a0.jd.l[i]).a≠(a0.jd.l[i]).b)/\(∀ (i:Nat) (h:i<a0.jd.l.length),i<k5->VE a0 (a0.jd.l[i]).a.elem/\VE a0 (a0.jd.l[i]).b.elem)/\Sep H7 (lW b1 pK pK l6::[])/\At [1,4,17,18,19] [.la 1 0,(.hm b1),jS a0.jd,iF a0.jd.l.length,iF k5] H7 [(1,(bG.ag a0))] e h) ?_ (k0:=0) dD ⟨([]),H2,fg,(by (intro x; rfl)),eA,eA,hS3,atR⟩
 rintro k5 e h hkk5 ⟨l6,H7,hV,hD,hJ,hJv,hS8,hA⟩
 refine aK ?_
 refine jk (λh9=>?_) (λh9=>?_)
 refine aq ?_
 refine wz [.la 1 0,(.hm b1),jS a0.jd,iF a0.jd.l.length,iF k5] H7 [(1,(bG.ag a0))] ?_
 refine bg ?_
 have hx10:k5<a0.jd.l.length:=by omega
 refine kQ k5 a0.jd hx10 ?_
 generalize hqx11:a0.jd.l[k5]=x11
 refine bd ?_
 refine aJ ?_
 refine ma (H:=H7) (i:=0) (ek:=pK) (ev:=pK) (l:=l6) x11.a rfl rfl hS8 rfl rfl rfl rfl rfl rfl rfl rfl lF (λy12 h13=>?_) (λh14=>?_)
 have hvy12:0<=y12.elem/\y12.elem<(a0.elems.l.length:Int):=hV _ (nr h13)
 refine aQ ?_
 refine aJ ?_
 refine ma (H:=H7) (i:=0) (ek:=pK) (ev:=pK) (l:=l6) x11.b rfl rfl hS8 rfl rfl rfl rfl rfl rfl rfl rfl lF (λy15 h16=>?_) (λh17=>?_)
 have hvy15:0<=y15.elem/\y15.elem<(a0.elems.l.length:Int):=hV _ (nr h16)
 refine aQ ?_
 refine aZ ?_
 refine oS ?_
 refine bL ?_
 refine bL ?_
 refine bL ?_
 refine cY ?_
 refine xG (.inr (⟨zT,rfl⟩))
 refine aQ ?_
 refine aZ ?_
 refine oS ?_
 refine bL ?_
 refine bL ?_
 refine bL ?_
 refine cY ?_
 refine xG (.inr (⟨zT,rfl⟩))
 refine aQ ?_
 refine aJ ?_
 refine ma (H:=H7) (i:=0) (ek:=pK) (ev:=pK) (l:=l6) x11.b rfl rfl hS8 rfl rfl rfl rfl rfl rfl rfl rfl lF (λy18 h19=>?_) (λh20=>?_)
 have hvy18:0<=y18.elem/\y18.elem<(a0.elems.l.length:Int):=hV _ (nr h19)
 refine dg ?_
 refine bL ?_
 refine bL ?_
 refine bL ?_
 refine cY ?_
 refine xG (.inr (⟨zT,rfl⟩))
 refine dg ?_
 refine cM ?_
 refine om rfl (λ_=>wO rfl rfl rfl (λ_ _=>rfl)) (λh21=>?_) (λh21=>?_)
 refine bL ?_
 refine bL ?_
 refine cY ?_
 refine xG (.inr (⟨zT,rfl⟩))
 refine bR ?_
 refine oC (t221 a0 x11.a) ?_
 rintro _ ⟨r23,hc22,rfl⟩
 cases r23
 clear hc22
 refine oV ?_
 refine bL ?_
 refine cY ?_
 refine xG (.inr (⟨zT,rfl⟩))
 have hc22t:=hc22 rfl
 refine cM ?_
 refine oC (t221 a0 x11.b) ?_
 rintro _ ⟨r25,hc24,rfl⟩
 cases r25
 clear hc24
 refine oV ?_
 refine cY ?_
 refine xG (.inr (⟨zT,rfl⟩))
 have hc24t:=hc24 rfl
 refine ca ?_
 refine wz [.la 1 0,(.hm b1),.la 6 0,jS a0.jd,iF a0.jd.l.length,iF k5] H7 [(1,(bG.ag a0)),(6,(kD.ag x11))] ?_
 refine qd ?_
 iterate 10 refine rV ?_
 refine uj rfl rfl (nj (i:=0) (ek:=pK) (ev:=pK) (l:=l6) x11.a x11.b hS8 rfl rfl rfl rfl rfl rfl lF) ?_
 rintro _ H26 ⟨rfl,hS27⟩
 refine ⟨λcall=>(Ez (nq rfl rfl rfl rfl rfl eP) (AE (nq rfl rfl rfl rfl rfl eP))),?_⟩
 refine mF rfl rfl (nj (i:=0) (ek:=pK) (ev:=pK) (l:=(put x11.a x11.b l6)) x11.b x11.a hS27 rfl rfl rfl rfl rfl rfl lF) ?_
 rintro _ H28 ⟨rfl,hS29⟩
 refine rN ?_
 refine wz [.la 1 0,(.hm b1),jS a0.jd,iF a0.jd.l.length,iF k5] H28 [(1,(bG.ag a0))] ?_
 refine qg ?_
 refine jq ?_
 refine ab ?_
 exact ⟨by omega,((put x11.b x11.a (put x11.a x11.b l6))),H28,(by exact ri (P:=λy:iM=>0<=y.elem/\y.elem<(a0.elems.l.length:Int)) (ri (P:=λy:iM=>0<=y.elem/\y.elem<(a0.elems.l.length:Int)) hV dD) dD),(by exact z6 dv dv hD dv dv dv),(by exact E5 dv dv hD hJ dv dv dv),(by exact ml (P:=λj:kD=>VE a0 j.a.elem/\VE a0 j.b.elem) dv hJv (by unfold VE; omega)),hS29,atR⟩
 refine ap ?_
 refine wz [.la 1 0,(.hm b1)] H7 [(1,(bG.ag a0))] ?_
 refine aZ ?_
 have hL30:=a0.elems.lk
 refine jK a0.elems ?_
 refine aL ?_
 have hNk31:=a0.elems.lk
 refine iW a0.elems.l.length (λo5 e h=>At [1,4,74,75,76] [.la 1 0,(.hm b1),jI a0.elems,iF a0.elems.l.length,iF o5] H7 [(1,(bG.ag a0))] e h) ?_ (k0:=0) dD atR
 rintro o5 e h hkk31 hA
 refine aK ?_
 refine jk (λh32=>?_) (λh32=>?_)
 refine aq ?_
 refine wz [.la 1 0,(.hm b1),jI a0.elems,iF a0.elems.l.length,iF o5] H7 [(1,(bG.ag a0))] ?_
 refine bE ?_
 have hx33:o5<a0.elems.l.length:=by omega
 refine kQ o5 a0.elems hx33 ?_
 generalize hqx34:a0.elems.l[o5]=x34
 refine bW ?_
 refine aZ ?_
 refine lb (λh35=>?_) (λh35=>?_)
 refine aC ?_
 refine qe ?_
 refine cR ?_
 refine jq ?_
 refine ab ?_
 exact gn
 refine aG ?_
 refine wz [.la 1 0,(.hm b1),iF o5,jI a0.elems,iF a0.elems.l.length,iF o5] H7 [(1,(bG.ag a0))] ?_
 refine aJ ?_
 refine ma (H:=H7) (i:=0) (ek:=pK) (ev:=pK) (l:=l6) ((⟨((o5:Int)),0⟩:iM)) rfl rfl hS8 rfl rfl rfl rfl rfl rfl rfl rfl lF (λy36 h37=>?_) (λh38=>?_)
 have hvy36:0<=y36.elem/\y36.elem<(a0.elems.l.length:Int):=hV _ (nr h37)
 refine di ?_
 refine aH ?_
 have hx39:(y36.elem).toNat<a0.elems.l.length:=by omega
 refine iT rfl (λ_=>jA (n:=y36.elem) (r:=a0.elems) (enc:=ko.ag) rfl rfl rfl rfl rfl dD hx39 rfl) ?_
 generalize hqx40:a0.elems.l[(y36.elem).toNat]=x40
 refine aw ?_
 refine jz (λh41=>?_) (λh41=>?_)
 refine cY ?_
 refine xG (.inr (⟨zT,rfl⟩))
 refine ah ?_
 refine cR ?_
 refine jq ?_
 refine ab ?_
 exact gn
 refine aQ ?_
 refine aJ ?_
 refine cz ?_
 refine cY ?_
 refine xG (.inr (⟨zT,rfl⟩))
 refine ap ?_
 refine wz [(.hm b1)] H7 [] ?_
 refine bu ?_
 have hz42:∀ m,freeze false { H7 with iI:=[] } (m+3) (.hm b1)=some (.fm (j1 pK pK l6) false):=λm=>uD (i:=0) hS8 rfl _ _ (v7 λ_=>rfl)
 refine ⟨.jl [(.hm b1),.bool true],rfl,.jl [.fm (j1 pK pK l6) false,.bool true],(show freeze false { H7 with iI:=[] } 8 (.jl [(.hm b1),.bool true])=some (.jl [.fm (j1 pK pK l6) false,.bool true]) by simp only [FZ,hz42]),.inl ⟨l6,(by exact ⟨⟨hV,λi h=>hJ i h dD⟩,abj hJv dD⟩),rfl⟩⟩
def aie (_a0:bG) (_a1:List (iM×iM)) (v:AV):Prop:=∃ r0:Bool,((r0=true->(∀ s∈_a0.signals.l,0<=s.at_.elem/\s.at_.elem<(_a0.elems.l.length:Int)/\0<=s.at_.en)/\yl _a0.signals.l))/\v=.bool r0
def t129 (a0:bG) (a1:List (iM×iM)) (q1:(∀ y∈(a1:List (iM×iM)),0<=y.2.elem/\y.2.elem<(a0.elems.l.length:Int))):Ct 129 [.agg (bG.ag a0),.fm (j1 pK pK a1) false] (aie a0 a1):=by
 refine jf IY ?_
 refine ao ?_
 refine aW ?_
 refine jG (H:=aT.empty) rfl (mc kB) ?_
 rintro _ H2 ⟨b1,rfl,hS3⟩
 refine ab ?_
 refine aZ ?_
 have hL4:=a0.signals.lk
 refine db ?_
 have hNk5:=a0.signals.lk
 refine iW a0.signals.l.length (λk5 e h=>∃ l6:List (iM×Bool),∃ H7:aT,(∀ (i:Nat) (h:i<a0.signals.l.length),i<k5->0<=(a0.signals.l[i]).at_.elem/\(a0.signals.l[i]).at_.elem<(a0.elems.l.length:Int)/\0<=(a0.signals.l[i]).at_.en)/\(∀ x:iM,(∃ y,y∈a0.signals.l.take k5/\y.at_=x)->look x l6=some true)/\(∀ (i:Nat) (h:i<a0.signals.l.length),i<k5->∀ y∈a0.signals.l.take i,y.at_≠(a0.signals.l[i]).at_)/\(∀ y∈(l6:List (iM×Bool)),y.2=true)/\Sep H7 (lW b1 pK bK l6::[])/\At [1,2,5,15,16,17] [.fm (j1 pK pK a1) false,.la 2 0,(.hm b1),jP a0.signals,iF a0.signals.l.length,iF k5] H7 [(2,(bG.ag a0))] e h) ?_ (k0:=0) dD ⟨([]),H2,eA,(by (rintro x ⟨y,h,_⟩; simp at h)),eA,fg,hS3,atR⟩
 rintro k5 e h hkk5 ⟨l6,H7,hV,hD,hJ,hT,hS8,hA⟩
 refine aK ?_
 refine jk (λh9=>?_) (λh9=>?_)
 refine aq ?_
 refine wz [.fm (j1 pK pK a1) false,.la 2 0,(.hm b1),jP a0.signals,iF a0.signals.l.length,iF k5] H7 [(2,(bG.ag a0))] ?_
 refine bg ?_
 have hx10:k5<a0.signals.l.length:=by omega
 refine kQ k5 a0.signals hx10 ?_
 generalize hqx11:a0.signals.l[k5]=x11
 refine bd ?_
 refine bM ?_
 refine oC (t221 a0 x11.at_) ?_
 rintro _ ⟨r13,hc12,rfl⟩
 cases r13
 clear hc12
 refine bN ?_
 exact gK
 have hc12t:=hc12 rfl
 refine bR ?_
 refine ma (H:=H7) (i:=0) (ek:=pK) (ev:=bK) (l:=l6) x11.at_ rfl rfl hS8 rfl rfl rfl rfl rfl rfl rfl rfl lF (λy14 h15=>?_) (λh16=>?_)
 cases y14
 exact absurd (hT _ (nr h15)) fg
 refine ac ?_
 exact gK
 refine ba ?_
 refine aB ?_
 refine aO ?_
 have hx17:(x11.at_.elem).toNat<a0.elems.l.length:=by omega
 refine iT rfl (λ_=>jA (n:=x11.at_.elem) (r:=a0.elems) (enc:=ko.ag) rfl rfl rfl rfl rfl dD hx17 rfl) ?_
 generalize hqx18:a0.elems.l[(x11.at_.elem).toNat]=x18
 refine aw ?_
 refine cV ?_
 refine lb (λh19=>?_) (λh19=>?_)
 refine aw ?_
 refine lb (λh20=>?_) (λh20=>?_)
 refine ac ?_
 exact gK
 refine ba ?_
 refine aJ ?_
 refine xq (key:=x11.at_) (l:=a1) (ek:=pK) (ev:=pK) rfl rfl rfl rfl rfl rfl rfl rfl rfl lF (λy21 h22=>?_) (λh23=>?_)
 have hvy21:0<=y21.elem/\y21.elem<(a0.elems.l.length:Int):=q1 _ (nr h22)
 refine cJ ?_
 refine cM ?_
 have hx24:(y21.elem).toNat<a0.elems.l.length:=by omega
 refine iT rfl (λ_=>jA (n:=y21.elem) (r:=a0.elems) (enc:=ko.ag) rfl rfl rfl rfl rfl dD hx24 rfl) ?_
 generalize hqx25:a0.elems.l[(y21.elem).toNat]=x25
 refine aw ?_
 refine jz (λh26=>?_) (λh26=>?_)
 refine ac ?_
 exact gK
 refine ba ?_
 refine cO ?_
 rintro _ H27 ⟨rfl,hS28⟩
 refine oN ?_
 refine wz [.fm (j1 pK pK a1) false,.la 2 0,(.hm b1),jP a0.signals,iF a0.signals.l.length,iF k5] H27 [(2,(bG.ag a0))] ?_
 refine qg ?_
 refine jq ?_
 refine ab ?_
 exact ⟨by omega,((put x11.at_ true l6)),H27,(by exact C8 dv hV dD),(by exact C0 dv dv hD),(by exact C7 dv dv hD hJ dv),gi,hS28,atR⟩
 refine dg ?_
 refine cz ?_
 refine ac ?_
 exact gK
 refine bk ?_
 refine ba ?_
 refine aJ ?_
 refine xq (key:=x11.at_) (l:=a1) (ek:=pK) (ev:=pK) rfl rfl rfl rfl rfl rfl rfl rfl rfl lF (λy29 h30=>?_) (λh31=>?_)
 have hvy29:0<=y29.elem/\y29.elem<(a0.elems.l.length:Int):=q1 _ (nr h30)
 refine cJ ?_
 refine cM ?_
 have hx32:(y29.elem).toNat<a0.elems.l.length:=by omega
 refine iT rfl (λ_=>jA (n:=y29.elem) (r:=a0.elems) (enc:=ko.ag) rfl rfl rfl rfl rfl dD hx32 rfl) ?_
 generalize hqx33:a0.elems.l[(y29.elem).toNat]=x33
 refine aw ?_
 refine jz (λh34=>?_) (λh34=>?_)
 refine ac ?_
 exact gK
 refine ba ?_
 refine cO ?_
 rintro _ H35 ⟨rfl,hS36⟩
 refine oN ?_
 refine wz [.fm (j1 pK pK a1) false,.la 2 0,(.hm b1),jP a0.signals,iF a0.signals.l.length,iF k5] H35 [(2,(bG.ag a0))] ?_
 refine qg ?_
 refine jq ?_
 refine ab ?_
 exact ⟨by omega,((put x11.at_ true l6)),H35,(by exact C8 dv hV dD),(by exact C0 dv dv hD),(by exact C7 dv dv hD hJ dv),gi,hS36,atR⟩
 refine dg ?_
 refine cz ?_
 refine ac ?_
 exact gK
 refine ap ?_
 refine wz [.la 2 0,(.hm b1)] H7 [(2,(bG.ag a0))] ?_
 refine aZ ?_
 have hL37:=a0.elems.lk
 refine jK a0.elems ?_
 refine aL ?_
 have hNk38:=a0.elems.lk
 refine iW a0.elems.l.length (λnd e h=>At [5,70,71,72] [(.hm b1),jI a0.elems,iF a0.elems.l.length,iF nd] H7 [] e h) ?_ (k0:=0) dD atR
 rintro nd e h hkk38 hA
 refine aK ?_
 refine jk (λh39=>?_) (λh39=>?_)
 refine aq ?_
 refine wz [(.hm b1),jI a0.elems,iF a0.elems.l.length,iF nd] H7 [] ?_
 refine bE ?_
 have hx40:nd<a0.elems.l.length:=by omega
 refine kQ nd a0.elems hx40 ?_
 generalize hqx41:a0.elems.l[nd]=x41
 refine oV ?_
 refine cP ?_
 refine jz (λh42=>?_) (λh42=>?_)
 refine aO ?_
 refine ma (H:=H7) (i:=0) (ek:=pK) (ev:=bK) (l:=l6) ((⟨((nd:Int)),0⟩:iM)) rfl rfl hS8 rfl rfl rfl rfl rfl rfl rfl rfl lF (λy43 h44=>?_) (λh45=>?_)
 cases y43
 exact absurd (hT _ (nr h44)) fg
 refine ca ?_
 refine de ?_
 refine jq ?_
 refine ab ?_
 exact gn
 refine bp ?_
 exact gK
 refine bQ ?_
 refine ah ?_
 refine de ?_
 refine jq ?_
 refine ab ?_
 exact gn
 refine ap ?_
 refine wz [] H7 [] ?_
 refine aI ?_
 exact xB ⟨true,eg,rfl⟩
def agi (_a0:Row Int) (_a1:List (iM×iM)) (v:AV):Prop:=∃ r0:Bool,(True)/\v=.bool r0
def t222 (a0:Row Int) (a1:List (iM×iM)) :Ct 222 [kr a0,.fm (j1 pK pK a1) false] (agi a0 a1):=by
 refine jf Jr ?_
 refine bC ?_
 have hL1:=a0.lk
 refine jK a0 ?_
 refine jk (λh2=>?_) (λh2=>?_)
 refine bh ?_
 exact gp
 refine aG ?_
 refine wy [kr a0,.fm (j1 pK pK a1) false] [] ?_
 refine br ?_
 refine ck ?_
 refine nS (λm7 e h=>∃ n3:Int,∃ n4:Int,m7=(n4+1).toNat/\(-1<=n4)/\(n4<=1)/\At [0,1,5,6] [kr a0,.fm (j1 pK pK a1) false,iv n3,iv n4] aT.empty [] e h) ?_ _ _ _ ⟨(-1),1,rfl,dD,dD,atR⟩
 rintro m7 e h ⟨n3,n4,hmm7,hi5,hi6,hA⟩
 refine rA hA ?_
 refine aB ?_
 refine lP (λh8=>?_) (λh8=>?_)
 refine bX ?_
 refine wy [kr a0,.fm (j1 pK pK a1) false,iv n3,iv n4] [] ?_
 refine aF ?_
 refine ae ?_
 have hx9:0<a0.l.length:=by omega
 refine kQ 0 a0 hx9 ?_
 generalize hqx10:a0.l[0]=x10
 refine aH ?_
 refine xq (key:=(⟨x10,n4⟩:iM)) (l:=a1) (ek:=pK) (ev:=pK) rfl rfl rfl rfl rfl rfl rfl rfl rfl lF (λy11 h12=>?_) (λh13=>?_)
 refine aQ ?_
 refine dt ?_
 have hx14:1<a0.l.length:=by omega
 refine rP 1 a0 hx14 ?_
 generalize hqx15:a0.l[1]=x15
 refine rV ?_
 refine Cx (λh16=>?_) (λh16=>?_)
 refine bz ?_
 refine qg ?_
 refine cq ?_
 refine wy [kr a0,.fm (j1 pK pK a1) false,iv n4,iv n4] [] ?_
 refine aS ?_
 refine nI ?_
 refine ab ?_
 refine ⟨_,?_,n4,(n4 - 1),rfl,dD,dD,atR⟩
 omega
 refine bo ?_
 refine wy [kr a0,.fm (j1 pK pK a1) false,iv n3,iv n4] [] ?_
 refine aS ?_
 refine nI ?_
 refine ab ?_
 refine ⟨_,?_,n3,(n4 - 1),rfl,dD,dD,atR⟩
 omega
 refine aQ ?_
 refine aV ?_
 refine b8 ?_
 refine bo ?_
 refine wy [kr a0,.fm (j1 pK pK a1) false,iv n3,iv n4] [] ?_
 refine aS ?_
 refine nI ?_
 refine ab ?_
 refine ⟨_,?_,n3,(n4 - 1),rfl,dD,dD,atR⟩
 omega
 refine aM ?_
 refine wy [kr a0,.fm (j1 pK pK a1) false,iv n3] [] ?_
 refine aB ?_
 refine jk (λh17=>?_) (λh17=>?_)
 refine bh ?_
 exact gm
 refine aG ?_
 refine wy [kr a0,.fm (j1 pK pK a1) false,iv n3] [] ?_
 refine ck ?_
 have hNk18:=a0.lk
 refine iW a0.l.length (λm3 e h=>∃ n19:Int,(1<=m3)/\At [0,1,5,9] [kr a0,.fm (j1 pK pK a1) false,iv n19,iF m3] aT.empty [] e h) ?_ (k0:=1) dD ⟨n3,dD,atR⟩
 rintro m3 e h hkk18 ⟨n19,hw20,hA⟩
 refine cG ?_
 have hL21:=a0.lk
 refine jK a0 ?_
 refine jk (λh22=>?_) (λh22=>?_)
 refine bX ?_
 refine wy [kr a0,.fm (j1 pK pK a1) false,iv n19,iF m3] [] ?_
 refine aF ?_
 refine aJ ?_
 refine nI ?_
 have hx23:((m3:Int) - 1).toNat<a0.l.length:=by omega
 refine iT rfl (λ_=>jA (n:=(m3:Int) - 1) (r:=a0) (enc:=j4) rfl rfl rfl rfl rfl dD hx23 rfl) ?_
 generalize hqx24:a0.l[((m3:Int) - 1).toNat]=x24
 refine aH ?_
 refine xq (key:=(⟨x24,n19⟩:iM)) (l:=a1) (ek:=pK) (ev:=pK) rfl rfl rfl rfl rfl rfl rfl rfl rfl lF (λy25 h26=>?_) (λh27=>?_)
 refine bR ?_
 refine aA ?_
 refine cZ ?_
 refine c8 ?_
 have hx28:m3<a0.l.length:=by omega
 refine rP m3 a0 hx28 ?_
 generalize hqx29:a0.l[m3]=x29
 refine rV ?_
 refine AB (λh30=>?_) (λh30=>?_)
 refine bz ?_
 refine aI ?_
 exact gm
 refine bo ?_
 refine wy [kr a0,.fm (j1 pK pK a1) false,iF m3,.la 10 0] [(10,(iM.ag y25))] ?_
 refine cm ?_
 refine iT rfl (λ_=>j9 rfl rfl rfl (pW .i64 1 y25.en)) ?_
 refine ab ?_
 refine wy [kr a0,.fm (j1 pK pK a1) false,iv (IntKind.i64.wrap (1 - y25.en)),iF m3] [] ?_
 refine aS ?_
 refine jq ?_
 refine ab ?_
 exact ⟨by omega,(IntKind.i64.wrap (1 - y25.en)),dD,atR⟩
 refine bR ?_
 refine aA ?_
 refine cE ?_
 iterate 7 refine rS ?_
 refine bz ?_
 refine aI ?_
 exact gm
 refine aM ?_
 refine dm ?_
 exact gp
def agU (_a0:bG) (_a1:List (iM×iM)) (v:AV):Prop:=∃ r0:Bool,((r0=true->Jk _a0))/\v=.bool r0
def t130 (a0:bG) (a1:List (iM×iM)) :Ct 130 [.agg (bG.ag a0),.fm (j1 pK pK a1) false] (agU a0 a1):=by
 refine jf HE ?_
 refine ao ?_
 refine aW ?_
 refine jG rfl (mc kB) ?_
 rintro _ H2 ⟨b1,rfl,hS3⟩
 refine ab ?_
 refine aZ ?_
 have hL4:=a0.lines.lk
 refine jK a0.lines ?_
 refine aL ?_
 have hNk5:=a0.lines.lk
 refine iW a0.lines.l.length (λk5 e h=>∃ l6:List (Int×Bool),∃ H7:aT,(wK a0 k5 0 l6)/\Sep H7 (lW b1 iK bK l6::[])/\At [1,2,5,12,13,14] [.fm (j1 pK pK a1) false,.la 2 0,(.hm b1),jH a0.lines,iF a0.lines.l.length,iF k5] H7 [(2,(bG.ag a0))] e h) ?_ (k0:=0) dD ⟨([]),H2,(by exact wK.zero),hS3,atR⟩
 rintro k5 e h hkk5 ⟨l6,H7,hLn,hS8,hA⟩
 refine aK ?_
 refine jk (λh9=>?_) (λh9=>?_)
 refine aq ?_
 refine wz [.fm (j1 pK pK a1) false,.la 2 0,(.hm b1),jH a0.lines,iF a0.lines.l.length,iF k5] H7 [(2,(bG.ag a0))] ?_
 refine bg ?_
 have hx10:k5<a0.lines.l.length:=by omega
 refine kQ k5 a0.lines hx10 ?_
 generalize hqx11:a0.lines.l[k5]=x11
 refine bd ?_
 refine aZ ?_
 have hL12:=x11.elems.lk
 refine jK x11.elems ?_
 refine jz (λh13=>?_) (λh13=>?_)
 refine bh ?_
 exact gL
 refine aG ?_
 refine wz [.fm (j1 pK pK a1) false,.la 2 0,(.hm b1),.la 7 0,jH a0.lines,iF a0.lines.l.length,iF k5] H7 [(2,(bG.ag a0)),(7,(jN.ag x11))] ?_
 refine aZ ?_
 have hL14:=x11.elems.lk
 refine jK x11.elems ?_
 refine aL ?_
 have hNk15:=x11.elems.lk
 refine iW x11.elems.l.length (λkG e h=>∃ l16:List (Int×Bool),∃ H17:aT,(wK a0 k5 kG l16)/\Sep H17 (lW b1 iK bK l16::[])/\At [1,2,5,7,12,13,14,23,24,25] [.fm (j1 pK pK a1) false,.la 2 0,(.hm b1),.la 7 0,jH a0.lines,iF a0.lines.l.length,iF k5,kr x11.elems,iF x11.elems.l.length,iF kG] H17 [(2,(bG.ag a0)),(7,(jN.ag x11))] e h) ?_ (k0:=0) dD ⟨l6,H7,(by exact hLn),hS8,atR⟩
 rintro kG e h hkk15 ⟨l16,H17,hLn2,hS18,hA⟩
 refine aK ?_
 refine jk (λh19=>?_) (λh19=>?_)
 refine aq ?_
 refine wz [.fm (j1 pK pK a1) false,.la 2 0,(.hm b1),.la 7 0,jH a0.lines,iF a0.lines.l.length,iF k5,kr x11.elems,iF x11.elems.l.length,iF kG] H17 [(2,(bG.ag a0)),(7,(jN.ag x11))] ?_
 refine bg ?_
 have hx20:kG<x11.elems.l.length:=by omega
 refine kQ kG x11.elems hx20 ?_
 generalize hqx21:x11.elems.l[kG]=x21
 refine oV ?_
 refine az ?_
 refine jk (λh22=>?_) (λh22=>?_)
 refine bQ ?_
 refine aw ?_
 iterate 7 refine oS ?_
 refine cf ?_
 refine ac ?_
 exact gL
 refine aO ?_
 have hL23:=a0.elems.lk
 refine jK a0.elems ?_
 refine lP (λh24=>?_) (λh24=>?_)
 refine aw ?_
 iterate 7 refine oS ?_
 refine cf ?_
 refine ac ?_
 exact gL
 refine bR ?_
 have hx25:(x21).toNat<a0.elems.l.length:=by omega
 refine iT rfl (λ_=>jA (n:=x21) (r:=a0.elems) (enc:=ko.ag) rfl rfl rfl rfl rfl dD hx25 rfl) ?_
 generalize hqx26:a0.elems.l[(x21).toNat]=x26
 refine aw ?_
 refine lb (λh27=>?_) (λh27=>?_)
 refine cf ?_
 refine ac ?_
 exact gL
 refine aO ?_
 refine ma (H:=H17) (i:=0) (ek:=iK) (ev:=bK) (l:=l16) x21 rfl rfl hS18 rfl rfl rfl rfl rfl rfl rfl rfl pE (λy28 h29=>?_) (λh30=>?_)
 cases y28
 refine ah ?_
 refine bA ?_
 rintro _ H31 ⟨rfl,hS32⟩
 refine oN ?_
 refine wz [.fm (j1 pK pK a1) false,.la 2 0,(.hm b1),.la 7 0,jH a0.lines,iF a0.lines.l.length,iF k5,kr x11.elems,iF x11.elems.l.length,iF kG] H31 [(2,(bG.ag a0)),(7,(jN.ag x11))] ?_
 refine qg ?_
 refine jq ?_
 refine ab ?_
 exact ⟨by omega,((put x21 true l16)),H31,gc,hS32,atR⟩
 refine ac ?_
 exact gL
 refine ah ?_
 refine bA ?_
 rintro _ H33 ⟨rfl,hS34⟩
 refine oN ?_
 refine wz [.fm (j1 pK pK a1) false,.la 2 0,(.hm b1),.la 7 0,jH a0.lines,iF a0.lines.l.length,iF k5,kr x11.elems,iF x11.elems.l.length,iF kG] H33 [(2,(bG.ag a0)),(7,(jN.ag x11))] ?_
 refine qg ?_
 refine jq ?_
 refine ab ?_
 exact ⟨by omega,((put x21 true l16)),H33,gc,hS34,atR⟩
 refine ap ?_
 refine wz [.fm (j1 pK pK a1) false,.la 2 0,(.hm b1),.la 7 0,jH a0.lines,iF a0.lines.l.length,iF k5] H17 [(2,(bG.ag a0)),(7,(jN.ag x11))] ?_
 refine aJ ?_
 refine oC (t222 x11.elems a1) ?_
 rintro _ ⟨r36,hc35,rfl⟩
 cases r36
 refine ac ?_
 exact gL
 refine ah ?_
 refine wz [.fm (j1 pK pK a1) false,.la 2 0,(.hm b1),jH a0.lines,iF a0.lines.l.length,iF k5] H17 [(2,(bG.ag a0))] ?_
 refine qg ?_
 refine jq ?_
 refine ab ?_
 exact ⟨by omega,l16,H17,(by exact hLn2.next dv dD),hS18,atR⟩
 refine ap ?_
 refine wz [] H7 [] ?_
 refine aI ?_
 exact xB ⟨true,eL,rfl⟩
def agA (_a0:Int) (_a1:Int) (v:AV):Prop:=∃ r0:Int,(True)/\v=iv r0
def t223 (a0:Int) (a1:Int) :Ct 223 [iv a0,iv a1] (agA a0 a1):=by
 refine jf Jc ?_
 refine bC ?_
 refine jk (λh1=>?_) (λh1=>?_)
 refine bk ?_
 refine a7 ?_
 refine a7 ?_
 refine ac ?_
 exact gS
 refine aw ?_
 refine kn (λh2=>?_) (λh2=>?_)
 refine a7 ?_
 refine a7 ?_
 refine ac ?_
 exact gS
 refine aH ?_
 refine jk (λh3=>?_) (λh3=>?_)
 refine a7 ?_
 refine ac ?_
 exact gS
 refine aH ?_
 refine kn (λh4=>?_) (λh4=>?_)
 refine ac ?_
 exact gS
 refine ah ?_
 refine wy [iv a0,iv a1] [] ?_
 refine br ?_
 refine aZ ?_
 refine nI ?_
 refine aL ?_
 refine nS (λm9 e h=>∃ n5:Int,∃ n6:Int,m9=(n5+10).toNat/\(-10<=n5)/\(n5<=60)/\At [0,1,5] [iv n5,iv a1,iv n6] aT.empty [] e h) ?_ _ _ _ ⟨(a0 - a1),0,rfl,dD,dD,atR⟩
 rintro m9 e h ⟨n5,n6,hmm9,hi7,hi8,hA⟩
 refine rA hA ?_
 refine aB ?_
 refine kn (λh10=>?_) (λh10=>?_)
 refine bX ?_
 refine wy [iv n5,iv a1,iv n6] [] ?_
 refine aF ?_
 refine cm ?_
 refine iT rfl (λ_=>j9 rfl rfl rfl (mu .i64 n6 n5)) ?_
 refine ab ?_
 refine wy [iv n5,iv a1,iv (IntKind.i64.wrap (n6+(n5)))] [] ?_
 refine cm ?_
 refine nI ?_
 refine ab ?_
 refine ⟨_,?_,(n5 - a1),(IntKind.i64.wrap (n6+(n5))),rfl,dD,dD,atR⟩
 omega
 refine aM ?_
 refine wy [iv n6] [] ?_
 refine bJ ?_
 exact xB ⟨n6,zt⟩
def agc (_a0:bG) (v:AV):Prop:=∃ r0:Bool,(True)/\v=.bool r0
def t131 (a0:bG) (q1:(∀ s∈a0.signals.l,0<=s.at_.elem/\s.at_.elem<(a0.elems.l.length:Int)/\0<=s.at_.en)):Ct 131 [.agg (bG.ag a0)] (agc a0):=by
 refine jf Jl ?_
 refine ao ?_
 refine aA ?_
 refine cD ?_
 refine c8 ?_
 refine rC (t223 a0.top a0.jT) ?_
 rintro _ ⟨r2,hc1,rfl⟩
 refine jh rfl rfl (λ_=>j9 rfl rfl rfl (mu .i64 a0.top r2)) ?_
 refine qY (λh3=>?_) (λh3=>?_)
 refine cH ?_
 refine aI ?_
 exact gm
 refine cT ?_
 refine aZ ?_
 have hL4:=a0.signals.lk
 refine db ?_
 have hNk5:=a0.signals.lk
 refine iW a0.signals.l.length (λk5 e h=>At [1,20,21,22] [.la 1 0,jP a0.signals,iF a0.signals.l.length,iF k5] aT.empty [(1,(bG.ag a0))] e h) ?_ (k0:=0) dD atR
 rintro k5 e h hkk5 hA
 refine aK ?_
 refine jk (λh6=>?_) (λh6=>?_)
 refine c9 ?_
 have hx7:k5<a0.signals.l.length:=by omega
 refine kQ k5 a0.signals hx7 ?_
 generalize hqx8:a0.signals.l[k5]=x8
 have hinx8:x8∈a0.signals.l:=by rw [<- hqx8]; exact List.getElem_mem _
 have hsx8:=q1 x8 hinx8
 refine cP ?_
 refine aH ?_
 have hx9:(x8.at_.elem).toNat<a0.elems.l.length:=by omega
 refine iT rfl (λ_=>jA (n:=x8.at_.elem) (r:=a0.elems) (enc:=ko.ag) rfl rfl rfl rfl rfl dD hx9 rfl) ?_
 generalize hqx10:a0.elems.l[(x8.at_.elem).toNat]=x10
 refine cP ?_
 refine jz (λh11=>?_) (λh11=>?_)
 refine bR ?_
 refine jk (λh12=>?_) (λh12=>?_)
 refine ac ?_
 exact gm
 refine oV ?_
 refine bZ ?_
 refine jq ?_
 refine ab ?_
 exact gn
 refine bQ ?_
 refine oV ?_
 refine bZ ?_
 refine jq ?_
 refine ab ?_
 exact gn
 refine ap ?_
 refine aZ ?_
 have hL13:=a0.elems.lk
 refine jK a0.elems ?_
 refine aL ?_
 have hNk14:=a0.elems.lk
 refine iW a0.elems.l.length (λkz e h=>At [1,45,46,47] [.la 1 0,jI a0.elems,iF a0.elems.l.length,iF kz] aT.empty [(1,(bG.ag a0))] e h) ?_ (k0:=0) dD atR
 rintro kz e h hkk14 hA
 refine aK ?_
 refine jk (λh15=>?_) (λh15=>?_)
 refine c9 ?_
 have hx16:kz<a0.elems.l.length:=by omega
 refine kQ kz a0.elems hx16 ?_
 generalize hqx17:a0.elems.l[kz]=x17
 refine cP ?_
 refine lb (λh18=>?_) (λh18=>?_)
 refine bR ?_
 refine jk (λh19=>?_) (λh19=>?_)
 refine ac ?_
 exact gm
 refine oV ?_
 refine bZ ?_
 refine jq ?_
 refine ab ?_
 exact gn
 refine bQ ?_
 refine oV ?_
 refine bZ ?_
 refine jq ?_
 refine ab ?_
 exact gn
 refine cy ?_
 exact gp
def P62 (_a0:bG) (v:AV):Prop:=∃ r0:Int,((r0=0->y6 _a0.jd.l/\yl _a0.signals.l/\(∀ s∈_a0.signals.l,0<=s.at_.elem/\s.at_.elem<(_a0.elems.l.length:Int)/\0<=s.at_.en)/\_a0.elems.l.length<=40/\_a0.signals.l.length<=24/\_a0.jd.l.length<=80/\Nq _a0))/\v=iv r0
def t62 (a0:bG) :Ct 62 [.agg (bG.ag a0)] (P62 a0):=by
 refine jf MS ?_
 refine qq (qg ?_)
 refine jG (H:=aT.empty) rfl (sr kB rfl rfl rfl rfl rfl) ?_
 rintro _ H2 ⟨b1,rfl,hS3⟩
 refine oV ?_
 refine oN (qs (qq (qg ?_)))
 refine nh 0 hS3 ?_
 refine lU 0 hS3 (jI a0.elems) ?_
 have hL4:=a0.elems.lk
 refine jK a0.elems ?_
 refine kn (λh5=>?_) (λh5=>?_)
 refine oV ?_
 iterate 4 refine oS ?_
 iterate 2 refine oV ?_
 iterate 4 refine oS ?_
 iterate 2 refine oV ?_
 iterate 4 refine oS ?_
 refine oV ?_
 refine oN (qT ?_)
 refine qq (qg (oV ?_))
 refine oN (qr ?_)
 exact xB ⟨3,dG,rfl⟩
 refine oV ?_
 refine nh 0 hS3 ?_
 refine lU 0 hS3 (jP a0.signals) ?_
 have hL6:=a0.signals.lk
 refine jK a0.signals ?_
 refine kn (λh7=>?_) (λh7=>?_)
 iterate 2 refine oV ?_
 iterate 4 refine oS ?_
 iterate 2 refine oV ?_
 iterate 4 refine oS ?_
 refine oV ?_
 refine oN (qT ?_)
 refine qq (qg (oV ?_))
 refine oN (qr ?_)
 exact xB ⟨3,dG,rfl⟩
 iterate 2 refine oV ?_
 refine nh 0 hS3 ?_
 refine lU 0 hS3 (jH a0.lines) ?_
 have hL8:=a0.lines.lk
 refine jK a0.lines ?_
 refine kn (λh9=>?_) (λh9=>?_)
 iterate 2 refine oV ?_
 iterate 4 refine oS ?_
 refine oV ?_
 refine oN (qT ?_)
 refine qq (qg (oV ?_))
 refine oN (qr ?_)
 exact xB ⟨3,dG,rfl⟩
 iterate 2 refine oV ?_
 refine nh 0 hS3 ?_
 refine lU 0 hS3 (jS a0.jd) ?_
 have hL10:=a0.jd.lk
 refine jK a0.jd ?_
 refine kn (λh11=>?_) (λh11=>?_)
 refine oV ?_
 refine oN (qT ?_)
 refine qq (qg (oV ?_))
 refine oN (qr ?_)
 exact xB ⟨3,dG,rfl⟩
 refine oV ?_
 refine oN (qF ?_)
 refine qk ?_
 refine wz [(je b1)] H2 [] ?_
 refine qs (qq (qg ?_))
 refine lU 0 hS3 (.agg (bG.ag a0)) ?_
 refine oC (t123 a0) ?_
 rintro _ ⟨r13,hc12,rfl⟩
 have hKdp:=hc12
 cases r13
 refine oV ?_
 refine oN (qT ?_)
 refine qq (qg (oV ?_))
 refine oN (qr ?_)
 exact xB ⟨1,dG,rfl⟩
 refine oV ?_
 refine oN (qF ?_)
 refine qk ?_
 refine wz [(je b1)] H2 [] ?_
 refine qs (qq (qg ?_))
 refine nh 0 hS3 ?_
 refine lU 0 hS3 (jI a0.elems) ?_
 have hL14:=a0.elems.lk
 refine jK a0.elems ?_
 refine iT rfl (λ_=>ua rfl rfl (tP rfl rfl)) ?_
 have hS15:Sep H2 (j7 b1 (bG.ag a0)::[]):=Sep.pick hS3 [0] 1 dA dA
 refine jV (H:=H2) (args:=[iF a0.elems.l.length,.jQ 125 [] [(je b1)]]) (p:=[]) (r:=[]) rfl rfl rfl rfl rfl rfl rfl (Ow ((a0.elems.l.length:Int)) b1 a0 ([]) hS15 dw) ?_
 rintro _ H16 ⟨r19,hc18,hS17,rfl⟩
 cases r19
 refine oV ?_
 refine nh 0 hS17 ?_
 refine lU 0 hS17 (jP a0.signals) ?_
 have hL20:=a0.signals.lk
 refine jK a0.signals ?_
 refine iT rfl (λ_=>ua rfl rfl (tP rfl rfl)) ?_
 have hS21:Sep H16 (j7 b1 (bG.ag a0)::[]):=Sep.pick hS17 [0] 1 dA dA
 refine jV (H:=H16) (args:=[iF a0.signals.l.length,.jQ 126 [] [(je b1)]]) (p:=[]) (r:=[]) rfl rfl rfl rfl rfl rfl rfl (Mp ((a0.signals.l.length:Int)) b1 a0 ([]) hS21 dw) ?_
 rintro _ H22 ⟨r25,hc24,hS23,rfl⟩
 cases r25
 iterate 2 refine oV ?_
 refine nh 0 hS23 ?_
 refine lU 0 hS23 (jH a0.lines) ?_
 have hL26:=a0.lines.lk
 refine jK a0.lines ?_
 refine iT rfl (λ_=>ua rfl rfl (tP rfl rfl)) ?_
 have hS27:Sep H22 (j7 b1 (bG.ag a0)::[]):=Sep.pick hS23 [0] 1 dA dA
 refine jV (H:=H22) (args:=[iF a0.lines.l.length,.jQ 127 [] [(je b1)]]) (p:=[]) (r:=[]) rfl rfl rfl rfl rfl rfl rfl (MJ ((a0.lines.l.length:Int)) b1 a0 ([]) hS27 dw) ?_
 rintro _ H28 ⟨r31,hc30,hS29,rfl⟩
 cases r31
 refine oV ?_
 refine oN (qF ?_)
 refine qk ?_
 refine wz [(je b1)] H28 [] ?_
 refine qq (qg ?_)
 refine lU 0 hS29 (.agg (bG.ag a0)) ?_
 refine oC (t128 a0) ?_
 rintro _ (⟨r33,hc32,rfl⟩ | ⟨hc32,rfl⟩)
 have hPre:=hc32.1.1; have hC148:=hc32.1.2; have hJvp:=hc32.2
 iterate 5 refine oV ?_
 refine oN (qs (qb (qq (qg (oV ?_)))))
 iterate 2 refine oV ?_
 refine oN (qF ?_)
 refine qq (qg ?_)
 refine lU 0 hS29 (.agg (bG.ag a0)) ?_
 refine oV ?_
 refine oC (t129 a0 r33 dw) ?_
 rintro _ ⟨r35,hc34,rfl⟩
 cases r35
 clear hc34
 iterate 2 refine oV ?_
 refine oN (qT ?_)
 refine qq (qg (oV ?_))
 refine oN (qr ?_)
 exact xB ⟨7,dG,rfl⟩
 have hc34t:=hc34 rfl
 have hPre:=hc34t.1; have hD149:=hc34t.2
 iterate 2 refine oV ?_
 refine oN (qF ?_)
 refine qq (qg ?_)
 refine lU 0 hS29 (.agg (bG.ag a0)) ?_
 refine oV ?_
 refine oC (t130 a0 r33) ?_
 rintro _ ⟨r37,hc36,rfl⟩
 have hLnp:=hc36
 cases r37
 iterate 2 refine oV ?_
 refine oN (qT ?_)
 refine qq (qg (oV ?_))
 refine oN (qr ?_)
 exact xB ⟨8,dG,rfl⟩
 iterate 2 refine oV ?_
 refine oN (qF ?_)
 refine qq (qg ?_)
 refine lU 0 hS29 (.agg (bG.ag a0)) ?_
 refine oC (t131 a0 dw) ?_
 rintro _ ⟨r39,hc38,rfl⟩
 cases r39
 iterate 2 refine oV ?_
 refine oN (qT ?_)
 refine qq (qg (oV ?_))
 refine oN (qr ?_)
 exact xB ⟨9,dG,rfl⟩
 iterate 2 refine oV ?_
 refine oN (qF ?_)
 refine qk ?_
 refine wz [] H28 [] ?_
 refine qq (qg (oV ?_))
 refine oN (qr ?_)
 exact xB ⟨0,dG,rfl⟩
 iterate 5 refine oV ?_
 refine oN (qs (qb (qq (qg (oV ?_)))))
 iterate 2 refine oV ?_
 refine oN (qT ?_)
 refine qq (qg (oV ?_))
 refine oN (qr ?_)
 exact xB ⟨6,dG,rfl⟩
 refine oV ?_
 refine oN (qT ?_)
 refine qq (qg (oV ?_))
 refine oN (qr ?_)
 exact xB ⟨4,dG,rfl⟩
 iterate 2 refine oV ?_
 iterate 5 refine oS ?_
 refine oV ?_
 refine oN (qT ?_)
 refine qq (qg (oV ?_))
 refine oN (qr ?_)
 exact xB ⟨4,dG,rfl⟩
 refine oV ?_
 iterate 5 refine oS ?_
 iterate 2 refine oV ?_
 iterate 5 refine oS ?_
 refine oV ?_
 refine oN (qT ?_)
 refine qq (qg (oV ?_))
 refine oN (qr ?_)
 exact xB ⟨4,dG,rfl⟩
def ahF (_a0:jm Int) (v:AV):Prop:=∃ r0:Row Int,((r0.l = _a0.l/\(r0.c=.nil↔_a0.c=.nil)))/\v=kr r0
def aio (a0:jm Int) (q1:a0.l.length<=1000):GQ 93 [qj a0] (ahF a0):=by
 refine wC NG ?_
 refine bC ?_
 refine lY (b:=a0.isNil) rfl (λ_=>qW rfl rfl rfl rfl) (λh1=>?_) (λh1=>?_)
 refine bh ?_
 exact xG ⟨(lD:Row Int),dY,rfl⟩
 refine aG ?_
 refine wy [qj a0] [] ?_
 refine ae ?_
 have hS2:=Sep.uJ kB 1
 refine jG rfl (ux (i:=0) (l:=([]:List Int)) (enc:=j4) a0.l hS2 rfl rfl rfl rfl rfl rfl rfl rfl rfl (λ_=>rfl) (.inl rfl) dJ (λ_=>rfl)) ?_
 rintro v3 H4 ⟨hS5,hNN⟩
 refine af ?_
 obtain ⟨r6,hl7,hnn,hf8⟩:=uR (H:=H4) (i:=0) (l:=(([]:List Int)++a0.l)) (enc:=j4) hS5 rfl dz
 have hlq:=hl7; have hln10:=congrArg List.length hl7
 have hz9:∀ m,freeze false { H4 with iI:=[] } (m+2) v3=some (kr r6):=λm=>hf8 _ _ (λ_=>rfl)
 exact ⟨v3,(lN (vs:=[v3]) rfl (jb (Sep.arg (i:=0) hS5 rfl) kg)),kr r6,(show freeze false { H4 with iI:=[] } 8 v3=some (kr r6) by simp only [FZ,hz9]),r6,dY,rfl⟩
def Xp (_a0:jm ko) (v:AV):Prop:=∃ r0:Row ko,((r0.l = _a0.l/\(r0.c=.nil↔_a0.c=.nil)))/\v=jI r0
def Yd (a0:jm ko) (q1:a0.l.length<=1000):GQ 132 [jm.av ko.ag a0] (Xp a0):=by
 refine wC Iw ?_
 refine bC ?_
 refine lY (b:=a0.isNil) rfl (λ_=>qW rfl rfl rfl rfl) (λh1=>?_) (λh1=>?_)
 refine bh ?_
 exact xG ⟨(lD:Row ko),dY,rfl⟩
 refine aG ?_
 refine ae ?_
 have hS2:=Sep.uJ kB 3
 refine jG rfl (ux (i:=0) (l:=([]:List ko)) (enc:=ko.ag) a0.l hS2 rfl rfl rfl rfl rfl rfl rfl rfl rfl (λ_=>rfl) (.inl rfl) dJ (λ_=>rfl)) ?_
 rintro v3 H4 ⟨hS5,hNN⟩
 refine af ?_
 obtain ⟨r6,hl7,hnn,hf8⟩:=uR (H:=H4) (i:=0) (l:=(([]:List ko)++a0.l)) (enc:=ko.ag) hS5 rfl dz
 have hlq:=hl7; have hln10:=congrArg List.length hl7
 have hz9:∀ m,freeze false { H4 with iI:=[] } (m+2) v3=some (jI r6):=λm=>hf8 _ _ (λ_=>rfl)
 exact ⟨v3,(lN (vs:=[v3]) rfl (jb (Sep.arg (i:=0) hS5 rfl) kg)),jI r6,(show freeze false { H4 with iI:=[] } 8 v3=some (jI r6) by simp only [FZ,hz9]),r6,dY,rfl⟩
def Yg (_a0:jm kD) (v:AV):Prop:=∃ r0:Row kD,((r0.l = _a0.l/\(r0.c=.nil↔_a0.c=.nil)))/\v=jS r0
def aa9 (a0:jm kD) (q1:a0.l.length<=1000):GQ 133 [jm.av kD.ag a0] (Yg a0):=by
 refine wC HK ?_
 refine bC ?_
 refine lY (b:=a0.isNil) rfl (λ_=>qW rfl rfl rfl rfl) (λh1=>?_) (λh1=>?_)
 refine bh ?_
 exact xG ⟨(lD:Row kD),dY,rfl⟩
 refine aG ?_
 refine ae ?_
 have hS2:=Sep.uJ kB 4
 refine jG rfl (ux (i:=0) (l:=([]:List kD)) (enc:=kD.ag) a0.l hS2 rfl rfl rfl rfl rfl rfl rfl rfl rfl (λ_=>rfl) (.inl rfl) dJ (λ_=>rfl)) ?_
 rintro v3 H4 ⟨hS5,hNN⟩
 refine af ?_
 obtain ⟨r6,hl7,hnn,hf8⟩:=uR (H:=H4) (i:=0) (l:=(([]:List kD)++a0.l)) (enc:=kD.ag) hS5 rfl dz
 have hlq:=hl7; have hln10:=congrArg List.length hl7
 have hz9:∀ m,freeze false { H4 with iI:=[] } (m+2) v3=some (jS r6):=λm=>hf8 _ _ (λ_=>rfl)
 exact ⟨v3,(lN (vs:=[v3]) rfl (jb (Sep.arg (i:=0) hS5 rfl) kg)),jS r6,(show freeze false { H4 with iI:=[] } 8 v3=some (jS r6) by simp only [FZ,hz9]),r6,dY,rfl⟩
def Yf (_a0:jm kb) (v:AV):Prop:=∃ r0:Row kb,((r0.l = _a0.l/\(r0.c=.nil↔_a0.c=.nil)))/\v=jP r0
def aaE (a0:jm kb) (q1:a0.l.length<=1000):GQ 134 [jm.av kb.ag a0] (Yf a0):=by
 refine wC JP ?_
 refine bC ?_
 refine lY (b:=a0.isNil) rfl (λ_=>qW rfl rfl rfl rfl) (λh1=>?_) (λh1=>?_)
 refine bh ?_
 exact xG ⟨(lD:Row kb),dY,rfl⟩
 refine aG ?_
 refine ae ?_
 have hS2:=Sep.uJ kB 4
 refine jG rfl (ux (i:=0) (l:=([]:List kb)) (enc:=kb.ag) a0.l hS2 rfl rfl rfl rfl rfl rfl rfl rfl rfl (λ_=>rfl) (.inl rfl) dJ (λ_=>rfl)) ?_
 rintro v3 H4 ⟨hS5,hNN⟩
 refine af ?_
 obtain ⟨r6,hl7,hnn,hf8⟩:=uR (H:=H4) (i:=0) (l:=(([]:List kb)++a0.l)) (enc:=kb.ag) hS5 rfl dz
 have hlq:=hl7; have hln10:=congrArg List.length hl7
 have hz9:∀ m,freeze false { H4 with iI:=[] } (m+2) v3=some (jP r6):=λm=>hf8 _ _ (λ_=>rfl)
 exact ⟨v3,(lN (vs:=[v3]) rfl (jb (Sep.arg (i:=0) hS5 rfl) kg)),jP r6,(show freeze false { H4 with iI:=[] } 8 v3=some (jP r6) by simp only [FZ,hz9]),r6,dY,rfl⟩
def aee {H:aT} (a0:jm jN) (F:List jW) (hS:Sep H F) (q1:a0.l.length<=1000):∃ v H',ji cfg FT mC true 135 [jm.av jN.ag a0] { H with iI:=[] } v H'/\(∃ ov:AV,∃ ol:List jN,(ol=a0.l/\(ov=.sl [] .nil↔a0.c=.nil))/\Sep H' (nZ jN.ag 2 ov ol::F)/\v=ov):=by
 refine Lf IP ?_
 refine bC ?_
 refine lY (b:=a0.isNil) rfl (λ_=>qW rfl rfl rfl rfl) (λh1=>?_) (λh1=>?_)
 refine bh ?_
 have hS2:=Sep.mX hS 2
 have hS3:=Sep.pick hS2 [0] 1 dA dA
 exact ⟨iS,rfl,iS,([]:List jN),eY,Sep.iI hS3 _,rfl⟩
 refine aG ?_
 refine wz [jm.av jN.ag a0] H [] ?_
 refine ae ?_
 have hS4:=Sep.uJ hS 2
 refine jG rfl (ux (i:=0) (l:=([]:List jN)) (enc:=jN.ag) a0.l hS4 rfl rfl rfl rfl rfl rfl rfl rfl rfl (λ_=>rfl) (.inl rfl) dJ (λ_=>rfl)) ?_
 rintro v5 H6 ⟨hS7,hNN⟩
 refine af ?_
 have hS8:=Sep.pick hS7 [0] 1 dA dA
 exact ⟨v5,(lN (vs:=[v5]) rfl (jb (Sep.arg (i:=0) hS7 rfl) kg)),v5,(([]:List jN)++a0.l),eY,Sep.iI hS8 _,rfl⟩
def agx (_a0:bG) (v:AV):Prop:=∃ r0:bG,((Iy r0 _a0/\∀ x∈r0.lines.l,x.elems.l.length<=60))/\v=.agg (bG.ag r0)
def agt (a0:bG) (q1:lS a0):GQ 63 [.agg (bG.ag a0)] (agx a0):=by
 refine wC N8 ?_
 have q2:=q1.elems; have q3:=q1.jd; have q4:=q1.signals; have q5:=q1.lines
 refine aX ?_
 refine cD ?_
 refine rC (Yd (Row.ny a0.elems) dw) ?_
 rintro _ ⟨r2,hc1,rfl⟩
 refine aP ?_
 refine rC (aa9 (Row.ny a0.jd) dw) ?_
 rintro _ ⟨r4,hc3,rfl⟩
 refine aP ?_
 refine rC (aaE (Row.ny a0.signals) dw) ?_
 rintro _ ⟨r6,hc5,rfl⟩
 refine bw ?_
 refine ae ?_
 refine jV (H:=aT.empty) (args:=[jH a0.lines]) (p:=[]) (r:=[]) rfl rfl rfl rfl rfl rfl rfl (aee (Row.ny a0.lines) ([]) kB dw) ?_
 rintro ov11 H8 ⟨_,ol12,hc10,hS9,rfl⟩
 have hqF:ol12.length=(Row.ny a0.lines).l.length:=by rw [hc10.1]
 try simp only [Row.ny] at hqF
 have hLn:=hc10
 refine oV ?_
 refine iT rfl (λ_=>BS rfl rfl rfl (nW rfl rfl (Sep.cell (i:=0) hS9 rfl)) (jb (Sep.cell (i:=0) hS9 rfl) kg) rfl rfl) ?_
 refine oN ?_
 refine aZ ?_
 refine iT rfl (λ_=>oT (i:=0) (l:=ol12) (enc:=jN.ag) hS9 rfl rfl rfl rfl rfl rfl rfl) ?_
 refine aL ?_
 refine iW ol12.length (λlu e h=>∃ v14:AV,∃ l15:List jN,∃ H16:aT,(l15.length=a0.lines.l.length)/\(∀ x∈l15,x.elems.l.length<=60)/\(∀ (i:Nat) (h:i<(l15).length) (h2:i<a0.lines.l.length),sF (l15)[i] a0.lines.l[i])/\((v14=.sl [] .nil↔a0.lines.c=.nil))/\Sep H16 (nZ jN.ag 2 v14 l15::[])/\At [1,2,22,23] [.la 1 0,.la 2 0,iF ol12.length,iF lu] H16 [(1,[jI r2,jS r4,jP r6,v14,iv a0.top,iv a0.jT,iv a0.kq,iv a0.jX,.bool a0.kI]),(2,[iS,iS,iS,iS,iv 0,iv 0,iv 0,iv 0,iR])] e h) ?_ (k0:=0) dD ⟨ov11,ol12,H8,(by (simp_all [Row.ny])),(by (intro x hx; exact q1.line x (by simp_all [Row.ny]))),(by (rw [hLn.1]; exact λi h h2=>⟨rfl,rfl,Iff.rfl⟩)),(by exact hLn.2),hS9,atR⟩
 rintro lu e h hkk13 ⟨v14,l15,H16,hL,hE,hN,hV,hS17,hA⟩
 refine aK ?_
 refine jk (λh18=>?_) (λh18=>?_)
 refine aq ?_
 refine wz [.la 1 0,.la 2 0,iF ol12.length,iF lu] H16 [(1,[jI r2,jS r4,jP r6,v14,iv a0.top,iv a0.jT,iv a0.kq,iv a0.jX,.bool a0.kI]),(2,[iS,iS,iS,iS,iv 0,iv 0,iv 0,iv 0,iR])] ?_
 refine aF ?_
 refine aX ?_
 refine qd ?_
 refine c8 ?_
 have hx19:lu<l15.length:=by first | omega | (simp<;>omega) | (simp_all; omega)
 obtain ⟨x20,hqx20⟩:∃ x,l15[lu]=x:=⟨_,rfl⟩
 have hinx20:x20∈l15:=by rw [<- hqx20]; exact List.getElem_mem _
 have hsx20:=hE _ hinx20
 refine pC rfl rfl (nY (i:=0) (m:=lu) (cs:=jN.ag x20) hS17 rfl rfl rfl rfl rfl rfl rfl (mn hx19 hqx20)) ?_
 rintro a21 ⟨ha22,hea23⟩
 refine jh rfl rfl (λ_=>EA.Tg hea23 rfl rfl rfl ha22) ?_
 refine jh rfl rfl (λ_=>qJ (i:=0) (m:=lu) (o:=1) (r:=kr x20.elems) (cs:=jN.ag x20) hS17 rfl (mn hx19 hqx20) hea23 rfl rfl rfl) ?_
 refine rC (aio (Row.ny x20.elems) dw) ?_
 rintro _ ⟨r25,hc24,rfl⟩
 have hRN:=hc24
 have hx26:lu<l15.length:=by first | omega | (simp<;>omega) | (simp_all; omega)
 refine pC rfl rfl (nY (i:=0) (m:=lu) (cs:=jN.ag x20) hS17 rfl rfl rfl rfl rfl rfl rfl (mn hx26 hqx20)) ?_
 rintro a27 ⟨ha28,hea29⟩
 refine jh rfl rfl (λ_=>EA.Tg hea29 rfl rfl rfl ha28) ?_
 refine mF rfl rfl (wA (i:=0) (m:=lu) (o:=1) x20 (⟨x20.name,r25⟩:jN) hS17 rfl hx26 hqx20 hea29 rfl rfl rfl rfl rfl rfl) ?_
 rintro _ H30 ⟨rfl,hS31⟩
 refine rN ?_
 refine wz [.la 1 0,.la 2 0,iF ol12.length,iF lu] H30 [(1,[jI r2,jS r4,jP r6,v14,iv a0.top,iv a0.jT,iv a0.kq,iv a0.jX,.bool a0.kI]),(2,[iS,iS,iS,iS,iv 0,iv 0,iv 0,iv 0,iR])] ?_
 refine qg ?_
 refine jq ?_
 refine ab ?_
 exact ⟨by omega,v14,((l15.set lu (⟨x20.name,r25⟩:jN))),H30,(by (simp<;>omega)),(by exact GX hE (by show List.length (Row.l _)<=60; rw [hRN.1]; assumption)),(by (refine Lw (x:=?x) hN ?h1 ?h2 ?h3; (case h2=>assumption); exact ⟨rfl,hRN⟩)),(by exact hV),hS31,atR⟩
 refine ap ?_
 refine wz [.la 1 0,.la 2 0,.la 2 0] H16 [(1,[jI r2,jS r4,jP r6,v14,iv a0.top,iv a0.jT,iv a0.kq,iv a0.jX,.bool a0.kI]),(2,[iS,iS,iS,iS,iv 0,iv 0,iv 0,iv 0,iR]),(2,[iS,iS,iS,iS,iv 0,iv 0,iv 0,iv 0,iR])] ?_
 refine ao ?_
 refine iT rfl (λ_=>BS rfl rfl rfl rfl (jb rfl (jb rfl (jb rfl (jb (Sep.cell (i:=0) hS17 rfl) (jb rfl (jb rfl (jb rfl (jb rfl (jb rfl kg))))))))) rfl rfl) ?_
 refine oN ?_
 refine qr ?_
 obtain ⟨r32,hl33,hnn,hf34⟩:=uR (H:=H16) (i:=0) (l:=l15) (enc:=jN.ag) hS17 rfl dz
 have hlq:=hl33; have hln36:=congrArg List.length hl33
 have hz35:∀ m,freeze false { H16 with iI:=[(1,[jI r2,jS r4,jP r6,v14,iv a0.top,iv a0.jT,iv a0.kq,iv a0.jX,.bool a0.kI]),(2,[jI r2,jS r4,jP r6,v14,iv a0.top,iv a0.jT,iv a0.kq,iv a0.jX,.bool a0.kI])] } (m+2) v14=some (jH r32):=λm=>hf34 _ _ (λ_=>by simp only [jN.ag,jJ,uO,ug,wR,uG,wQ])
 exact ⟨.agg [jI r2,jS r4,jP r6,v14,iv a0.top,iv a0.jT,iv a0.kq,iv a0.jX,.bool a0.kI],(lN (vs:=[.agg [jI r2,jS r4,jP r6,v14,iv a0.top,iv a0.jT,iv a0.kq,iv a0.jX,.bool a0.kI]]) rfl rfl),.agg [jI r2,jS r4,jP r6,jH r32,iv a0.top,iv a0.jT,iv a0.kq,iv a0.jX,.bool a0.kI],(show freeze false { H16 with iI:=[(1,[jI r2,jS r4,jP r6,v14,iv a0.top,iv a0.jT,iv a0.kq,iv a0.jX,.bool a0.kI]),(2,[jI r2,jS r4,jP r6,v14,iv a0.top,iv a0.jT,iv a0.kq,iv a0.jX,.bool a0.kI])] } 8 (.agg [jI r2,jS r4,jP r6,v14,iv a0.top,iv a0.jT,iv a0.kq,iv a0.jX,.bool a0.kI])=some (.agg [jI r2,jS r4,jP r6,jH r32,iv a0.top,iv a0.jT,iv a0.kq,iv a0.jX,.bool a0.kI]) by simp only [FZ,hz35]),(⟨r2,r4,r6,r32,a0.top,a0.jT,a0.kq,a0.jX,a0.kI⟩:bG),(by refine ⟨⟨by assumption,by assumption,by assumption,hnn.trans hV,by simp_all,?_,rfl,rfl,rfl,rfl,rfl⟩,by simp_all⟩; simp_all),rfl⟩
def VN:js 63=some (sE cfg FT mC 63):=by rfl
def P63 (_a0:bG) (v:AV):Prop:=∃ r0:bG,(r0.elems.l = _a0.elems.l/\r0.jd.l = _a0.jd.l/\r0.signals.l = _a0.signals.l/\r0.lines.l.length = _a0.lines.l.length/\(∀ x∈r0.lines.l,x.elems.l.length<=60)/\r0 = _a0.canon)/\v=.agg (bG.ag r0)
def t63 (a0:bG) (q1:lS a0) (h:aT):∃ v,ji cfg FT js false 63 [.agg (bG.ag a0)] h v h/\P63 a0 v:=by
 obtain ⟨v,hc,r0,⟨h1,h2⟩,rfl⟩:=agt a0 q1 h
 refine ⟨_,Iu VN hc,a0.canon,⟨rfl,rfl,rfl,by simp [bG.canon,Row.canon,Row.yP],?_,rfl⟩,G4 h1⟩
 intro x hx
 simp only [bG.canon,Row.canon,Row.yP,List.mem_map] at hx
 obtain ⟨y,hy,rfl⟩:=hx
 exact q1.line y hy
end Go.Sx
