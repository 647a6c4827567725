/- Proves what some functions of the program answer, by walking through them. -/
import Derived.KernelRfl
import Derived.Test.YtpelnddplemngaaGreatHag
import Derived.Test.YtpelnddplemngaaGreatHaj
import Derived.Test.YtpelnddplemngaaGreatHal
import Derived.Test.YtpelnddplemngaaGreatHam
import Derived.Test.YtpelnddplemngaaGreatHan
import Derived.Test.YtpelnddplemngaaGreatHao
set_option linter.all false
set_option maxRecDepth 100000
set_option maxHeartbeats 0
namespace Go.Sx
open Go Go.Proofs
def P67 (_a0:iX) (_a1:iO) (_a2:Int) (_a3:Int) (v:AV):Prop:=∃ r0:Int,(((0<=r0->0<=_a2/\_a2<(_a1.runs.l.length:Int)/\0<=_a3/\∀ h : _a2.toNat < _a1.runs.l.length,_a3<((_a1.runs.l[_a2.toNat]).iY.l.length:Int))/\r0=nz false (nk _a0.p.signals.l) (λx=>look x _a0.next) (kN _a0.p) (λx=>(look x _a0.reads).getD (-1)) _a1 _a2 _a3))/\v=iv r0
def t67 (a0:iX) (a1:iO) (a2:Int) (a3:Int) :Ct 67 [.ip (iX.ag a0) 0 false,.agg (iO.ag a1),iv a2,iv a3] (P67 a0 a1 a2 a3):=by
 refine jf Nr ?_
 refine aX ?_
 refine aJ ?_
 refine oC (t65 a1 a2 a3) ?_
 rintro _ ⟨r2,r3,hc1,rfl⟩
 have hL:=hc1.1; have hLz:=hc1.2
 cases r3
 refine cI ?_
 refine bN ?_
 exact iE
 have hLt:=hL.1 rfl; have hLL:=hLt.2.2.2.1
 refine cI ?_
 refine aO ?_
 have hL4:=r2.lk
 refine jK r2 ?_
 refine jz (λh5=>?_) (λh5=>?_)
 refine ac ?_
 exact iE
 refine ah ?_
 refine wy [.ip (iX.ag a0) 0 false,iv a2,iv a3,.la 5 0,mD r2] [(5,(iO.ag a1))] ?_
 refine bD ?_
 refine oC (t137 a0 a1 a2 a3 dw dw dw dw) ?_
 rintro _ ⟨r7,r8,hc6,rfl⟩
 have hG:=hc6
 cases r8
 refine dg ?_
 iterate 12 refine oS ?_
 refine ac ?_
 exact iE
 refine cJ ?_
 refine aO ?_
 have hx9:(a3).toNat<r2.l.length:=by omega
 refine iT rfl (λ_=>jA (n:=a3) (r:=r2) (enc:=jR.ag) rfl rfl rfl rfl rfl dD hx9 rfl) ?_
 generalize hqx10:r2.l[(a3).toNat]=x10
 refine oV ?_
 refine lY (b:=x10.Al) rfl (λ_=>rfl) (λh11=>?_) (λh11=>?_)
 refine aO ?_
 refine oC (t138 a0 r7.elem) ?_
 rintro _ ⟨r13,hc12,rfl⟩
 have hK:=hc12
 refine lb (λh14=>?_) (λh14=>?_)
 refine bp ?_
 exact iE
 refine ca ?_
 refine wy [.ip (iX.ag a0) 0 false,iv a3,mD r2,.la 11 0] [(11,(iM.ag r7))] ?_
 refine aZ ?_
 have hx15:(a3).toNat<r2.l.length:=by omega
 refine iT rfl (λ_=>jA (n:=a3) (r:=r2) (enc:=jR.ag) rfl rfl rfl rfl rfl dD hx15 rfl) ?_
 rw [hqx10]
 refine oV ?_
 refine lY (b:=x10.Al) rfl (λ_=>rfl) (λh17=>?_) (λh17=>?_)
 refine bF ?_
 rintro _ ⟨r19,hc18,rfl⟩
 have hR:=hc18
 refine af ?_
 exact xB ⟨r19,dS,rfl⟩
 refine aG ?_
 refine dp ?_
 rintro _ ⟨r21,hc20,rfl⟩
 have hR:=hc20
 refine af ?_
 exact xB ⟨r21,dS,rfl⟩
 refine bQ ?_
 refine ca ?_
 refine wy [.ip (iX.ag a0) 0 false,iv a3,mD r2,.la 11 0] [(11,(iM.ag r7))] ?_
 refine aZ ?_
 have hx22:(a3).toNat<r2.l.length:=by omega
 refine iT rfl (λ_=>jA (n:=a3) (r:=r2) (enc:=jR.ag) rfl rfl rfl rfl rfl dD hx22 rfl) ?_
 rw [hqx10]
 refine oV ?_
 refine lY (b:=x10.Al) rfl (λ_=>rfl) (λh24=>?_) (λh24=>?_)
 refine bF ?_
 rintro _ ⟨r26,hc25,rfl⟩
 have hR:=hc25
 refine af ?_
 exact xB ⟨r26,dS,rfl⟩
 refine aG ?_
 refine dp ?_
 rintro _ ⟨r28,hc27,rfl⟩
 have hR:=hc27
 refine af ?_
 exact xB ⟨r28,dS,rfl⟩
def P68 (_a0:ja) (_a1:jR) (v:AV):Prop:=∃ r0:Bool,(r0=xw _a0 _a1)/\v=.bool r0
def t68 (a0:ja) (a1:jR) :Ct 68 [.agg (ja.ag a0),.agg (jR.ag a1)] (P68 a0 a1):=by
 refine jf LZ ?_
 refine ae ?_
 refine aA ?_
 refine bD ?_
 refine lb (λh1=>?_) (λh1=>?_)
 refine bl ?_
 refine ac ?_
 exact iG
 refine aH ?_
 have hL2:=a0.steps.lk
 refine jK a0.steps ?_
 refine jz (λh3=>?_) (λh3=>?_)
 refine ac ?_
 exact iG
 refine ah ?_
 refine wy [.la 2 0,.la 3 0] [(2,(ja.ag a0)),(3,(jR.ag a1))] ?_
 refine aZ ?_
 refine jz (λh4=>?_) (λh4=>?_)
 refine aC ?_
 refine bD ?_
 refine jz (λh5=>?_) (λh5=>?_)
 refine af ?_
 exact xB ⟨true,dE,rfl⟩
 refine af ?_
 exact iG
 refine aG ?_
 refine wy [.la 2 0,.la 3 0] [(2,(ja.ag a0)),(3,(jR.ag a1))] ?_
 refine aV ?_
 refine bT ?_
 have hL6:=a0.steps.lk
 refine LB a0.steps ?_
 have hL7:=a0.steps.lk
 refine WG ?_
 have hx8:((a0.steps.l.length:Int) - 1).toNat<a0.steps.l.length:=by omega
 refine jh rfl rfl (λ_=>jA (n:=(a0.steps.l.length:Int) - 1) (r:=a0.steps) (enc:=jg.ag) rfl rfl rfl rfl rfl dD hx8 rfl) ?_
 generalize hqx9:a0.steps.l[((a0.steps.l.length:Int) - 1).toNat]=x9
 refine bT ?_
 refine Cx (λh10=>?_) (λh10=>?_)
 refine aR ?_
 refine qr ?_
 exact xB ⟨true,dE,rfl⟩
 refine aR ?_
 refine qr ?_
 exact iG
def P31 (_a0:iX) (_a1:Int) (v:AV):Prop:=∃ r0:Int,(r0=nV _a0.p _a1)/\v=iv r0
def t31 (a0:iX) (a1:Int) :Ct 31 [.ip (iX.ag a0) 0 false,iv a1] (P31 a0 a1):=by
 refine jf Od ?_
 refine cC ?_
 refine oC (t64 a0 a1) ?_
 rintro _ ⟨r2,hc1,rfl⟩
 obtain ⟨hEk,hEl⟩:=hc1
 refine a8 ?_
 exact xB ⟨r2.len,dv,rfl⟩
def P70 (_a0:iX) (_a1:jr) (_a2:Int) (v:AV):Prop:=∃ r0:Bool,(r0=tL _a0.p _a1 _a2)/\v=.bool r0
def t70 (a0:iX) (a1:jr) (a2:Int) (q1:lS a0.p):Ct 70 [.ip (iX.ag a0) 0 false,.agg (jr.ag a1),iv a2] (P70 a0 a1 a2):=by
 refine jf LY ?_
 refine aX ?_
 refine aZ ?_
 refine oC (t138 a0 a2) ?_
 rintro _ ⟨r2,hc1,rfl⟩
 have hK:=hc1
 refine cN ?_
 refine jz (λh3=>?_) (λh3=>?_)
 refine ac ?_
 exact xB ⟨true,eF,rfl⟩
 refine bf ?_
 refine jz (λh4=>?_) (λh4=>?_)
 refine bc ?_
 refine cD ?_
 refine rC (t31 a0 a2) ?_
 rintro _ ⟨r6,hc5,rfl⟩
 have hLen:=hc5
 refine bB ?_
 refine rC (t73 a0 dw) ?_
 rintro _ ⟨r8,hc7,rfl⟩
 have hPl:=hc7.2.2.2.2.2
 refine rV ?_
 refine jh rfl rfl (λ_=>j9 rfl rfl rfl (mu .i64 a1.len r8.kq)) ?_
 refine vQ (λh9=>?_) (λh9=>?_)
 refine aR ?_
 refine qr ?_
 exact xB ⟨true,eF,rfl⟩
 refine aR ?_
 refine qr ?_
 exact xB ⟨false,eF,rfl⟩
 refine ah ?_
 refine aI ?_
 exact xB ⟨false,eF,rfl⟩
def aiI (_a0:iX) (_a1:Row ja) (_a2:iO) (_a3:Int) (_a4:Int) (v:AV):Prop:=∃ r0:Row Int,((r0.l.length<=_a1.l.length/\(∀ x∈r0.l,0<=x/\x<(_a1.l.length:Int))/\r0.l=lC _a0.p _a1.l _a2 _a3 _a4))/\v=kr r0
def ait (a0:iX) (a1:Row ja) (a2:iO) (a3:Int) (a4:Int) (q1:lS a0.p) (q2:a1.l.length<=64) (qn:vL a0):Ct 34 [.ip (iX.ag a0) 0 false,ju a1,.agg (iO.ag a2),iv a3,iv a4] (aiI a0 a1 a2 a3 a4):=by
 refine jf M4 ?_
 refine aX ?_
 refine aV ?_
 refine bT ?_
 refine rC (t67 a0 a2 a3 a4) ?_
 rintro _ ⟨r2,hc1,rfl⟩
 have hFd:=hc1.1
 have hFr:=hc1.2; rw [qn.from_] at hFr
 refine bT ?_
 refine rC (t32 a0 a2 a3 a4) ?_
 rintro _ ⟨r4,hc3,rfl⟩
 have hStn:=hc3
 refine rV ?_
 refine aR ?_
 refine qs ?_
 refine cZ ?_
 refine qY (λh5=>?_) (λh5=>?_)
 refine dk ?_
 refine rS ?_
 refine b8 ?_
 iterate 4 refine rS ?_
 refine bz ?_
 refine aI ?_
 exact iq
 refine bT ?_
 have hx6:(a3).toNat<a2.runs.l.length:=by omega
 refine jh rfl rfl (λ_=>jA (n:=a3) (r:=a2.runs) (enc:=jC.ag) rfl rfl rfl rfl rfl dD hx6 rfl) ?_
 generalize hqx7:a2.runs.l[(a3).toNat]=x7
 have hinx7:x7∈a2.runs.l:=by rw [<- hqx7]; exact List.getElem_mem _
 have hlx7:=(hFd dD).2.2.2 dv; rw [hqx7] at hlx7
 refine aP ?_
 refine qY (λh8=>?_) (λh8=>?_)
 refine b8 ?_
 iterate 4 refine rS ?_
 refine bz ?_
 refine aI ?_
 exact iq
 refine co ?_
 have hx9:(a3).toNat<a2.runs.l.length:=by omega
 refine jh rfl rfl (λ_=>jA (n:=a3) (r:=a2.runs) (enc:=jC.ag) rfl rfl rfl rfl rfl dD hx9 rfl) ?_
 rw [hqx7]
 refine bT ?_
 have hL11:=a2.iU.lk
 refine LB a2.iU ?_
 refine vQ (λh12=>?_) (λh12=>?_)
 refine bz ?_
 refine aI ?_
 exact iq
 refine bo ?_
 refine wy [.ip (iX.ag a0) 0 false,ju a1,iv a3,iv a4,.la 7 0,iv r2,iv r4] [(7,(iO.ag a2))] ?_
 refine dt ?_
 have hx13:(a3).toNat<a2.runs.l.length:=by omega
 refine jh rfl rfl (λ_=>jA (n:=a3) (r:=a2.runs) (enc:=jC.ag) rfl rfl rfl rfl rfl dD hx13 rfl) ?_
 rw [hqx7]
 refine aP ?_
 have hx15:(x7.iU).toNat<a2.iU.l.length:=by omega
 refine jh rfl rfl (λ_=>jA (n:=x7.iU) (r:=a2.iU) (enc:=jr.ag) rfl rfl rfl rfl rfl dD hx15 rfl) ?_
 generalize hqx16:a2.iU.l[(x7.iU).toNat]=x16
 refine aP ?_
 refine aR ?_
 refine bC ?_
 have hL17:=a1.lk
 refine jK a1 ?_
 refine aL ?_
 have hS18:=Sep.mX kB 1
 have hNk19:=a1.lk
 refine iW a1.l.length (λlr e h=>∃ v20:AV,∃ l21:List Int,∃ H22:aT,(l21.length<=0+lr)/\(∀ x∈(l21:List Int),0<=x/\x<(a1.l.length:Int))/\(l21=pR (o1 a0.p a2 a3 a4) 0 (a1.l.take lr))/\Sep H22 (qo v20 l21::[])/\At [0,3,4,7,11,12,13,14,60,61,62] [.ip (iX.ag a0) 0 false,iv a3,iv a4,.la 7 0,iv r2,iv r4,.la 13 0,v20,ju a1,iF a1.l.length,iF lr] H22 [(7,(iO.ag a2)),(13,(jr.ag x16))] e h) ?_ (k0:=0) dD ⟨iS,(([]:List Int)),aT.empty,ew,fg,fT,hS18,atR⟩
 rintro lr e h hkk19 ⟨v20,l21,H22,hl24,hRi,hX,hS23,hA⟩
 refine aK ?_
 refine jk (λh25=>?_) (λh25=>?_)
 refine aq ?_
 refine wz [.ip (iX.ag a0) 0 false,iv a3,iv a4,.la 7 0,iv r2,iv r4,.la 13 0,v20,ju a1,iF a1.l.length,iF lr] H22 [(7,(iO.ag a2)),(13,(jr.ag x16))] ?_ (jD hS23 [(14,0)])
 refine bE ?_
 have hx26:lr<a1.l.length:=by omega
 refine kQ lr a1 hx26 ?_
 generalize hqx27:a1.l[lr]=x27
 refine bW ?_
 refine cE ?_
 refine Cx (λh28=>?_) (λh28=>?_)
 refine co ?_
 have hx29:(a3).toNat<a2.runs.l.length:=by omega
 refine jh rfl rfl (λ_=>jA (n:=a3) (r:=a2.runs) (enc:=jC.ag) rfl rfl rfl rfl rfl dD hx29 rfl) ?_
 rw [hqx7]
 refine bB ?_
 have hx31:(a4).toNat<x7.iY.l.length:=by omega
 refine jh rfl rfl (λ_=>jA (n:=a4) (r:=x7.iY) (enc:=jR.ag) rfl rfl rfl rfl rfl dD hx31 rfl) ?_
 generalize hqx32:x7.iY.l[(a4).toNat]=x32
 refine rV ?_
 refine rC (t68 x27 x32) ?_
 rintro _ ⟨r34,hc33,rfl⟩
 have hEn:=hc33
 cases r34
 refine aP ?_
 iterate 3 refine rS ?_
 refine aP ?_
 refine c3 ?_
 refine bo ?_
 refine wz [.ip (iX.ag a0) 0 false,iv a3,iv a4,.la 7 0,iv r2,iv r4,.la 13 0,v20,ju a1,iF a1.l.length,iF lr] H22 [(7,(iO.ag a2)),(13,(jr.ag x16))] ?_ (jD hS23 [(14,0)])
 refine qg ?_
 refine jq ?_
 refine ab ?_
 exact ir
 have hEp:=Kn hEn
 refine bB ?_
 refine Mb (b:=x27.bare) rfl rfl (λ_=>rfl) (λh35=>?_) (λh35=>?_)
 refine bB ?_
 refine c3 ?_
 refine bo ?_
 refine wz [.ip (iX.ag a0) 0 false,iv a3,iv a4,.la 7 0,iv r2,iv r4,.la 13 0,v20,ju a1,iF a1.l.length,iF lr] H22 [(7,(iO.ag a2)),(13,(jr.ag x16))] ?_ (jD hS23 [(14,0)])
 refine qg ?_
 refine jq ?_
 refine ab ?_
 exact ir
 refine c8 ?_
 refine rC (t69 (Row.ny x27.mB) r4) ?_
 rintro _ ⟨r37,hc36,rfl⟩
 have hIn:=hc36
 cases r37
 iterate 9 refine rV ?_
 have hL38:=x27.steps.lk
 refine LB x27.steps ?_
 have hL39:=x27.steps.lk
 refine WG ?_
 have hx40:((x27.steps.l.length:Int) - 1).toNat<x27.steps.l.length:=by omega
 refine jh rfl rfl (λ_=>jA (n:=(x27.steps.l.length:Int) - 1) (r:=x27.steps) (enc:=jg.ag) rfl rfl rfl rfl rfl dD hx40 rfl) ?_
 generalize hqx41:x27.steps.l[((x27.steps.l.length:Int) - 1).toNat]=x41
 refine aP ?_
 refine rC (t70 a0 x16 x41.elem dw) ?_
 rintro _ ⟨r43,hc42,rfl⟩
 have hFt:=hc42
 cases r43
 refine bo ?_
 refine wz [.ip (iX.ag a0) 0 false,iv a3,iv a4,.la 7 0,iv r2,iv r4,.la 13 0,v20,ju a1,iF a1.l.length,iF lr] H22 [(7,(iO.ag a2)),(13,(jr.ag x16))] ?_ (jD hS23 [(14,0)])
 refine qg ?_
 refine jq ?_
 refine ab ?_
 exact ir
 refine bz ?_
 refine bv ?_
 refine Gx 0 [((lr:Int))] hS23 λv44 H45 hS46=>?_
 refine ab ?_
 refine wz [.ip (iX.ag a0) 0 false,iv a3,iv a4,.la 7 0,iv r2,iv r4,.la 13 0,v44,ju a1,iF a1.l.length,iF lr] H45 [(7,(iO.ag a2)),(13,(jr.ag x16))] ?_ (jD hS46 [(14,0)])
 refine qg ?_
 refine jq ?_
 refine ab ?_
 exact ⟨by omega,v44,((l21++[((lr:Int))])),H45,dB,eT,dV,hS46,(jD hS46 [(14,0)])⟩
 refine bB ?_
 iterate 12 refine rS ?_
 refine bo ?_
 refine wz [.ip (iX.ag a0) 0 false,iv a3,iv a4,.la 7 0,iv r2,iv r4,.la 13 0,v20,ju a1,iF a1.l.length,iF lr] H22 [(7,(iO.ag a2)),(13,(jr.ag x16))] ?_ (jD hS23 [(14,0)])
 refine qg ?_
 refine jq ?_
 refine ab ?_
 exact ir
 refine dk ?_
 iterate 5 refine rS ?_
 refine aP ?_
 iterate 3 refine rS ?_
 refine aP ?_
 refine c3 ?_
 refine bo ?_
 refine wz [.ip (iX.ag a0) 0 false,iv a3,iv a4,.la 7 0,iv r2,iv r4,.la 13 0,v20,ju a1,iF a1.l.length,iF lr] H22 [(7,(iO.ag a2)),(13,(jr.ag x16))] ?_ (jD hS23 [(14,0)])
 refine qg ?_
 refine jq ?_
 refine ab ?_
 exact ir
 refine ap ?_
 refine wz [v20] H22 [] ?_ (jD hS23 [(14,0)])
 refine bJ ?_
 obtain ⟨r47,hl48,hf49⟩:=mE (H:=H22) (i:=0) (l:=l21) (enc:=j4) hS23 rfl dz
 have hlq:=hl48; have hln51:=congrArg List.length hl48
 have hz50:∀ m,freeze false { H22 with iI:=[] } (m+2) v20=some (kr r47):=λm=>hf49 _ _ (λ_=>rfl)
 exact ⟨v20,(lN (vs:=[v20]) rfl (jb (Sep.arg (i:=0) hS23 rfl) kg)),kr r47,(show freeze false { H22 with iI:=[] } 8 v20=some (kr r47) by simp only [FZ,hz50]),r47,ey,rfl⟩
def P34 (_a0:iX) (_a1:Row ja) (_a2:iO) (_a3:Int) (_a4:Int) (v:AV):Prop:=∃ r0:Row Int,(((r0.l.length<=_a1.l.length/\(∀ x∈r0.l,0<=x/\x<(_a1.l.length:Int))/\r0.l=lC _a0.p _a1.l _a2 _a3 _a4))/\rs 34 [.ip (iX.ag _a0) 0 false,ju _a1,.agg (iO.ag _a2),iv _a3,iv _a4]=kr r0)/\v=kr r0
def t34 (a0:iX) (a1:Row ja) (a2:iO) (a3:Int) (a4:Int) (q1:lS a0.p) (q2:a1.l.length<=64) (qn:vL a0) (h:aT):∃ v,ji cfg FT js false 34 [.ip (iX.ag a0) 0 false,ju a1,.agg (iO.ag a2),iv a3,iv a4] h v h/\P34 a0 a1 a2 a3 a4 v:=by
 obtain ⟨v,hc,hP,hr⟩:=nX rD (ait a0 a1 a2 a3 a4 q1 q2 qn) h
 obtain ⟨r0,hp,rfl⟩:=hP
 exact gv
def u59 {H:aT} (x:kb) (F:List jW) (hS:Sep H F) :∃ v H',ji cfg FT js true 59 [.agg (kb.ag x)] { H with iI:=[] } v H'/\(∃ r0:Bool,(((r0=true->x.auto=true)/\(r0=false->x.auto=false)))/\Sep H' (F)/\v=.bool r0):=by
 refine kh My ?_
 refine ao ?_
 refine cV ?_
 refine lY (b:=x.auto) rfl (λ_=>rfl) (λh1=>?_) (λh1=>?_)
 refine af ?_
 have hS2:=Sep.pick hS [] 0 dA dA
 exact gx
 refine af ?_
 have hS3:=Sep.pick hS [] 0 dA dA
 exact gy
def Ue {H:aT} (l:jm kb) (F:List jW) (hS:Sep H F) :∃ v H',ji cfg FT js true 113 [jm.av kb.ag l,.jQ 59 [] []] { H with iI:=[] } v H'/\(∃ r0:Int,(((0<=r0->∃ x∈l.l,x.auto=true)/\(r0<0->∀ x∈l.l,x.auto=false)))/\Sep H' (F)/\v=iv r0):=by
 refine kh IG ?_
 refine bC ?_
 have hL1:=l.lk
 refine iT rfl (λ_=>oH (r:=l) (enc:=kb.ag) rfl rfl rfl rfl rfl rfl) ?_
 refine aL ?_
 have hNk2:=l.lk
 refine iW l.l.length (λk2 e h=>∃ H3:aT,(∀ (i:Nat) (h:i<l.l.length),i<k2->(l.l[i]).auto=false)/\Sep H3 (F)/\At [0,1,7,8] [jm.av kb.ag l,.jQ 59 [] [],iF l.l.length,iF k2] H3 [] e h) ?_ (k0:=0) dD ⟨H,eA,hS,atR⟩
 rintro k2 e h hkk2 ⟨H3,hP,hS4,hA⟩
 refine aK ?_
 refine jk (λh5=>?_) (λh5=>?_)
 refine aq ?_
 refine wz [jm.av kb.ag l,.jQ 59 [] [],iF l.l.length,iF k2] H3 [] ?_
 refine aF ?_
 refine aX ?_
 refine aJ ?_
 have hx6:k2<l.l.length:=by omega
 refine iT rfl (λ_=>nQ (n:=k2) (r:=l) (enc:=kb.ag) rfl rfl rfl rfl rfl hx6 rfl) ?_
 generalize hqx7:l.l[k2]=x7
 have hinx7:x7∈l.l:=by rw [<- hqx7]; exact List.getElem_mem _
 have hmx7:=True.intro
 refine oV ?_
 refine jV (H:=H3) (args:=[.agg (kb.ag x7)]) (p:=[]) (r:=[]) rfl rfl rfl rfl rfl rfl rfl (u59 x7 F hS4) ?_
 rintro _ H9 ⟨r12,hc11,hS10,rfl⟩
 have hB:=hc11
 cases r12
 refine aG ?_
 refine wz [jm.av kb.ag l,.jQ 59 [] [],iF l.l.length,iF k2] H9 [] ?_
 refine qg ?_
 refine jq ?_
 refine ab ?_
 exact ⟨by omega,H9,(by exact ml (P:=λx:kb=>x.auto=false) dv hP (hB.2 rfl)),hS10,atR⟩
 refine aN ?_
 have hS13:Sep H9 (F):=Sep.pick hS10 [] 0 dA dA
 exact gq
 refine ap ?_
 refine wz [] H3 [] ?_
 refine aI ?_
 have hS14:Sep H3 (F):=Sep.pick hS4 [] 0 dA dA
 exact gr
def WS {H:aT} (l:jm kb) (F:List jW) (hS:Sep H F) :∃ v H',ji cfg FT js true 58 [jm.av kb.ag l,.jQ 59 [] []] { H with iI:=[] } v H'/\(∃ r0:Bool,(((r0=true->∃ x∈l.l,x.auto=true)/\(r0=false->∀ x∈l.l,x.auto=false)))/\Sep H' (F)/\v=.bool r0):=by
 refine kh NJ ?_
 refine cC ?_
 refine jV (H:=H) (args:=[jm.av kb.ag l,.jQ 59 [] []]) (p:=[]) (r:=[]) rfl rfl rfl rfl rfl rfl rfl (Ue l F hS) ?_
 rintro _ H2 ⟨r5,hc4,hS3,rfl⟩
 have hIx:=hc4
 refine lP (λh6=>?_) (λh6=>?_)
 refine af ?_
 have hS7:=Sep.pick hS3 [] 0 dA dA
 exact gt
 refine af ?_
 have hS8:=Sep.pick hS3 [] 0 dA dA
 exact gu
def ahd {H:aT} (x:jC) (F:List jW) (hS:Sep H F) :∃ v H',ji cfg FT js true 115 [.agg (jC.ag x)] { H with iI:=[] } v H'/\(∃ r0:Bool,(((r0=true->12<x.iY.l.length)/\(r0=false->x.iY.l.length<=12)))/\Sep H' (F)/\v=.bool r0):=by
 refine kh HN ?_
 refine aX ?_
 refine ae ?_
 have hL1:=x.iY.lk
 refine jK x.iY ?_
 refine kn (λh2=>?_) (λh2=>?_)
 refine af ?_
 have hS3:=Sep.pick hS [] 0 dA dA
 exact ⟨.bool true,rfl,true,eb,Sep.iI hS3 _,rfl⟩
 refine af ?_
 have hS4:=Sep.pick hS [] 0 dA dA
 exact ⟨.bool false,rfl,false,eb,Sep.iI hS4 _,rfl⟩
def ag1 (_a0:Int) (_a1:Int) (v:AV):Prop:=∃ r0:Bool,(((r0=true->0<=_a0/\_a0<=_a1)/\(r0=false->¬(0<=_a0/\_a0<=_a1))))/\v=.bool r0
def t117 (a0:Int) (a1:Int) :Ct 117 [iv a0,iv a1] (ag1 a0 a1):=by
 refine jf HC ?_
 refine aa ?_
 refine cV ?_
 refine lP (λh1=>?_) (λh1=>?_)
 refine aH ?_
 refine sj (λh2=>?_) (λh2=>?_)
 refine a8 ?_
 exact xB ⟨true,fq,rfl⟩
 refine a8 ?_
 exact xB ⟨false,fq,rfl⟩
 refine bO ?_
 refine a8 ?_
 exact xB ⟨false,fq,rfl⟩
def aeY (_a0:bG) (_a1:Int) (v:AV):Prop:=∃ r0:Int,(r0=kN _a0 _a1)/\v=iv r0
def t287 (a0:bG) (a1:Int) :Ct 287 [.agg (bG.ag a0),iv a1] (aeY a0 a1):=by
 refine jf IA ?_
 refine aX ?_
 refine bM ?_
 have hL1:=a0.elems.lk
 refine jK a0.elems ?_
 have hL2:=a0.elems.lk
 refine nI ?_
 refine oC (t117 a1 ((a0.elems.l.length:Int) - 1)) ?_
 rintro _ ⟨r4,hc3,rfl⟩
 have hI:=hc3
 cases r4
 refine ac ?_
 exact xB ⟨0,fM,rfl⟩
 have hIn:=hI.1 rfl
 refine ah ?_
 refine aJ ?_
 have hx5:(a1).toNat<a0.elems.l.length:=by omega
 refine iT rfl (λ_=>jA (n:=a1) (r:=a0.elems) (enc:=ko.ag) rfl rfl rfl rfl rfl dD hx5 rfl) ?_
 generalize hqx6:a0.elems.l[(a1).toNat]=x6
 refine bU ?_
 exact xB ⟨x6.kind,fM,rfl⟩
def ahO (_a0:bG) (_a1:jR) (v:AV):Prop:=∃ r0:Bool,(((r0=true->zG _a0 _a1)/\(r0=false->¬ zG _a0 _a1)))/\v=.bool r0
def t216 (a0:bG) (a1:jR) :Ct 216 [.agg (bG.ag a0),.agg (jR.ag a1)] (ahO a0 a1):=by
 refine jf JK ?_
 refine cg ?_
 refine aZ ?_
 refine cN ?_
 refine jz (λh1=>?_) (λh1=>?_)
 refine bc ?_
 refine bD ?_
 have hL2:=a0.signals.lk
 refine jK a0.signals ?_
 have hL3:=a0.signals.lk
 refine nI ?_
 refine oC (t117 a1.to ((a0.signals.l.length:Int) - 1)) ?_
 rintro _ ⟨r5,hc4,rfl⟩
 have hI:=hc4
 cases r5
 refine af ?_
 exact gV
 have hIn:=hI.1 rfl
 refine af ?_
 exact xB ⟨true,d6,rfl⟩
 refine bf ?_
 refine jz (λh6=>?_) (λh6=>?_)
 refine bc ?_
 refine aJ ?_
 refine oC (t287 a0 a1.to) ?_
 rintro _ ⟨r8,hc7,rfl⟩
 have hKd:=hc7
 refine jz (λh9=>?_) (λh9=>?_)
 refine af ?_
 exact xB ⟨true,d6,rfl⟩
 refine af ?_
 exact gV
 refine bf ?_
 refine jz (λh10=>?_) (λh10=>?_)
 refine bc ?_
 refine aJ ?_
 refine oC (t287 a0 a1.to) ?_
 rintro _ ⟨r12,hc11,rfl⟩
 have hKd:=hc11
 refine jz (λh13=>?_) (λh13=>?_)
 refine af ?_
 exact xB ⟨true,d6,rfl⟩
 refine af ?_
 exact gV
 refine ah ?_
 refine aI ?_
 exact gV
def aiq (_a0:bG) (_a1:iO) (_a2:jC) (v:AV):Prop:=∃ r0:Bool,(((r0=true->(rs 215 [.str _a2.name.l]=.bool true/\0<=_a2.iU/\_a2.iU<(_a1.iU.l.length:Int)/\0<=_a2.from_/\_a2.from_<(_a0.signals.l.length:Int)))/\(r0=false->¬ xj _a0 _a1 _a2)))/\v=.bool r0
def t119 (a0:bG) (a1:iO) (a2:jC) :Ct 119 [.agg (bG.ag a0),.agg (iO.ag a1),.agg (jC.ag a2)] (aiq a0 a1 a2):=by
 refine jf Ja ?_
 refine aa ?_
 refine bW ?_
 refine aZ ?_
 refine oC (t215 a2.name) ?_
 rintro _ ⟨r2,⟨hc1,hc1r⟩,rfl⟩
 have hNw:=hc1
 cases r2
 refine aw ?_
 refine cz ?_
 refine aw ?_
 refine cz ?_
 refine bN ?_
 exact gw
 refine cM ?_
 have hL3:=a1.iU.lk
 refine jK a1.iU ?_
 have hL4:=a1.iU.lk
 refine nI ?_
 refine oC (t117 a2.iU ((a1.iU.l.length:Int) - 1)) ?_
 rintro _ ⟨r6,hc5,rfl⟩
 have hI:=hc5
 cases r6
 refine aH ?_
 refine cz ?_
 refine bN ?_
 exact gw
 have hIn:=hI.1 rfl
 iterate 7 refine oV ?_
 have hL7:=a0.signals.lk
 refine jK a0.signals ?_
 have hL8:=a0.signals.lk
 refine nI ?_
 refine oC (t117 a2.from_ ((a0.signals.l.length:Int) - 1)) ?_
 rintro _ ⟨r10,hc9,rfl⟩
 have hI:=hc9
 cases r10
 refine oV ?_
 refine bN ?_
 exact gw
 have hIn:=hI.1 rfl
 refine bR ?_
 refine oC (t117 a2.left 4000) ?_
 rintro _ ⟨r12,hc11,rfl⟩
 have hI:=hc11
 cases r12
 refine bp ?_
 exact gw
 have hIn:=hI.1 rfl
 refine ca ?_
 refine wy [.la 3 0,.la 5 0] [(3,(bG.ag a0)),(5,(jC.ag a2))] ?_
 refine br ?_
 refine aZ ?_
 have hL13:=a2.iY.lk
 refine jK a2.iY ?_
 refine aL ?_
 have hNk14:=a2.iY.lk
 refine iW a2.iY.l.length (λkz e h=>∃ n15:Int,(n15=AU a2.iY.l kz)/\At [3,7,41,42,43] [.la 3 0,iv n15,mD a2.iY,iF a2.iY.l.length,iF kz] aT.empty [(3,(bG.ag a0))] e h) ?_ (k0:=0) dD ⟨0,fT,atR⟩
 rintro kz e h hkk14 ⟨n15,hAt,hA⟩
 refine aK ?_
 refine jk (λh16=>?_) (λh16=>?_)
 refine aq ?_
 refine wy [.la 3 0,iv n15,mD a2.iY,iF a2.iY.l.length,iF kz] [(3,(bG.ag a0))] ?_
 refine bg ?_
 have hx17:kz<a2.iY.l.length:=by omega
 refine kQ kz a2.iY hx17 ?_
 generalize hqx18:a2.iY.l[kz]=x18
 refine bd ?_
 refine aZ ?_
 refine oC (t117 x18.at_ 2000) ?_
 rintro _ ⟨r20,hc19,rfl⟩
 have hI:=hc19
 cases r20
 refine aU ?_
 refine bN ?_
 exact gw
 have hIn:=hI.1 rfl
 refine bR ?_
 refine jk (λh21=>?_) (λh21=>?_)
 refine bN ?_
 exact gw
 refine aO ?_
 refine oC (t216 a0 x18) ?_
 rintro _ ⟨r23,hc22,rfl⟩
 have hLea:=hc22
 cases r23
 refine bp ?_
 exact gw
 refine ca ?_
 refine wy [.la 3 0,.la 9 0,mD a2.iY,iF a2.iY.l.length,iF kz] [(3,(bG.ag a0)),(9,(jR.ag x18))] ?_
 refine qg ?_
 refine bd ?_
 refine wy [.la 3 0,iv x18.at_,mD a2.iY,iF a2.iY.l.length,iF kz] [(3,(bG.ag a0))] ?_
 refine qg ?_
 refine jq ?_
 refine ab ?_
 exact ⟨by omega,x18.at_,ge,atR⟩
 refine ap ?_
 refine dm ?_
 exact xB ⟨true,dF,rfl⟩
def ah8 {H:aT} (b:Nat) (pp:bG) (b2:Nat) (dd:iO) (x:jC) (F:List jW) (hS:Sep H (j7 b (bG.ag pp)::j7 b2 (iO.ag dd)::F)) :∃ v H',ji cfg FT js true 118 [.agg (jC.ag x),(je b),(je b2)] { H with iI:=[] } v H'/\(∃ r0:Bool,(((r0=true->¬ xj pp dd x)/\(r0=false->(rs 215 [.str x.name.l]=.bool true/\0<=x.iU/\x.iU<(dd.iU.l.length:Int)/\0<=x.from_/\x.from_<(pp.signals.l.length:Int)))))/\Sep H' (j7 b (bG.ag pp)::j7 b2 (iO.ag dd)::F)/\v=.bool r0):=by
 refine kh Ip ?_
 refine ao ?_
 refine aW ?_
 refine lU 0 hS (.agg (bG.ag pp)) ?_
 refine lU 1 hS (.agg (iO.ag dd)) ?_
 refine oV ?_
 refine oC (t119 pp dd x) ?_
 rintro _ ⟨r2,hc1,rfl⟩
 have hMay:=hc1
 cases r2
 refine a8 ?_
 have hS3:=Sep.pick hS [0,1] 2 dA dA
 exact ⟨.bool true,rfl,true,fD,Sep.iI hS3 _,rfl⟩
 refine a8 ?_
 have hS4:=Sep.pick hS [0,1] 2 dA dA
 exact ⟨.bool false,rfl,false,fD,Sep.iI hS4 _,rfl⟩
def agQ {H:aT} (b:Nat) (rr:jC) (x:jC) (F:List jW) (hS:Sep H (j7 b (jC.ag rr)::F)) :∃ v H',ji cfg FT js true 120 [.agg (jC.ag x),(je b)] { H with iI:=[] } v H'/\(∃ r0:Bool,(((r0=true->x.name.l=rr.name.l)/\(r0=false->¬ x.name.l=rr.name.l)))/\Sep H' (j7 b (jC.ag rr)::F)/\v=.bool r0):=by
 refine kh II ?_
 refine aX ?_
 refine ae ?_
 refine nh 0 hS ?_
 refine lU 0 hS (.str rr.name.l) ?_
 refine om rfl (λ_=>uh rfl rfl) (λh1=>?_) (λh1=>?_)
 refine af ?_
 have hS2:Sep H (j7 b (jC.ag rr)::F):=Sep.pick hS [0] 1 dA dA
 exact gx
 refine af ?_
 have hS3:Sep H (j7 b (jC.ag rr)::F):=Sep.pick hS [0] 1 dA dA
 exact gy
def N2 {H:aT} (l:jm jC) (F:List jW) (hS:Sep H F) :∃ v H',ji cfg FT js true 211 [jm.av jC.ag l,.jQ 115 [] []] { H with iI:=[] } v H'/\(∃ r0:Int,(((0<=r0->∃ x∈l.l,12<x.iY.l.length)/\(r0<0->∀ x∈l.l,x.iY.l.length<=12)))/\Sep H' (F)/\v=iv r0):=by
 refine kh A2 ?_
 refine bC ?_
 have hL1:=l.lk
 refine cu ?_
 have hNk2:=l.lk
 refine iW l.l.length (λk2 e h=>∃ H3:aT,(∀ (i:Nat) (h:i<l.l.length),i<k2->(l.l[i]).iY.l.length<=12)/\Sep H3 (F)/\At [0,1,7,8] [jm.av jC.ag l,.jQ 115 [] [],iF l.l.length,iF k2] H3 [] e h) ?_ (k0:=0) dD ⟨H,eA,hS,atR⟩
 rintro k2 e h hkk2 ⟨H3,hP,hS4,hA⟩
 refine aK ?_
 refine jk (λh5=>?_) (λh5=>?_)
 refine bP ?_
 refine aJ ?_
 have hx6:k2<l.l.length:=by omega
 refine iT rfl (λ_=>nQ (n:=k2) (r:=l) (enc:=jC.ag) rfl rfl rfl rfl rfl hx6 rfl) ?_
 generalize hqx7:l.l[k2]=x7
 have hinx7:x7∈l.l:=by rw [<- hqx7]; exact List.getElem_mem _
 have hmx7:=True.intro
 refine oV ?_
 refine jV (H:=H3) (args:=[.agg (jC.ag x7)]) (p:=[]) (r:=[]) rfl rfl rfl rfl rfl rfl rfl (ahd x7 F hS4) ?_
 rintro _ H9 ⟨r12,hc11,hS10,rfl⟩
 have hB:=hc11
 cases r12
 refine bZ ?_
 refine jq ?_
 refine ab ?_
 exact ⟨by omega,H9,(by exact ml (P:=λx:jC=>x.iY.l.length<=12) dv hP (hB.2 rfl)),hS10,atR⟩
 refine aN ?_
 have hS13:=Sep.pick hS10 [] 0 dA dA
 exact gq
 refine cy ?_
 have hS14:=Sep.pick hS4 [] 0 dA dA
 exact gr
def NA {H:aT} (l:jm jC) (b:Nat) (pp:bG) (b2:Nat) (dd:iO) (F:List jW) (hS:Sep H (j7 b (bG.ag pp)::j7 b2 (iO.ag dd)::F)) :∃ v H',ji cfg FT js true 211 [jm.av jC.ag l,.jQ 118 [] [(je b),(je b2)]] { H with iI:=[] } v H'/\(∃ r0:Int,(((0<=r0->∃ x∈l.l,¬ xj pp dd x)/\(r0<0->∀ x∈l.l,(rs 215 [.str x.name.l]=.bool true/\0<=x.iU/\x.iU<(dd.iU.l.length:Int)/\0<=x.from_/\x.from_<(pp.signals.l.length:Int)))))/\Sep H' (j7 b (bG.ag pp)::j7 b2 (iO.ag dd)::F)/\v=iv r0):=by
 refine kh A2 ?_
 refine bC ?_
 have hL1:=l.lk
 refine cu ?_
 have hNk2:=l.lk
 refine iW l.l.length (λk2 e h=>∃ H3:aT,(∀ (i:Nat) (h:i<l.l.length),i<k2->(rs 215 [.str (l.l[i]).name.l]=.bool true/\0<=(l.l[i]).iU/\(l.l[i]).iU<(dd.iU.l.length:Int)/\0<=(l.l[i]).from_/\(l.l[i]).from_<(pp.signals.l.length:Int)))/\Sep H3 (j7 b (bG.ag pp)::j7 b2 (iO.ag dd)::F)/\At [0,1,7,8] [jm.av jC.ag l,.jQ 118 [] [(je b),(je b2)],iF l.l.length,iF k2] H3 [] e h) ?_ (k0:=0) dD ⟨H,eA,hS,atR⟩
 rintro k2 e h hkk2 ⟨H3,hP,hS4,hA⟩
 refine aK ?_
 refine jk (λh5=>?_) (λh5=>?_)
 refine bP ?_
 refine aJ ?_
 have hx6:k2<l.l.length:=by omega
 refine iT rfl (λ_=>nQ (n:=k2) (r:=l) (enc:=jC.ag) rfl rfl rfl rfl rfl hx6 rfl) ?_
 generalize hqx7:l.l[k2]=x7
 have hinx7:x7∈l.l:=by rw [<- hqx7]; exact List.getElem_mem _
 have hmx7:=True.intro
 refine oV ?_
 have hS8:=Sep.pick hS4 [0,1] 2 dA dA
 refine jV (H:=H3) (args:=[.agg (jC.ag x7)]) (p:=[]) (r:=[(je b),(je b2)]) rfl rfl rfl rfl rfl rfl rfl (ah8 b pp b2 dd x7 F hS8) ?_
 rintro _ H9 ⟨r12,hc11,hS10,rfl⟩
 have hB:=hc11
 cases r12
 refine bZ ?_
 refine jq ?_
 refine ab ?_
 exact ⟨by omega,H9,(by exact ml (P:=λx:jC=>(rs 215 [.str x.name.l]=.bool true/\0<=x.iU/\x.iU<(dd.iU.l.length:Int)/\0<=x.from_/\x.from_<(pp.signals.l.length:Int))) dv hP (hB.2 rfl)),hS10,atR⟩
 refine aN ?_
 have hS13:=Sep.pick hS10 [0,1] 2 dA dA
 exact gq
 refine cy ?_
 have hS14:=Sep.pick hS4 [0,1] 2 dA dA
 exact gr
def MA {H:aT} (l:jm jC) (b:Nat) (rr:jC) (F:List jW) (hS:Sep H (j7 b (jC.ag rr)::F)) :∃ v H',ji cfg FT js true 211 [jm.av jC.ag l,.jQ 120 [] [(je b)]] { H with iI:=[] } v H'/\(∃ r0:Int,(((0<=r0->∃ x∈l.l,x.name.l=rr.name.l)/\(r0<0->∀ x∈l.l,¬ x.name.l=rr.name.l)))/\Sep H' (j7 b (jC.ag rr)::F)/\v=iv r0):=by
 refine kh A2 ?_
 refine bC ?_
 have hL1:=l.lk
 refine cu ?_
 have hNk2:=l.lk
 refine iW l.l.length (λk2 e h=>∃ H3:aT,(∀ (i:Nat) (h:i<l.l.length),i<k2->¬ (l.l[i]).name.l=rr.name.l)/\Sep H3 (j7 b (jC.ag rr)::F)/\At [0,1,7,8] [jm.av jC.ag l,.jQ 120 [] [(je b)],iF l.l.length,iF k2] H3 [] e h) ?_ (k0:=0) dD ⟨H,eA,hS,atR⟩
 rintro k2 e h hkk2 ⟨H3,hP,hS4,hA⟩
 refine aK ?_
 refine jk (λh5=>?_) (λh5=>?_)
 refine bP ?_
 refine aJ ?_
 have hx6:k2<l.l.length:=by omega
 refine iT rfl (λ_=>nQ (n:=k2) (r:=l) (enc:=jC.ag) rfl rfl rfl rfl rfl hx6 rfl) ?_
 generalize hqx7:l.l[k2]=x7
 have hinx7:x7∈l.l:=by rw [<- hqx7]; exact List.getElem_mem _
 have hmx7:=True.intro
 refine oV ?_
 have hS8:=Sep.pick hS4 [0] 1 dA dA
 refine jV (H:=H3) (args:=[.agg (jC.ag x7)]) (p:=[]) (r:=[(je b)]) rfl rfl rfl rfl rfl rfl rfl (agQ b rr x7 F hS8) ?_
 rintro _ H9 ⟨r12,hc11,hS10,rfl⟩
 have hB:=hc11
 cases r12
 refine bZ ?_
 refine jq ?_
 refine ab ?_
 exact ⟨by omega,H9,(by exact ml (P:=λx:jC=>¬ x.name.l=rr.name.l) dv hP (hB.2 rfl)),hS10,atR⟩
 refine aN ?_
 have hS13:=Sep.pick hS10 [0] 1 dA dA
 exact gq
 refine cy ?_
 have hS14:=Sep.pick hS4 [0] 1 dA dA
 exact gr
def Nz {H:aT} (l:jm jC) (F:List jW) (hS:Sep H F) :∃ v H',ji cfg FT js true 114 [jm.av jC.ag l,.jQ 115 [] []] { H with iI:=[] } v H'/\(∃ r0:Bool,(((r0=true->∃ x∈l.l,12<x.iY.l.length)/\(r0=false->∀ x∈l.l,x.iY.l.length<=12)))/\Sep H' (F)/\v=.bool r0):=by
 refine kh Cb ?_
 refine cC ?_
 refine jV (H:=H) (args:=[jm.av jC.ag l,.jQ 115 [] []]) (p:=[]) (r:=[]) rfl rfl rfl rfl rfl rfl rfl (N2 l F hS) ?_
 rintro _ H2 ⟨r5,hc4,hS3,rfl⟩
 have hIx:=hc4
 refine lP (λh6=>?_) (λh6=>?_)
 refine af ?_
 have hS7:=Sep.pick hS3 [] 0 dA dA
 exact gt
 refine af ?_
 have hS8:=Sep.pick hS3 [] 0 dA dA
 exact gu
def L7 {H:aT} (l:jm jC) (b:Nat) (pp:bG) (b2:Nat) (dd:iO) (F:List jW) (hS:Sep H (j7 b (bG.ag pp)::j7 b2 (iO.ag dd)::F)) :∃ v H',ji cfg FT js true 114 [jm.av jC.ag l,.jQ 118 [] [(je b),(je b2)]] { H with iI:=[] } v H'/\(∃ r0:Bool,(((r0=true->∃ x∈l.l,¬ xj pp dd x)/\(r0=false->∀ x∈l.l,(rs 215 [.str x.name.l]=.bool true/\0<=x.iU/\x.iU<(dd.iU.l.length:Int)/\0<=x.from_/\x.from_<(pp.signals.l.length:Int)))))/\Sep H' (j7 b (bG.ag pp)::j7 b2 (iO.ag dd)::F)/\v=.bool r0):=by
 refine kh Cb ?_
 refine cC ?_
 have hS1:=Sep.pick hS [0,1] 2 dA dA
 refine jV (H:=H) (args:=[jm.av jC.ag l,.jQ 118 [] [(je b),(je b2)]]) (p:=[]) (r:=[]) rfl rfl rfl rfl rfl rfl rfl (NA l b pp b2 dd F hS1) ?_
 rintro _ H2 ⟨r5,hc4,hS3,rfl⟩
 have hIx:=hc4
 refine lP (λh6=>?_) (λh6=>?_)
 refine af ?_
 have hS7:=Sep.pick hS3 [0,1] 2 dA dA
 exact gt
 refine af ?_
 have hS8:=Sep.pick hS3 [0,1] 2 dA dA
 exact gu
def Nt {H:aT} (l:jm jC) (b:Nat) (rr:jC) (F:List jW) (hS:Sep H (j7 b (jC.ag rr)::F)) :∃ v H',ji cfg FT js true 114 [jm.av jC.ag l,.jQ 120 [] [(je b)]] { H with iI:=[] } v H'/\(∃ r0:Bool,(((r0=true->∃ x∈l.l,x.name.l=rr.name.l)/\(r0=false->∀ x∈l.l,¬ x.name.l=rr.name.l)))/\Sep H' (j7 b (jC.ag rr)::F)/\v=.bool r0):=by
 refine kh Cb ?_
 refine cC ?_
 have hS1:=Sep.pick hS [0] 1 dA dA
 refine jV (H:=H) (args:=[jm.av jC.ag l,.jQ 120 [] [(je b)]]) (p:=[]) (r:=[]) rfl rfl rfl rfl rfl rfl rfl (MA l b rr F hS1) ?_
 rintro _ H2 ⟨r5,hc4,hS3,rfl⟩
 have hIx:=hc4
 refine lP (λh6=>?_) (λh6=>?_)
 refine af ?_
 have hS7:=Sep.pick hS3 [0] 1 dA dA
 exact gt
 refine af ?_
 have hS8:=Sep.pick hS3 [0] 1 dA dA
 exact gu
def agy (_a0:Int) (_a1:Int) (v:AV):Prop:=∃ r0:Bool,(((r0=true->1<=_a0/\_a0<=_a1)/\(r0=false->¬ (1<=_a0/\_a0<=_a1))))/\v=.bool r0
def t322 (a0:Int) (a1:Int) :Ct 322 [iv a0,iv a1] (agy a0 a1):=by
 refine jf IM ?_
 refine aa ?_
 refine cV ?_
 refine lP (λh1=>?_) (λh1=>?_)
 refine aH ?_
 refine sj (λh2=>?_) (λh2=>?_)
 refine a8 ?_
 exact xB ⟨true,fd,rfl⟩
 refine a8 ?_
 exact xB ⟨false,fd,rfl⟩
 refine bO ?_
 refine a8 ?_
 exact xB ⟨false,fd,rfl⟩
def aih (_a0:jr) (v:AV):Prop:=∃ r0:Bool,((wM _a0->r0=true))/\v=.bool r0
def t284 (a0:jr) :Ct 284 [.agg (jr.ag a0)] (aih a0):=by
 refine jf HB ?_
 refine aX ?_
 refine ae ?_
 refine oC (t215 a0.name) ?_
 rintro _ ⟨r2,⟨hc1,hc1r⟩,rfl⟩
 have hNw:=hc1
 cases r2
 refine bO ?_
 refine cf ?_
 refine aD ?_
 refine a8 ?_
 exact ib
 refine aH ?_
 refine oC (t322 a0.len 4000) ?_
 rintro _ ⟨r4,hc3,rfl⟩
 have hMa:=hc3
 cases r4
 refine cf ?_
 refine aD ?_
 refine a8 ?_
 exact ib
 refine aO ?_
 refine oC (t322 a0.top 60) ?_
 rintro _ ⟨r6,hc5,rfl⟩
 have hMa:=hc5
 cases r6
 refine aD ?_
 refine a8 ?_
 exact ib
 refine aO ?_
 refine oC (t322 a0.acc 10) ?_
 rintro _ ⟨r8,hc7,rfl⟩
 have hMa:=hc7
 cases r8
 refine cf ?_
 refine a8 ?_
 exact ib
 refine aO ?_
 refine oC (t322 a0.jT 10) ?_
 rintro _ ⟨r10,hc9,rfl⟩
 have hMa:=hc9
 cases r10
 refine a8 ?_
 exact ib
 refine a8 ?_
 exact xB ⟨true,eu,rfl⟩
def afY (_a0:Row jr) (v:AV):Prop:=∃ r0:Int,((BD _a0.l->r0=0))/\v=iv r0
def t212 (a0:Row jr) :Ct 212 [j6 a0] (afY a0):=by
 refine jf Hz ?_
 refine br ?_
 refine sT ?_
 refine aB ?_
 have hL1:=a0.lk
 refine jK a0 ?_
 refine kn (λh2=>?_) (λh2=>?_)
 refine bh ?_
 exact xB ⟨3,eR,rfl⟩
 refine aG ?_
 refine br ?_
 refine qq ?_
 refine ql ?_
 refine aB ?_
 have hL3:=a0.lk
 refine jK a0 ?_
 refine aL ?_
 have hNk4:=a0.lk
 refine iW a0.l.length (λk4 e h=>∃ n5:Int,(BD a0.l->n5=0)/\At [0,3,11,12,13] [j6 a0,iv n5,j6 a0,iF a0.l.length,iF k4] aT.empty [] e h) ?_ (k0:=0) dD ⟨0,(by exact λ_=>rfl),atR⟩
 rintro k4 e h hkk4 ⟨n5,hE0,hA⟩
 refine aK ?_
 refine jk (λh6=>?_) (λh6=>?_)
 refine aq ?_
 refine bE ?_
 have hx7:k4<a0.l.length:=by omega
 refine kQ k4 a0 hx7 ?_
 generalize hqx8:a0.l[k4]=x8
 refine aH ?_
 refine az ?_
 refine oC (t284 x8) ?_
 rintro _ ⟨r10,hc9,rfl⟩
 have hMs:=hc9
 cases r10
 refine ac ?_
 exact xB ⟨1,eR,rfl⟩
 refine ah ?_
 refine ae ?_
 have hx11:k4<=a0.l.length:=by omega
 refine iT rfl (λ_=>Aw (k:=k4) (r:=a0) (enc:=jr.ag) (n:=5) rfl rfl rfl rfl rfl rfl hx11 (λ_=>rfl)) ?_
 have hL12:=(Row.take a0 k4).lk
 refine jK ((Row.take a0 k4)) ?_
 refine aL ?_
 have hNk13:=(Row.take a0 k4).lk
 refine iW ((Row.take a0 k4).l.length) (λlu e h=>At [0,3,5,11,12,13,23,24,25] [j6 a0,iv n5,.la 5 0,j6 a0,iF a0.l.length,iF k4,j6 (Row.take a0 k4),iv ((Row.take a0 k4).l.length:Int),iF lu] aT.empty [(5,(jr.ag x8))] e h) ?_ (k0:=0) dD atR
 rintro lu e h hkk13 hA
 refine aK ?_
 refine jk (λh14=>?_) (λh14=>?_)
 refine c9 ?_
 have hx15:lu<(Row.take a0 k4).l.length:=by omega
 refine kQ lu ((Row.take a0 k4)) hx15 ?_
 generalize hqx16:(Row.take a0 k4).l[lu]=x16
 refine bd ?_
 refine bD ?_
 refine om rfl (λ_=>uh rfl rfl) (λh17=>?_) (λh17=>?_)
 refine aC ?_
 refine br ?_
 refine qe ?_
 refine qg ?_
 refine jq ?_
 refine ab ?_
 exact ⟨by omega,4,fZ,atR⟩
 refine bZ ?_
 refine jq ?_
 refine ab ?_
 exact gn
 refine ap ?_
 refine qg ?_
 refine jq ?_
 refine ab ?_
 exact ⟨by omega,n5,fZ,atR⟩
 refine ap ?_
 refine bJ ?_
 exact xB ⟨n5,eR,rfl⟩
def ahk {H:aT} (b:Nat) (pp:bG) (x:jr) (F:List jW) (hS:Sep H (j7 b (bG.ag pp)::F)) :∃ v H',ji cfg FT js true 214 [.agg (jr.ag x),(je b)] { H with iI:=[] } v H'/\(∃ r0:Bool,(((r0=true->¬ (x.top<=pp.top/\pp.jT<=x.jT))/\(r0=false->(x.top<=pp.top/\pp.jT<=x.jT))))/\Sep H' (j7 b (bG.ag pp)::F)/\v=.bool r0):=by
 refine kh IS ?_
 refine aX ?_
 refine ae ?_
 refine nh 0 hS ?_
 refine lU 0 hS (iv pp.top) ?_
 refine kn (λh1=>?_) (λh1=>?_)
 refine bQ ?_
 refine a8 ?_
 have hS2:Sep H (j7 b (bG.ag pp)::F):=Sep.pick hS [0] 1 dA dA
 exact gx
 refine aH ?_
 refine nh 0 hS ?_
 refine lU 0 hS (iv pp.jT) ?_
 refine jk (λh3=>?_) (λh3=>?_)
 refine a8 ?_
 have hS4:Sep H (j7 b (bG.ag pp)::F):=Sep.pick hS [0] 1 dA dA
 exact ⟨.bool true,rfl,true,eb,Sep.iI hS4 _,rfl⟩
 refine a8 ?_
 have hS5:Sep H (j7 b (bG.ag pp)::F):=Sep.pick hS [0] 1 dA dA
 exact ⟨.bool false,rfl,false,eb,Sep.iI hS5 _,rfl⟩
def MN {H:aT} (l:jm jr) (b:Nat) (pp:bG) (F:List jW) (hS:Sep H (j7 b (bG.ag pp)::F)) :∃ v H',ji cfg FT js true 285 [jm.av jr.ag l,.jQ 214 [] [(je b)]] { H with iI:=[] } v H'/\(∃ r0:Int,(((0<=r0->∃ x∈l.l,¬ (x.top<=pp.top/\pp.jT<=x.jT))/\(r0<0->∀ x∈l.l,(x.top<=pp.top/\pp.jT<=x.jT))))/\Sep H' (j7 b (bG.ag pp)::F)/\v=iv r0):=by
 refine kh JH ?_
 refine bC ?_
 have hL1:=l.lk
 refine iT rfl (λ_=>oH (r:=l) (enc:=jr.ag) rfl rfl rfl rfl rfl rfl) ?_
 refine aL ?_
 have hNk2:=l.lk
 refine iW l.l.length (λk2 e h=>∃ H3:aT,(∀ (i:Nat) (h:i<l.l.length),i<k2->((l.l[i]).top<=pp.top/\pp.jT<=(l.l[i]).jT))/\Sep H3 (j7 b (bG.ag pp)::F)/\At [0,1,7,8] [jm.av jr.ag l,.jQ 214 [] [(je b)],iF l.l.length,iF k2] H3 [] e h) ?_ (k0:=0) dD ⟨H,eA,hS,atR⟩
 rintro k2 e h hkk2 ⟨H3,hP,hS4,hA⟩
 refine aK ?_
 refine jk (λh5=>?_) (λh5=>?_)
 refine bP ?_
 refine aJ ?_
 have hx6:k2<l.l.length:=by omega
 refine iT rfl (λ_=>nQ (n:=k2) (r:=l) (enc:=jr.ag) rfl rfl rfl rfl rfl hx6 rfl) ?_
 generalize hqx7:l.l[k2]=x7
 have hinx7:x7∈l.l:=by rw [<- hqx7]; exact List.getElem_mem _
 have hmx7:=True.intro
 refine oV ?_
 have hS8:=Sep.pick hS4 [0] 1 dA dA
 refine jV (H:=H3) (args:=[.agg (jr.ag x7)]) (p:=[]) (r:=[(je b)]) rfl rfl rfl rfl rfl rfl rfl (ahk b pp x7 F hS8) ?_
 rintro _ H9 ⟨r12,hc11,hS10,rfl⟩
 have hB:=hc11
 cases r12
 refine bZ ?_
 refine jq ?_
 refine ab ?_
 exact ⟨by omega,H9,(by exact ml (P:=λx:jr=>(x.top<=pp.top/\pp.jT<=x.jT)) dv hP (hB.2 rfl)),hS10,atR⟩
 refine aN ?_
 have hS13:=Sep.pick hS10 [0] 1 dA dA
 exact gq
 refine cy ?_
 have hS14:=Sep.pick hS4 [0] 1 dA dA
 exact gr
def Mf {H:aT} (l:jm jr) (b:Nat) (pp:bG) (F:List jW) (hS:Sep H (j7 b (bG.ag pp)::F)) :∃ v H',ji cfg FT js true 213 [jm.av jr.ag l,.jQ 214 [] [(je b)]] { H with iI:=[] } v H'/\(∃ r0:Bool,(((r0=true->∃ x∈l.l,¬ (x.top<=pp.top/\pp.jT<=x.jT))/\(r0=false->∀ x∈l.l,(x.top<=pp.top/\pp.jT<=x.jT))))/\Sep H' (j7 b (bG.ag pp)::F)/\v=.bool r0):=by
 refine kh IX ?_
 refine cC ?_
 have hS1:=Sep.pick hS [0] 1 dA dA
 refine jV (H:=H) (args:=[jm.av jr.ag l,.jQ 214 [] [(je b)]]) (p:=[]) (r:=[]) rfl rfl rfl rfl rfl rfl rfl (MN l b pp F hS1) ?_
 rintro _ H2 ⟨r5,hc4,hS3,rfl⟩
 have hIx:=hc4
 refine lP (λh6=>?_) (λh6=>?_)
 refine af ?_
 have hS7:=Sep.pick hS3 [0] 1 dA dA
 exact gt
 refine af ?_
 have hS8:=Sep.pick hS3 [0] 1 dA dA
 exact gu
def Z6 (_a0:bG) (_a1:Row jr) (v:AV):Prop:=∃ r0:Int,((xv _a0 _a1.l->r0=0))/\v=iv r0
def Y4 (a0:bG) (a1:Row jr) :Ct 116 [.agg (bG.ag a0),j6 a1] (Z6 a0 a1):=by
 refine jf Im ?_
 refine bS ?_
 rintro _ H2 ⟨b1,rfl,hS3⟩
 refine az ?_
 refine oC (t212 a1) ?_
 rintro _ ⟨r5,hc4,rfl⟩
 have hWr:=hc4
 refine cV ?_
 refine lb (λh6=>?_) (λh6=>?_)
 refine aN ?_
 exact xB ⟨r5,eQ,rfl⟩
 refine aG ?_
 refine wz [j6 a1,(je b1)] H2 [] ?_
 refine aB ?_
 refine iT rfl (λ_=>ua rfl rfl (tP rfl rfl)) ?_
 have hS7:=Sep.pick hS3 [0] 1 dA dA
 refine jV (H:=H2) (args:=[j6 a1,.jQ 214 [] [(je b1)]]) (p:=[]) (r:=[]) rfl rfl rfl rfl rfl rfl rfl (Mf (Row.ny a1) b1 a0 ([]) hS7) ?_
 rintro _ H8 ⟨r11,hc10,hS9,rfl⟩
 have hC1:=hc10
 cases r11
 refine aG ?_
 refine wz [] H8 [] ?_
 refine aI ?_
 exact xB ⟨0,eQ,rfl⟩
 refine bh ?_
 exact xB ⟨9,eQ,rfl⟩
def ahQ (_a0:bG) (_a1:Row jr) (v:AV):Prop:=∃ r0:Int,(((xv _a0 _a1.l->r0=0))/\rs 116 [.agg (bG.ag _a0),j6 _a1]=iv r0)/\v=iv r0
def t116 (a0:bG) (a1:Row jr)  (h:aT):∃ v,ji cfg FT js false 116 [.agg (bG.ag a0),j6 a1] h v h/\ahQ a0 a1 v:=by
 obtain ⟨v,hc,hP,hr⟩:=nX rD (Y4 a0 a1) h
 obtain ⟨r0,hp,rfl⟩:=hP
 exact gv
def P60 (_a0:bG) (_a1:iO) (v:AV):Prop:=∃ r0:Int,(((r0=0->(rs 116 [.agg (bG.ag _a0),j6 _a1.iU]=iv 0/\(∀ r∈_a1.runs.l,(rs 215 [.str r.name.l]=.bool true/\0<=r.iU/\r.iU<(_a1.iU.l.length:Int)/\0<=r.from_/\r.from_<(_a0.signals.l.length:Int)))/\(∀ (i j:Nat) (h:j < _a1.runs.l.length) (hij:i<j),j < _a1.runs.l.length->(_a1.runs.l[i]).name.l≠(_a1.runs.l[j]).name.l)/\_a1.runs.l.length<=8))/\(s8 _a0 _a1->r0=0)))/\v=iv r0
def t60 (a0:bG) (a1:iO) :Ct 60 [.agg (bG.ag a0),.agg (iO.ag a1)] (P60 a0 a1):=by
 refine jf NY ?_
 refine bS ?_
 rintro _ H2 ⟨b1,rfl,hS3⟩
 refine jG (H:=H2) rfl (sr hS3 rfl rfl rfl rfl rfl) ?_
 rintro _ H5 ⟨b4,rfl,hS6⟩
 refine aA ?_
 refine aa ?_
 refine nh 0 hS6 ?_
 refine lU 0 hS6 (jF a1.runs) ?_
 have hL7:=a1.runs.lk
 refine jK a1.runs ?_
 refine kn (λh8=>?_) (λh8=>?_)
 refine bO ?_
 refine ac ?_
 exact xB ⟨3,dR,rfl⟩
 refine oV ?_
 refine nh 0 hS6 ?_
 refine lU 0 hS6 (jF a1.runs) ?_
 have hS9:=Sep.pick hS6 [0,1] 2 dA dA
 refine jV (H:=H5) (args:=[jF a1.runs,.jQ 115 [] []]) (p:=[]) (r:=[]) rfl rfl rfl rfl rfl rfl rfl (Nz (Row.ny a1.runs) (j7 b4 (iO.ag a1)::j7 b1 (bG.ag a0)::[]) hS9) ?_
 rintro _ H10 ⟨r13,hc12,hS11,rfl⟩
 have hC1:=hc12
 cases r13
 refine ah ?_
 refine wz [(je b1),(je b4)] H10 [] ?_
 refine qs ?_
 refine aa ?_
 refine lU 1 hS11 (.agg (bG.ag a0)) ?_
 refine nh 0 hS11 ?_
 refine lU 0 hS11 (j6 a1.iU) ?_
 refine oC (t116 a0 a1.iU) ?_
 rintro _ ⟨r15,⟨hc14,hc14r⟩,rfl⟩
 have hSC:=hc14r; have hSk:=hc14
 refine cV ?_
 refine lb (λh16=>?_) (λh16=>?_)
 refine aN ?_
 exact xB ⟨r15,dR,rfl⟩
 refine aG ?_
 refine wz [(je b1),(je b4)] H10 [] ?_
 refine qs ?_
 refine aa ?_
 refine nh 0 hS11 ?_
 refine lU 0 hS11 (iv a1.uu) ?_
 refine oC (t117 a1.uu 86399) ?_
 rintro _ ⟨r18,hc17,rfl⟩
 have hI:=hc17
 cases r18
 refine bN ?_
 exact xB ⟨1,dR,rfl⟩
 have hIn:=hI.1 rfl
 refine aw ?_
 refine nh 0 hS11 ?_
 refine lU 0 hS11 (jF a1.runs) ?_
 refine iT rfl (λ_=>ua rfl rfl (tP rfl rfl)) ?_
 have hS19:=Sep.pick hS11 [1,0] 2 dA dA
 refine jV (H:=H10) (args:=[jF a1.runs,.jQ 118 [] [(je b1),(je b4)]]) (p:=[]) (r:=[]) rfl rfl rfl rfl rfl rfl rfl (L7 (Row.ny a1.runs) b1 a0 b4 a1 ([]) hS19) ?_
 rintro _ H20 ⟨r23,hc22,hS21,rfl⟩
 have hMy:=hc22
 cases r23
 refine ah ?_
 refine wz [(je b4)] H20 [] ?_
 refine qs ?_
 refine aa ?_
 refine nh 1 hS21 ?_
 refine lU 1 hS21 (jF a1.runs) ?_
 have hL24:=a1.runs.lk
 refine cA ?_
 have hS25:=Sep.pick hS21 [1] 2 dA dA
 have hNk26:=a1.runs.lk
 refine iW a1.runs.l.length (λkR e h=>∃ H27:aT,(∀ (i j:Nat) (h:j<a1.runs.l.length) (hij:i<j),j<kR->(a1.runs.l[i]).name.l≠(a1.runs.l[j]).name.l)/\Sep H27 (j7 b4 (iO.ag a1)::[])/\At [3,35,36,37] [(je b4),jF a1.runs,iF a1.runs.l.length,iF kR] H27 [] e h) ?_ (k0:=0) dD ⟨H20,ga,hS25,atR⟩
 rintro kR e h hkk26 ⟨H27,hNe,hS28,hA⟩
 refine aK ?_
 refine jk (λh29=>?_) (λh29=>?_)
 refine aq ?_
 refine wz [(je b4),jF a1.runs,iF a1.runs.l.length,iF kR] H27 [] ?_
 refine bE ?_
 have hx30:kR<a1.runs.l.length:=by omega
 refine kQ kR a1.runs hx30 ?_
 generalize hqx31:a1.runs.l[kR]=x31
 refine oV ?_
 refine jG (H:=H27) rfl (C1 hS28 rfl rfl) ?_
 rintro _ H33 ⟨b32,rfl,hS34⟩
 refine oV ?_
 refine Hc 0 hS34 (.agg (jC.ag x31)) λH35 hS36=>?_
 refine oN ?_
 refine aa ?_
 refine nh 1 hS36 ?_
 refine lU 1 hS36 (jF a1.runs) ?_
 refine oV ?_
 have hx37:kR<=a1.runs.l.length:=by omega
 refine iT rfl (λ_=>Aw (k:=kR) (r:=a1.runs) (enc:=jC.ag) (n:=5) rfl rfl rfl rfl rfl rfl hx37 (λ_=>rfl)) ?_
 refine iT rfl (λ_=>ua rfl rfl (tP rfl rfl)) ?_
 have hS38:=Sep.pick hS36 [0,1] 2 dA dA
 refine jV (H:=H35) (args:=[jF (Row.take a1.runs kR),.jQ 120 [] [(je b32)]]) (p:=[]) (r:=[]) rfl rfl rfl rfl rfl rfl rfl (Nt (Row.ny (Row.take a1.runs kR)) b32 x31 (j7 b4 (iO.ag a1)::[]) hS38) ?_
 rintro _ H39 ⟨r42,hc41,hS40,rfl⟩
 have hCt:=hc41
 cases r42
 refine aG ?_
 refine wz [(je b4),jF a1.runs,iF a1.runs.l.length,iF kR] H39 [] ?_
 refine qg ?_
 refine jq ?_
 refine ab ?_
 have hS43:=Sep.pick hS40 [1] 2 dA dA
 exact ⟨by omega,H39,(by exact FH dv hNe (hCt.2 rfl)),hS43,atR⟩
 refine bh ?_
 exact xB ⟨4,dR,rfl⟩
 refine ap ?_
 refine wz [] H27 [] ?_
 refine aI ?_
 exact xB ⟨0,dR,rfl⟩
 refine ac ?_
 exact xB ⟨1,dR,rfl⟩
 refine ac ?_
 exact xB ⟨3,dR,rfl⟩
def aiE (_a0:iX) (_a1:iO) (_a2:Int) (v:AV):Prop:=∃ r0:kF,∃ r1:Bool,((0<=_a2->_a2<(_a1.runs.l.length:Int)->r0=lT _a0.p _a1 _a2.toNat))/\v=.jl [.agg (kF.ag r0),.bool r1]
def t104 (a0:iX) (a1:iO) (a2:Int) :Ct 104 [.ip (iX.ag a0) 0 false,.agg (iO.ag a1),iv a2] (aiE a0 a1 a2):=by
 refine jf Ii ?_
 refine ae ?_
 refine az ?_
 refine jk (λh1=>?_) (λh1=>?_)
 refine bQ ?_
 refine aE ?_
 exact gj
 refine aO ?_
 have hL2:=a1.runs.lk
 refine jK a1.runs ?_
 refine lP (λh3=>?_) (λh3=>?_)
 refine aE ?_
 exact gj
 refine ah ?_
 refine wy [.ip (iX.ag a0) 0 false,iv a2,.la 4 0,.la 6 0,.la 6 0] [(4,(iO.ag a1)),(6,[.str ([]),iv 0,iv 0,iv 0,iv 0]),(6,[.str ([]),iv 0,iv 0,iv 0,iv 0])] ?_
 refine aJ ?_
 have hx4:(a2).toNat<a1.runs.l.length:=by omega
 refine iT rfl (λ_=>jA (n:=a2) (r:=a1.runs) (enc:=jC.ag) rfl rfl rfl rfl rfl dD hx4 rfl) ?_
 generalize hqx5:a1.runs.l[(a2).toNat]=x5
 refine bd ?_
 refine aJ ?_
 refine oC (t173 a0 x5.from_) ?_
 rintro _ ⟨r7,r8,hc6,rfl⟩
 have hA:=hc6.1; have hA0:=hc6.2
 cases r8
 refine di ?_
 refine dg ?_
 refine oC (t138 a0 r7.elem) ?_
 rintro _ ⟨r10,hc9,rfl⟩
 have hK:=hc9
 refine jz (λh11=>?_) (λh11=>?_)
 refine ci ?_
 refine bu ?_
 exact gk
 refine cw ?_
 refine bu ?_
 exact gl
 refine di ?_
 refine dg ?_
 refine oC (t138 a0 r7.elem) ?_
 rintro _ ⟨r13,hc12,rfl⟩
 have hK:=hc12
 refine jz (λh14=>?_) (λh14=>?_)
 refine ci ?_
 refine bu ?_
 exact gk
 refine cw ?_
 refine bu ?_
 exact gl
def afU (_a0:iX) (_a1:iM) (v:AV):Prop:=∃ r0:Bool,(((r0=true->zg _a0.p _a1)/\(r0=false->¬ (kN _a0.p _a1.elem=1\/kN _a0.p _a1.elem=4)\/¬ zg _a0.p _a1)))/\v=.bool r0
def t217 (a0:iX) (a1:iM) :Ct 217 [.ip (iX.ag a0) 0 false,.agg (iM.ag a1)] (afU a0 a1):=by
 refine jf HI ?_
 refine aX ?_
 refine cD ?_
 refine vQ (λh1=>?_) (λh1=>?_)
 refine c8 ?_
 refine rC (t138 a0 a1.elem) ?_
 rintro _ ⟨r3,hc2,rfl⟩
 have hK:=hc2
 refine rC (t220 r3) ?_
 rintro _ ⟨r5,hc4,rfl⟩
 refine qY (λh6=>?_) (λh6=>?_)
 refine bm ?_
 exact xB ⟨true,(by grind [zg]),rfl⟩
 refine bm ?_
 exact xB ⟨false,(by grind [zg]),rfl⟩
 refine rV ?_
 iterate 8 refine rS ?_
 refine bm ?_
 exact xB ⟨false,(by grind [zg]),rfl⟩
def aaJ (_a0:iX) (_a1:Int) (_a2:kF) (v:AV):Prop:=∃ r0:lE,∃ r1:Int,(((r1=0->r0.mY.l=[_a2.at_]/\0<=_a2.at_.elem/\_a2.at_.elem<(_a0.p.elems.l.length:Int))/\r1=qz _a0.p _a1 _a2))/\v=.jl [.agg (lE.ag r0),iv r1]
def aa3 (a0:iX) (a1:Int) (a2:kF) (qn:vL a0):Ct 121 [.ip (iX.ag a0) 0 false,iv a1,.agg (kF.ag a2)] (aaJ a0 a1 a2):=by
 refine jf HW ?_
 refine cg ?_
 refine aV ?_
 refine bT ?_
 refine rC (t138 a0 a2.at_.elem) ?_
 rintro _ ⟨r2,hc1,rfl⟩
 have hK:=hc1
 refine bT ?_
 refine rC (t31 a0 a2.at_.elem) ?_
 rintro _ ⟨r4,hc3,rfl⟩
 have hLen:=hc3
 refine rV ?_
 refine aR ?_
 refine bE ?_
 refine jk (λh5=>?_) (λh5=>?_)
 refine bk ?_
 refine oV ?_
 refine cL ?_
 refine bL ?_
 refine dc ?_
 exact gz
 refine aw ?_
 refine kn (λh6=>?_) (λh6=>?_)
 refine oV ?_
 refine cL ?_
 refine bL ?_
 refine dc ?_
 exact gz
 refine aH ?_
 refine lb (λh7=>?_) (λh7=>?_)
 refine aw ?_
 refine lb (λh8=>?_) (λh8=>?_)
 refine oV ?_
 refine bL ?_
 refine dc ?_
 exact gz
 refine cM ?_
 refine oC (t217 a0 a2.at_) ?_
 rintro _ ⟨r10,hc9,rfl⟩
 have hPo:=hc9
 cases r10
 refine oV ?_
 refine dc ?_
 exact gz
 refine bd ?_
 refine qF ?_
 refine aJ ?_
 refine oC (t139 a0 a2.at_) ?_
 rintro _ ⟨r12,hc11,rfl⟩
 have hR:=hc11
 refine jk (λh13=>?_) (λh13=>?_)
 refine aE ?_
 exact gA
 refine ab ?_
 refine cX ?_
 refine jz (λh14=>?_) (λh14=>?_)
 refine aH ?_
 refine lb (λh15=>?_) (λh15=>?_)
 refine bL ?_
 refine cz ?_
 refine dc ?_
 exact gz
 refine aH ?_
 refine jz (λh16=>?_) (λh16=>?_)
 refine aH ?_
 refine jk (λh17=>?_) (λh17=>?_)
 refine bl ?_
 refine aw ?_
 refine dc ?_
 exact gz
 refine aO ?_
 refine kn (λh18=>?_) (λh18=>?_)
 refine aw ?_
 refine dc ?_
 exact gz
 refine bW ?_
 refine cX ?_
 refine jz (λh19=>?_) (λh19=>?_)
 refine a6 ?_
 refine kn (λh20=>?_) (λh20=>?_)
 refine dc ?_
 exact gB
 refine ai ?_
 refine jz (λh21=>?_) (λh21=>?_)
 refine aj ?_
 exact gC
 refine au ?_
 exact gD
 refine cL ?_
 refine ai ?_
 refine jz (λh22=>?_) (λh22=>?_)
 refine aj ?_
 exact gC
 refine au ?_
 exact gD
 refine cr ?_
 refine jz (λh23=>?_) (λh23=>?_)
 refine a6 ?_
 refine kn (λh24=>?_) (λh24=>?_)
 refine dc ?_
 exact gB
 refine ai ?_
 refine jz (λh25=>?_) (λh25=>?_)
 refine aj ?_
 exact gC
 refine au ?_
 exact gD
 refine cL ?_
 refine ai ?_
 refine jz (λh26=>?_) (λh26=>?_)
 refine aj ?_
 exact gC
 refine au ?_
 exact gD
 refine bO ?_
 refine aH ?_
 refine jz (λh27=>?_) (λh27=>?_)
 refine aH ?_
 refine jk (λh28=>?_) (λh28=>?_)
 refine bl ?_
 refine aw ?_
 refine dc ?_
 exact gz
 refine aO ?_
 refine kn (λh29=>?_) (λh29=>?_)
 refine aw ?_
 refine dc ?_
 exact gz
 refine bW ?_
 refine cX ?_
 refine jz (λh30=>?_) (λh30=>?_)
 refine a6 ?_
 refine kn (λh31=>?_) (λh31=>?_)
 refine dc ?_
 exact gB
 refine ai ?_
 refine jz (λh32=>?_) (λh32=>?_)
 refine aj ?_
 exact gC
 refine au ?_
 exact gD
 refine cL ?_
 refine ai ?_
 refine jz (λh33=>?_) (λh33=>?_)
 refine aj ?_
 exact gC
 refine au ?_
 exact gD
 refine cr ?_
 refine jz (λh34=>?_) (λh34=>?_)
 refine a6 ?_
 refine kn (λh35=>?_) (λh35=>?_)
 refine dc ?_
 exact gB
 refine ai ?_
 refine jz (λh36=>?_) (λh36=>?_)
 refine aj ?_
 exact gC
 refine au ?_
 exact gD
 refine cL ?_
 refine ai ?_
 refine jz (λh37=>?_) (λh37=>?_)
 refine aj ?_
 exact gC
 refine au ?_
 exact gD
 refine bk ?_
 refine cM ?_
 refine oC (t217 a0 a2.at_) ?_
 rintro _ ⟨r39,hc38,rfl⟩
 have hPo:=hc38
 cases r39
 refine oV ?_
 refine dc ?_
 exact gz
 refine bd ?_
 refine qF ?_
 refine aJ ?_
 refine oC (t139 a0 a2.at_) ?_
 rintro _ ⟨r41,hc40,rfl⟩
 have hR:=hc40
 refine jk (λh42=>?_) (λh42=>?_)
 refine aE ?_
 exact gA
 refine ab ?_
 refine cX ?_
 refine jz (λh43=>?_) (λh43=>?_)
 refine aH ?_
 refine lb (λh44=>?_) (λh44=>?_)
 refine bL ?_
 refine cz ?_
 refine dc ?_
 exact gz
 refine aH ?_
 refine jz (λh45=>?_) (λh45=>?_)
 refine aH ?_
 refine jk (λh46=>?_) (λh46=>?_)
 refine bl ?_
 refine aw ?_
 refine dc ?_
 exact gz
 refine aO ?_
 refine kn (λh47=>?_) (λh47=>?_)
 refine aw ?_
 refine dc ?_
 exact gz
 refine bW ?_
 refine cX ?_
 refine jz (λh48=>?_) (λh48=>?_)
 refine a6 ?_
 refine kn (λh49=>?_) (λh49=>?_)
 refine dc ?_
 exact gB
 refine ai ?_
 refine jz (λh50=>?_) (λh50=>?_)
 refine aj ?_
 exact gC
 refine au ?_
 exact gD
 refine cL ?_
 refine ai ?_
 refine jz (λh51=>?_) (λh51=>?_)
 refine aj ?_
 exact gC
 refine au ?_
 exact gD
 refine cr ?_
 refine jz (λh52=>?_) (λh52=>?_)
 refine a6 ?_
 refine kn (λh53=>?_) (λh53=>?_)
 refine dc ?_
 exact gB
 refine ai ?_
 refine jz (λh54=>?_) (λh54=>?_)
 refine aj ?_
 exact gC
 refine au ?_
 exact gD
 refine cL ?_
 refine ai ?_
 refine jz (λh55=>?_) (λh55=>?_)
 refine aj ?_
 exact gC
 refine au ?_
 exact gD
 refine bO ?_
 refine aH ?_
 refine jz (λh56=>?_) (λh56=>?_)
 refine aH ?_
 refine jk (λh57=>?_) (λh57=>?_)
 refine bl ?_
 refine aw ?_
 refine dc ?_
 exact gz
 refine aO ?_
 refine kn (λh58=>?_) (λh58=>?_)
 refine aw ?_
 refine dc ?_
 exact gz
 refine bW ?_
 refine cX ?_
 refine jz (λh59=>?_) (λh59=>?_)
 refine a6 ?_
 refine kn (λh60=>?_) (λh60=>?_)
 refine dc ?_
 exact gB
 refine ai ?_
 refine jz (λh61=>?_) (λh61=>?_)
 refine aj ?_
 exact gC
 refine au ?_
 exact gD
 refine cL ?_
 refine ai ?_
 refine jz (λh62=>?_) (λh62=>?_)
 refine aj ?_
 exact gC
 refine au ?_
 exact gD
 refine cr ?_
 refine jz (λh63=>?_) (λh63=>?_)
 refine a6 ?_
 refine kn (λh64=>?_) (λh64=>?_)
 refine dc ?_
 exact gB
 refine ai ?_
 refine jz (λh65=>?_) (λh65=>?_)
 refine aj ?_
 exact gC
 refine au ?_
 exact gD
 refine cL ?_
 refine ai ?_
 refine jz (λh66=>?_) (λh66=>?_)
 refine aj ?_
 exact gC
 refine au ?_
 exact gD
def ahj (_a0:iX) (_a1:Int) (_a2:kF) (v:AV):Prop:=∃ r0:lE,∃ r1:Int,((((r1=0->r0.mY.l=[_a2.at_]/\0<=_a2.at_.elem/\_a2.at_.elem<(_a0.p.elems.l.length:Int))/\r1=qz _a0.p _a1 _a2))/\rs 121 [.ip (iX.ag _a0) 0 false,iv _a1,.agg (kF.ag _a2)]=.jl [.agg (lE.ag r0),iv r1])/\v=.jl [.agg (lE.ag r0),iv r1]
def t121 (a0:iX) (a1:Int) (a2:kF) (qn:vL a0) (h:aT):∃ v,ji cfg FT js false 121 [.ip (iX.ag a0) 0 false,iv a1,.agg (kF.ag a2)] h v h/\ahj a0 a1 a2 v:=by
 obtain ⟨v,hc,hP,hr⟩:=nX rD (aa3 a0 a1 a2 qn) h
 obtain ⟨r0,r1,hp,rfl⟩:=hP
 exact ⟨_,hc,r0,r1,⟨hp,hr⟩,rfl⟩
def agP {H:aT} (vs:AV) (l:List Int) (a:Int) (b:Int) (F:List jW) (hS:Sep H (mT j4 1 vs l::F)) (q1:b<=a+1) (q2:0<=a) (q3:a<=1000):∃ v H',ji cfg FT js true 323 [vs,iv a,iv b] { H with iI:=[] } v H'/\((True)/\Sep H' (mT j4 1 vs l::F)/\v=.jl []):=by
 refine kh I4 ?_
 refine ao ?_
 refine jq ?_
 refine aL ?_
 refine nS (λm1 e h=>m1=0/\At [0,1,2,6] [vs,iv a,iv b,iv (a+1)] H [] e h) ?_ _ _ _ ⟨rfl,(jD hS [(0,0)])⟩
 rintro m1 e h ⟨hmm1,hA⟩
 refine cG ?_
 refine jk (λh2=>?_) (λh2=>?_)
 exfalso; omega
 refine aM ?_
 have hS3:=Sep.pick hS [0] 1 dA dA
 exact ⟨.jl [],rfl,zT,Sep.iI hS3 _,rfl⟩
def ahU {H:aT} (vs:AV) (l:List Int) (a:Int) (b:Int) (c:Int) (F:List jW) (hS:Sep H (mT j4 1 vs l::F)) (q1:b<=a+1) (q2:0<=a) (q3:a<=1000) (q4:0<=b):∃ v H',ji cfg FT js true 288 [vs,iv a,iv b,iv c] { H with iI:=[] } v H'/\((True)/\Sep H' (mT j4 1 vs l::F)/\v=.jl []):=by
 refine kh JB ?_
 refine br ?_
 refine bj ?_
 refine nS (λm1 e h=>m1=0/\At [0,1,2,3,8,9] [vs,iv a,iv b,iv c,.bool true,.bool true] H [] e h) ?_ _ _ _ ⟨rfl,(jD hS [(0,0)])⟩
 rintro m1 e h ⟨hmm1,hA⟩
 refine rA hA ?_
 refine qb ?_
 refine ae ?_
 refine nI ?_
 refine az ?_
 refine sj (λh2=>?_) (λh2=>?_)
 refine aC ?_
 refine aJ ?_
 have hS3:=Sep.pick hS [0] 1 dA dA
 refine jV (H:=H) (args:=[vs,iv a,iv b]) (p:=[]) (r:=[]) rfl rfl rfl rfl rfl (jb (Sep.arg (i:=0) hS rfl) (jb rfl (jb rfl kg))) rfl (agP vs l a b F hS3 dw dw dw) ?_
 rintro _ H4 ⟨hc6,hS5,rfl⟩
 refine oN ?_
 refine qr ?_
 have hS7:=Sep.pick hS5 [0] 1 dA dA
 exact ⟨.jl [],rfl,zT,Sep.iI hS7 _,rfl⟩
 exfalso; omega
def L3 (k:Nat) (h:aT):l3 cfg FT js (k+8) false 289 [.int .u64 0] h=some (.int .i64 0,h):=by kernel_rfl
def afD (k:Nat) (h:aT):l3 cfg FT js (k+8) false 289 [.int .u64 1] h=some (.int .i64 1,h):=by kernel_rfl
def ae0 (_a0:Int) (v:AV):Prop:=∃ r0:Int,(0<=r0/\r0<=64)/\v=iv r0
def t289 (a0:Int) (q1:a0=0\/a0=1) (h:aT):∃ v,ji cfg FT js false 289 [.int .u64 a0] h v h/\ae0 a0 v:=by
 rcases q1 with rfl | rfl
 ·exact ⟨iv 0,⟨8,λk hk=>by obtain ⟨j,rfl⟩:=Nat.exists_eq_add_of_le' hk; exact L3 j h⟩,0,by omega,rfl⟩
 ·exact ⟨iv 1,⟨8,λk hk=>by obtain ⟨j,rfl⟩:=Nat.exists_eq_add_of_le' hk; exact afD j h⟩,1,by omega,rfl⟩
def u96 {H:aT} (vs:AV) (l:List Int) (F:List jW) (hS:Sep H (mT j4 1 vs l::F)) (q1:l.length<=1):∃ v H',ji cfg FT js true 218 [vs] { H with iI:=[] } v H'/\((True)/\Sep H' (mT j4 1 vs l::F)/\v=.jl []):=by
 refine kh HM ?_
 refine ao ?_
 refine iT rfl (λ_=>oT (i:=0) hS rfl rfl rfl rfl rfl rfl rfl) ?_
 refine ab ?_
 refine bv ?_
 refine iT rfl (λ_=>U0 rfl rfl rfl rfl dB dB) ?_
 refine oC (t289 ((l.length:Int)) dw) ?_
 rintro _ ⟨r2,hc1,rfl⟩
 have hS3:=Sep.pick hS [0] 1 dA dA
 refine jV (H:=H) (args:=[vs,iv 0,iF l.length,iv r2]) (p:=[]) (r:=[]) rfl rfl rfl rfl rfl (jb (Sep.arg (i:=0) hS rfl) (jb rfl (jb rfl (jb rfl kg)))) rfl (ahU vs l 0 ((l.length:Int)) r2 F hS3 dw dw dw dw) ?_
 rintro _ H4 ⟨hc6,hS5,rfl⟩
 refine oN ?_
 have hS7:=Sep.pick hS5 [0] 1 dA dA
 exact ⟨.jl [],rfl,zT,Sep.iI hS7 _,rfl⟩
def u97 {H:aT} (vs:AV) (l:List Int) (F:List jW) (hS:Sep H (mT j4 1 vs l::F)) (q1:l.length<=1):∃ v H',ji cfg FT js true 219 [vs] { H with iI:=[] } v H'/\(∃ vo:AV,(True)/\Sep H' (mT j4 1 vo l::F)/\v=vo):=by
 refine kh Ih ?_
 refine bC ?_
 refine iT rfl (λ_=>oT (i:=0) hS rfl rfl rfl rfl rfl rfl rfl) ?_
 refine jk (λh1=>?_) (λh1=>?_)
 refine aN ?_
 have hS2:=Sep.pick hS [0] 1 dA dA
 exact ⟨vs,(lN (vs:=[vs]) rfl (jb (Sep.arg (i:=0) hS rfl) kg)),vs,zT,Sep.iI hS2 _,rfl⟩
 exfalso; omega
def ag3 (_a0:iX) (_a1:lE) (v:AV):Prop:=∃ r0:Row Int,(r0.l=oa _a0.p _a1.mY.l)/\v=kr r0
def t122 (a0:iX) (a1:lE) (q1:a1.mY.l.length<=1):Ct 122 [.ip (iX.ag a0) 0 false,.agg (lE.ag a1)] (ag3 a0 a1):=by
 refine jf Is ?_
 refine aX ?_
 refine br ?_
 refine aZ ?_
 have hL1:=a1.mY.lk
 refine jK a1.mY ?_
 refine aL ?_
 have hS2:=Sep.mX kB 1
 have hNk3:=a1.mY.lk
 refine iW a1.mY.l.length (λk3 e h=>∃ v4:AV,∃ l5:List Int,∃ H6:aT,(l5=oa a0.p (a1.mY.l.take k3))/\(l5.length<=k3)/\Sep H6 (qo v4 l5::[])/\At [0,5,9,10,11] [.ip (iX.ag a0) 0 false,v4,nm a1.mY,iF a1.mY.l.length,iF k3] H6 [] e h) ?_ (k0:=0) dD ⟨iS,(([]:List Int)),aT.empty,fT,fg,hS2,atR⟩
 rintro k3 e h hkk3 ⟨v4,l5,H6,hI,hI2,hS7,hA⟩
 refine aK ?_
 refine jk (λh8=>?_) (λh8=>?_)
 refine aq ?_
 refine wz [.ip (iX.ag a0) 0 false,v4,nm a1.mY,iF a1.mY.l.length,iF k3] H6 [] ?_ (jD hS7 [(5,0)])
 refine bg ?_
 have hx9:k3<a1.mY.l.length:=by omega
 refine kQ k3 a1.mY hx9 ?_
 generalize hqx10:a1.mY.l[k3]=x10
 refine bd ?_
 refine aJ ?_
 refine oC (t138 a0 x10.elem) ?_
 rintro _ ⟨r12,hc11,rfl⟩
 have hK:=hc11
 refine lb (λh13=>?_) (λh13=>?_)
 refine aC ?_
 refine qg ?_
 refine aO ?_
 refine Gx 0 [x10.elem] hS7 λv14 H15 hS16=>?_
 refine ab ?_
 refine wz [.ip (iX.ag a0) 0 false,v14,nm a1.mY,iF a1.mY.l.length,iF k3] H15 [] ?_ (jD hS16 [(5,0)])
 refine qg ?_
 refine jq ?_
 refine ab ?_
 exact ⟨by omega,v14,((l5++[x10.elem])),H15,fW,dC,hS16,(jD hS16 [(5,0)])⟩
 refine aG ?_
 refine wz [.ip (iX.ag a0) 0 false,v4,nm a1.mY,iF a1.mY.l.length,iF k3] H6 [] ?_ (jD hS7 [(5,0)])
 refine qg ?_
 refine jq ?_
 refine ab ?_
 exact ⟨by omega,v4,l5,H6,fW,dC,hS7,(jD hS7 [(5,0)])⟩
 refine ap ?_
 refine wz [v4] H6 [] ?_ (jD hS7 [(5,0)])
 refine ao ?_
 have hS17:=Sep.wZ (i:=0) hS7 rfl
 have hS18:Sep H6 (mT j4 1 v4 l5::[]):=Sep.pick hS17 [0] 1 dA dA
 refine jV (H:=H6) (args:=[v4]) (p:=[]) (r:=[]) rfl rfl rfl rfl rfl (jb (Sep.arg (i:=0) hS17 rfl) kg) rfl (u96 v4 l5 ([]) hS18 dw) ?_
 rintro _ H19 ⟨hc21,hS20,rfl⟩
 refine oN ?_
 refine ao ?_
 have hS22:Sep H19 (mT j4 1 v4 l5::[]):=Sep.pick hS20 [0] 1 dA dA
 refine jV (H:=H19) (args:=[v4]) (p:=[]) (r:=[]) rfl rfl rfl rfl rfl (jb (Sep.arg (i:=0) hS20 rfl) kg) rfl (u97 v4 l5 ([]) hS22 dw) ?_
 rintro vo26 H23 ⟨_,hc25,hS24,rfl⟩
 refine af ?_
 obtain ⟨r27,hl28,hf29⟩:=mE (H:=H23) (i:=0) (l:=l5) (enc:=j4) hS24 rfl dz
 have hlq:=hl28; have hln31:=congrArg List.length hl28
 have hz30:∀ m,freeze false { H23 with iI:=[] } (m+2) vo26=some (kr r27):=λm=>hf29 _ _ (λ_=>rfl)
 exact ⟨vo26,(lN (vs:=[vo26]) rfl (jb (Sep.arg (i:=0) hS24 rfl) kg)),kr r27,(show freeze false { H23 with iI:=[] } 8 vo26=some (kr r27) by simp only [FZ,hz30]),r27,(by rw [List.take_of_length_le dD] at hI; first | (simp_all; done) | (rw [hI] at *; first | assumption | (simp_all; done))),rfl⟩
def P61 (_a0:iX) (_a1:iO) (v:AV):Prop:=∃ r0:Int,(((r0=0->(∀ i,i < _a1.runs.l.length->∃ b:lE,rs 121 [.ip (iX.ag _a0) 0 false,.int .i64 (uo _a1 i),.agg (lT _a0.p _a1 i).ag]=.jl [.agg b.ag,.int .i64 0])/\(∀ i j,i<j->j < _a1.runs.l.length->∀ x∈oa _a0.p [(lT _a0.p _a1 i).at_],x∉oa _a0.p [(lT _a0.p _a1 j).at_]))/\mO _a0.p _a1 r0))/\v=iv r0
def t61 (a0:iX) (a1:iO) (q1:∀ r∈a1.runs.l,0<=r.iU/\r.iU<(a1.iU.l.length:Int)) (qn:vL a0):Ct 61 [.ip (iX.ag a0) 0 false,.agg (iO.ag a1)] (P61 a0 a1):=by
 refine jf NP ?_
 refine ao ?_
 refine aW ?_
 refine jG rfl (mc kB) ?_
 rintro _ H2 ⟨b1,rfl,hS3⟩
 refine cq ?_
 refine aZ ?_
 have hL4:=a1.runs.lk
 refine cA ?_
 have hNk5:=a1.runs.lk
 refine iW a1.runs.l.length (λk5 e h=>∃ l6:List (Int×Bool),∃ n7:Int,∃ H8:aT,(∀ i,i<k5->∃ b:lE,rs 121 [.ip (iX.ag a0) 0 false,.int .i64 (uo a1 i),.agg (lT a0.p a1 i).ag]=.jl [.agg b.ag,.int .i64 0])/\(Tk (λi=>oa a0.p [(lT a0.p a1 i).at_]) k5 l6 n7)/\(∀ i,i<k5->uL a0.p a1 i=0)/\(qm (oI a0.p a1) k5 [] l6 n7)/\(n7=0\/n7=18/\oM (oI a0.p a1) k5)/\Sep H8 (lW b1 iK bK l6::[])/\At [0,3,5,6,17,18,19] [.ip (iX.ag a0) 0 false,.la 3 0,iv n7,(.hm b1),jF a1.runs,iF a1.runs.l.length,iF k5] H8 [(3,(iO.ag a1))] e h) ?_ (k0:=0) dD ⟨([]),0,H2,fx,(by exact Tk.zero _),fx,(by exact qm.zero _),(by exact .inl rfl),hS3,atR⟩
 rintro k5 e h hkk5 ⟨l6,n7,H8,hQ,hB,hEr,hC,hBm,hS9,hA⟩
 refine aK ?_
 refine jk (λh10=>?_) (λh10=>?_)
 refine aq ?_
 refine wz [.ip (iX.ag a0) 0 false,.la 3 0,iv n7,(.hm b1),jF a1.runs,iF a1.runs.l.length,iF k5] H8 [(3,(iO.ag a1))] ?_
 refine bE ?_
 have hx11:k5<a1.runs.l.length:=by omega
 refine kQ k5 a1.runs hx11 ?_
 generalize hqx12:a1.runs.l[k5]=x12
 have hinx12:x12∈a1.runs.l:=by rw [<- hqx12]; exact List.getElem_mem _
 have hsx12:=q1 x12 hinx12
 refine bW ?_
 refine aJ ?_
 refine oC (t104 a0 a1 ((k5:Int))) ?_
 rintro _ ⟨r14,r15,hc13,rfl⟩
 have hTr:=hc13
 cases r15
 refine aQ ?_
 refine dt ?_
 have hx16:(x12.iU).toNat<a1.iU.l.length:=by omega
 refine jh rfl rfl (λ_=>jA (n:=x12.iU) (r:=a1.iU) (enc:=jr.ag) rfl rfl rfl rfl rfl dD hx16 rfl) ?_
 generalize hqx17:a1.iU.l[(x12.iU).toNat]=x17
 refine bB ?_
 refine rC (t121 a0 x17.len r14 dw) ?_
 rintro _ ⟨r19,r20,⟨hc18,hc18r⟩,rfl⟩
 have hSt:=hc18r; have hStt:=hc18.1; have hSw:=hc18.2
 refine bw ?_
 refine aB ?_
 refine lb (λh21=>?_) (λh21=>?_)
 refine aN ?_
 exact xB ⟨r20,ez,rfl⟩
 refine aG ?_
 refine wz [.ip (iX.ag a0) 0 false,.la 3 0,iv n7,(.hm b1),.la 11 0,jF a1.runs,iF a1.runs.l.length,iF k5] H8 [(3,(iO.ag a1)),(11,(lE.ag r19))] ?_
 refine ae ?_
 refine oC (t122 a0 r19 dw) ?_
 rintro _ ⟨r23,hc22,rfl⟩
 have hLie:=hc22
 have hL24:=r23.lk
 refine jK r23 ?_
 refine aL ?_
 have hNk25:=r23.lk
 refine iW r23.l.length (λpd e h=>∃ l26:List (Int×Bool),∃ n27:Int,∃ H28:aT,(uz (λi=>oa a0.p [(lT a0.p a1 i).at_]) k5 (r23.l.take pd) l26 n27)/\(qm (oI a0.p a1) k5 (r23.l.take pd) l26 n27)/\Sep H28 (lW b1 iK bK l26::[])/\At [0,3,5,6,17,18,19,49,50,51] [.ip (iX.ag a0) 0 false,.la 3 0,iv n27,(.hm b1),jF a1.runs,iF a1.runs.l.length,iF k5,kr r23,iF r23.l.length,iF pd] H28 [(3,(iO.ag a1))] e h) ?_ (k0:=0) dD ⟨l6,n7,H8,(by exact Tk.start hB _),(by exact qm.start hC _),hS9,atR⟩
 rintro pd e h hkk25 ⟨l26,n27,H28,hB2,hC2,hS29,hA⟩
 refine aK ?_
 refine jk (λh30=>?_) (λh30=>?_)
 refine aq ?_
 refine wz [.ip (iX.ag a0) 0 false,.la 3 0,iv n27,(.hm b1),jF a1.runs,iF a1.runs.l.length,iF k5,kr r23,iF r23.l.length,iF pd] H28 [(3,(iO.ag a1))] ?_
 refine bg ?_
 have hx31:pd<r23.l.length:=by omega
 refine kQ pd r23 hx31 ?_
 generalize hqx32:r23.l[pd]=x32
 refine cq ?_
 refine aZ ?_
 refine ma (H:=H28) (i:=0) (ek:=iK) (ev:=bK) (l:=l26) x32 rfl rfl hS29 rfl rfl rfl rfl rfl rfl rfl rfl pE (λy33 h34=>?_) (λh35=>?_)
 cases y33
 exact absurd (hB2.tk.val _ (nr h34)) fg
 refine aC ?_
 refine qg ?_
 refine ab ?_
 refine wz [.ip (iX.ag a0) 0 false,.la 3 0,iv 18,(.hm b1),iv x32,jF a1.runs,iF a1.runs.l.length,iF k5,kr r23,iF r23.l.length,iF pd] H28 [(3,(iO.ag a1))] ?_
 refine c6 ?_
 rintro _ H36 ⟨rfl,hS37⟩
 refine oN ?_
 refine wz [.ip (iX.ag a0) 0 false,.la 3 0,iv 18,(.hm b1),jF a1.runs,iF a1.runs.l.length,iF k5,kr r23,iF r23.l.length,iF pd] H36 [(3,(iO.ag a1))] ?_
 refine qg ?_
 refine jq ?_
 refine ab ?_
 exact ⟨by omega,((put x32 true l26)),18,H36,e8,eC,hS37,atR⟩
 refine aG ?_
 refine wz [.ip (iX.ag a0) 0 false,.la 3 0,iv n27,(.hm b1),iv x32,jF a1.runs,iF a1.runs.l.length,iF k5,kr r23,iF r23.l.length,iF pd] H28 [(3,(iO.ag a1))] ?_
 refine c6 ?_
 rintro _ H38 ⟨rfl,hS39⟩
 refine oN ?_
 refine wz [.ip (iX.ag a0) 0 false,.la 3 0,iv n27,(.hm b1),jF a1.runs,iF a1.runs.l.length,iF k5,kr r23,iF r23.l.length,iF pd] H38 [(3,(iO.ag a1))] ?_
 refine qg ?_
 refine jq ?_
 refine ab ?_
 exact ⟨by omega,((put x32 true l26)),n27,H38,e8,eC,hS39,atR⟩
 refine ap ?_
 refine wz [.ip (iX.ag a0) 0 false,.la 3 0,iv n27,(.hm b1),jF a1.runs,iF a1.runs.l.length,iF k5] H28 [(3,(iO.ag a1))] ?_
 refine qg ?_
 refine jq ?_
 refine ab ?_
 exact ⟨by omega,l26,n27,H28,fU,(by exact uz.done hB2 dD fy),eW,(by exact qm.done hC2 dD fy),(by exact hC2.err),hS29,atR⟩
 refine aQ ?_
 refine dt ?_
 have hx40:(x12.iU).toNat<a1.iU.l.length:=by omega
 refine jh rfl rfl (λ_=>jA (n:=x12.iU) (r:=a1.iU) (enc:=jr.ag) rfl rfl rfl rfl rfl dD hx40 rfl) ?_
 generalize hqx41:a1.iU.l[(x12.iU).toNat]=x41
 refine bB ?_
 refine rC (t121 a0 x41.len r14 dw) ?_
 rintro _ ⟨r43,r44,⟨hc42,hc42r⟩,rfl⟩
 have hSt:=hc42r; have hStt:=hc42.1; have hSw:=hc42.2
 refine bw ?_
 refine aB ?_
 refine lb (λh45=>?_) (λh45=>?_)
 refine aN ?_
 exact xB ⟨r44,ez,rfl⟩
 refine aG ?_
 refine wz [.ip (iX.ag a0) 0 false,.la 3 0,iv n7,(.hm b1),.la 11 0,jF a1.runs,iF a1.runs.l.length,iF k5] H8 [(3,(iO.ag a1)),(11,(lE.ag r43))] ?_
 refine ae ?_
 refine oC (t122 a0 r43 dw) ?_
 rintro _ ⟨r47,hc46,rfl⟩
 have hLie:=hc46
 have hL48:=r47.lk
 refine jK r47 ?_
 refine aL ?_
 have hNk49:=r47.lk
 refine iW r47.l.length (λoo e h=>∃ l50:List (Int×Bool),∃ n51:Int,∃ H52:aT,(uz (λi=>oa a0.p [(lT a0.p a1 i).at_]) k5 (r47.l.take oo) l50 n51)/\(qm (oI a0.p a1) k5 (r47.l.take oo) l50 n51)/\Sep H52 (lW b1 iK bK l50::[])/\At [0,3,5,6,17,18,19,49,50,51] [.ip (iX.ag a0) 0 false,.la 3 0,iv n51,(.hm b1),jF a1.runs,iF a1.runs.l.length,iF k5,kr r47,iF r47.l.length,iF oo] H52 [(3,(iO.ag a1))] e h) ?_ (k0:=0) dD ⟨l6,n7,H8,(by exact Tk.start hB _),(by exact qm.start hC _),hS9,atR⟩
 rintro oo e h hkk49 ⟨l50,n51,H52,hB2,hC2,hS53,hA⟩
 refine aK ?_
 refine jk (λh54=>?_) (λh54=>?_)
 refine aq ?_
 refine wz [.ip (iX.ag a0) 0 false,.la 3 0,iv n51,(.hm b1),jF a1.runs,iF a1.runs.l.length,iF k5,kr r47,iF r47.l.length,iF oo] H52 [(3,(iO.ag a1))] ?_
 refine bg ?_
 have hx55:oo<r47.l.length:=by omega
 refine kQ oo r47 hx55 ?_
 generalize hqx56:r47.l[oo]=x56
 refine cq ?_
 refine aZ ?_
 refine ma (H:=H52) (i:=0) (ek:=iK) (ev:=bK) (l:=l50) x56 rfl rfl hS53 rfl rfl rfl rfl rfl rfl rfl rfl pE (λy57 h58=>?_) (λh59=>?_)
 cases y57
 exact absurd (hB2.tk.val _ (nr h58)) fg
 refine aC ?_
 refine qg ?_
 refine ab ?_
 refine wz [.ip (iX.ag a0) 0 false,.la 3 0,iv 18,(.hm b1),iv x56,jF a1.runs,iF a1.runs.l.length,iF k5,kr r47,iF r47.l.length,iF oo] H52 [(3,(iO.ag a1))] ?_
 refine c7 ?_
 rintro _ H60 ⟨rfl,hS61⟩
 refine oN ?_
 refine wz [.ip (iX.ag a0) 0 false,.la 3 0,iv 18,(.hm b1),jF a1.runs,iF a1.runs.l.length,iF k5,kr r47,iF r47.l.length,iF oo] H60 [(3,(iO.ag a1))] ?_
 refine qg ?_
 refine jq ?_
 refine ab ?_
 exact ⟨by omega,((put x56 true l50)),18,H60,e8,eC,hS61,atR⟩
 refine aG ?_
 refine wz [.ip (iX.ag a0) 0 false,.la 3 0,iv n51,(.hm b1),iv x56,jF a1.runs,iF a1.runs.l.length,iF k5,kr r47,iF r47.l.length,iF oo] H52 [(3,(iO.ag a1))] ?_
 refine c7 ?_
 rintro _ H62 ⟨rfl,hS63⟩
 refine oN ?_
 refine wz [.ip (iX.ag a0) 0 false,.la 3 0,iv n51,(.hm b1),jF a1.runs,iF a1.runs.l.length,iF k5,kr r47,iF r47.l.length,iF oo] H62 [(3,(iO.ag a1))] ?_
 refine qg ?_
 refine jq ?_
 refine ab ?_
 exact ⟨by omega,((put x56 true l50)),n51,H62,e8,eC,hS63,atR⟩
 refine ap ?_
 refine wz [.ip (iX.ag a0) 0 false,.la 3 0,iv n51,(.hm b1),jF a1.runs,iF a1.runs.l.length,iF k5] H52 [(3,(iO.ag a1))] ?_
 refine qg ?_
 refine jq ?_
 refine ab ?_
 exact ⟨by omega,l50,n51,H52,fU,(by exact uz.done hB2 dD fy),eW,(by exact qm.done hC2 dD fy),(by exact hC2.err),hS53,atR⟩
 refine ap ?_
 refine wz [iv n7] H8 [] ?_
 refine bJ ?_
 exact xB ⟨n7,ez,rfl⟩
def ahl (_a0:jY) (_a1:iO) (v:AV):Prop:=∃ r0:Int,(((r0=0->((rs 116 [.agg (bG.ag _a0.ki),j6 _a1.iU]=iv 0/\(∀ r∈_a1.runs.l,(rs 215 [.str r.name.l]=.bool true/\0<=r.iU/\r.iU<(_a1.iU.l.length:Int)/\0<=r.from_/\r.from_<(_a0.ki.signals.l.length:Int)))/\(∀ (i j:Nat) (h:j < _a1.runs.l.length) (hij:i<j),j < _a1.runs.l.length->(_a1.runs.l[i]).name.l≠(_a1.runs.l[j]).name.l)/\_a1.runs.l.length<=8)/\∃ n:iX,ou n _a0.ki/\rs 29 [.agg (bG.ag _a0.ki)]=.jl [.ip (iX.ag n) 0 false,iv 0]/\(∀ i,i < _a1.runs.l.length->∃ b:lE,rs 121 [.ip (iX.ag n) 0 false,.int .i64 (uo _a1 i),.agg (lT n.p _a1 i).ag]=.jl [.agg b.ag,.int .i64 0])/\(∀ i j,i<j->j < _a1.runs.l.length->∀ x∈oa n.p [(lT n.p _a1 i).at_],x∉oa n.p [(lT n.p _a1 j).at_])))/\(s8 _a0.ki _a1->o4 _a0.ki _a0.roads.l _a1 r0)))/\v=iv r0
def ahB (a0:jY) (a1:iO) (q1:lS a0.ki) (q2:a0.roads.l.length<=64) (q3:∃ nx:iX,ou nx a0.ki/\rs 29 [.agg (bG.ag a0.ki)]=.jl [.ip (iX.ag nx) 0 false,iv 0]):Ct 28 [.agg (jY.ag a0),.agg (iO.ag a1)] (ahl a0 a1):=by
 refine jf Mu ?_
 obtain ⟨nx,hnk,hnx⟩:=q3
 have hNe:=hnk; have hNr:=hnx; have hFw:=hnk.Ed; have hFs:=hnk.Ed.signals; have hFl:=hnk.len; have hRg:=hnk.rg; have hNs:=hnk.self
 refine cg ?_
 refine bM ?_
 refine jV (H:=aT.empty) (args:=[jP a0.ki.signals,.jQ 59 [] []]) (p:=[]) (r:=[]) rfl rfl rfl rfl rfl rfl rfl (WS (Row.ny a0.ki.signals) ([]) kB) ?_
 rintro _ H2 ⟨r5,hc4,hS3,rfl⟩
 have hSg:=hc4
 cases r5
 refine aG ?_
 refine bM ?_
 refine oC (t60 a0.ki a1) ?_
 rintro _ ⟨r7,hc6,rfl⟩
 have hD:=hc6.1; have hDd:=hc6.2; have hPre:=λ(hz : _=(0:Int)) (r:jC) (hr:r∈a1.runs.l)=>And.intro ((hc6.1 hz).2.1 r hr).2.1 ((hc6.1 hz).2.1 r hr).2.2.1
 refine cV ?_
 refine lb (λh8=>?_) (λh8=>?_)
 refine aN ?_
 exact xB ⟨r7,dQ,rfl⟩
 refine aG ?_
 refine ae ?_
 refine oC (V6 a0.ki dw hnx) ?_
 rintro _ rfl
 refine cI ?_
 refine ah ?_
 refine aZ ?_
 refine oC (t61 nx a1 dw dw) ?_
 rintro _ ⟨r11,hc10,rfl⟩
 have hSs:=hc10.1; have hSt2:=hc10.2
 rw [hnk.ki,Ep] at hSt2
 refine cV ?_
 refine lb (λh12=>?_) (λh12=>?_)
 refine aN ?_
 exact xB ⟨r11,dQ,rfl⟩
 refine aG ?_
 refine aZ ?_
 have hL13:=a1.runs.lk
 refine cA ?_
 have hNk14:=a1.runs.lk
 refine iW a1.runs.l.length (λkz e h=>(∀ i,i<kz->¬ qL a0.ki a0.roads.l a1 i)/\At [2,3,6,38,39,40] [.la 2 0,.la 3 0,.ip (iX.ag nx) 0 false,jF a1.runs,iF a1.runs.l.length,iF kz] H2 [(2,(jY.ag a0)),(3,(iO.ag a1))] e h) ?_ (k0:=0) dD ⟨fx,atR⟩
 rintro kz e h hkk14 ⟨hBd,hA⟩
 refine aK ?_
 refine jk (λh15=>?_) (λh15=>?_)
 refine aq ?_
 refine bE ?_
 have hx16:kz<a1.runs.l.length:=by omega
 refine kQ kz a1.runs hx16 ?_
 generalize hqx17:a1.runs.l[kz]=x17
 refine bW ?_
 refine aZ ?_
 have hL18:=x17.iY.lk
 refine jK x17.iY ?_
 refine jz (λh19=>?_) (λh19=>?_)
 refine bk ?_
 refine cz ?_
 refine ac ?_
 exact xB ⟨10,dQ,rfl⟩
 refine bR ?_
 have hL20:=x17.iY.lk
 refine jK x17.iY ?_
 have hL21:=x17.iY.lk
 refine nI ?_
 have hx22:((x17.iY.l.length:Int) - 1).toNat<x17.iY.l.length:=by omega
 refine iT rfl (λ_=>jA (n:=(x17.iY.l.length:Int) - 1) (r:=x17.iY) (enc:=jR.ag) rfl rfl rfl rfl rfl dD hx22 rfl) ?_
 generalize hqx23:x17.iY.l[((x17.iY.l.length:Int) - 1).toNat]=x23
 refine aw ?_
 refine lb (λh24=>?_) (λh24=>?_)
 refine ac ?_
 exact xB ⟨10,dQ,rfl⟩
 refine ah ?_
 refine ae ?_
 have hL25:=x17.iY.lk
 refine jK x17.iY ?_
 refine aL ?_
 have hNk26:=x17.iY.lk
 refine iW x17.iY.l.length (λkR e h=>(∀ i:Nat,i<kR->lC a0.ki a0.roads.l a1 (kz:Nat) (i:Nat)≠[])/\At [2,3,6,8,38,39,40,63,64] [.la 2 0,.la 3 0,.ip (iX.ag nx) 0 false,iF kz,jF a1.runs,iF a1.runs.l.length,iF kz,iF x17.iY.l.length,iF kR] H2 [(2,(jY.ag a0)),(3,(iO.ag a1))] e h) ?_ (k0:=0) dD ⟨fx,atR⟩
 rintro kR e h hkk26 ⟨hRn,hA⟩
 refine aK ?_
 refine jk (λh27=>?_) (λh27=>?_)
 refine bP ?_
 refine aa ?_
 refine cM ?_
 refine oC (t34 nx a0.roads a1 ((kz:Int)) ((kR:Int)) dw dw dw) ?_
 rintro _ ⟨r29,⟨hc28,hc28r⟩,rfl⟩
 have hRo:=hc28.2.1; have hRl:=hc28.1; have hRe:=hc28.2.2
 rw [hnk.ki,FE] at hRe
 have hL30:=r29.lk
 refine jK r29 ?_
 refine jz (λh31=>?_) (λh31=>?_)
 refine bh ?_
 exact xB ⟨10,dQ,rfl⟩
 refine bZ ?_
 refine jq ?_
 refine ab ?_
 exact ia
 refine ap ?_
 refine qg ?_
 refine jq ?_
 refine ab ?_
 exact ⟨by omega,gh,atR⟩
 refine cy ?_
 exact xB ⟨0,dQ,rfl⟩
 refine bh ?_
 exact xB ⟨7,dQ,rfl⟩
def P28 (_a0:jY) (_a1:iO) (v:AV):Prop:=∃ r0:Int,((((r0=0->((rs 116 [.agg (bG.ag _a0.ki),j6 _a1.iU]=iv 0/\(∀ r∈_a1.runs.l,(rs 215 [.str r.name.l]=.bool true/\0<=r.iU/\r.iU<(_a1.iU.l.length:Int)/\0<=r.from_/\r.from_<(_a0.ki.signals.l.length:Int)))/\(∀ (i j:Nat) (h:j < _a1.runs.l.length) (hij:i<j),j < _a1.runs.l.length->(_a1.runs.l[i]).name.l≠(_a1.runs.l[j]).name.l)/\_a1.runs.l.length<=8)/\∃ n:iX,ou n _a0.ki/\rs 29 [.agg (bG.ag _a0.ki)]=.jl [.ip (iX.ag n) 0 false,iv 0]/\(∀ i,i < _a1.runs.l.length->∃ b:lE,rs 121 [.ip (iX.ag n) 0 false,.int .i64 (uo _a1 i),.agg (lT n.p _a1 i).ag]=.jl [.agg b.ag,.int .i64 0])/\(∀ i j,i<j->j < _a1.runs.l.length->∀ x∈oa n.p [(lT n.p _a1 i).at_],x∉oa n.p [(lT n.p _a1 j).at_])))/\(s8 _a0.ki _a1->o4 _a0.ki _a0.roads.l _a1 r0)))/\rs 28 [.agg (jY.ag _a0),.agg (iO.ag _a1)]=iv r0)/\v=iv r0
def t28 (a0:jY) (a1:iO) (q1:lS a0.ki) (q2:a0.roads.l.length<=64) (q3:∃ nx:iX,ou nx a0.ki/\rs 29 [.agg (bG.ag a0.ki)]=.jl [.ip (iX.ag nx) 0 false,iv 0]) (h:aT):∃ v,ji cfg FT js false 28 [.agg (jY.ag a0),.agg (iO.ag a1)] h v h/\P28 a0 a1 v:=by
 obtain ⟨v,hc,hP,hr⟩:=nX rD (ahB a0 a1 q1 q2 q3) h
 obtain ⟨r0,hp,rfl⟩:=hP
 exact gv
def P30 (_a0:iO) (v:AV):Prop:=∃ r0:Int,(r0=IU _a0)/\v=iv r0
def t30 (a0:iO) :Ct 30 [.agg (iO.ag a0)] (P30 a0):=by
 refine jf LX ?_
 refine aX ?_
 refine br ?_
 refine aZ ?_
 have hL1:=a0.runs.lk
 refine jK a0.runs ?_
 refine aL ?_
 have hNk2:=a0.runs.lk
 refine iW a0.runs.l.length (λk2 e h=>∃ n3:Int,(n3=(a0.runs.l.take k2).foldl BP 0)/\At [3,9,10,11] [iv n3,jF a0.runs,iF a0.runs.l.length,iF k2] aT.empty [] e h) ?_ (k0:=0) dD ⟨0,fT,atR⟩
 rintro k2 e h hkk2 ⟨n3,hLo,hA⟩
 refine aK ?_
 refine jk (λh4=>?_) (λh4=>?_)
 refine c9 ?_
 have hx5:k2<a0.runs.l.length:=by omega
 refine kQ k2 a0.runs hx5 ?_
 generalize hqx6:a0.runs.l[k2]=x6
 refine cP ?_
 have hL7:=x6.iY.lk
 refine jK x6.iY ?_
 refine aL ?_
 have hNk8:=x6.iY.lk
 refine iW x6.iY.l.length (λk8 e h=>∃ n9:Int,(n9=((x6.iY.l).take k8).foldl (λ(t:Int) (x:jR)=>max t x.at_) ((a0.runs.l.take k2).foldl BP 0))/\At [3,9,10,11,16,17,18] [iv n9,jF a0.runs,iF a0.runs.l.length,iF k2,mD x6.iY,iF x6.iY.l.length,iF k8] aT.empty [] e h) ?_ (k0:=0) dD ⟨n3,(by exact hLo),atR⟩
 rintro k8 e h hkk8 ⟨n9,hLi,hA⟩
 refine aK ?_
 refine jk (λh10=>?_) (λh10=>?_)
 refine c9 ?_
 have hx11:k8<x6.iY.l.length:=by omega
 refine kQ k8 x6.iY hx11 ?_
 generalize hqx12:x6.iY.l[k8]=x12
 refine bd ?_
 refine bv ?_
 obtain ⟨m13,hqm13⟩:∃ m:Int,(if x12.at_ > n9 then x12.at_ else n9)=m:=⟨_,rfl⟩
 have hem13:m13=max n9 x12.at_:=by rw [<- hqm13,Int.max_def]; split<;>split<;>omega
 have him13:(m13>=n9/\m13>=x12.at_)/\(m13=n9\/m13=x12.at_):=by rw [<- hqm13]; split<;>omega
 refine iT (v:=iv m13) rfl (λ_=>(by subst hqm13; rfl)) ?_
 clear hqm13
 refine oV ?_
 refine dj ?_
 refine jq ?_
 refine ab ?_
 exact im
 refine ap ?_
 refine qg ?_
 refine jq ?_
 refine ab ?_
 exact io
 refine ap ?_
 refine bJ ?_
 exact xB ⟨n3,(by exact sk hLo dD),rfl⟩
def P33 (_a0:jY) (_a1:Row Int) (v:AV):Prop:=∃ r0:Int,(r0=JC _a0.ki _a0.roads.l _a1.l)/\v=iv r0
def t33 (a0:jY) (a1:Row Int) (q1:∀ x∈a1.l,0<=x/\x<(a0.roads.l.length:Int)) (q2:∀ r∈a0.roads.l,∀ s∈r.steps.l,o7 a0.ki.elems.l s.elem) (q3:0<a1.l.length->0<a0.ki.elems.l.length):Ct 33 [.agg (jY.ag a0),kr a1] (P33 a0 a1):=by
 refine jf NN ?_
 refine aX ?_
 refine bC ?_
 have hL1:=a1.lk
 refine jK a1 ?_
 refine aL ?_
 have hNk2:=a1.lk
 refine iW a1.l.length (λk2 e h=>∃ n3:Int,(n3=(a1.l.take k2).foldl (zM a0.ki a0.roads.l) 0)/\At [2,5,11,12,13] [.la 2 0,iv n3,kr a1,iF a1.l.length,iF k2] aT.empty [(2,(jY.ag a0))] e h) ?_ (k0:=0) dD ⟨0,fT,atR⟩
 rintro k2 e h hkk2 ⟨n3,hMo,hA⟩
 refine aK ?_
 refine jk (λh4=>?_) (λh4=>?_)
 refine aq ?_
 refine wy [.la 2 0,iv n3,kr a1,iF a1.l.length,iF k2] [(2,(jY.ag a0))] ?_
 refine bg ?_
 have hx5:k2<a1.l.length:=by omega
 refine kQ k2 a1 hx5 ?_
 generalize hqx6:a1.l[k2]=x6
 have hinx6:x6∈a1.l:=by rw [<- hqx6]; exact List.getElem_mem _
 have hgx6:=q1 x6 hinx6; have hgax6:=hgx6.1; have hgbx6:=hgx6.2
 refine cq ?_
 refine br ?_
 refine bM ?_
 have hx7:(x6).toNat<a0.roads.l.length:=by omega
 refine iT rfl (λ_=>jA (n:=x6) (r:=a0.roads) (enc:=ja.ag) rfl rfl rfl rfl rfl dD hx7 rfl) ?_
 generalize hqx8:a0.roads.l[(x6).toNat]=x8
 have hinx8:x8∈a0.roads.l:=by rw [<- hqx8]; exact List.getElem_mem _
 have hgS:=q2 x8 hinx8
 refine aw ?_
 have hL9:=x8.steps.lk
 refine jK x8.steps ?_
 refine aL ?_
 have hNk10:=x8.steps.lk
 refine iW x8.steps.l.length (λld e h=>∃ n11:Int,(n11=((x8.steps.l).take ld).foldl (λ(m:Int) (s:jg)=>IntKind.i64.wrap (m+nV a0.ki s.elem)) 0)/\At [2,5,8,11,12,13,22,23,24] [.la 2 0,iv n3,iv n11,kr a1,iF a1.l.length,iF k2,jo x8.steps,iF x8.steps.l.length,iF ld] aT.empty [(2,(jY.ag a0))] e h) ?_ (k0:=0) dD ⟨0,fT,atR⟩
 rintro ld e h hkk10 ⟨n11,hSm,hA⟩
 refine aK ?_
 refine jk (λh12=>?_) (λh12=>?_)
 refine aq ?_
 refine wy [.la 2 0,iv n3,iv n11,kr a1,iF a1.l.length,iF k2,jo x8.steps,iF x8.steps.l.length,iF ld] [(2,(jY.ag a0))] ?_
 refine bg ?_
 have hx13:ld<x8.steps.l.length:=by omega
 refine kQ ld x8.steps hx13 ?_
 generalize hqx14:x8.steps.l[ld]=x14
 have hinx14:x14∈x8.steps.l:=by rw [<- hqx14]; exact List.getElem_mem _
 have hgx14:=hgS x14 hinx14; have hgax14:=hgx14.1.1; have hgbx14:=hgx14.2; have hgcx14:=q3 dD
 refine aH ?_
 refine dj ?_
 refine cM ?_
 have hx15:(x14.elem).toNat<a0.ki.elems.l.length:=by omega
 refine iT rfl (λ_=>jA (n:=x14.elem) (r:=a0.ki.elems) (enc:=ko.ag) rfl rfl rfl rfl rfl dD hx15 rfl) ?_
 generalize hqx16:a0.ki.elems.l[(x14.elem).toNat]=x16
 refine aw ?_
 refine iT rfl (λ_=>j9 rfl rfl rfl (mu .i64 n11 x16.len)) ?_
 refine ab ?_
 refine wy [.la 2 0,iv n3,iv (IntKind.i64.wrap (n11+(x16.len))),kr a1,iF a1.l.length,iF k2,jo x8.steps,iF x8.steps.l.length,iF ld] [(2,(jY.ag a0))] ?_
 refine qg ?_
 refine jq ?_
 refine ab ?_
 exact ⟨by omega,(IntKind.i64.wrap (n11+(x16.len))),(by exact M3 dv hSm dD dv),atR⟩
 refine ap ?_
 refine wy [.la 2 0,iv n3,iv n11,kr a1,iF a1.l.length,iF k2] [(2,(jY.ag a0))] ?_
 refine cm ?_
 obtain ⟨m17,hqm17⟩:∃ m:Int,(if n11 > n3 then n11 else n3)=m:=⟨_,rfl⟩
 have hem17:m17=max n3 n11:=by rw [<- hqm17,Int.max_def]; split<;>split<;>omega
 have him17:(m17>=n3/\m17>=n11)/\(m17=n3\/m17=n11):=by rw [<- hqm17]; split<;>omega
 refine iT (v:=iv m17) rfl (λ_=>(by subst hqm17; rfl)) ?_
 clear hqm17
 refine ab ?_
 refine wy [.la 2 0,iv m17,kr a1,iF a1.l.length,iF k2] [(2,(jY.ag a0))] ?_
 refine qg ?_
 refine jq ?_
 refine ab ?_
 exact ⟨by omega,m17,(by exact rb dv hMo (FQ dv hSm dD dv)),atR⟩
 refine ap ?_
 refine wy [iv n3] [] ?_
 refine bJ ?_
 exact xB ⟨n3,(by exact sk hMo dD),rfl⟩
def P11 (_a0:jY) (_a1:iO) (v:AV):Prop:=∃ r0:Int,(Cp _a0.ki _a0.roads.l _a1 r0)/\v=iv r0
def t11 (a0:jY) (a1:iO) (q1:lS a0.ki) (q2:a0.roads.l.length<=64) (q3:∃ nx:iX,ou nx a0.ki/\rs 29 [.agg (bG.ag a0.ki)]=.jl [.ip (iX.ag nx) 0 false,iv 0]) (q7:s8 a0.ki a1) (q8:a0.ki.canon=a0.ki) (q9:∀ r∈a0.roads.l,∀ s∈r.steps.l,o7 a0.ki.elems.l s.elem):Ct 11 [.agg (jY.ag a0),.agg (iO.ag a1)] (P11 a0 a1):=by
 refine jf Ml ?_
 have q3n:=q3
 obtain ⟨nx,hnk,hnx⟩:=q3n
 have hFw:=hnk.Ed; have hNs:=hnk.self; have hrp:nx.p=a0.ki:=hnk.ki.trans q8; have hS9:=q7.oX.LQ
 refine cg ?_
 refine aZ ?_
 refine oC (t28 a0 a1 dw dw dw) ?_
 rintro _ ⟨r2,⟨hc1,hc1r⟩,rfl⟩
 have hCK:=hc1.2 q7
 refine lb (λh3=>?_) (λh3=>?_)
 refine bh ?_
 exact xB ⟨0,fY,rfl⟩
 refine aG ?_
 refine ae ?_
 refine oC (V6 a0.ki dw hnx) ?_
 rintro _ rfl
 refine cI ?_
 refine ah ?_
 refine ao ?_
 refine oC (t30 a1) ?_
 rintro _ ⟨r6,hc5,rfl⟩
 have hLa:=hc5
 refine ab ?_
 refine aZ ?_
 have hL7:=a1.runs.lk
 refine cA ?_
 have hNk8:=a1.runs.lk
 refine iW a1.runs.l.length (λk8 e h=>∃ n9:Int,(n9=uF a0.ki a0.roads.l a1 k8)/\At [2,3,5,7,26,27,28] [.la 2 0,.la 3 0,.ip (iX.ag nx) 0 false,iv n9,jF a1.runs,iF a1.runs.l.length,iF k8] aT.empty [(2,(jY.ag a0)),(3,(iO.ag a1))] e h) ?_ (k0:=0) dD ⟨r6,(by exact hLa),atR⟩
 rintro k8 e h hkk8 ⟨n9,hTo,hA⟩
 refine aK ?_
 refine jk (λh10=>?_) (λh10=>?_)
 refine aq ?_
 refine bE ?_
 have hx11:k8<a1.runs.l.length:=by omega
 refine kQ k8 a1.runs hx11 ?_
 generalize hqx12:a1.runs.l[k8]=x12
 have hinx12:x12∈a1.runs.l:=by rw [<- hqx12]; exact List.getElem_mem _
 have hsx12:=hS9 x12 hinx12
 refine oV ?_
 refine cP ?_
 have hL13:=x12.iY.lk
 refine jK x12.iY ?_
 refine aL ?_
 have hNk14:=x12.iY.lk
 refine iW x12.iY.l.length (λkz e h=>∃ n15:Int,(n15=uA a0.ki a0.roads.l a1 (k8:Nat) (uF a0.ki a0.roads.l a1 k8) kz)/\At [2,3,5,7,8,9,26,27,28,35,36] [.la 2 0,.la 3 0,.ip (iX.ag nx) 0 false,iv n15,iF k8,.la 9 0,jF a1.runs,iF a1.runs.l.length,iF k8,iF x12.iY.l.length,iF kz] aT.empty [(2,(jY.ag a0)),(3,(iO.ag a1)),(9,(jC.ag x12))] e h) ?_ (k0:=0) dD ⟨n9,(by exact hTo),atR⟩
 rintro kz e h hkk14 ⟨n15,hTi,hA⟩
 refine aK ?_
 refine jk (λh16=>?_) (λh16=>?_)
 refine bP ?_
 refine qd ?_
 refine bT ?_
 refine jh rfl rfl (λ_=>j9 rfl rfl rfl (mu .i64 a0.ki.jX 20)) ?_
 refine co ?_
 refine rC (t32 nx a1 ((k8:Int)) ((kz:Int))) ?_
 rintro _ ⟨r18,hc17,rfl⟩
 have hStn:=hc17
 rw [hrp] at hStn
 refine rC (t31 nx r18) ?_
 rintro _ ⟨r20,hc19,rfl⟩
 have hLen:=hc19
 rw [hrp] at hLen
 refine jh rfl rfl (λ_=>j9 rfl rfl rfl (mu .i64 (IntKind.i64.wrap (a0.ki.jX+(20))) r20)) ?_
 refine bT ?_
 have hx21:(x12.iU).toNat<a1.iU.l.length:=by omega
 refine jh rfl rfl (λ_=>jA (n:=x12.iU) (r:=a1.iU) (enc:=jr.ag) rfl rfl rfl rfl rfl dD hx21 rfl) ?_
 generalize hqx22:a1.iU.l[(x12.iU).toNat]=x22
 refine aP ?_
 refine jh rfl rfl (λ_=>j9 rfl rfl rfl (mu .i64 (IntKind.i64.wrap (IntKind.i64.wrap (a0.ki.jX+(20))+(r20))) x22.len)) ?_
 iterate 7 refine rV ?_
 refine rC (t34 nx a0.roads a1 ((k8:Int)) ((kz:Int)) dw dw dw) ?_
 rintro _ ⟨r24,⟨hc23,hc23r⟩,rfl⟩
 have hRo:=hc23.2.1; have hRl:=hc23.1; have hRe:=hc23.2.2
 rw [hrp] at hRe
 have hRp:0<r24.l.length->0<a0.ki.elems.l.length:=λh=>KU (hRe▸h)
 refine rC (t33 a0 r24 dw dw dw) ?_
 rintro _ ⟨r26,hc25,rfl⟩
 have hFar:=hc25
 refine jh rfl rfl (λ_=>j9 rfl rfl rfl (mu .i64 (IntKind.i64.wrap (IntKind.i64.wrap (IntKind.i64.wrap (a0.ki.jX+(20))+(r20))+(x22.len))) r26)) ?_
 refine jh rfl rfl (λ_=>j9 rfl rfl rfl (mu .i64 n15 (IntKind.i64.wrap (IntKind.i64.wrap (IntKind.i64.wrap (IntKind.i64.wrap (a0.ki.jX+(20))+(r20))+(x22.len))+(r26))))) ?_
 refine aR ?_
 refine qg ?_
 refine jq ?_
 refine ab ?_
 exact ⟨by omega,(IntKind.i64.wrap (n15+(IntKind.i64.wrap (IntKind.i64.wrap (IntKind.i64.wrap (IntKind.i64.wrap (a0.ki.jX+(20))+(r20))+(x22.len))+(r26))))),(by exact Mj dv dv hTi hStn hLen hRe hFar rfl),atR⟩
 refine ap ?_
 refine qg ?_
 refine jq ?_
 refine ab ?_
 exact ⟨by omega,n15,(by exact D3 dv hTi dD dD),atR⟩
 refine ap ?_
 refine bJ ?_
 exact xB ⟨n9,fY,rfl⟩
def P4 (v:AV):Prop:=∃ r0:Bool,(r0=true)/\v=.bool r0
def t4 (h:aT):∃ v,ji cfg FT js false 4 [] h v h/\P4 v:=by
 refine ⟨.bool true,⟨1,λk hk=>?_⟩,true,rfl,rfl⟩
 obtain ⟨k,rfl⟩:∃ k',k=k'+1:=⟨k - 1,by omega⟩
 rfl
def P3 (_a0:bG) (_a1:iO) (v:AV):Prop:=∃ r0:Bool,(r0=true)/\v=.bool r0
def t3 (a0:bG) (a1:iO) (qc:a0.canon=a0) (hJg:JG a0):Ct 3 [.agg (bG.ag a0),.agg (iO.ag a1)] (P3 a0 a1):=by
 refine jf V4 ?_
 refine ae ?_
 refine aA ?_
 refine aa ?_
 refine oC (t4) ?_
 rintro _ ⟨r2,hc1,rfl⟩
 cases r2
 refine ac ?_
 exact xB ⟨false,ed,rfl⟩
 refine ah ?_
 refine ae ?_
 refine oC (t5 a0 a1 dw) ?_
 rintro _ (⟨r4,r5,hc3,rfl⟩ | ⟨r6,r7,hc3,rfl⟩)
 obtain ⟨hNn,hFw,hDf,hSt,hSn,h64,⟨hPl0,nx,hnk,hnx⟩,hBd,hDv,hCv⟩:=hc3
 have hPc:r4.ki=a0:=hPl0.trans qc
 have hp1:lS r4.ki:=by rw [hPc]; exact hFw
 have hp2:∃ nx:iX,ou nx r4.ki/\rs 29 [.agg (bG.ag r4.ki)]=.jl [.ip (iX.ag nx) 0 false,iv 0]:=by rw [hPc]; exact ⟨nx,hnk,hnx⟩
 have hp3:s8 r4.ki a1:=by rw [hPc]; exact hDv
 have hp4:r4.ki.canon=r4.ki:=by rw [hPc]; exact qc
 have hx1:∀ r∈r4.roads.l,0<r.steps.l.length:=λr hr=>(hSn r hr).1
 have hx2:=Lv hnk.x.kd
 have hx3:a0.elems.l.length<=40:=by have:=hnk.e40; rwa [hnk.elems] at this
 have hx4:=hnk.x.ln
 have hx5:∀ r∈a1.runs.l,0<=r.iU/\r.iU<(a1.iU.l.length:Int):=λr hr=>(hDf.2 r hr).2
 have hx6:∀ r∈a1.runs.l,r.iY.l.length<=12:=λr hr=>(hDf.2 r hr).1
 have hx7:=hDf.1
 have hx8:∀ r∈r4.roads.l,∀ s∈r.steps.l,o7 r4.ki.elems.l s.elem:=by rw [hPc]; exact λr hr=>(hSn r hr).2.2.2.1
 refine aw ?_
 refine cJ ?_
 refine ah ?_
 refine bC ?_
 refine aH ?_
 refine oC (t6 a0 r4.roads a1 dw dw dw dw dw) ?_
 rintro _ ⟨r9,hc8,rfl⟩
 have hCh:=hc8
 refine jz (λh10=>?_) (λh10=>?_)
 refine aC ?_
 refine ao ?_
 refine oC (t7 a1) ?_
 rintro _ ⟨r12,hc11,rfl⟩
 have hLa:=hc11
 refine ab ?_
 refine ae ?_
 have hL13:=a1.runs.lk
 refine cA ?_
 have hNk14:=a1.runs.lk
 refine iW a1.runs.l.length (λkz e h=>∃ n15:Int,(n15=uF a0 r4.roads.l a1 kz)/\At [2,3,5,8,38,39,40] [.la 2 0,.la 3 0,.la 5 0,iv n15,jF a1.runs,iF a1.runs.l.length,iF kz] aT.empty [(2,(bG.ag a0)),(3,(iO.ag a1)),(5,(jY.ag r4))] e h) ?_ (k0:=0) dD ⟨r12,(by exact hLa),atR⟩
 rintro kz e h hkk14 ⟨n15,hTo,hA⟩
 refine aK ?_
 refine jk (λh16=>?_) (λh16=>?_)
 refine aq ?_
 refine bE ?_
 have hx17:kz<a1.runs.l.length:=by omega
 refine kQ kz a1.runs hx17 ?_
 generalize hqx18:a1.runs.l[kz]=x18
 have hinx18:x18∈a1.runs.l:=by rw [<- hqx18]; exact List.getElem_mem _
 have hsx18:=hx5 x18 hinx18
 refine oV ?_
 refine cP ?_
 have hL19:=x18.iY.lk
 refine jK x18.iY ?_
 refine aL ?_
 have hNk20:=x18.iY.lk
 refine iW x18.iY.l.length (λoe e h=>∃ n21:Int,(n21=uA a0 r4.roads.l a1 (kz:Nat) (uF a0 r4.roads.l a1 kz) oe)/\At [2,3,5,8,9,10,38,39,40,47,48] [.la 2 0,.la 3 0,.la 5 0,iv n21,iF kz,.la 10 0,jF a1.runs,iF a1.runs.l.length,iF kz,iF x18.iY.l.length,iF oe] aT.empty [(2,(bG.ag a0)),(3,(iO.ag a1)),(5,(jY.ag r4)),(10,(jC.ag x18))] e h) ?_ (k0:=0) dD ⟨n15,(by exact hTo),atR⟩
 rintro oe e h hkk20 ⟨n21,hTi,hA⟩
 refine aK ?_
 refine jk (λh22=>?_) (λh22=>?_)
 refine bP ?_
 refine bC ?_
 refine bR ?_
 refine oC (t8 a0 r4.roads a1 ((kz:Int)) ((oe:Int)) dw dw dw) ?_
 rintro _ ⟨r24,hc23,rfl⟩
 have hRl:=hc23.1; have hRe:=hc23.2
 have hRo:=UL hRe
 have hL25:=r24.lk
 refine jK r24 ?_
 refine aL ?_
 have hNk26:=r24.lk
 refine iW r24.l.length (λkR e h=>∃ n27:Int,(n27=((r24.l).take kR).foldl (zM a0 r4.roads.l) 0)/\At [2,3,5,8,9,10,11,12,38,39,40,47,48,57,58,59] [.la 2 0,.la 3 0,.la 5 0,iv n21,iF kz,.la 10 0,iF oe,iv n27,jF a1.runs,iF a1.runs.l.length,iF kz,iF x18.iY.l.length,iF oe,kr r24,iF r24.l.length,iF kR] aT.empty [(2,(bG.ag a0)),(3,(iO.ag a1)),(5,(jY.ag r4)),(10,(jC.ag x18))] e h) ?_ (k0:=0) dD ⟨0,fT,atR⟩
 rintro kR e h hkk26 ⟨n27,hFa,hA⟩
 refine aK ?_
 refine jk (λh28=>?_) (λh28=>?_)
 refine c9 ?_
 have hx29:kR<r24.l.length:=by omega
 refine kQ kR r24 hx29 ?_
 generalize hqx30:r24.l[kR]=x30
 have hinx30:x30∈r24.l:=by rw [<- hqx30]; exact List.getElem_mem _
 have hgx30:=hRo x30 hinx30; have hgax30:=hgx30.1; have hgbx30:=hgx30.2
 refine cq ?_
 refine br ?_
 refine bM ?_
 have hx31:(x30).toNat<r4.roads.l.length:=by omega
 refine iT rfl (λ_=>jA (n:=x30) (r:=r4.roads) (enc:=ja.ag) rfl rfl rfl rfl rfl dD hx31 rfl) ?_
 generalize hqx32:r4.roads.l[(x30).toNat]=x32
 refine aw ?_
 have hL33:=x32.steps.lk
 refine jK x32.steps ?_
 refine aL ?_
 have hNk34:=x32.steps.lk
 refine iW x32.steps.l.length (λtz e h=>∃ n35:Int,(n35=((x32.steps.l).take tz).foldl (λ(m:Int) (s:jg)=>IntKind.i64.wrap (m+nV a0 s.elem)) 0)/\At [2,3,5,8,9,10,11,12,15,38,39,40,47,48,57,58,59,68,69,70] [.la 2 0,.la 3 0,.la 5 0,iv n21,iF kz,.la 10 0,iF oe,iv n27,iv n35,jF a1.runs,iF a1.runs.l.length,iF kz,iF x18.iY.l.length,iF oe,kr r24,iF r24.l.length,iF kR,jo x32.steps,iF x32.steps.l.length,iF tz] aT.empty [(2,(bG.ag a0)),(3,(iO.ag a1)),(5,(jY.ag r4)),(10,(jC.ag x18))] e h) ?_ (k0:=0) dD ⟨0,fT,atR⟩
 rintro tz e h hkk34 ⟨n35,hSm,hA⟩
 refine aK ?_
 refine jk (λh36=>?_) (λh36=>?_)
 refine c9 ?_
 have hx37:tz<x32.steps.l.length:=by omega
 refine kQ tz x32.steps hx37 ?_
 generalize hqx38:x32.steps.l[tz]=x38
 refine aH ?_
 refine dj ?_
 refine aO ?_
 refine oC (t9 a0 x38.elem) ?_
 rintro _ ⟨r40,hc39,rfl⟩
 have hLen:=hc39
 refine iT rfl (λ_=>j9 rfl rfl rfl (mu .i64 n35 r40)) ?_
 refine oV ?_
 refine dj ?_
 refine jq ?_
 refine ab ?_
 exact ⟨by omega,(IntKind.i64.wrap (n35+(r40))),(by exact rb dv hSm (by rw [hLen])),atR⟩
 refine ap ?_
 refine cm ?_
 obtain ⟨m41,hqm41⟩:∃ m:Int,(if n35 > n27 then n35 else n27)=m:=⟨_,rfl⟩
 have hem41:m41=max n27 n35:=by rw [<- hqm41,Int.max_def]; split<;>split<;>omega
 have him41:(m41>=n27/\m41>=n35)/\(m41=n27\/m41=n35):=by rw [<- hqm41]; split<;>omega
 refine iT (v:=iv m41) rfl (λ_=>(by subst hqm41; rfl)) ?_
 clear hqm41
 refine oV ?_
 refine dj ?_
 refine jq ?_
 refine ab ?_
 exact ⟨by omega,m41,(by exact rb dv hFa (FQ dv hSm dD dv)),atR⟩
 refine ap ?_
 refine qd ?_
 refine bB ?_
 refine jh rfl rfl (λ_=>j9 rfl rfl rfl (mu .i64 n21 a0.jX)) ?_
 refine jh rfl rfl (λ_=>j9 rfl rfl rfl (mu .i64 (IntKind.i64.wrap (n21+(a0.jX))) 20)) ?_
 refine co ?_
 refine rC (t10 a0 a1 ((kz:Int)) ((oe:Int))) ?_
 rintro _ ⟨r43,hc42,rfl⟩
 have hStn:=hc42
 refine rC (t9 a0 r43) ?_
 rintro _ ⟨r45,hc44,rfl⟩
 have hLen:=hc44
 refine jh rfl rfl (λ_=>j9 rfl rfl rfl (mu .i64 (IntKind.i64.wrap (IntKind.i64.wrap (n21+(a0.jX))+(20))) r45)) ?_
 refine bT ?_
 have hx46:(x18.iU).toNat<a1.iU.l.length:=by omega
 refine jh rfl rfl (λ_=>jA (n:=x18.iU) (r:=a1.iU) (enc:=jr.ag) rfl rfl rfl rfl rfl dD hx46 rfl) ?_
 generalize hqx47:a1.iU.l[(x18.iU).toNat]=x47
 refine aP ?_
 refine jh rfl rfl (λ_=>j9 rfl rfl rfl (mu .i64 (IntKind.i64.wrap (IntKind.i64.wrap (IntKind.i64.wrap (n21+(a0.jX))+(20))+(r45))) x47.len)) ?_
 refine rV ?_
 refine jh rfl rfl (λ_=>j9 rfl rfl rfl (mu .i64 (IntKind.i64.wrap (IntKind.i64.wrap (IntKind.i64.wrap (IntKind.i64.wrap (n21+(a0.jX))+(20))+(r45))+(x47.len))) n27)) ?_
 refine aR ?_
 refine qg ?_
 refine jq ?_
 refine ab ?_
 exact ⟨by omega,(IntKind.i64.wrap (IntKind.i64.wrap (IntKind.i64.wrap (IntKind.i64.wrap (IntKind.i64.wrap (n21+(a0.jX))+(20))+(r45))+(x47.len))+(n27))),(by exact Ub dv dv hTi hStn hLen hRe hFa dD rfl),atR⟩
 refine ap ?_
 refine qg ?_
 refine jq ?_
 refine ab ?_
 exact ⟨by omega,n21,(by exact D3 dv hTi dD dD),atR⟩
 refine ap ?_
 refine ae ?_
 refine oC (t11 r4 a1 dw dw dw dw dw dw) ?_
 rintro _ ⟨r49,hc48,rfl⟩
 have hBn:=hc48
 rw [hPc] at hBn
 refine oV ?_
 refine jz (λh50=>?_) (λh50=>?_)
 refine af ?_
 exact xB ⟨true,ed,rfl⟩
 refine af ?_
 exact xB ⟨false,ed,rfl⟩
 refine aG ?_
 refine ae ?_
 refine oC (t11 r4 a1 dw dw dw dw dw dw) ?_
 rintro _ ⟨r52,hc51,rfl⟩
 have hBn:=hc51
 rw [hPc] at hBn
 refine oV ?_
 refine jz (λh53=>?_) (λh53=>?_)
 refine af ?_
 exact xB ⟨true,ed,rfl⟩
 refine af ?_
 exact xB ⟨false,ed,rfl⟩
 refine aw ?_
 refine cJ ?_
 refine ac ?_
 exact xB ⟨true,ed,rfl⟩
end Go.Sx
