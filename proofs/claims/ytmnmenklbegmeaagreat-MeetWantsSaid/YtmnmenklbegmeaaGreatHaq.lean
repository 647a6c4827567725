/- Proves what some functions of the program answer, by walking through them. -/
import Derived.Test.YtmnmenklbegmeaaGreatHag
import Derived.Test.YtmnmenklbegmeaaGreatHah
import Derived.Test.YtmnmenklbegmeaaGreatHak
import Derived.Test.YtmnmenklbegmeaaGreatHam
import Derived.Test.YtmnmenklbegmeaaGreatHao
import Derived.Test.YtmnmenklbegmeaaGreatHap
set_option linter.all false
set_option maxRecDepth 100000
set_option maxHeartbeats 0
namespace Go.Sx
open Go Go.Proofs
def P62 (_a0:iG) (_a1:jJ) (v:AV):Prop:=∃ r0:Bool,(r0=xD _a0 _a1)/\v=.bool r0
def t62 (a0:iG) (a1:jJ) :Ct 62 [.agg (iG.af a0),.agg (jJ.af a1)] (P62 a0 a1):=by
 refine iY NJ ?_
 refine qq (qg (oV ?_))
 iterate 2 refine oV ?_
 refine oN (qs (qq (qg (oV ?_))))
 iterate 3 refine oV ?_
 refine lg (λh1=>?_) (λh1=>?_)
 refine oV ?_
 iterate 4 refine oS ?_
 refine oV ?_
 refine oN (qT ?_)
 refine qq (qg (oV ?_))
 refine oN (qr ?_)
 exact xB ⟨false,dv,rfl⟩
 iterate 3 refine oV ?_
 have hL2:=a0.steps.lk
 refine jy a0.steps ?_
 refine jG (λh3=>?_) (λh3=>?_)
 refine oV ?_
 refine oN (qT ?_)
 refine qq (qg (oV ?_))
 refine oN (qr ?_)
 exact xB ⟨false,dv,rfl⟩
 refine oV ?_
 refine oN (qF ?_)
 refine qk ?_
 refine wy [.la 2 0,.la 3 0] [(2,(iG.af a0)),(3,(jJ.af a1))] ?_
 refine qs (qq (qg (oV ?_)))
 refine oV ?_
 refine jG (λh4=>?_) (λh4=>?_)
 refine oN (qT ?_)
 refine qq (qg (oV ?_))
 iterate 3 refine oV ?_
 refine jG (λh5=>?_) (λh5=>?_)
 refine oV ?_
 refine oN (qr ?_)
 exact xB ⟨true,dv,rfl⟩
 refine oV ?_
 refine oN (qr ?_)
 exact xB ⟨false,dv,rfl⟩
 refine oN (qF ?_)
 refine qk ?_
 refine wy [.la 2 0,.la 3 0] [(2,(iG.af a0)),(3,(jJ.af a1))] ?_
 refine qq (qd (rV ?_))
 iterate 3 refine rV ?_
 have hL6:=a0.steps.lk
 refine K0 a0.steps ?_
 have hL7:=a0.steps.lk
 refine EK ?_
 have hx8:((a0.steps.l.length:Int) - 1).toNat<a0.steps.l.length:=by omega
 refine iU rfl rfl (λ_=>jo (n:=(a0.steps.l.length:Int) - 1) (r:=a0.steps) (enc:=iR.af) rfl rfl rfl rfl rfl du hx8 rfl) ?_
 generalize hqx9:a0.steps.l[((a0.steps.l.length:Int) - 1).toNat]=x9
 iterate 4 refine rV ?_
 refine CU (λh10=>?_) (λh10=>?_)
 refine rV ?_
 refine rN (qr ?_)
 exact xB ⟨true,dv,rfl⟩
 refine rV ?_
 refine rN (qr ?_)
 exact xB ⟨false,dv,rfl⟩
def afb (_a0:iD) (_a1:Int) (v:AV):Prop:=∃ r0:Int,(r0=rU _a0.p _a1)/\v=iv r0
def t135 (a0:iD) (a1:Int) :Ct 135 [.ip (iD.af a0) 0 false,iv a1] (afb a0 a1):=by
 refine iY Jf ?_
 refine cP ?_
 refine oC (t237 a0 a1) ?_
 rintro _ ⟨r2,hc1,rfl⟩
 obtain ⟨hEk,hEl⟩:=hc1
 refine bk ?_
 exact xB ⟨r2.len,dl,rfl⟩
def P64 (_a0:iD) (_a1:jF) (_a2:Int) (v:AV):Prop:=∃ r0:Bool,(r0=vv _a0.p _a1 _a2)/\v=.bool r0
def t64 (a0:iD) (a1:jF) (a2:Int) (q1:lD a0.p):Ct 64 [.ip (iD.af a0) 0 false,.agg (jF.af a1),iv a2] (P64 a0 a1 a2):=by
 refine iY N8 ?_
 refine aN ?_
 refine aH ?_
 refine oC (t131 a0 a2) ?_
 rintro _ ⟨r2,hc1,rfl⟩
 have hK:=hc1
 refine cz ?_
 refine jG (λh3=>?_) (λh3=>?_)
 refine ac ?_
 exact xB ⟨true,eg,rfl⟩
 refine ba ?_
 refine jG (λh4=>?_) (λh4=>?_)
 refine aE ?_
 refine bG ?_
 refine rC (t135 a0 a2) ?_
 rintro _ ⟨r6,hc5,rfl⟩
 have hLen:=hc5
 refine bw ?_
 refine rC (t102 a0 dj) ?_
 rintro _ ⟨r8,hc7,rfl⟩
 have hPl:=hc7.2.2.2.2.2
 refine rV ?_
 refine iU rfl rfl (λ_=>kj rfl rfl rfl (uR .i64 a1.len r8.jS)) ?_
 refine xJ (λh9=>?_) (λh9=>?_)
 refine bP ?_
 exact xB ⟨true,eg,rfl⟩
 refine bP ?_
 exact xB ⟨false,eg,rfl⟩
 refine aq ?_
 refine aA ?_
 exact xB ⟨false,eg,rfl⟩
def agc (_a0:iD) (_a1:Row iG) (_a2:iB) (_a3:Int) (_a4:Int) (v:AV):Prop:=∃ r0:Row Int,((r0.l.length<=_a1.l.length/\(∀ x∈r0.l,0<=x/\x<(_a1.l.length:Int))/\r0.l=lY _a0.p _a1.l _a2 _a3 _a4))/\v=j3 r0
def aec (a0:iD) (a1:Row iG) (a2:iB) (a3:Int) (a4:Int) (q1:lD a0.p) (q2:a1.l.length<=64) (qn:sP a0):Ct 27 [.ip (iD.af a0) 0 false,iT a1,.agg (iB.af a2),iv a3,iv a4] (agc a0 a1 a2 a3 a4):=by
 refine iY No ?_
 refine aN ?_
 refine aL ?_
 refine cu ?_
 refine rC (t60 a0 a2 a3 a4) ?_
 rintro _ ⟨r2,hc1,rfl⟩
 have hFd:=hc1.1
 have hFr:=hc1.2; rw [qn.from_] at hFr
 refine cu ?_
 refine rC (t61 a0 a2 a3 a4) ?_
 rintro _ ⟨r4,hc3,rfl⟩
 have hStn:=hc3
 refine rV ?_
 refine aM ?_
 refine qs ?_
 refine cM ?_
 refine rr (λh5=>?_) (λh5=>?_)
 refine rV ?_
 refine cR ?_
 refine cy ?_
 refine cR ?_
 refine bm ?_
 refine aA ?_
 exact gG
 refine cu ?_
 have hx6:(a3).toNat<a2.runs.l.length:=by omega
 refine iU rfl rfl (λ_=>jo (n:=a3) (r:=a2.runs) (enc:=j7.af) rfl rfl rfl rfl rfl du hx6 rfl) ?_
 generalize hqx7:a2.runs.l[(a3).toNat]=x7
 have hinx7:x7∈a2.runs.l:=by rw [<- hqx7]; exact List.getElem_mem _
 have hlx7:=(hFd du).2.2.2 dl; rw [hqx7] at hlx7
 refine aJ ?_
 refine rr (λh8=>?_) (λh8=>?_)
 refine cy ?_
 refine cR ?_
 refine bm ?_
 refine aA ?_
 exact gG
 refine br ?_
 have hx9:(a3).toNat<a2.runs.l.length:=by omega
 refine iU rfl rfl (λ_=>jo (n:=a3) (r:=a2.runs) (enc:=j7.af) rfl rfl rfl rfl rfl du hx9 rfl) ?_
 rw [hqx7]
 refine cu ?_
 have hL11:=a2.jb.lk
 refine K0 a2.jb ?_
 refine xJ (λh12=>?_) (λh12=>?_)
 refine bm ?_
 refine aA ?_
 exact gG
 refine bh ?_
 refine wy [.ip (iD.af a0) 0 false,iT a1,iv a3,iv a4,.la 7 0,iv r2,iv r4] [(7,(iB.af a2))] ?_
 refine cU ?_
 have hx13:(a3).toNat<a2.runs.l.length:=by omega
 refine iU rfl rfl (λ_=>jo (n:=a3) (r:=a2.runs) (enc:=j7.af) rfl rfl rfl rfl rfl du hx13 rfl) ?_
 rw [hqx7]
 refine aJ ?_
 have hx15:(x7.jb).toNat<a2.jb.l.length:=by omega
 refine iU rfl rfl (λ_=>jo (n:=x7.jb) (r:=a2.jb) (enc:=jF.af) rfl rfl rfl rfl rfl du hx15 rfl) ?_
 generalize hqx16:a2.jb.l[(x7.jb).toNat]=x16
 refine aJ ?_
 refine aM ?_
 refine bo ?_
 have hL17:=a1.lk
 refine jy a1 ?_
 refine aG ?_
 have hS18:=Sep.lX jW 1
 have hNk19:=a1.lk
 refine iL a1.l.length (λnC e h=>∃ v20:AV,∃ l21:List Int,∃ H22:aT,(l21.length<=0+nC)/\(∀ x∈(l21:List Int),0<=x/\x<(a1.l.length:Int))/\(l21=rj (po a0.p a2 a3 a4) 0 (a1.l.take nC))/\Sep H22 (qt v20 l21::[])/\At [0,3,4,7,11,12,13,14,60,61,62] [.ip (iD.af a0) 0 false,iv a3,iv a4,.la 7 0,iv r2,iv r4,.la 13 0,v20,iT a1,cb a1.l.length,cb nC] H22 [(7,(iB.af a2)),(13,(jF.af x16))] e h) ?_ (k0:=0) du ⟨iJ,(([]:List Int)),aT.empty,d3,eH,fW,hS18,atR⟩
 rintro nC e h hkk19 ⟨v20,l21,H22,hl24,hRi,hX,hS23,hA⟩
 refine aF ?_
 refine iX (λh25=>?_) (λh25=>?_)
 refine ak ?_
 refine wz [.ip (iD.af a0) 0 false,iv a3,iv a4,.la 7 0,iv r2,iv r4,.la 13 0,v20,iT a1,cb a1.l.length,cb nC] H22 [(7,(iB.af a2)),(13,(jF.af x16))] ?_ (iO hS23 [(14,0)])
 refine bQ ?_
 have hx26:nC<a1.l.length:=by omega
 refine kM nC a1 hx26 ?_
 generalize hqx27:a1.l[nC]=x27
 refine bW ?_
 refine ck ?_
 refine CU (λh28=>?_) (λh28=>?_)
 refine br ?_
 have hx29:(a3).toNat<a2.runs.l.length:=by omega
 refine iU rfl rfl (λ_=>jo (n:=a3) (r:=a2.runs) (enc:=j7.af) rfl rfl rfl rfl rfl du hx29 rfl) ?_
 rw [hqx7]
 refine bw ?_
 have hx31:(a4).toNat<x7.iS.l.length:=by omega
 refine iU rfl rfl (λ_=>jo (n:=a4) (r:=x7.iS) (enc:=jJ.af) rfl rfl rfl rfl rfl du hx31 rfl) ?_
 generalize hqx32:x7.iS.l[(a4).toNat]=x32
 refine rV ?_
 refine rC (t62 x27 x32) ?_
 rintro _ ⟨r34,hc33,rfl⟩
 have hEn:=hc33
 cases r34
 refine cy ?_
 refine aJ ?_
 refine cO ?_
 refine bh ?_
 refine wz [.ip (iD.af a0) 0 false,iv a3,iv a4,.la 7 0,iv r2,iv r4,.la 13 0,v20,iT a1,cb a1.l.length,cb nC] H22 [(7,(iB.af a2)),(13,(jF.af x16))] ?_ (iO hS23 [(14,0)])
 refine qg ?_
 refine jd ?_
 refine ab ?_
 exact gH
 have hEp:=Lf hEn
 refine bw ?_
 refine NO (b:=x27.bare) rfl rfl (λ_=>rfl) (λh35=>?_) (λh35=>?_)
 refine bw ?_
 refine cO ?_
 refine bh ?_
 refine wz [.ip (iD.af a0) 0 false,iv a3,iv a4,.la 7 0,iv r2,iv r4,.la 13 0,v20,iT a1,cb a1.l.length,cb nC] H22 [(7,(iB.af a2)),(13,(jF.af x16))] ?_ (iO hS23 [(14,0)])
 refine qg ?_
 refine jd ?_
 refine ab ?_
 exact gH
 refine cZ ?_
 refine rC (t63 (Row.oo x27.my) r4) ?_
 rintro _ ⟨r37,hc36,rfl⟩
 have hIn:=hc36
 cases r37
 iterate 9 refine rV ?_
 have hL38:=x27.steps.lk
 refine K0 x27.steps ?_
 have hL39:=x27.steps.lk
 refine EK ?_
 have hx40:((x27.steps.l.length:Int) - 1).toNat<x27.steps.l.length:=by omega
 refine iU rfl rfl (λ_=>jo (n:=(x27.steps.l.length:Int) - 1) (r:=x27.steps) (enc:=iR.af) rfl rfl rfl rfl rfl du hx40 rfl) ?_
 generalize hqx41:x27.steps.l[((x27.steps.l.length:Int) - 1).toNat]=x41
 refine aJ ?_
 refine rC (t64 a0 x16 x41.elem dj) ?_
 rintro _ ⟨r43,hc42,rfl⟩
 have hFt:=hc42
 cases r43
 refine bh ?_
 refine wz [.ip (iD.af a0) 0 false,iv a3,iv a4,.la 7 0,iv r2,iv r4,.la 13 0,v20,iT a1,cb a1.l.length,cb nC] H22 [(7,(iB.af a2)),(13,(jF.af x16))] ?_ (iO hS23 [(14,0)])
 refine qg ?_
 refine jd ?_
 refine ab ?_
 exact gH
 refine bm ?_
 refine bv ?_
 refine xP 0 [((nC:Int))] hS23 λv44 H45 hS46=>?_
 refine ab ?_
 refine wz [.ip (iD.af a0) 0 false,iv a3,iv a4,.la 7 0,iv r2,iv r4,.la 13 0,v44,iT a1,cb a1.l.length,cb nC] H45 [(7,(iB.af a2)),(13,(jF.af x16))] ?_ (iO hS46 [(14,0)])
 refine qg ?_
 refine jd ?_
 refine ab ?_
 exact ⟨by omega,v44,((l21++[((nC:Int))])),H45,dm,eL,dJ,hS46,(iO hS46 [(14,0)])⟩
 refine bw ?_
 iterate 12 refine rS ?_
 refine bh ?_
 refine wz [.ip (iD.af a0) 0 false,iv a3,iv a4,.la 7 0,iv r2,iv r4,.la 13 0,v20,iT a1,cb a1.l.length,cb nC] H22 [(7,(iB.af a2)),(13,(jF.af x16))] ?_ (iO hS23 [(14,0)])
 refine qg ?_
 refine jd ?_
 refine ab ?_
 exact gH
 refine c8 ?_
 iterate 5 refine rS ?_
 refine cy ?_
 refine aJ ?_
 refine cO ?_
 refine bh ?_
 refine wz [.ip (iD.af a0) 0 false,iv a3,iv a4,.la 7 0,iv r2,iv r4,.la 13 0,v20,iT a1,cb a1.l.length,cb nC] H22 [(7,(iB.af a2)),(13,(jF.af x16))] ?_ (iO hS23 [(14,0)])
 refine qg ?_
 refine jd ?_
 refine ab ?_
 exact gH
 refine ai ?_
 refine wz [v20] H22 [] ?_ (iO hS23 [(14,0)])
 refine aO ?_
 obtain ⟨r47,hl48,hf49⟩:=lA (H:=H22) (i:=0) (l:=l21) (enc:=jL) hS23 rfl dn
 have hlq:=hl48; have hln51:=congrArg List.length hl48
 have hz50:∀ m,freeze false { H22 with iq:=[] } (m+2) v20=some (j3 r47):=λm=>hf49 _ _ (λ_=>rfl)
 exact ⟨v20,(kr (vs:=[v20]) rfl (iN (Sep.arg (i:=0) hS23 rfl) jD)),j3 r47,(show freeze false { H22 with iq:=[] } 8 v20=some (j3 r47) by simp only [FZ,hz50]),r47,d5,rfl⟩
def P27 (_a0:iD) (_a1:Row iG) (_a2:iB) (_a3:Int) (_a4:Int) (v:AV):Prop:=∃ r0:Row Int,(((r0.l.length<=_a1.l.length/\(∀ x∈r0.l,0<=x/\x<(_a1.l.length:Int))/\r0.l=lY _a0.p _a1.l _a2 _a3 _a4))/\rs 27 [.ip (iD.af _a0) 0 false,iT _a1,.agg (iB.af _a2),iv _a3,iv _a4]=j3 r0)/\v=j3 r0
def t27 (a0:iD) (a1:Row iG) (a2:iB) (a3:Int) (a4:Int) (q1:lD a0.p) (q2:a1.l.length<=64) (qn:sP a0) (h:aT):∃ v,iZ cfg FT jx false 27 [.ip (iD.af a0) 0 false,iT a1,.agg (iB.af a2),iv a3,iv a4] h v h/\P27 a0 a1 a2 a3 a4 v:=by
 obtain ⟨v,hc,hP,hr⟩:=qG w9 (aec a0 a1 a2 a3 a4 q1 q2 qn) h
 obtain ⟨r0,hp,rfl⟩:=hP
 exact gB
def P21 (_a0:iD) (_a1:Row iG) (_a2:iB) (_a3:Int) (v:AV):Prop:=∃ r0:Row iG,(((∀ y,y∈r0.l↔uT _a0.p _a1.l _a2 _a3 (oF _a2 _a3) y)/\r0.l.length<=768))/\v=iT r0
def t21 (a0:iD) (a1:Row iG) (a2:iB) (a3:Int) (q1:lD a0.p) (q2:a1.l.length<=64) (qn:sP a0) (q4:∀ r∈a2.runs.l,r.iS.l.length<=12):Ct 21 [.ip (iD.af a0) 0 false,iT a1,.agg (iB.af a2),iv a3] (P21 a0 a1 a2 a3):=by
 refine iY Mp ?_
 refine aN ?_
 refine ao ?_
 refine iX (λh1=>?_) (λh1=>?_)
 refine a8 ?_
 refine ac ?_
 exact xG ⟨(kF:Row iG),eK,rfl⟩
 refine aQ ?_
 have hL2:=a2.runs.lk
 refine jy a2.runs ?_
 refine lI (λh3=>?_) (λh3=>?_)
 refine ac ?_
 exact xG ⟨(kF:Row iG),eK,rfl⟩
 refine aq ?_
 refine ah ?_
 refine aV ?_
 have hx4:(a3).toNat<a2.runs.l.length:=by omega
 refine iI rfl (λ_=>jo (n:=a3) (r:=a2.runs) (enc:=j7.af) rfl rfl rfl rfl rfl du hx4 rfl) ?_
 generalize hqx5:a2.runs.l[(a3).toNat]=x5
 have hinx5:x5∈a2.runs.l:=by rw [<- hqx5]; exact List.getElem_mem _
 have hgx5:=q4 x5 hinx5; have hnx5:=zl hqx5
 refine am ?_
 have hL6:=x5.iS.lk
 refine jy x5.iS ?_
 refine aG ?_
 have hS7:=Sep.lX jW 9
 have hNk8:=x5.iS.lk
 refine iL x5.iS.l.length (λk8 e h=>∃ v9:AV,∃ l10:List iG,∃ H11:aT,(∀ y,y∈(l10:List iG)↔uT a0.p a1.l a2 a3 k8 y)/\(l10.length<=64*k8)/\Sep H11 (kW iG.af 9 v9 l10::[])/\At [0,1,3,6,9,28,29] [.ip (iD.af a0) 0 false,iT a1,iv a3,.la 6 0,v9,cb x5.iS.l.length,cb k8] H11 [(6,(iB.af a2))] e h) ?_ (k0:=0) du ⟨iJ,(([]:List iG)),aT.empty,(by exact adU),eH,hS7,atR⟩
 rintro k8 e h hkk8 ⟨v9,l10,H11,hRd,hRdl,hS12,hA⟩
 refine aF ?_
 refine iX (λh13=>?_) (λh13=>?_)
 refine ak ?_
 refine wz [.ip (iD.af a0) 0 false,iT a1,iv a3,.la 6 0,v9,cb x5.iS.l.length,cb k8] H11 [(6,(iB.af a2))] ?_ (iO hS12 [(9,0)])
 refine bH ?_
 refine aa ?_
 refine bU ?_
 refine oC (t27 a0 a1 a2 a3 ((k8:Int)) dj dj dj) ?_
 rintro _ ⟨r15,⟨hc14,hc14r⟩,rfl⟩
 have hRo:=hc14.2.1; have hRl:=hc14.1; have hRe:=hc14.2.2
 have hL16:=r15.lk
 refine jy r15 ?_
 refine aG ?_
 have hNk17:=r15.lk
 refine iL r15.l.length (λnc e h=>∃ v18:AV,∃ l19:List iG,∃ H20:aT,(∀ y,y∈(l19:List iG)↔yT a0.p a1.l a2 a3 k8 r15.l nc y)/\(l19.length<=64*k8+nc)/\Sep H20 (kW iG.af 9 v18 l19::[])/\At [0,1,3,6,9,28,29,37,38,39] [.ip (iD.af a0) 0 false,iT a1,iv a3,.la 6 0,v18,cb x5.iS.l.length,cb k8,j3 r15,cb r15.l.length,cb nc] H20 [(6,(iB.af a2))] e h) ?_ (k0:=0) du ⟨v9,l10,H11,(by exact abp hRd),du,hS12,(iO hS12 [(9,0)])⟩
 rintro nc e h hkk17 ⟨v18,l19,H20,hRd2,hRdl2,hS21,hA⟩
 refine aF ?_
 refine iX (λh22=>?_) (λh22=>?_)
 refine ak ?_
 refine wz [.ip (iD.af a0) 0 false,iT a1,iv a3,.la 6 0,v18,cb x5.iS.l.length,cb k8,j3 r15,cb r15.l.length,cb nc] H20 [(6,(iB.af a2))] ?_ (iO hS21 [(9,0)])
 refine bc ?_
 have hx23:nc<r15.l.length:=by omega
 refine kM nc r15 hx23 ?_
 generalize hqx24:r15.l[nc]=x24
 have hinx24:x24∈r15.l:=by rw [<- hqx24]; exact List.getElem_mem _
 have hgx24:=hRo x24 hinx24; have hgax24:=hgx24.1; have hgbx24:=hgx24.2
 refine bb ?_
 refine bv ?_
 have hx25:(x24).toNat<a1.l.length:=by omega
 refine iI rfl (λ_=>jo (n:=x24) (r:=a1) (enc:=iG.af) rfl rfl rfl rfl rfl du hx25 rfl) ?_
 generalize hqx26:a1.l[(x24).toNat]=x26
 refine oV ?_
 refine iI rfl (λ_=>BI (xs:=[(iG.af x26)]) rfl rfl rfl rfl (Ln (iN rfl (iN rfl (iN rfl (iN (kZ _) (iN (kZ _) (iN (kZ _) (iN (kZ _) (iN (kZ _) (iN rfl jD))))))))) rfl)) ?_
 refine jt rfl (kq (H:=H20) (i:=0) (l:=l19) (enc:=iG.af) [x26] hS21 rfl rfl rfl rfl rfl rfl rfl rfl rfl (λ_=>rfl) (.inl rfl) dy (λ_=>rfl)) ?_
 rintro v27 H28 hS29
 refine ab ?_
 refine wz [.ip (iD.af a0) 0 false,iT a1,iv a3,.la 6 0,v27,cb x5.iS.l.length,cb k8,j3 r15,cb r15.l.length,cb nc] H28 [(6,(iB.af a2))] ?_ (iO hS29 [(9,0)])
 refine qg ?_
 refine jd ?_
 refine ab ?_
 exact ⟨by omega,v27,((l19++[x26])),H28,(by exact ahg hRd2 dl dl),dq,hS29,(iO hS29 [(9,0)])⟩
 refine ai ?_
 refine wz [.ip (iD.af a0) 0 false,iT a1,iv a3,.la 6 0,v18,cb x5.iS.l.length,cb k8] H20 [(6,(iB.af a2))] ?_ (iO hS21 [(9,0)])
 refine qg ?_
 refine jd ?_
 refine ab ?_
 exact ⟨by omega,v18,l19,H20,(by exact Tp hRd2 du hRe),du,hS21,(iO hS21 [(9,0)])⟩
 refine ai ?_
 refine wz [v9] H11 [] ?_ (iO hS12 [(9,0)])
 refine aO ?_
 obtain ⟨r30,hl31,hf32⟩:=lA (H:=H11) (i:=0) (l:=l10) (enc:=iG.af) hS12 rfl dn
 have hlq:=hl31; have hln34:=congrArg List.length hl31
 have hz33:∀ m,freeze false { H11 with iq:=[] } (m+2) v9=some (iT r30):=λm=>hf32 _ _ (λ_=>by simp only [iG.af,js,so,sB,tY,sg,tW])
 exact ⟨v9,(kr (vs:=[v9]) rfl (iN (Sep.arg (i:=0) hS12 rfl) jD)),iT r30,(show freeze false { H11 with iq:=[] } 8 v9=some (iT r30) by simp only [FZ,hz33]),r30,eK,rfl⟩
def UY:jx 22=some (kV id some 23 ni):=by rfl
def u22 {H:aT} (vs:AV) (l:List iu) (F:List jH) (hS:Sep H (kW iu.af 2 vs l::F)) (q1:l.length<=1000000) (q2:∀ x∈l,mI x.elem/\mI x.pos):∃ v H',iZ cfg FT jx true 22 [vs,.jz 23 [] []] { H with iq:=[] } v H'/\(∃ lo:List iu,(AW l lo)/\Sep H' (kW iu.af 2 vs lo::F)/\v=.je []):=by
 obtain ⟨u,H',hc,hv,hS'⟩:=zb (tp:=id) (dec:=some) (g:=23) (cf:=ni) (Q:=(kV id some 23 ni)) UY (λ_ _=>rfl) hS q1 q2 (CT _) (by simpa using (zu l).1)
 exact ⟨u,H',hc,_,zu l,hS',hv⟩
def u26 {H:aT} (vs:AV) (l:List iu) (F:List jH) (hS:Sep H (lK iu.af 2 vs l::F)) (q1:l.length<=1000000):∃ v H',iZ cfg FT jx true 26 [vs] { H with iq:=[] } v H'/\(∃ vo:AV,∃ lo:List iu,(lo=Lib.compact l)/\Sep H' (lK iu.af 2 vo lo::F)/\v=vo):=by
 refine kP Mx ?_
 refine bo ?_
 refine iI rfl (λ_=>mZ (i:=0) hS rfl rfl rfl rfl rfl rfl rfl) ?_
 refine iX (λh1=>?_) (λh1=>?_)
 refine ci ?_
 have hS2:=Sep.pick hS [0] 1 dt dt
 exact gD
 refine aB ?_
 refine wz [vs] H [] ?_ (iO hS [(0,0)])
 refine aK ?_
 refine mw (λm4 e h=>∃ n3:Int,m4=((l.length:Int) - n3).toNat/\(tz l n3)/\At [0,3] [vs,iv n3] H [] e h) ?_ _ _ _ ⟨1,rfl,(by exact tz.start du),(iO hS [(0,0)])⟩
 rintro m4 e h ⟨n3,hmm4,hKp,hA⟩
 refine rz hA ?_
 have hK1:=hKp.1; have hK2:=hKp.2.1
 refine aH ?_
 refine iI rfl (λ_=>mZ (i:=0) hS rfl rfl rfl rfl rfl rfl rfl) ?_
 refine iX (λh5=>?_) (λh5=>?_)
 refine aZ ?_
 refine wz [vs,iv n3] H [] ?_ (iO hS [(0,0)])
 refine aw ?_
 refine bG ?_
 have hk6:(((n3).toNat:Nat):Int)=n3:=Int.toNat_of_nonneg dm
 have hx7:(n3).toNat<l.length:=by first | omega | (simp<;>omega) | (simp_all; omega)
 obtain ⟨x8,hqx8⟩:∃ x,l[(n3).toNat]=x:=⟨_,rfl⟩
 have hinx8:x8∈l:=by rw [<- hqx8]; exact List.getElem_mem _
 try have hgC:=hgB
 try have hgB:=hgA
 have hgA:=hqx8
 refine mj rfl rfl (lS (i:=0) (m:=(n3).toNat) (cs:=iu.af x8) hS rfl rfl rfl rfl rfl rfl (congrArg (AV.int .i64) hk6.symm) (jU hx7 hqx8)) ?_
 rintro a9 ⟨ha10,hea11⟩
 refine iU rfl rfl (λ_=>lZ (i:=0) (m:=(n3).toNat) (o:=0) (r:=.agg (iu.af x8)) (cs:=iu.af x8) hS rfl (jU hx7 hqx8) hea11 rfl rfl ha10) ?_
 refine aJ ?_
 refine EK ?_
 have hk12:(((n3 - 1).toNat:Nat):Int)=n3 - 1:=Int.toNat_of_nonneg dm
 have hx13:(n3 - 1).toNat<l.length:=by first | omega | (simp<;>omega) | (simp_all; omega)
 obtain ⟨x14,hqx14⟩:∃ x,l[(n3 - 1).toNat]=x:=⟨_,rfl⟩
 have hinx14:x14∈l:=by rw [<- hqx14]; exact List.getElem_mem _
 try have hgC:=hgB
 try have hgB:=hgA
 have hgA:=hqx14
 refine mj rfl rfl (lS (i:=0) (m:=(n3 - 1).toNat) (cs:=iu.af x14) hS rfl rfl rfl rfl rfl rfl (congrArg (AV.int .i64) hk12.symm) (jU hx13 hqx14)) ?_
 rintro a15 ⟨ha16,hea17⟩
 refine iU rfl rfl (λ_=>lZ (i:=0) (m:=(n3 - 1).toNat) (o:=0) (r:=.agg (iu.af x14)) (cs:=iu.af x14) hS rfl (jU hx13 hqx14) hea17 rfl rfl ha16) ?_
 refine mC rfl rfl (λ_=>rG rfl rfl rfl (λ_ _=>rfl)) (λh18=>?_) (λh18=>?_)
 refine bL ?_
 refine ae ?_
 have hk19:(((n3).toNat:Nat):Int)=n3:=Int.toNat_of_nonneg dm
 have hx22:(n3).toNat<l.length:=by first | omega | (simp<;>omega) | (simp_all; omega)
 refine mX rfl (xd (i:=0) (k:=(n3).toNat) hS rfl rfl rfl rfl rfl rfl (congrArg (AV.int .i64) hk19.symm) (by simpa using hx22)) ?_
 rintro v20 ht23
 obtain ⟨b24,g25,hv26,rfl⟩:=ht23
 have ht21:vT vs ((n3).toNat) (List.map iu.af l).length (.hs b24 g25 ((n3).toNat) ((List.map iu.af l).length - ((n3).toNat))):=⟨b24,g25,hv26,rfl⟩
 refine ab ?_
 refine aK ?_
 refine mw (λm32 e h=>∃ l27:List iu,∃ n28:Int,∃ n29:Int,∃ H30:aT,m32=((l.length:Int) - (((n3).toNat:Nat):Int) - n29).toNat/\(1<=n29)/\(pc l ((((n3).toNat:Nat):Int)+n29) n28 l27)/\Sep H30 (lK iu.af 2 vs l27::F)/\At [0,3,4,5] [vs,iv n28,(.hs b24 g25 ((n3).toNat) ((List.map iu.af l).length - ((n3).toNat))),iv n29] H30 [] e h) ?_ _ _ _ ⟨l,n3,1,H,rfl,du,fV,hS,(iO hS [(0,0)])⟩
 rintro m32 e h ⟨l27,n28,n29,H30,hmm32,hj1,hCp,hS31,hA⟩
 refine rz hA ?_
 obtain ⟨hLn1,hLn2⟩:=pc.len hCp; have hCp3:=hCp.2.1; have hCp4:=hCp.2.2.1
 refine aH ?_
 refine iI rfl (λ_=>F3 (ES ht21 (r:=l27.length) dT) rfl rfl rfl rfl rfl rfl) ?_
 refine iX (λh33=>?_) (λh33=>?_)
 refine aZ ?_
 refine wz [vs,iv n28,(.hs b24 g25 ((n3).toNat) ((List.map iu.af l).length - ((n3).toNat))),iv n29] H30 [] ?_ (iO hS31 [(0,0)])
 refine aw ?_
 refine bG ?_
 have hk34:(((n29).toNat:Nat):Int)=n29:=Int.toNat_of_nonneg dm
 have hx35:((n3).toNat+(n29).toNat)<l27.length:=by first | omega | (simp<;>omega) | (simp_all; omega)
 obtain ⟨x36,hqx36⟩:∃ x,l27[((n3).toNat+(n29).toNat)]=x:=⟨_,rfl⟩
 have hinx36:x36∈l27:=by rw [<- hqx36]; exact List.getElem_mem _
 try have hgC:=hgB
 try have hgB:=hgA
 have hgA:=hqx36
 refine mj rfl rfl (ui (i:=0) (q:=(n3).toNat) (m:=(n29).toNat) (cs:=iu.af x36) hS31 rfl rfl rfl rfl rfl ht21 dT rfl (congrArg (AV.int .i64) hk34.symm) (jU hx35 hqx36)) ?_
 rintro a37 ⟨ha38,hea39⟩
 refine iU rfl rfl (λ_=>lZ (i:=0) (m:=((n3).toNat+(n29).toNat)) (o:=0) (r:=.agg (iu.af x36)) (cs:=iu.af x36) hS31 rfl (jU hx35 hqx36) hea39 rfl rfl ha38) ?_
 refine aJ ?_
 refine EK ?_
 have hk40:(((n29 - 1).toNat:Nat):Int)=n29 - 1:=Int.toNat_of_nonneg dm
 have hx41:((n3).toNat+(n29 - 1).toNat)<l27.length:=by first | omega | (simp<;>omega) | (simp_all; omega)
 obtain ⟨x42,hqx42⟩:∃ x,l27[((n3).toNat+(n29 - 1).toNat)]=x:=⟨_,rfl⟩
 have hinx42:x42∈l27:=by rw [<- hqx42]; exact List.getElem_mem _
 try have hgC:=hgB
 try have hgB:=hgA
 have hgA:=hqx42
 refine mj rfl rfl (ui (i:=0) (q:=(n3).toNat) (m:=(n29 - 1).toNat) (cs:=iu.af x42) hS31 rfl rfl rfl rfl rfl ht21 dT rfl (congrArg (AV.int .i64) hk40.symm) (jU hx41 hqx42)) ?_
 rintro a43 ⟨ha44,hea45⟩
 refine iU rfl rfl (λ_=>lZ (i:=0) (m:=((n3).toNat+(n29 - 1).toNat)) (o:=0) (r:=.agg (iu.af x42)) (cs:=iu.af x42) hS31 rfl (jU hx41 hqx42) hea45 rfl rfl ha44) ?_
 refine mC rfl rfl (λ_=>wY rfl rfl rfl (λ_ _=>rfl)) (λh46=>?_) (λh46=>?_)
 refine bL ?_
 refine aR ?_
 have hk47:(((n29).toNat:Nat):Int)=n29:=Int.toNat_of_nonneg dm
 have hx48:((n3).toNat+(n29).toNat)<l27.length:=by first | omega | (simp<;>omega) | (simp_all; omega)
 refine mX rfl (ui (i:=0) (q:=(n3).toNat) (m:=(n29).toNat) (cs:=iu.af x36) hS31 rfl rfl rfl rfl rfl ht21 dT rfl (congrArg (AV.int .i64) hk47.symm) (jU hx48 hqx36)) ?_
 rintro a49 ⟨ha50,hea51⟩
 refine iI rfl (λ_=>lZ (i:=0) (m:=((n3).toNat+(n29).toNat)) (o:=0) (r:=.agg (iu.af x36)) (cs:=iu.af x36) hS31 rfl (jU hx48 hqx36) hea51 rfl rfl ha50) ?_
 have hk52:(((n28).toNat:Nat):Int)=n28:=Int.toNat_of_nonneg dm
 have hx53:(n28).toNat<l27.length:=by first | omega | (simp<;>omega) | (simp_all; omega)
 obtain ⟨x54,hqx54⟩:∃ x,l27[(n28).toNat]=x:=⟨_,rfl⟩
 have hinx54:x54∈l27:=by rw [<- hqx54]; exact List.getElem_mem _
 try have hgC:=hgB
 try have hgB:=hgA
 have hgA:=hqx54
 refine mX rfl (lS (i:=0) (m:=(n28).toNat) (cs:=iu.af x54) hS31 rfl rfl rfl rfl rfl rfl (congrArg (AV.int .i64) hk52.symm) (jU hx53 hqx54)) ?_
 rintro a55 ⟨ha56,hea57⟩
 refine jt rfl (si (i:=0) (m:=(n28).toNat) (o:=0) x54 x36 hS31 rfl hx53 hqx54 hea57 rfl ha56 rfl rfl rfl rfl) ?_
 rintro _ H58 ⟨rfl,hS59⟩
 refine oN ?_
 refine aI ?_
 refine jd ?_
 refine ab ?_
 refine wz [vs,iv (n28+1),(.hs b24 g25 ((n3).toNat) ((List.map iu.af l).length - ((n3).toNat))),iv n29] H58 [] ?_ (iO hS59 [(0,0)])
 refine aI ?_
 refine jd ?_
 refine ab ?_
 refine ⟨_,?_,((l27.set ((n28).toNat) x36)),(n28+1),(n29+1),H58,rfl,du,ei,hS59,(iO hS59 [(0,0)])⟩
 omega
 refine bO ?_
 refine wz [vs,iv n28,(.hs b24 g25 ((n3).toNat) ((List.map iu.af l).length - ((n3).toNat))),iv n29] H30 [] ?_ (iO hS31 [(0,0)])
 refine aI ?_
 refine jd ?_
 refine ab ?_
 refine ⟨_,?_,l27,n28,(n29+1),H30,rfl,du,ei,hS31,(iO hS31 [(0,0)])⟩
 omega
 refine aD ?_
 refine wz [vs,iv n28] H30 [] ?_ (iO hS31 [(0,0)])
 refine ae ?_
 have hk60:(((n28).toNat:Nat):Int)=n28:=Int.toNat_of_nonneg dm
 have hx63:(n28).toNat<l27.length:=by first | omega | (simp<;>omega) | (simp_all; omega)
 refine mX rfl (xd (i:=0) (k:=(n28).toNat) hS31 rfl rfl rfl rfl rfl rfl (congrArg (AV.int .i64) hk60.symm) (by simpa using hx63)) ?_
 rintro v61 ht64
 obtain ⟨b65,g66,hv67,rfl⟩:=ht64
 have ht62:vT vs ((n28).toNat) (List.map iu.af l27).length (.hs b65 g66 ((n28).toNat) ((List.map iu.af l27).length - ((n28).toNat))):=⟨b65,g66,hv67,rfl⟩
 refine jt rfl (Hv (i:=0) (l:=l27) (enc:=iu.af) (z:=(⟨0,0⟩:iu)) hS31 rfl ht62 rfl rfl rfl rfl rfl rfl rfl rfl dm) ?_
 rintro _ H68 ⟨rfl,hS69⟩
 refine oN ?_
 refine ae ?_
 have hk70:(((n28).toNat:Nat):Int)=n28:=Int.toNat_of_nonneg dm
 have hx71:(n28).toNat<=((l27.take ((n28).toNat)++List.replicate (l27.length - ((n28).toNat)) (⟨0,0⟩:iu))).length:=by first | omega | (simp<;>omega) | (simp_all; omega)
 refine jt rfl (sm (i:=0) (k:=(n28).toNat) hS69 rfl rfl rfl rfl rfl rfl (congrArg (AV.int .i64) hk70.symm) hx71) ?_
 rintro v72 H73 ⟨hc74,hS75⟩
 refine ag ?_
 have hS76:=Sep.pick hS75 [0] 1 dt dt
 exact gE
 refine bO ?_
 refine wz [vs,iv n3] H [] ?_ (iO hS [(0,0)])
 refine aI ?_
 refine jd ?_
 refine ab ?_
 refine ⟨_,?_,(n3+1),rfl,fY,(iO hS [(0,0)])⟩
 omega
 refine aD ?_
 refine wz [vs] H [] ?_ (iO hS [(0,0)])
 refine aO ?_
 have hS77:=Sep.pick hS [0] 1 dt dt
 exact gF
def P7 (_a0:iD) (_a1:Row iG) (_a2:iB) (_a3:Int) (v:AV):Prop:=∃ r0:Row iu,(∃ l lo,AW l lo/\r0.l=Lib.compact lo/\∀ x,x∈l↔Ws _a0.p _a1.l _a2 _a3 x)/\v=jf r0
def t7 (a0:iD) (a1:Row iG) (a2:iB) (a3:Int) (q1:lD a0.p) (q2:a1.l.length<=64) (qn:sP a0) (q4:∀ r∈a2.runs.l,r.iS.l.length<=12) (q5:∀ r∈a1.l,r.steps.l.length<=12/\r.jK.l.length<=12/\lV a0.p r):Ct 7 [.ip (iD.af a0) 0 false,iT a1,.agg (iB.af a2),iv a3] (P7 a0 a1 a2 a3):=by
 refine iY V1 ?_
 refine aN ?_
 refine bo ?_
 refine aC ?_
 refine oC (t21 a0 a1 a2 a3 dj dj dj dj) ?_
 rintro _ ⟨r2,hc1,rfl⟩
 have hRm:=hc1.1; have hRml:=hc1.2
 have hL3:=r2.lk
 refine jy r2 ?_
 refine aG ?_
 have hS4:=Sep.lX jW 2
 have hNk5:=r2.lk
 refine iL r2.l.length (λk5 e h=>∃ v6:AV,∃ l7:List iu,∃ H8:aT,(∀ y,y∈(l7:List iu)↔Hy ((r2.l).take k5) y)/\(l7.length<=1012*k5)/\Sep H8 (kW iu.af 2 v6 l7::[])/\At [9,16,17,18] [v6,iT r2,cb r2.l.length,cb k5] H8 [] e h) ?_ (k0:=0) du ⟨iJ,(([]:List iu)),aT.empty,(by exact aeg),eH,hS4,atR⟩
 rintro k5 e h hkk5 ⟨v6,l7,H8,hWn,hWl,hS9,hA⟩
 refine aF ?_
 refine iX (λh10=>?_) (λh10=>?_)
 refine ak ?_
 refine wz [v6,iT r2,cb r2.l.length,cb k5] H8 [] ?_ (iO hS9 [(9,0)])
 refine bc ?_
 have hx11:k5<r2.l.length:=by omega
 refine kM k5 r2 hx11 ?_
 generalize hqx12:r2.l[k5]=x12
 have hinx12:x12∈r2.l:=by rw [<- hqx12]; exact List.getElem_mem _
 have hsx12:=q5 x12 (BK ((hRm x12).mp hinx12)); have hnx12:=hsx12.2.1; have hox12:=hsx12.2.2.2.2.2.1
 refine aS ?_
 refine qd ?_
 refine br ?_
 have hL13:=x12.jK.lk
 refine ra rfl rfl (kq (H:=H8) (i:=0) (l:=l7) (enc:=iu.af) x12.jK.l hS9 rfl rfl rfl rfl rfl rfl rfl rfl rfl (λ_=>rfl) (.inl rfl) dy (λ_=>rfl)) ?_
 rintro v14 H15 hS16
 refine ⟨λcall=>(xe (mc rfl rfl rfl rfl rfl (ri B6))),?_⟩
 have hL17:=x12.guards.lk
 refine lR rfl rfl (kq (H:=H15) (i:=0) (l:=(l7++x12.jK.l)) (enc:=iu.af) x12.guards.l hS16 rfl rfl rfl rfl rfl rfl rfl rfl rfl (λ_=>rfl) (.inl rfl) dy (λ_=>rfl)) ?_
 rintro v18 H19 hS20
 refine aM ?_
 refine wz [v18,iT r2,cb r2.l.length,cb k5] H19 [] ?_ (iO hS20 [(9,0)])
 refine qg ?_
 refine jd ?_
 refine ab ?_
 exact ⟨by omega,v18,(((l7++x12.jK.l)++x12.guards.l)),H19,(by exact afU hWn dl),dq,hS20,(iO hS20 [(9,0)])⟩
 refine ai ?_
 refine wz [v6] H8 [] ?_ (iO hS9 [(9,0)])
 refine aj ?_
 have hrB:=λx hx=>Uo (Rl ((Ko hWn du hRm x).mp hx) (λr hr=>(q5 r hr).2.2)) q1.elems
 have hS21:=Sep.pick hS9 [0] 1 dt dt
 refine jQ (H:=H8) (args:=[v6,.jz 23 [] []]) (p:=[]) (r:=[]) rfl rfl rfl rfl rfl (iN (Sep.arg (i:=0) hS9 rfl) (iN rfl jD)) rfl (u22 v6 l7 ([]) hS21 dj dj) ?_
 rintro _ H22 ⟨lo25,hc24,hS23,rfl⟩
 have hSo:=hc24
 have hsl2:=hc24.1
 refine oN ?_
 refine aj ?_
 have hS26:=Sep.tZ (i:=0) hS23 rfl
 have hS27:=Sep.pick hS26 [0] 1 dt dt
 refine jQ (H:=H22) (args:=[v6]) (p:=[]) (r:=[]) rfl rfl rfl rfl rfl (iN (Sep.arg (i:=0) hS26 rfl) jD) rfl (u26 v6 lo25 ([]) hS27 dj) ?_
 rintro vo31 H28 ⟨_,lo32,hc30,hS29,rfl⟩
 have hCo:=hc30
 have hcl2:=GF hc30
 refine ag ?_
 obtain ⟨r33,hl34,hf35⟩:=lA (H:=H28) (i:=0) (l:=lo32) (enc:=iu.af) hS29 rfl dn
 have hlq:=hl34; have hln37:=congrArg List.length hl34
 have hz36:∀ m,freeze false { H28 with iq:=[] } (m+2) vo31=some (jf r33):=λm=>hf35 _ _ (λ_=>rfl)
 exact ⟨vo31,(kr (vs:=[vo31]) rfl (iN (Sep.arg (i:=0) hS29 rfl) jD)),jf r33,(show freeze false { H28 with iq:=[] } 8 vo31=some (jf r33) by simp only [FZ,hz36]),r33,(by exact ⟨_,_,hSo,by simp_all,Ko hWn du hRm⟩),rfl⟩
def P8 (_a0:bY) (_a1:jh) (_a2:iD) (_a3:iB) (_a4:Int) (v:AV):Prop:=∃ r0:Row iu,(nT (se wZ _a2.p _a1.roads.l _a3 _a4 (oF _a3 _a4)) (_a0.elems.l.length:Int) 1 r0.l)/\v=jf r0
def t8 (a0:bY) (a1:jh) (a2:iD) (a3:iB) (a4:Int) (q1:lD a2.p) (q2:a1.roads.l.length<=64) (qn:sP a2) (q4:∀ r∈a3.runs.l,r.iS.l.length<=12) (q5:∀ r∈a1.roads.l,r.steps.l.length<=12/\r.jK.l.length<=12/\lV a2.p r) (q6:a0.elems.l.length<=60):Ct 8 [.agg (bY.af a0),.agg (jh.af a1),.ip (iD.af a2) 0 false,.agg (iB.af a3),iv a4] (P8 a0 a1 a2 a3 a4):=by
 refine iY UX ?_
 refine aa ?_
 refine bW ?_
 refine bo ?_
 refine iX (λh1=>?_) (λh1=>?_)
 refine a8 ?_
 refine bS ?_
 exact ga
 refine aQ ?_
 have hL2:=a3.runs.lk
 refine jy a3.runs ?_
 refine lI (λh3=>?_) (λh3=>?_)
 refine bS ?_
 exact ga
 refine aq ?_
 refine aH ?_
 have hL4:=a0.elems.lk
 refine db ?_
 have hS5:=Sep.lX jW 2
 have hNk6:=a0.elems.lk
 refine iL a0.elems.l.length (λk6 e h=>∃ v7:AV,∃ l8:List iu,∃ H9:aT,(nT (se wZ a2.p a1.roads.l a3 a4 (oF a3 a4)) ((k6:Nat):Int) 1 l8)/\(l8.length<=2*k6)/\Sep H9 (kW iu.af 2 v7 l8::[])/\At [2,4,6,8,11,32,33] [.ip (iD.af a2) 0 false,iv a4,.la 6 0,.la 8 0,v7,cb a0.elems.l.length,cb k6] H9 [(6,(jh.af a1)),(8,(iB.af a3))] e h) ?_ (k0:=0) du ⟨iJ,(([]:List iu)),aT.empty,(by exact nT.zero),eH,hS5,atR⟩
 rintro k6 e h hkk6 ⟨v7,l8,H9,hEn,hEl,hS10,hA⟩
 refine aF ?_
 refine iX (λh11=>?_) (λh11=>?_)
 refine ak ?_
 refine wz [.ip (iD.af a2) 0 false,iv a4,.la 6 0,.la 8 0,v7,cb a0.elems.l.length,cb k6] H9 [(6,(jh.af a1)),(8,(iB.af a3))] ?_ (iO hS10 [(11,0)])
 refine bH ?_
 refine aa ?_
 refine aG ?_
 refine mw (λm17 e h=>∃ v12:AV,∃ l13:List iu,∃ n14:Int,∃ H15:aT,m17=(3 - n14).toNat/\(1<=n14/\n14<=3)/\(nT (se wZ a2.p a1.roads.l a3 a4 (oF a3 a4)) ((k6:Nat):Int) n14 l13)/\((l13.length:Int)<=2*k6+n14 - 1)/\Sep H15 (kW iu.af 2 v12 l13::[])/\At [2,4,6,8,11,12,13,32,33] [.ip (iD.af a2) 0 false,iv a4,.la 6 0,.la 8 0,v12,cb k6,iv n14,cb a0.elems.l.length,cb k6] H15 [(6,(jh.af a1)),(8,(iB.af a3))] e h) ?_ _ _ _ ⟨v7,l8,1,H9,rfl,du,(by exact hEn),du,hS10,(iO hS10 [(11,0)])⟩
 rintro m17 e h ⟨v12,l13,n14,H15,hmm17,hp1,hEn2,hEl2,hS16,hA⟩
 refine c9 ?_
 refine tc (λh18=>?_) (λh18=>?_)
 refine aZ ?_
 refine wz [.ip (iD.af a2) 0 false,iv a4,.la 6 0,.la 8 0,v12,cb k6,iv n14,cb a0.elems.l.length,cb k6] H15 [(6,(jh.af a1)),(8,(iB.af a3))] ?_ (iO hS16 [(11,0)])
 refine aw ?_
 refine ah ?_
 refine aV ?_
 have hx19:(a4).toNat<a3.runs.l.length:=by omega
 refine iI rfl (λ_=>jo (n:=a4) (r:=a3.runs) (enc:=j7.af) rfl rfl rfl rfl rfl du hx19 rfl) ?_
 generalize hqx20:a3.runs.l[(a4).toNat]=x20
 have hinx20:x20∈a3.runs.l:=by rw [<- hqx20]; exact List.getElem_mem _
 have hgx20:=q4 x20 hinx20; have hnx20:=zl hqx20
 refine am ?_
 have hL21:=x20.iS.lk
 refine jy x20.iS ?_
 refine aG ?_
 have hNk22:=x20.iS.lk
 refine iL x20.iS.l.length (λkp e h=>∃ b23:Bool,∃ H24:aT,(p5 (se wZ a2.p a1.roads.l a3 a4 kp ⟨((k6:Nat):Int),n14⟩) b23)/\Sep H24 (kW iu.af 2 v12 l13::[])/\At [2,4,6,8,11,12,13,14,32,33,46,47] [.ip (iD.af a2) 0 false,iv a4,.la 6 0,.la 8 0,v12,cb k6,iv n14,.bool b23,cb a0.elems.l.length,cb k6,cb x20.iS.l.length,cb kp] H24 [(6,(jh.af a1)),(8,(iB.af a3))] e h) ?_ (k0:=0) du ⟨false,H15,(by exact Vp),hS16,(iO hS16 [(11,0)])⟩
 rintro kp e h hkk22 ⟨b23,H24,hFd,hS25,hA⟩
 refine aF ?_
 refine iX (λh26=>?_) (λh26=>?_)
 refine ak ?_
 refine wz [.ip (iD.af a2) 0 false,iv a4,.la 6 0,.la 8 0,v12,cb k6,iv n14,.bool b23,cb a0.elems.l.length,cb k6,cb x20.iS.l.length,cb kp] H24 [(6,(jh.af a1)),(8,(iB.af a3))] ?_ (iO hS25 [(11,0)])
 refine bH ?_
 refine cm ?_
 refine oC (t27 a2 a1.roads a3 a4 ((kp:Int)) dj dj dj) ?_
 rintro _ ⟨r28,⟨hc27,hc27r⟩,rfl⟩
 have hRo:=hc27.2.1; have hRl:=hc27.1; have hRe:=hc27.2.2
 have hL29:=r28.lk
 refine jy r28 ?_
 refine aG ?_
 have hNk30:=r28.lk
 refine iL r28.l.length (λmf e h=>∃ b31:Bool,∃ H32:aT,(p5 (CV wZ a2.p a1.roads.l a3 a4 kp r28.l mf ⟨((k6:Nat):Int),n14⟩) b31)/\Sep H32 (kW iu.af 2 v12 l13::[])/\At [2,4,6,8,11,12,13,14,32,33,46,47,56,57,58] [.ip (iD.af a2) 0 false,iv a4,.la 6 0,.la 8 0,v12,cb k6,iv n14,.bool b31,cb a0.elems.l.length,cb k6,cb x20.iS.l.length,cb kp,j3 r28,cb r28.l.length,cb mf] H32 [(6,(jh.af a1)),(8,(iB.af a3))] e h) ?_ (k0:=0) du ⟨b23,H24,(by exact R3 hFd),hS25,(iO hS25 [(11,0)])⟩
 rintro mf e h hkk30 ⟨b31,H32,hFd2,hS33,hA⟩
 refine aF ?_
 refine iX (λh34=>?_) (λh34=>?_)
 refine ak ?_
 refine wz [.ip (iD.af a2) 0 false,iv a4,.la 6 0,.la 8 0,v12,cb k6,iv n14,.bool b31,cb a0.elems.l.length,cb k6,cb x20.iS.l.length,cb kp,j3 r28,cb r28.l.length,cb mf] H32 [(6,(jh.af a1)),(8,(iB.af a3))] ?_ (iO hS33 [(11,0)])
 refine bc ?_
 have hx35:mf<r28.l.length:=by omega
 refine kM mf r28 hx35 ?_
 generalize hqx36:r28.l[mf]=x36
 have hinx36:x36∈r28.l:=by rw [<- hqx36]; exact List.getElem_mem _
 have hgx36:=hRo x36 hinx36; have hgax36:=hgx36.1; have hgbx36:=hgx36.2
 refine bb ?_
 refine ao ?_
 refine iX (λh37=>?_) (λh37=>?_)
 refine a8 ?_
 refine bJ ?_
 refine wz [.ip (iD.af a2) 0 false,iv a4,.la 6 0,.la 8 0,v12,cb k6,iv n14,.bool b31,cb a0.elems.l.length,cb k6,cb x20.iS.l.length,cb kp,j3 r28,cb r28.l.length,cb mf] H32 [(6,(jh.af a1)),(8,(iB.af a3))] ?_ (iO hS33 [(11,0)])
 refine qg ?_
 refine jd ?_
 refine ab ?_
 exact ic
 refine aQ ?_
 have hL38:=a1.roads.lk
 refine jy a1.roads ?_
 refine lI (λh39=>?_) (λh39=>?_)
 refine bJ ?_
 refine wz [.ip (iD.af a2) 0 false,iv a4,.la 6 0,.la 8 0,v12,cb k6,iv n14,.bool b31,cb a0.elems.l.length,cb k6,cb x20.iS.l.length,cb kp,j3 r28,cb r28.l.length,cb mf] H32 [(6,(jh.af a1)),(8,(iB.af a3))] ?_ (iO hS33 [(11,0)])
 refine qg ?_
 refine jd ?_
 refine ab ?_
 exact ic
 refine aq ?_
 refine wz [.ip (iD.af a2) 0 false,iv a4,.la 6 0,.la 8 0,v12,cb k6,iv n14,.bool b31,iv x36,cb a0.elems.l.length,cb k6,cb x20.iS.l.length,cb kp,j3 r28,cb r28.l.length,cb mf] H32 [(6,(jh.af a1)),(8,(iB.af a3))] ?_ (iO hS33 [(11,0)])
 refine aL ?_
 refine cu ?_
 have hx40:(x36).toNat<a1.roads.l.length:=by omega
 refine iU rfl rfl (λ_=>jo (n:=x36) (r:=a1.roads) (enc:=iG.af) rfl rfl rfl rfl rfl du hx40 rfl) ?_
 generalize hqx41:a1.roads.l[(x36).toNat]=x41
 have hinx41:x41∈a1.roads.l:=by rw [<- hqx41]; exact List.getElem_mem _
 have hsx41:=q5 x41 hinx41; have hnx41:=hsx41.1; have hmx41:=hsx41.2.1; have hox41:=hsx41.2.2.2.2.2.1
 refine br ?_
 have hx42:(x36).toNat<a1.roads.l.length:=by omega
 refine iU rfl rfl (λ_=>jo (n:=x36) (r:=a1.roads) (enc:=iG.af) rfl rfl rfl rfl rfl du hx42 rfl) ?_
 rw [hqx41]
 refine bw ?_
 have hS44:=Sep.s8 hS33 2
 have hL45:=x41.jK.lk
 refine ra rfl rfl (kq (i:=0) (l:=([]:List iu)) (enc:=iu.af) x41.jK.l hS44 rfl rfl rfl rfl rfl rfl rfl rfl rfl (λ_=>rfl) (.inl rfl) dy (λ_=>rfl)) ?_
 rintro v46 H47 hS48
 refine ⟨λcall=>(AH (mc rfl rfl rfl rfl rfl (ri Lm)) (AH (mc (v:=.ip (iG.af x41) 0 false) rfl rfl rfl ((jo (n:=x36) (r:=a1.roads) (enc:=iG.af) rfl rfl rfl rfl rfl du du rfl).trans (by rw [hqx41])) rfl (Th (Lm x41))) (xe (mc rfl rfl rfl rfl rfl (ri B6))))),?_⟩
 have hL49:=x41.guards.lk
 refine lR rfl rfl (kq (i:=0) (l:=(([]:List iu)++x41.jK.l)) (enc:=iu.af) x41.guards.l hS48 rfl rfl rfl rfl rfl rfl rfl rfl rfl (λ_=>rfl) (.inl rfl) dy (λ_=>rfl)) ?_
 rintro v50 H51 hS52
 refine iU rfl rfl (λ_=>mZ (i:=0) (l:=((([]:List iu)++x41.jK.l)++x41.guards.l)) (enc:=iu.af) hS52 rfl rfl rfl rfl rfl rfl rfl) ?_
 refine rN ?_
 refine qb ?_
 refine iL (((([]:List iu)++x41.jK.l)++x41.guards.l).length) (λrI e h=>∃ b54:Bool,(p5 (CV wZ a2.p a1.roads.l a3 a4 kp r28.l mf ⟨((k6:Nat):Int),n14⟩\/⟨((k6:Nat):Int),n14⟩∈(((([]:List iu)++x41.jK.l)++x41.guards.l)).take rI) b54)/\At [2,4,6,8,11,12,13,14,32,33,46,47,56,57,58,85,86,87] [.ip (iD.af a2) 0 false,iv a4,.la 6 0,.la 8 0,v12,cb k6,iv n14,.bool b54,cb a0.elems.l.length,cb k6,cb x20.iS.l.length,cb kp,j3 r28,cb r28.l.length,cb mf,v50,iv (((([]:List iu)++x41.jK.l)++x41.guards.l).length:Int),cb rI] H51 [(6,(jh.af a1)),(8,(iB.af a3))] e h) ?_ (k0:=0) du ⟨b31,(by exact Su hFd2),(iO hS52 [(11,1),(85,0)])⟩
 rintro rI e h hkk53 ⟨b54,hFd3,hA⟩
 refine rz hA ?_
 have hl4:((([]:List iu)++x41.jK.l)++x41.guards.l).length<=1012:=by simp only [List.length_append,List.length_nil]; omega
 refine aa ?_
 refine iX (λh55=>?_) (λh55=>?_)
 refine ak ?_
 refine wz [.ip (iD.af a2) 0 false,iv a4,.la 6 0,.la 8 0,v12,cb k6,iv n14,.bool b54,cb a0.elems.l.length,cb k6,cb x20.iS.l.length,cb kp,j3 r28,cb r28.l.length,cb mf,v50,iv (((([]:List iu)++x41.jK.l)++x41.guards.l).length:Int),cb rI] H51 [(6,(jh.af a1)),(8,(iB.af a3))] ?_ (iO hS52 [(11,1),(85,0)])
 refine bc ?_
 have hx56:rI<((([]:List iu)++x41.jK.l)++x41.guards.l).length:=by first | omega | (simp<;>omega) | (simp_all; omega)
 obtain ⟨x57,hqx57⟩:∃ x,((([]:List iu)++x41.jK.l)++x41.guards.l)[rI]=x:=⟨_,rfl⟩
 refine mX rfl (lS (i:=0) (m:=rI) (cs:=iu.af x57) hS52 rfl rfl rfl rfl rfl rfl rfl (jU hx56 hqx57)) ?_
 rintro a58 ⟨ha59,hea60⟩
 refine iI rfl (λ_=>lZ (i:=0) (m:=rI) (o:=0) (r:=.agg (iu.af x57)) (cs:=iu.af x57) hS52 rfl (jU hx56 hqx57) hea60 rfl rfl ha59) ?_
 refine am ?_
 refine c7 ?_
 refine kY (b:=b54) rfl (λ_=>rfl) (λh61=>?_) (λh61=>?_)
 refine bj ?_
 refine cr ?_
 refine bb ?_
 refine wz [.ip (iD.af a2) 0 false,iv a4,.la 6 0,.la 8 0,v12,cb k6,iv n14,.bool true,cb a0.elems.l.length,cb k6,cb x20.iS.l.length,cb kp,j3 r28,cb r28.l.length,cb mf,v50,iv (((([]:List iu)++x41.jK.l)++x41.guards.l).length:Int),cb rI] H51 [(6,(jh.af a1)),(8,(iB.af a3))] ?_ (iO hS52 [(11,1),(85,0)])
 refine qg ?_
 refine jd ?_
 refine ab ?_
 exact ig
 refine aQ ?_
 refine jG (λh62=>?_) (λh62=>?_)
 refine aQ ?_
 refine jG (λh63=>?_) (λh63=>?_)
 refine aS ?_
 refine wz [.ip (iD.af a2) 0 false,iv a4,.la 6 0,.la 8 0,v12,cb k6,iv n14,.bool true,cb a0.elems.l.length,cb k6,cb x20.iS.l.length,cb kp,j3 r28,cb r28.l.length,cb mf,v50,iv (((([]:List iu)++x41.jK.l)++x41.guards.l).length:Int),cb rI] H51 [(6,(jh.af a1)),(8,(iB.af a3))] ?_ (iO hS52 [(11,1),(85,0)])
 refine qg ?_
 refine jd ?_
 refine ab ?_
 exact ig
 refine aS ?_
 refine wz [.ip (iD.af a2) 0 false,iv a4,.la 6 0,.la 8 0,v12,cb k6,iv n14,iF,cb a0.elems.l.length,cb k6,cb x20.iS.l.length,cb kp,j3 r28,cb r28.l.length,cb mf,v50,iv (((([]:List iu)++x41.jK.l)++x41.guards.l).length:Int),cb rI] H51 [(6,(jh.af a1)),(8,(iB.af a3))] ?_ (iO hS52 [(11,1),(85,0)])
 refine qg ?_
 refine jd ?_
 refine ab ?_
 exact ij
 refine bl ?_
 refine aS ?_
 refine wz [.ip (iD.af a2) 0 false,iv a4,.la 6 0,.la 8 0,v12,cb k6,iv n14,iF,cb a0.elems.l.length,cb k6,cb x20.iS.l.length,cb kp,j3 r28,cb r28.l.length,cb mf,v50,iv (((([]:List iu)++x41.jK.l)++x41.guards.l).length:Int),cb rI] H51 [(6,(jh.af a1)),(8,(iB.af a3))] ?_ (iO hS52 [(11,1),(85,0)])
 refine qg ?_
 refine jd ?_
 refine ab ?_
 exact ij
 refine ai ?_
 refine wz [.ip (iD.af a2) 0 false,iv a4,.la 6 0,.la 8 0,v12,cb k6,iv n14,.bool b54,cb a0.elems.l.length,cb k6,cb x20.iS.l.length,cb kp,j3 r28,cb r28.l.length,cb mf] H51 [(6,(jh.af a1)),(8,(iB.af a3))] ?_ (iO hS52 [(11,1)])
 refine qg ?_
 refine jd ?_
 refine ab ?_
 have hS64:=Sep.pick hS52 [1] 2 dt dt
 exact ⟨by omega,b54,H51,fe,hS64,(iO hS64 [(11,0)])⟩
 refine ai ?_
 refine wz [.ip (iD.af a2) 0 false,iv a4,.la 6 0,.la 8 0,v12,cb k6,iv n14,.bool b31,cb a0.elems.l.length,cb k6,cb x20.iS.l.length,cb kp] H32 [(6,(jh.af a1)),(8,(iB.af a3))] ?_ (iO hS33 [(11,0)])
 refine qg ?_
 refine jd ?_
 refine ab ?_
 exact ⟨by omega,b31,H32,(by exact Hb hFd2 du hRe),hS33,(iO hS33 [(11,0)])⟩
 refine ai ?_
 refine wz [.ip (iD.af a2) 0 false,iv a4,.la 6 0,.la 8 0,v12,cb k6,iv n14,.bool b23,cb a0.elems.l.length,cb k6] H24 [(6,(jh.af a1)),(8,(iB.af a3))] ?_ (iO hS25 [(11,0)])
 refine aa ?_
 refine kY (b:=b23) rfl (λ_=>rfl) (λh65=>?_) (λh65=>?_)
 refine au ?_
 refine qg ?_
 refine bU ?_
 refine jt rfl (kq (i:=0) (l:=l13) (enc:=iu.af) [(⟨((k6:Int)),n14⟩:iu)] hS25 rfl rfl rfl rfl rfl rfl rfl rfl rfl (λ_=>rfl) (.inl rfl) dy (λ_=>rfl)) ?_
 rintro v66 H67 hS68
 refine ab ?_
 refine wz [.ip (iD.af a2) 0 false,iv a4,.la 6 0,.la 8 0,v66,cb k6,iv n14,cb a0.elems.l.length,cb k6] H67 [(6,(jh.af a1)),(8,(iB.af a3))] ?_ (iO hS68 [(11,0)])
 refine aI ?_
 refine jd ?_
 refine ab ?_
 refine ⟨_,?_,v66,((l13++[(⟨((k6:Int)),n14⟩:iu)])),(n14+1),H67,rfl,du,eE,dq,hS68,(iO hS68 [(11,0)])⟩
 omega
 refine aB ?_
 refine wz [.ip (iD.af a2) 0 false,iv a4,.la 6 0,.la 8 0,v12,cb k6,iv n14,cb a0.elems.l.length,cb k6] H24 [(6,(jh.af a1)),(8,(iB.af a3))] ?_ (iO hS25 [(11,0)])
 refine aI ?_
 refine jd ?_
 refine ab ?_
 refine ⟨_,?_,v12,l13,(n14+1),H24,rfl,du,eE,dq,hS25,(iO hS25 [(11,0)])⟩
 omega
 refine aD ?_
 refine wz [.ip (iD.af a2) 0 false,iv a4,.la 6 0,.la 8 0,v12,cb a0.elems.l.length,cb k6] H15 [(6,(jh.af a1)),(8,(iB.af a3))] ?_ (iO hS16 [(11,0)])
 refine qg ?_
 refine jd ?_
 refine ab ?_
 exact gb
 refine ai ?_
 refine wz [v7] H9 [] ?_ (iO hS10 [(11,0)])
 refine aO ?_
 obtain ⟨r69,hl70,hf71⟩:=lA (H:=H9) (i:=0) (l:=l8) (enc:=iu.af) hS10 rfl dn
 have hlq:=hl70; have hln73:=congrArg List.length hl70
 have hz72:∀ m,freeze false { H9 with iq:=[] } (m+2) v7=some (jf r69):=λm=>hf71 _ _ (λ_=>rfl)
 exact ⟨v7,(kr (vs:=[v7]) rfl (iN (Sep.arg (i:=0) hS10 rfl) jD)),jf r69,(show freeze false { H9 with iq:=[] } 8 v7=some (jf r69) by simp only [FZ,hz72]),r69,d6,rfl⟩
def LG:jx 29=some (pg 30 (kV id some 30 ni) (kV sW z6 69 qN)):=by rfl
def WO {H:aT} (vs:AV) (l:List iu) (F:List jH) (hS:Sep H (kW iu.af 2 vs l::F)) (q1:l.length<=1000000) (q2:∀ x∈l,mI x.elem/\mI x.pos):∃ v H',iZ cfg FT jx true 29 [vs,.jz 30 [] []] { H with iq:=[] } v H'/\(∃ lo:List iu,(AW l lo)/\Sep H' (kW iu.af 2 vs lo::F)/\v=.je []):=by
 obtain ⟨u,H',hc,hv,hS'⟩:=zb (tp:=id) (dec:=some) (g:=30) (cf:=ni) (Q:=(pg 30 (kV id some 30 ni) (kV sW z6 69 qN))) LG (λ_ _=>rfl) hS q1 q2 (CT _) (by simpa using (zu l).1)
 exact ⟨u,H',hc,_,zu l,hS',hv⟩
def U0 {H:aT} (vs:AV) (l:List iu) (F:List jH) (hS:Sep H (kW iu.af 2 vs l::F)) (q1:l.length<=1000000) (q2:∀ x∈l,mI x.elem/\mI x.pos) (q3:∀ x∈l,0<=x.elem/\x.elem<1000):∃ v H',iZ cfg FT jx true 29 [vs,.jz 69 [] []] { H with iq:=[] } v H'/\(∃ lo:List iu,(lo.length=l.length/\∀ x,x∈lo↔x∈l)/\Sep H' (kW iu.af 2 vs lo::F)/\v=.je []):=by
 obtain ⟨ds,h1,h2⟩:=G7 l q3
 have hl:(mS qN ds).length=l.length:=by simpa using (GL h2).1
 obtain ⟨u,H',hc,hv,hS'⟩:=zb (tp:=sW) (dec:=z6) (g:=69) (cf:=qN) (Q:=(pg 30 (kV id some 30 ni) (kV sW z6 69 qN))) LG (λ_ _=>rfl) hS q1 q2 h1 hl
 exact ⟨u,H',hc,_,GL h2,hS',hv⟩
def P65 (_a0:iD) (_a1:Int) (v:AV):Prop:=∃ r0:Int,∃ r1:Int,(((∃ q,look _a1 _a0.line=some (r0,q))\/(look _a1 _a0.line=none/\r0 = -1)))/\v=.je [iv r0,iv r1]
def t65 (a0:iD) (a1:Int) :Ct 65 [.ip (iD.af a0) 0 false,iv a1] (P65 a0 a1):=by
 refine iY Mq ?_
 refine aN ?_
 refine cC ?_
 refine bU ?_
 refine sj (key:=(a1)) (l:=a0.line) (ek:=iK) (ev:=sr) rfl rfl rfl rfl rfl rfl rfl rfl rfl qW (λy1 h2=>?_) (λh3=>?_)
 refine cG ?_
 refine aE ?_
 refine cU ?_
 refine bP ?_
 exact xG ⟨y1.1,y1.2,fG,rfl⟩
 refine cG ?_
 refine aq ?_
 refine aO ?_
 exact xG ⟨(-1),(-1),fG,rfl⟩
def u67 {H:aT} (b:Nat) (x:iu) (en:Int) (F:List jH) (hS:Sep H (j8 b [iv en]::F)) :∃ v H',iZ cfg FT jx true 67 [.agg (iu.af x),(iV b)] { H with iq:=[] } v H'/\(∃ r0:Bool,(((r0=true->x.elem=en)/\(r0=false->¬ x.elem=en)))/\Sep H' (j8 b [iv en]::F)/\v=.bool r0):=by
 refine kP Nr ?_
 refine aN ?_
 refine ae ?_
 refine mH 0 hS (iv en) ?_
 refine jG (λh1=>?_) (λh1=>?_)
 refine ag ?_
 have hS2:=Sep.pick hS [0] 1 dt dt
 exact ⟨.bool true,rfl,true,fy,Sep.iq hS2 _,rfl⟩
 refine ag ?_
 have hS3:=Sep.pick hS [0] 1 dt dt
 exact ⟨.bool false,rfl,false,fy,Sep.iq hS3 _,rfl⟩
def ae4 {H:aT} (vs:AV) (l:List iu) (b:Nat) (en:Int) (F:List jH) (hS:Sep H (kW iu.af 2 vs l::j8 b [iv en]::F)) (q1:l.length<=1000000):∃ v H',iZ cfg FT jx true 136 [vs,.jz 67 [] [(iV b)]] { H with iq:=[] } v H'/\(∃ r0:Int,(((0<=r0->∃ x∈l,x.elem=en)/\(r0<0->∀ x∈l,¬ x.elem=en)))/\Sep H' (kW iu.af 2 vs l::j8 b [iv en]::F)/\v=iv r0):=by
 refine kP Jh ?_
 refine bo ?_
 refine iI rfl (λ_=>mZ (i:=0) hS rfl rfl rfl rfl rfl rfl rfl) ?_
 refine aG ?_
 refine iL l.length (λk1 e h=>∃ H2:aT,(∀ (i:Nat) (h:i<l.length),i<k1->¬ (l[i]).elem=en)/\Sep H2 (kW iu.af 2 vs l::j8 b [iv en]::F)/\At [0,1,7,8] [vs,.jz 67 [] [(iV b)],cb l.length,cb k1] H2 [] e h) ?_ (k0:=0) du ⟨H,ee,hS,(iO hS [(0,0)])⟩
 rintro k1 e h hkk1 ⟨H2,hP,hS3,hA⟩
 refine aF ?_
 refine iX (λh4=>?_) (λh4=>?_)
 refine ak ?_
 refine wz [vs,.jz 67 [] [(iV b)],cb l.length,cb k1] H2 [] ?_ (iO hS3 [(0,0)])
 refine bH ?_
 refine ap ?_
 have hx5:k1<l.length:=by first | omega | (simp<;>omega) | (simp_all; omega)
 obtain ⟨x6,hqx6⟩:∃ x,l[k1]=x:=⟨_,rfl⟩
 have hinx6:x6∈l:=by rw [<- hqx6]; exact List.getElem_mem _
 have hmx6:=hinx6
 refine mX rfl (lS (i:=0) (m:=k1) (cs:=iu.af x6) hS3 rfl rfl rfl rfl rfl rfl rfl (jU hx5 hqx6)) ?_
 rintro a7 ⟨ha8,hea9⟩
 refine iI rfl (λ_=>lZ (i:=0) (m:=k1) (o:=0) (r:=.agg (iu.af x6)) (cs:=iu.af x6) hS3 rfl (jU hx5 hqx6) hea9 rfl rfl ha8) ?_
 have hS10:=Sep.pick hS3 [1,0] 2 dt dt
 refine jQ (H:=H2) (args:=[.agg (iu.af x6)]) (p:=[]) (r:=[(iV b)]) rfl rfl rfl rfl rfl rfl rfl (u67 b x6 en (kW iu.af 2 vs l::F) hS10) ?_
 rintro _ H11 ⟨r14,hc13,hS12,rfl⟩
 have hB:=hc13
 cases r14
 refine aB ?_
 refine wz [vs,.jz 67 [] [(iV b)],cb l.length,cb k1] H11 [] ?_ (iO hS12 [(0,1)])
 refine qg ?_
 refine jd ?_
 refine ab ?_
 have hS15:=Sep.pick hS12 [1,0] 2 dt dt
 exact ⟨by omega,H11,(by exact nI (P:=λx:iu=>¬ x.elem=en) dl hP (hB.2 rfl)),hS15,(iO hS15 [(0,0)])⟩
 refine ci ?_
 have hS16:=Sep.pick hS12 [1,0] 2 dt dt
 exact ⟨cb k1,rfl,((k1:Int)),fd,Sep.iq hS16 _,rfl⟩
 refine cQ ?_
 have hS17:=Sep.pick hS3 [0,1] 2 dt dt
 exact ⟨iv (-1),rfl,(-1),fd,Sep.iq hS17 _,rfl⟩
def u66 {H:aT} (vs:AV) (l:List iu) (b:Nat) (en:Int) (F:List jH) (hS:Sep H (kW iu.af 2 vs l::j8 b [iv en]::F)) (q1:l.length<=1000000):∃ v H',iZ cfg FT jx true 66 [vs,.jz 67 [] [(iV b)]] { H with iq:=[] } v H'/\(∃ r0:Bool,(((r0=true->∃ x∈l,x.elem=en)/\(r0=false->∀ x∈l,¬ x.elem=en)))/\Sep H' (kW iu.af 2 vs l::j8 b [iv en]::F)/\v=.bool r0):=by
 refine kP MC ?_
 refine cP ?_
 have hS1:=Sep.pick hS [0,1] 2 dt dt
 refine jQ (H:=H) (args:=[vs,.jz 67 [] [(iV b)]]) (p:=[]) (r:=[]) rfl rfl rfl rfl rfl (iN (Sep.arg (i:=0) hS rfl) (iN rfl jD)) rfl (ae4 vs l b en F hS1 dj) ?_
 rintro _ H2 ⟨r5,hc4,hS3,rfl⟩
 have hIx:=hc4
 refine lI (λh6=>?_) (λh6=>?_)
 refine ag ?_
 have hS7:=Sep.pick hS3 [0,1] 2 dt dt
 exact ⟨.bool true,rfl,true,fu,Sep.iq hS7 _,rfl⟩
 refine ag ?_
 have hS8:=Sep.pick hS3 [0,1] 2 dt dt
 exact ⟨.bool false,rfl,false,fu,Sep.iq hS8 _,rfl⟩
def P68 (_a0:iD) (_a1:Int) (_a2:Int) (v:AV):Prop:=∃ r0:Int,(r0=rm _a0 _a1 _a2)/\v=iv r0
def t68 (a0:iD) (a1:Int) (a2:Int) :Ct 68 [.ip (iD.af a0) 0 false,iv a1,iv a2] (P68 a0 a1 a2):=by
 refine iY M9 ?_
 refine cP ?_
 refine aC ?_
 refine sj (key:=(a1)) (l:=a0.lead) (ek:=iK) (ev:=iK) rfl rfl rfl rfl rfl rfl rfl rfl rfl qW (λy1 h2=>?_) (λh3=>?_)
 refine bC ?_
 refine aw ?_
 refine aR ?_
 refine iX (λh4=>?_) (λh4=>?_)
 refine aU ?_
 refine bf ?_
 exact xB ⟨0,fq,rfl⟩
 refine aC ?_
 refine ki (λh5=>?_) (λh5=>?_)
 refine bf ?_
 exact xB ⟨0,fq,rfl⟩
 refine dc ?_
 refine oV ?_
 refine jG (λh6=>?_) (λh6=>?_)
 refine ac ?_
 exact xB ⟨1,fq,rfl⟩
 refine aq ?_
 refine cJ ?_
 exact xB ⟨2,fq,rfl⟩
 refine bC ?_
 refine bQ ?_
 refine aU ?_
 refine aU ?_
 refine bf ?_
 exact xB ⟨0,fq,rfl⟩
def P28 (_a0:iD) (_a1:iG) (v:AV):Prop:=∃ r0:Row iu,(((∀ y,y∈r0.l↔y∈rP _a0 _a1.steps.l)/\r0.l.length<=12))/\v=jf r0
def t28 (a0:iD) (a1:iG) (q1:a1.steps.l.length<=12) (q2:Di a0):Ct 28 [.ip (iD.af a0) 0 false,.agg (iG.af a1)] (P28 a0 a1):=by
 refine iY NA ?_
 refine aN ?_
 refine ah ?_
 refine aH ?_
 have hL1:=a1.steps.lk
 refine jy a1.steps ?_
 refine aG ?_
 have hS2:=Sep.lX jW 2
 have hNk3:=a1.steps.lk
 refine iL a1.steps.l.length (λk3 e h=>∃ v4:AV,∃ l5:List iu,∃ H6:aT,(l5.length<=0+k3)/\(l5=rP a0 (a1.steps.l.take k3))/\(l5.length<=k3)/\Sep H6 (kW iu.af 2 v4 l5::[])/\At [0,5,11,12,13] [.ip (iD.af a0) 0 false,v4,jc a1.steps,cb a1.steps.l.length,cb k3] H6 [] e h) ?_ (k0:=0) du ⟨iJ,(([]:List iu)),aT.empty,d3,fW,eH,hS2,atR⟩
 rintro k3 e h hkk3 ⟨v4,l5,H6,hl8,hTk,hTl,hS7,hA⟩
 refine aF ?_
 refine iX (λh9=>?_) (λh9=>?_)
 refine ak ?_
 refine wz [.ip (iD.af a0) 0 false,v4,jc a1.steps,cb a1.steps.l.length,cb k3] H6 [] ?_ (iO hS7 [(5,0)])
 refine bc ?_
 have hx10:k3<a1.steps.l.length:=by omega
 refine kM k3 a1.steps hx10 ?_
 generalize hqx11:a1.steps.l[k3]=x11
 refine aS ?_
 refine ap ?_
 refine oC (t65 a0 x11.elem) ?_
 rintro _ ⟨r13,r14,hc12,rfl⟩
 have hLine:=hc12; have hLf:=MF hLine
 refine aC ?_
 refine jt (H:=H6) rfl (Dm hS7 rfl rfl) ?_
 rintro _ H16 ⟨b15,rfl,hS17⟩
 refine Hf 0 hS17 (iv r13) λH18 hS19=>?_
 refine ab ?_
 refine cC ?_
 refine mH 0 hS19 (iv r13) ?_
 refine iX (λh20=>?_) (λh20=>?_)
 refine b5 ?_
 refine bJ ?_
 refine wz [.ip (iD.af a0) 0 false,v4,jc a1.steps,cb a1.steps.l.length,cb k3] H18 [] ?_ (iO hS19 [(5,1)])
 refine qg ?_
 refine jd ?_
 refine ab ?_
 have hS21:=Sep.pick hS19 [1] 2 dt dt
 exact ⟨by omega,v4,l5,H18,dm,eI,dq,hS21,(iO hS21 [(5,0)])⟩
 refine am ?_
 refine iI rfl (λ_=>w4 rfl rfl (xI rfl rfl)) ?_
 have hS22:=Sep.pick hS19 [1,0] 2 dt dt
 refine jQ (H:=H18) (args:=[v4,.jz 67 [] [(iV b15)]]) (p:=[]) (r:=[]) rfl rfl rfl rfl rfl (iN (Sep.arg (i:=1) hS19 rfl) (iN rfl jD)) rfl (u66 v4 l5 b15 r13 ([]) hS22 dj) ?_
 rintro _ H23 ⟨r26,hc25,hS24,rfl⟩
 have hCt:=hc25
 cases r26
 refine aq ?_
 refine wz [.ip (iD.af a0) 0 false,v4,.la 7 0,(iV b15),jc a1.steps,cb a1.steps.l.length,cb k3] H23 [(7,(iR.af x11))] ?_ (iO hS24 [(5,0)])
 refine qd ?_
 refine rV ?_
 refine rE 1 hS24 (iv r13) ?_
 refine br ?_
 refine rC (t68 a0 x11.elem x11.lN) ?_
 rintro _ ⟨r28,hc27,rfl⟩
 have hLd:=hc27
 refine aJ ?_
 refine rAp 0 [(⟨r13,r28⟩:iu)] hS24 λv29 H30 hS31=>?_
 refine aM ?_
 refine wz [.ip (iD.af a0) 0 false,v29,jc a1.steps,cb a1.steps.l.length,cb k3] H30 [] ?_ (iO hS31 [(5,0)])
 refine qg ?_
 refine jd ?_
 refine ab ?_
 have hS32:=Sep.pick hS31 [0] 2 dt dt
 exact ⟨by omega,v29,((l5++[(⟨r13,r28⟩:iu)])),H30,dm,eI,dq,hS32,(iO hS32 [(5,0)])⟩
 refine bJ ?_
 refine wz [.ip (iD.af a0) 0 false,v4,jc a1.steps,cb a1.steps.l.length,cb k3] H23 [] ?_ (iO hS24 [(5,0)])
 refine qg ?_
 refine jd ?_
 refine ab ?_
 have hS33:=Sep.pick hS24 [0] 2 dt dt
 exact ⟨by omega,v4,l5,H23,dm,eI,dq,hS33,(iO hS33 [(5,0)])⟩
 refine ai ?_
 refine wz [v4] H6 [] ?_ (iO hS7 [(5,0)])
 refine aj ?_
 have hrA:=T2 q2 hTk
 have hrB:=λx hx=>And.intro (Xk (hrA x hx)) (Z8 (hrA x hx))
 have hrC:=λx hx=>YF (hrA x hx)
 have hS34:=Sep.pick hS7 [0] 1 dt dt
 refine jQ (H:=H6) (args:=[v4,.jz 69 [] []]) (p:=[]) (r:=[]) rfl rfl rfl rfl rfl (iN (Sep.arg (i:=0) hS7 rfl) (iN rfl jD)) rfl (U0 v4 l5 ([]) hS34 dj dj dj) ?_
 rintro _ H35 ⟨lo38,hc37,hS36,rfl⟩
 have hSo:=hc37
 have hsl2:=hc37.1
 refine oN ?_
 refine aO ?_
 obtain ⟨r39,hl40,hf41⟩:=lA (H:=H35) (i:=0) (l:=lo38) (enc:=iu.af) hS36 rfl dn
 have hlq:=hl40; have hln43:=congrArg List.length hl40
 have hz42:∀ m,freeze false { H35 with iq:=[] } (m+2) v4=some (jf r39):=λm=>hf41 _ _ (λ_=>rfl)
 exact ⟨v4,(kr (vs:=[v4]) rfl (iN (Sep.arg (i:=0) hS36 rfl) jD)),jf r39,(show freeze false { H35 with iq:=[] } 8 v4=some (jf r39) by simp only [FZ,hz42]),r39,(by exact ⟨λy=>by rw [hlq]; exact (hSo.2 y).trans (by rw [<- Vz hTk du]),by omega⟩),rfl⟩
def u31 {H:aT} (vs:AV) (l:List iu) (F:List jH) (hS:Sep H (lK iu.af 2 vs l::F)) (q1:l.length<=1000000):∃ v H',iZ cfg FT jx true 31 [vs] { H with iq:=[] } v H'/\(∃ vo:AV,∃ lo:List iu,(lo=Lib.compact l)/\Sep H' (lK iu.af 2 vo lo::F)/\v=vo):=by
 refine kP Nn ?_
 refine bo ?_
 refine iI rfl (λ_=>mZ (H:=H) (i:=0) (l:=l) (enc:=iu.af) hS rfl rfl rfl rfl rfl rfl rfl) ?_
 refine iX (λh1=>?_) (λh1=>?_)
 refine ci ?_
 have hS2:=Sep.pick hS [0] 1 dt dt
 exact gD
 refine aB ?_
 refine wz [vs] H [] ?_ (iO hS [(0,0)])
 refine aK ?_
 refine mw (λm4 e h=>∃ n3:Int,m4=((l.length:Int) - n3).toNat/\(tz l n3)/\At [0,3] [vs,iv n3] H [] e h) ?_ _ _ _ ⟨1,rfl,(by exact tz.start du),(iO hS [(0,0)])⟩
 rintro m4 e h ⟨n3,hmm4,hKp,hA⟩
 refine rz hA ?_
 have hK1:=hKp.1; have hK2:=hKp.2.1
 refine aH ?_
 refine iI rfl (λ_=>mZ (H:=H) (i:=0) (l:=l) (enc:=iu.af) hS rfl rfl rfl rfl rfl rfl rfl) ?_
 refine iX (λh5=>?_) (λh5=>?_)
 refine aZ ?_
 refine wz [vs,iv n3] H [] ?_ (iO hS [(0,0)])
 refine aw ?_
 refine bG ?_
 have hk6:(((n3).toNat:Nat):Int)=n3:=Int.toNat_of_nonneg dm
 have hx7:(n3).toNat<l.length:=by first | omega | (simp<;>omega) | (simp_all; omega)
 obtain ⟨x8,hqx8⟩:∃ x,l[(n3).toNat]=x:=⟨_,rfl⟩
 have hinx8:x8∈l:=by rw [<- hqx8]; exact List.getElem_mem _
 try have hgC:=hgB
 try have hgB:=hgA
 have hgA:=hqx8
 refine mj rfl rfl (lS (H:=H) (i:=0) (m:=(n3).toNat) (cs:=iu.af x8) hS rfl rfl rfl rfl rfl rfl (congrArg (AV.int .i64) hk6.symm) (jU hx7 hqx8)) ?_
 rintro a9 ⟨ha10,hea11⟩
 refine iU rfl rfl (λ_=>lZ (H:=H) (i:=0) (m:=(n3).toNat) (o:=0) (r:=.agg (iu.af x8)) (cs:=iu.af x8) hS rfl (jU hx7 hqx8) hea11 rfl rfl ha10) ?_
 refine aJ ?_
 refine EK ?_
 have hk12:(((n3 - 1).toNat:Nat):Int)=n3 - 1:=Int.toNat_of_nonneg dm
 have hx13:(n3 - 1).toNat<l.length:=by first | omega | (simp<;>omega) | (simp_all; omega)
 obtain ⟨x14,hqx14⟩:∃ x,l[(n3 - 1).toNat]=x:=⟨_,rfl⟩
 have hinx14:x14∈l:=by rw [<- hqx14]; exact List.getElem_mem _
 try have hgC:=hgB
 try have hgB:=hgA
 have hgA:=hqx14
 refine mj rfl rfl (lS (H:=H) (i:=0) (m:=(n3 - 1).toNat) (cs:=iu.af x14) hS rfl rfl rfl rfl rfl rfl (congrArg (AV.int .i64) hk12.symm) (jU hx13 hqx14)) ?_
 rintro a15 ⟨ha16,hea17⟩
 refine iU rfl rfl (λ_=>lZ (H:=H) (i:=0) (m:=(n3 - 1).toNat) (o:=0) (r:=.agg (iu.af x14)) (cs:=iu.af x14) hS rfl (jU hx13 hqx14) hea17 rfl rfl ha16) ?_
 refine mC rfl rfl (λ_=>rG rfl rfl rfl (λ_ _=>rfl)) (λh18=>?_) (λh18=>?_)
 refine bL ?_
 refine ae ?_
 have hk19:(((n3).toNat:Nat):Int)=n3:=Int.toNat_of_nonneg dm
 have hx22:(n3).toNat<l.length:=by first | omega | (simp<;>omega) | (simp_all; omega)
 refine mX rfl (xd (H:=H) (i:=0) (k:=(n3).toNat) hS rfl rfl rfl rfl rfl rfl (congrArg (AV.int .i64) hk19.symm) (by simpa using hx22)) ?_
 rintro v20 ht23
 obtain ⟨b24,g25,hv26,rfl⟩:=ht23
 have ht21:vT vs ((n3).toNat) (List.map iu.af l).length (.hs b24 g25 ((n3).toNat) ((List.map iu.af l).length - ((n3).toNat))):=⟨b24,g25,hv26,rfl⟩
 refine ab ?_
 refine aK ?_
 refine mw (λm32 e h=>∃ l27:List iu,∃ n28:Int,∃ n29:Int,∃ H30:aT,m32=((l.length:Int) - (((n3).toNat:Nat):Int) - n29).toNat/\(1<=n29)/\(pc l ((((n3).toNat:Nat):Int)+n29) n28 l27)/\Sep H30 (lK iu.af 2 vs l27::F)/\At [0,3,4,5] [vs,iv n28,(.hs b24 g25 ((n3).toNat) ((List.map iu.af l).length - ((n3).toNat))),iv n29] H30 [] e h) ?_ _ _ _ ⟨l,n3,1,H,rfl,du,fV,hS,(iO hS [(0,0)])⟩
 rintro m32 e h ⟨l27,n28,n29,H30,hmm32,hj1,hCp,hS31,hA⟩
 refine rz hA ?_
 obtain ⟨hLn1,hLn2⟩:=pc.len hCp; have hCp3:=hCp.2.1; have hCp4:=hCp.2.2.1
 refine aH ?_
 refine iI rfl (λ_=>F3 (ES ht21 (r:=l27.length) dT) rfl rfl rfl rfl rfl rfl) ?_
 refine iX (λh33=>?_) (λh33=>?_)
 refine aZ ?_
 refine wz [vs,iv n28,(.hs b24 g25 ((n3).toNat) ((List.map iu.af l).length - ((n3).toNat))),iv n29] H30 [] ?_ (iO hS31 [(0,0)])
 refine aw ?_
 refine bG ?_
 have hk34:(((n29).toNat:Nat):Int)=n29:=Int.toNat_of_nonneg dm
 have hx35:((n3).toNat+(n29).toNat)<l27.length:=by first | omega | (simp<;>omega) | (simp_all; omega)
 obtain ⟨x36,hqx36⟩:∃ x,l27[((n3).toNat+(n29).toNat)]=x:=⟨_,rfl⟩
 have hinx36:x36∈l27:=by rw [<- hqx36]; exact List.getElem_mem _
 try have hgC:=hgB
 try have hgB:=hgA
 have hgA:=hqx36
 refine mj rfl rfl (ui (H:=H30) (i:=0) (q:=(n3).toNat) (m:=(n29).toNat) (cs:=iu.af x36) hS31 rfl rfl rfl rfl rfl ht21 dT rfl (congrArg (AV.int .i64) hk34.symm) (jU hx35 hqx36)) ?_
 rintro a37 ⟨ha38,hea39⟩
 refine iU rfl rfl (λ_=>lZ (H:=H30) (i:=0) (m:=((n3).toNat+(n29).toNat)) (o:=0) (r:=.agg (iu.af x36)) (cs:=iu.af x36) hS31 rfl (jU hx35 hqx36) hea39 rfl rfl ha38) ?_
 refine aJ ?_
 refine EK ?_
 have hk40:(((n29 - 1).toNat:Nat):Int)=n29 - 1:=Int.toNat_of_nonneg dm
 have hx41:((n3).toNat+(n29 - 1).toNat)<l27.length:=by first | omega | (simp<;>omega) | (simp_all; omega)
 obtain ⟨x42,hqx42⟩:∃ x,l27[((n3).toNat+(n29 - 1).toNat)]=x:=⟨_,rfl⟩
 have hinx42:x42∈l27:=by rw [<- hqx42]; exact List.getElem_mem _
 try have hgC:=hgB
 try have hgB:=hgA
 have hgA:=hqx42
 refine mj rfl rfl (ui (H:=H30) (i:=0) (q:=(n3).toNat) (m:=(n29 - 1).toNat) (cs:=iu.af x42) hS31 rfl rfl rfl rfl rfl ht21 dT rfl (congrArg (AV.int .i64) hk40.symm) (jU hx41 hqx42)) ?_
 rintro a43 ⟨ha44,hea45⟩
 refine iU rfl rfl (λ_=>lZ (H:=H30) (i:=0) (m:=((n3).toNat+(n29 - 1).toNat)) (o:=0) (r:=.agg (iu.af x42)) (cs:=iu.af x42) hS31 rfl (jU hx41 hqx42) hea45 rfl rfl ha44) ?_
 refine mC rfl rfl (λ_=>wY rfl rfl rfl (λ_ _=>rfl)) (λh46=>?_) (λh46=>?_)
 refine bL ?_
 refine aR ?_
 have hk47:(((n29).toNat:Nat):Int)=n29:=Int.toNat_of_nonneg dm
 have hx48:((n3).toNat+(n29).toNat)<l27.length:=by first | omega | (simp<;>omega) | (simp_all; omega)
 refine mX rfl (ui (H:=H30) (i:=0) (q:=(n3).toNat) (m:=(n29).toNat) (cs:=iu.af x36) hS31 rfl rfl rfl rfl rfl ht21 dT rfl (congrArg (AV.int .i64) hk47.symm) (jU hx48 hqx36)) ?_
 rintro a49 ⟨ha50,hea51⟩
 refine iI rfl (λ_=>lZ (H:=H30) (i:=0) (m:=((n3).toNat+(n29).toNat)) (o:=0) (r:=.agg (iu.af x36)) (cs:=iu.af x36) hS31 rfl (jU hx48 hqx36) hea51 rfl rfl ha50) ?_
 have hk52:(((n28).toNat:Nat):Int)=n28:=Int.toNat_of_nonneg dm
 have hx53:(n28).toNat<l27.length:=by first | omega | (simp<;>omega) | (simp_all; omega)
 obtain ⟨x54,hqx54⟩:∃ x,l27[(n28).toNat]=x:=⟨_,rfl⟩
 have hinx54:x54∈l27:=by rw [<- hqx54]; exact List.getElem_mem _
 try have hgC:=hgB
 try have hgB:=hgA
 have hgA:=hqx54
 refine mX rfl (lS (H:=H30) (i:=0) (m:=(n28).toNat) (cs:=iu.af x54) hS31 rfl rfl rfl rfl rfl rfl (congrArg (AV.int .i64) hk52.symm) (jU hx53 hqx54)) ?_
 rintro a55 ⟨ha56,hea57⟩
 refine jt rfl (si (H:=H30) (i:=0) (m:=(n28).toNat) (o:=0) x54 x36 hS31 rfl hx53 hqx54 hea57 rfl ha56 rfl rfl rfl rfl) ?_
 rintro _ H58 ⟨rfl,hS59⟩
 refine oN ?_
 refine aI ?_
 refine jd ?_
 refine ab ?_
 refine wz [vs,iv (n28+1),(.hs b24 g25 ((n3).toNat) ((List.map iu.af l).length - ((n3).toNat))),iv n29] H58 [] ?_ (iO hS59 [(0,0)])
 refine aI ?_
 refine jd ?_
 refine ab ?_
 refine ⟨_,?_,((l27.set ((n28).toNat) x36)),(n28+1),(n29+1),H58,rfl,du,ei,hS59,(iO hS59 [(0,0)])⟩
 omega
 refine bO ?_
 refine wz [vs,iv n28,(.hs b24 g25 ((n3).toNat) ((List.map iu.af l).length - ((n3).toNat))),iv n29] H30 [] ?_ (iO hS31 [(0,0)])
 refine aI ?_
 refine jd ?_
 refine ab ?_
 refine ⟨_,?_,l27,n28,(n29+1),H30,rfl,du,ei,hS31,(iO hS31 [(0,0)])⟩
 omega
 refine aD ?_
 refine wz [vs,iv n28] H30 [] ?_ (iO hS31 [(0,0)])
 refine ae ?_
 have hk60:(((n28).toNat:Nat):Int)=n28:=Int.toNat_of_nonneg dm
 have hx63:(n28).toNat<l27.length:=by first | omega | (simp<;>omega) | (simp_all; omega)
 refine mX rfl (xd (H:=H30) (i:=0) (k:=(n28).toNat) hS31 rfl rfl rfl rfl rfl rfl (congrArg (AV.int .i64) hk60.symm) (by simpa using hx63)) ?_
 rintro v61 ht64
 obtain ⟨b65,g66,hv67,rfl⟩:=ht64
 have ht62:vT vs ((n28).toNat) (List.map iu.af l27).length (.hs b65 g66 ((n28).toNat) ((List.map iu.af l27).length - ((n28).toNat))):=⟨b65,g66,hv67,rfl⟩
 refine jt rfl (Hv (H:=H30) (i:=0) (l:=l27) (enc:=iu.af) (z:=(⟨0,0⟩:iu)) hS31 rfl ht62 rfl rfl rfl rfl rfl rfl rfl rfl dm) ?_
 rintro _ H68 ⟨rfl,hS69⟩
 refine oN ?_
 refine ae ?_
 have hk70:(((n28).toNat:Nat):Int)=n28:=Int.toNat_of_nonneg dm
 have hx71:(n28).toNat<=((l27.take ((n28).toNat)++List.replicate (l27.length - ((n28).toNat)) (⟨0,0⟩:iu))).length:=by first | omega | (simp<;>omega) | (simp_all; omega)
 refine jt rfl (sm (H:=H68) (i:=0) (k:=(n28).toNat) hS69 rfl rfl rfl rfl rfl rfl (congrArg (AV.int .i64) hk70.symm) hx71) ?_
 rintro v72 H73 ⟨hc74,hS75⟩
 refine ag ?_
 have hS76:=Sep.pick hS75 [0] 1 dt dt
 exact gE
 refine bO ?_
 refine wz [vs,iv n3] H [] ?_ (iO hS [(0,0)])
 refine aI ?_
 refine jd ?_
 refine ab ?_
 refine ⟨_,?_,(n3+1),rfl,fY,(iO hS [(0,0)])⟩
 omega
 refine aD ?_
 refine wz [vs] H [] ?_ (iO hS [(0,0)])
 refine aO ?_
 have hS77:=Sep.pick hS [0] 1 dt dt
 exact gF
def P9 (_a0:iD) (_a1:Row iG) (_a2:iB) (_a3:Int) (v:AV):Prop:=∃ r0:Row iu,(∃ l lo,AW l lo/\r0.l=Lib.compact lo/\∀ x,x∈l↔LdS _a0 _a1.l _a2 _a3 x)/\v=jf r0
def t9 (a0:iD) (a1:Row iG) (a2:iB) (a3:Int) (q1:lD a0.p) (q2:a1.l.length<=64) (qn:sP a0) (q4:∀ r∈a2.runs.l,r.iS.l.length<=12) (q5:∀ r∈a1.l,r.steps.l.length<=12/\r.jK.l.length<=12/\lV a0.p r) (q6:Di a0):Ct 9 [.ip (iD.af a0) 0 false,iT a1,.agg (iB.af a2),iv a3] (P9 a0 a1 a2 a3):=by
 refine iY Ww ?_
 refine aN ?_
 refine bo ?_
 refine aC ?_
 refine oC (t21 a0 a1 a2 a3 dj dj dj dj) ?_
 rintro _ ⟨r2,hc1,rfl⟩
 have hRm:=hc1.1; have hRml:=hc1.2
 have hL3:=r2.lk
 refine jy r2 ?_
 refine aG ?_
 have hS4:=Sep.lX jW 2
 have hNk5:=r2.lk
 refine iL r2.l.length (λk5 e h=>∃ v6:AV,∃ l7:List iu,∃ H8:aT,(∀ y,y∈(l7:List iu)↔Ek a0 ((r2.l).take k5) y)/\(l7.length<=12*k5)/\Sep H8 (kW iu.af 2 v6 l7::[])/\At [0,9,16,17,18] [.ip (iD.af a0) 0 false,v6,iT r2,cb r2.l.length,cb k5] H8 [] e h) ?_ (k0:=0) du ⟨iJ,(([]:List iu)),aT.empty,(by exact ag7),eH,hS4,atR⟩
 rintro k5 e h hkk5 ⟨v6,l7,H8,hWn,hWl,hS9,hA⟩
 refine aF ?_
 refine iX (λh10=>?_) (λh10=>?_)
 refine ak ?_
 refine wz [.ip (iD.af a0) 0 false,v6,iT r2,cb r2.l.length,cb k5] H8 [] ?_ (iO hS9 [(9,0)])
 refine bc ?_
 have hx11:k5<r2.l.length:=by omega
 refine kM k5 r2 hx11 ?_
 generalize hqx12:r2.l[k5]=x12
 have hinx12:x12∈r2.l:=by rw [<- hqx12]; exact List.getElem_mem _
 have hsx12:=q5 x12 (BK ((hRm x12).mp hinx12)); have hnx12:=hsx12.1
 refine aS ?_
 refine bv ?_
 refine oC (t28 a0 x12 dj dj) ?_
 rintro _ ⟨r14,hc13,rfl⟩
 have hTw:=hc13.1; have hTwl:=hc13.2
 have hL15:=r14.lk
 refine jt rfl (kq (H:=H8) (i:=0) (l:=l7) (enc:=iu.af) r14.l hS9 rfl rfl rfl rfl rfl rfl rfl rfl rfl (λ_=>rfl) (.inl rfl) dy (λ_=>rfl)) ?_
 rintro v16 H17 hS18
 refine ab ?_
 refine wz [.ip (iD.af a0) 0 false,v16,iT r2,cb r2.l.length,cb k5] H17 [] ?_ (iO hS18 [(9,0)])
 refine qg ?_
 refine jd ?_
 refine ab ?_
 exact ⟨by omega,v16,((l7++r14.l)),H17,(by exact aep hWn dl hTw),dq,hS18,(iO hS18 [(9,0)])⟩
 refine ai ?_
 refine wz [v6] H8 [] ?_ (iO hS9 [(9,0)])
 refine aj ?_
 have hrB:=UU q6 hWn
 have hS19:=Sep.pick hS9 [0] 1 dt dt
 refine jQ (H:=H8) (args:=[v6,.jz 30 [] []]) (p:=[]) (r:=[]) rfl rfl rfl rfl rfl (iN (Sep.arg (i:=0) hS9 rfl) (iN rfl jD)) rfl (WO v6 l7 ([]) hS19 dj dj) ?_
 rintro _ H20 ⟨lo23,hc22,hS21,rfl⟩
 have hSo:=hc22
 have hsl2:=hc22.1
 refine oN ?_
 refine aj ?_
 have hS24:=Sep.tZ (i:=0) hS21 rfl
 have hS25:=Sep.pick hS24 [0] 1 dt dt
 refine jQ (H:=H20) (args:=[v6]) (p:=[]) (r:=[]) rfl rfl rfl rfl rfl (iN (Sep.arg (i:=0) hS24 rfl) jD) rfl (u31 v6 lo23 ([]) hS25 dj) ?_
 rintro vo29 H26 ⟨_,lo30,hc28,hS27,rfl⟩
 have hCo:=hc28
 have hcl2:=GF hc28
 refine ag ?_
 obtain ⟨r31,hl32,hf33⟩:=lA (H:=H26) (i:=0) (l:=lo30) (enc:=iu.af) hS27 rfl dn
 have hlq:=hl32; have hln35:=congrArg List.length hl32
 have hz34:∀ m,freeze false { H26 with iq:=[] } (m+2) vo29=some (jf r31):=λm=>hf33 _ _ (λ_=>rfl)
 exact ⟨vo29,(kr (vs:=[vo29]) rfl (iN (Sep.arg (i:=0) hS27 rfl) jD)),jf r31,(show freeze false { H26 with iq:=[] } 8 vo29=some (jf r31) by simp only [FZ,hz34]),r31,(by exact ⟨_,_,hSo,by simp_all,WM hWn du hRm⟩),rfl⟩
def P10 (_a0:bY) (_a1:jh) (_a2:iD) (_a3:iB) (_a4:Int) (v:AV):Prop:=∃ r0:Row iu,(nT (se (AG _a2) _a2.p _a1.roads.l _a3 _a4 (oF _a3 _a4)) (_a0.lines.l.length:Int) 1 r0.l)/\v=jf r0
def t10 (a0:bY) (a1:jh) (a2:iD) (a3:iB) (a4:Int) (q1:lD a2.p) (q2:a1.roads.l.length<=64) (qn:sP a2) (q4:∀ r∈a3.runs.l,r.iS.l.length<=12) (q5:∀ r∈a1.roads.l,r.steps.l.length<=12/\r.jK.l.length<=12/\lV a2.p r) (q6:Di a2) (q7:a0.lines.l.length<=60):Ct 10 [.agg (bY.af a0),.agg (jh.af a1),.ip (iD.af a2) 0 false,.agg (iB.af a3),iv a4] (P10 a0 a1 a2 a3 a4):=by
 refine iY MT ?_
 refine aa ?_
 refine bW ?_
 refine bo ?_
 refine iX (λh1=>?_) (λh1=>?_)
 refine a8 ?_
 refine bS ?_
 exact ga
 refine aQ ?_
 have hL2:=a3.runs.lk
 refine jy a3.runs ?_
 refine lI (λh3=>?_) (λh3=>?_)
 refine bS ?_
 exact ga
 refine aq ?_
 refine aH ?_
 have hL4:=a0.lines.lk
 refine jy a0.lines ?_
 refine aG ?_
 have hS5:=Sep.lX jW 2
 have hNk6:=a0.lines.lk
 refine iL a0.lines.l.length (λk6 e h=>∃ v7:AV,∃ l8:List iu,∃ H9:aT,(nT (se (AG a2) a2.p a1.roads.l a3 a4 (oF a3 a4)) ((k6:Nat):Int) 1 l8)/\(l8.length<=2*k6)/\Sep H9 (kW iu.af 2 v7 l8::[])/\At [2,4,6,8,11,32,33] [.ip (iD.af a2) 0 false,iv a4,.la 6 0,.la 8 0,v7,cb a0.lines.l.length,cb k6] H9 [(6,(jh.af a1)),(8,(iB.af a3))] e h) ?_ (k0:=0) du ⟨iJ,(([]:List iu)),aT.empty,(by exact nT.zero),eH,hS5,atR⟩
 rintro k6 e h hkk6 ⟨v7,l8,H9,hEn,hEl,hS10,hA⟩
 refine aF ?_
 refine iX (λh11=>?_) (λh11=>?_)
 refine ak ?_
 refine wz [.ip (iD.af a2) 0 false,iv a4,.la 6 0,.la 8 0,v7,cb a0.lines.l.length,cb k6] H9 [(6,(jh.af a1)),(8,(iB.af a3))] ?_ (iO hS10 [(11,0)])
 refine bH ?_
 refine aa ?_
 refine aG ?_
 refine mw (λm17 e h=>∃ v12:AV,∃ l13:List iu,∃ n14:Int,∃ H15:aT,m17=(3 - n14).toNat/\(1<=n14/\n14<=3)/\(nT (se (AG a2) a2.p a1.roads.l a3 a4 (oF a3 a4)) ((k6:Nat):Int) n14 l13)/\((l13.length:Int)<=2*k6+n14 - 1)/\Sep H15 (kW iu.af 2 v12 l13::[])/\At [2,4,6,8,11,12,13,32,33] [.ip (iD.af a2) 0 false,iv a4,.la 6 0,.la 8 0,v12,cb k6,iv n14,cb a0.lines.l.length,cb k6] H15 [(6,(jh.af a1)),(8,(iB.af a3))] e h) ?_ _ _ _ ⟨v7,l8,1,H9,rfl,du,(by exact hEn),du,hS10,(iO hS10 [(11,0)])⟩
 rintro m17 e h ⟨v12,l13,n14,H15,hmm17,hp1,hEn2,hEl2,hS16,hA⟩
 refine c9 ?_
 refine tc (λh18=>?_) (λh18=>?_)
 refine aZ ?_
 refine wz [.ip (iD.af a2) 0 false,iv a4,.la 6 0,.la 8 0,v12,cb k6,iv n14,cb a0.lines.l.length,cb k6] H15 [(6,(jh.af a1)),(8,(iB.af a3))] ?_ (iO hS16 [(11,0)])
 refine aw ?_
 refine ah ?_
 refine aV ?_
 have hx19:(a4).toNat<a3.runs.l.length:=by omega
 refine iI rfl (λ_=>jo (n:=a4) (r:=a3.runs) (enc:=j7.af) rfl rfl rfl rfl rfl du hx19 rfl) ?_
 generalize hqx20:a3.runs.l[(a4).toNat]=x20
 have hinx20:x20∈a3.runs.l:=by rw [<- hqx20]; exact List.getElem_mem _
 have hgx20:=q4 x20 hinx20; have hnx20:=zl hqx20
 refine am ?_
 have hL21:=x20.iS.lk
 refine jy x20.iS ?_
 refine aG ?_
 have hNk22:=x20.iS.lk
 refine iL x20.iS.l.length (λkp e h=>∃ b23:Bool,(p5 (se (AG a2) a2.p a1.roads.l a3 a4 kp ⟨((k6:Nat):Int),n14⟩) b23)/\At [2,4,6,8,11,12,13,14,32,33,46,47] [.ip (iD.af a2) 0 false,iv a4,.la 6 0,.la 8 0,v12,cb k6,iv n14,.bool b23,cb a0.lines.l.length,cb k6,cb x20.iS.l.length,cb kp] H15 [(6,(jh.af a1)),(8,(iB.af a3))] e h) ?_ (k0:=0) du ⟨false,(by exact Vp),(iO hS16 [(11,0)])⟩
 rintro kp e h hkk22 ⟨b23,hFd,hA⟩
 refine aF ?_
 refine iX (λh24=>?_) (λh24=>?_)
 refine ak ?_
 refine wz [.ip (iD.af a2) 0 false,iv a4,.la 6 0,.la 8 0,v12,cb k6,iv n14,.bool b23,cb a0.lines.l.length,cb k6,cb x20.iS.l.length,cb kp] H15 [(6,(jh.af a1)),(8,(iB.af a3))] ?_ (iO hS16 [(11,0)])
 refine bH ?_
 refine cm ?_
 refine oC (t27 a2 a1.roads a3 a4 ((kp:Int)) dj dj dj) ?_
 rintro _ ⟨r26,⟨hc25,hc25r⟩,rfl⟩
 have hRo:=hc25.2.1; have hRl:=hc25.1; have hRe:=hc25.2.2
 have hL27:=r26.lk
 refine jy r26 ?_
 refine aG ?_
 have hNk28:=r26.lk
 refine iL r26.l.length (λqR e h=>∃ b29:Bool,(p5 (CV (AG a2) a2.p a1.roads.l a3 a4 kp r26.l qR ⟨((k6:Nat):Int),n14⟩) b29)/\At [2,4,6,8,11,12,13,14,32,33,46,47,56,57,58] [.ip (iD.af a2) 0 false,iv a4,.la 6 0,.la 8 0,v12,cb k6,iv n14,.bool b29,cb a0.lines.l.length,cb k6,cb x20.iS.l.length,cb kp,j3 r26,cb r26.l.length,cb qR] H15 [(6,(jh.af a1)),(8,(iB.af a3))] e h) ?_ (k0:=0) du ⟨b23,(by exact R3 hFd),(iO hS16 [(11,0)])⟩
 rintro qR e h hkk28 ⟨b29,hFd2,hA⟩
 refine aF ?_
 refine iX (λh30=>?_) (λh30=>?_)
 refine ak ?_
 refine wz [.ip (iD.af a2) 0 false,iv a4,.la 6 0,.la 8 0,v12,cb k6,iv n14,.bool b29,cb a0.lines.l.length,cb k6,cb x20.iS.l.length,cb kp,j3 r26,cb r26.l.length,cb qR] H15 [(6,(jh.af a1)),(8,(iB.af a3))] ?_ (iO hS16 [(11,0)])
 refine bc ?_
 have hx31:qR<r26.l.length:=by omega
 refine kM qR r26 hx31 ?_
 generalize hqx32:r26.l[qR]=x32
 have hinx32:x32∈r26.l:=by rw [<- hqx32]; exact List.getElem_mem _
 have hgx32:=hRo x32 hinx32; have hgax32:=hgx32.1; have hgbx32:=hgx32.2
 refine bb ?_
 refine ao ?_
 refine iX (λh33=>?_) (λh33=>?_)
 refine a8 ?_
 refine bJ ?_
 refine wz [.ip (iD.af a2) 0 false,iv a4,.la 6 0,.la 8 0,v12,cb k6,iv n14,.bool b29,cb a0.lines.l.length,cb k6,cb x20.iS.l.length,cb kp,j3 r26,cb r26.l.length,cb qR] H15 [(6,(jh.af a1)),(8,(iB.af a3))] ?_ (iO hS16 [(11,0)])
 refine qg ?_
 refine jd ?_
 refine ab ?_
 exact ⟨by omega,b29,ff,(iO hS16 [(11,0)])⟩
 refine aQ ?_
 have hL34:=a1.roads.lk
 refine jy a1.roads ?_
 refine lI (λh35=>?_) (λh35=>?_)
 refine bJ ?_
 refine wz [.ip (iD.af a2) 0 false,iv a4,.la 6 0,.la 8 0,v12,cb k6,iv n14,.bool b29,cb a0.lines.l.length,cb k6,cb x20.iS.l.length,cb kp,j3 r26,cb r26.l.length,cb qR] H15 [(6,(jh.af a1)),(8,(iB.af a3))] ?_ (iO hS16 [(11,0)])
 refine qg ?_
 refine jd ?_
 refine ab ?_
 exact ⟨by omega,b29,ff,(iO hS16 [(11,0)])⟩
 refine aq ?_
 refine wz [.ip (iD.af a2) 0 false,iv a4,.la 6 0,.la 8 0,v12,cb k6,iv n14,.bool b29,iv x32,cb a0.lines.l.length,cb k6,cb x20.iS.l.length,cb kp,j3 r26,cb r26.l.length,cb qR] H15 [(6,(jh.af a1)),(8,(iB.af a3))] ?_ (iO hS16 [(11,0)])
 refine aR ?_
 have hx36:(x32).toNat<a1.roads.l.length:=by omega
 refine iI rfl (λ_=>jo (n:=x32) (r:=a1.roads) (enc:=iG.af) rfl rfl rfl rfl rfl du hx36 rfl) ?_
 generalize hqx37:a1.roads.l[(x32).toNat]=x37
 have hinx37:x37∈a1.roads.l:=by rw [<- hqx37]; exact List.getElem_mem _
 have hsx37:=q5 x37 hinx37; have hnx37:=hsx37.1; have hmx37:=hsx37.2.1; have hox37:=hsx37.2.2.2.2.2.1
 refine oV ?_
 refine oC (t28 a2 x37 dj dj) ?_
 rintro _ ⟨r39,hc38,rfl⟩
 have hTw:=hc38.1; have hTwl:=hc38.2
 have hL40:=r39.lk
 refine jy r39 ?_
 refine aG ?_
 have hNk41:=r39.lk
 refine iL r39.l.length (λp8 e h=>∃ b42:Bool,(p5 (CV (AG a2) a2.p a1.roads.l a3 a4 kp r26.l qR ⟨((k6:Nat):Int),n14⟩\/⟨((k6:Nat):Int),n14⟩∈(r39.l).take p8) b42)/\At [2,4,6,8,11,12,13,14,32,33,46,47,56,57,58,77,78,79] [.ip (iD.af a2) 0 false,iv a4,.la 6 0,.la 8 0,v12,cb k6,iv n14,.bool b42,cb a0.lines.l.length,cb k6,cb x20.iS.l.length,cb kp,j3 r26,cb r26.l.length,cb qR,jf r39,cb r39.l.length,cb p8] H15 [(6,(jh.af a1)),(8,(iB.af a3))] e h) ?_ (k0:=0) du ⟨b29,(by exact Su hFd2),(iO hS16 [(11,0)])⟩
 rintro p8 e h hkk41 ⟨b42,hFd3,hA⟩
 refine aF ?_
 refine iX (λh43=>?_) (λh43=>?_)
 refine ak ?_
 refine wz [.ip (iD.af a2) 0 false,iv a4,.la 6 0,.la 8 0,v12,cb k6,iv n14,.bool b42,cb a0.lines.l.length,cb k6,cb x20.iS.l.length,cb kp,j3 r26,cb r26.l.length,cb qR,jf r39,cb r39.l.length,cb p8] H15 [(6,(jh.af a1)),(8,(iB.af a3))] ?_ (iO hS16 [(11,0)])
 refine bc ?_
 have hx44:p8<r39.l.length:=by omega
 refine kM p8 r39 hx44 ?_
 generalize hqx45:r39.l[p8]=x45
 refine aC ?_
 refine c7 ?_
 refine kY (b:=b42) rfl (λ_=>rfl) (λh46=>?_) (λh46=>?_)
 refine a8 ?_
 refine bb ?_
 refine wz [.ip (iD.af a2) 0 false,iv a4,.la 6 0,.la 8 0,v12,cb k6,iv n14,.bool true,cb a0.lines.l.length,cb k6,cb x20.iS.l.length,cb kp,j3 r26,cb r26.l.length,cb qR,jf r39,cb r39.l.length,cb p8] H15 [(6,(jh.af a1)),(8,(iB.af a3))] ?_ (iO hS16 [(11,0)])
 refine qg ?_
 refine jd ?_
 refine ab ?_
 exact ⟨by omega,true,dx,(iO hS16 [(11,0)])⟩
 refine bU ?_
 refine oJ rfl (λ_=>rG rfl rfl rfl (λ_ _=>rfl)) (λh47=>?_) (λh47=>?_)
 refine bb ?_
 refine wz [.ip (iD.af a2) 0 false,iv a4,.la 6 0,.la 8 0,v12,cb k6,iv n14,.bool true,cb a0.lines.l.length,cb k6,cb x20.iS.l.length,cb kp,j3 r26,cb r26.l.length,cb qR,jf r39,cb r39.l.length,cb p8] H15 [(6,(jh.af a1)),(8,(iB.af a3))] ?_ (iO hS16 [(11,0)])
 refine qg ?_
 refine jd ?_
 refine ab ?_
 exact ⟨by omega,true,dx,(iO hS16 [(11,0)])⟩
 refine bb ?_
 refine wz [.ip (iD.af a2) 0 false,iv a4,.la 6 0,.la 8 0,v12,cb k6,iv n14,iF,cb a0.lines.l.length,cb k6,cb x20.iS.l.length,cb kp,j3 r26,cb r26.l.length,cb qR,jf r39,cb r39.l.length,cb p8] H15 [(6,(jh.af a1)),(8,(iB.af a3))] ?_ (iO hS16 [(11,0)])
 refine qg ?_
 refine jd ?_
 refine ab ?_
 exact ⟨by omega,false,dx,(iO hS16 [(11,0)])⟩
 refine ai ?_
 refine wz [.ip (iD.af a2) 0 false,iv a4,.la 6 0,.la 8 0,v12,cb k6,iv n14,.bool b42,cb a0.lines.l.length,cb k6,cb x20.iS.l.length,cb kp,j3 r26,cb r26.l.length,cb qR] H15 [(6,(jh.af a1)),(8,(iB.af a3))] ?_ (iO hS16 [(11,0)])
 refine qg ?_
 refine jd ?_
 refine ab ?_
 exact ⟨by omega,b42,ff,(iO hS16 [(11,0)])⟩
 refine ai ?_
 refine wz [.ip (iD.af a2) 0 false,iv a4,.la 6 0,.la 8 0,v12,cb k6,iv n14,.bool b29,cb a0.lines.l.length,cb k6,cb x20.iS.l.length,cb kp] H15 [(6,(jh.af a1)),(8,(iB.af a3))] ?_ (iO hS16 [(11,0)])
 refine qg ?_
 refine jd ?_
 refine ab ?_
 exact ⟨by omega,b29,(by exact Hb hFd2 du hRe),(iO hS16 [(11,0)])⟩
 refine ai ?_
 refine wz [.ip (iD.af a2) 0 false,iv a4,.la 6 0,.la 8 0,v12,cb k6,iv n14,.bool b23,cb a0.lines.l.length,cb k6] H15 [(6,(jh.af a1)),(8,(iB.af a3))] ?_ (iO hS16 [(11,0)])
 refine aa ?_
 refine kY (b:=b23) rfl (λ_=>rfl) (λh48=>?_) (λh48=>?_)
 refine au ?_
 refine qg ?_
 refine bU ?_
 refine jt rfl (kq (i:=0) [(⟨((k6:Int)),n14⟩:iu)] hS16 rfl rfl rfl rfl rfl rfl rfl rfl rfl (λ_=>rfl) (.inl rfl) dy (λ_=>rfl)) ?_
 rintro v49 H50 hS51
 refine ab ?_
 refine wz [.ip (iD.af a2) 0 false,iv a4,.la 6 0,.la 8 0,v49,cb k6,iv n14,cb a0.lines.l.length,cb k6] H50 [(6,(jh.af a1)),(8,(iB.af a3))] ?_ (iO hS51 [(11,0)])
 refine aI ?_
 refine jd ?_
 refine ab ?_
 refine ⟨_,?_,v49,((l13++[(⟨((k6:Int)),n14⟩:iu)])),(n14+1),H50,rfl,du,eE,dq,hS51,(iO hS51 [(11,0)])⟩
 omega
 refine aB ?_
 refine wz [.ip (iD.af a2) 0 false,iv a4,.la 6 0,.la 8 0,v12,cb k6,iv n14,cb a0.lines.l.length,cb k6] H15 [(6,(jh.af a1)),(8,(iB.af a3))] ?_ (iO hS16 [(11,0)])
 refine aI ?_
 refine jd ?_
 refine ab ?_
 refine ⟨_,?_,v12,l13,(n14+1),H15,rfl,du,eE,dq,hS16,(iO hS16 [(11,0)])⟩
 omega
 refine aD ?_
 refine wz [.ip (iD.af a2) 0 false,iv a4,.la 6 0,.la 8 0,v12,cb a0.lines.l.length,cb k6] H15 [(6,(jh.af a1)),(8,(iB.af a3))] ?_ (iO hS16 [(11,0)])
 refine qg ?_
 refine jd ?_
 refine ab ?_
 exact gb
 refine ai ?_
 refine wz [v7] H9 [] ?_ (iO hS10 [(11,0)])
 refine aO ?_
 obtain ⟨r52,hl53,hf54⟩:=lA (H:=H9) (i:=0) (l:=l8) (enc:=iu.af) hS10 rfl dn
 have hlq:=hl53; have hln56:=congrArg List.length hl53
 have hz55:∀ m,freeze false { H9 with iq:=[] } (m+2) v7=some (jf r52):=λm=>hf54 _ _ (λ_=>rfl)
 exact ⟨v7,(kr (vs:=[v7]) rfl (iN (Sep.arg (i:=0) hS10 rfl) jD)),jf r52,(show freeze false { H9 with iq:=[] } 8 v7=some (jf r52) by simp only [FZ,hz55]),r52,d6,rfl⟩
def P5 (v:AV):Prop:=∃ r0:Bool,(r0=true)/\v=.bool r0
def t5 (h:aT):∃ v,iZ cfg FT jx false 5 [] h v h/\P5 v:=by
 refine ⟨.bool true,⟨1,λk hk=>?_⟩,true,rfl,rfl⟩
 obtain ⟨k,rfl⟩:∃ k',k=k'+1:=⟨k - 1,by omega⟩
 rfl
def P3 (_a0:bY) (_a1:iB) (_a2:Int) (v:AV):Prop:=∃ r0:Bool,(r0=true)/\v=.bool r0
def t3 (a0:bY) (a1:iB) (a2:Int) (qc:a0.canon=a0) (hJg:JG a0):Ct 3 [.agg (bY.af a0),.agg (iB.af a1),iv a2] (P3 a0 a1 a2):=by
 refine iY UE ?_
 refine bz ?_
 refine cC ?_
 refine oC (t5) ?_
 rintro _ ⟨r2,hc1,rfl⟩
 cases r2
 refine ac ?_
 exact gM
 refine aq ?_
 refine ae ?_
 refine oC (t6 a0 a1 dj) ?_
 rintro _ (⟨r4,r5,hc3,rfl⟩ | ⟨r6,r7,hc3,rfl⟩)
 have hO:=hc3
 obtain ⟨hNn,hFw,hDf,hSt,hSn,h64,⟨hPl0,nx,hnk,hnx⟩,hBd,hDv,hCv⟩:=hc3
 have hnp:r5.p=a0:=hNn.qj.trans qc
 have hq1:=hNn.Ht
 have hq3:=hNn.self
 have hq4:∀ r∈a1.runs.l,r.iS.l.length<=12:=λr hr=>(hDf.2 r hr).1
 have hGd:∀ r∈r4.roads.l,lV r5.p r:=λr hr=>hnp.symm▸(hSn r hr).2.2.2
 have hq5:∀ r∈r4.roads.l,r.steps.l.length<=12/\r.jK.l.length<=12/\lV r5.p r:=λr hr=>⟨(hSn r hr).2.1,(hSn r hr).2.2.1,hGd r hr⟩
 have hq6:=Vf hNn
 have hq7:a0.elems.l.length<=60:=hFw.elems
 have hq8:a0.lines.l.length<=60:=by have:=hFw.lines; omega
 refine am ?_
 refine ct ?_
 refine aq ?_
 refine cU ?_
 refine rC (t7 r5 r4.roads a1 a2 dj dj dj dj dj) ?_
 rintro _ ⟨r9,hc8,rfl⟩
 obtain ⟨lW,loW,hSW,hCW,hmW⟩:=hc8
 refine br ?_
 refine rC (t8 a0 r4 r5 a1 a2 dj dj dj dj dj dj) ?_
 rintro _ ⟨r11,hc10,rfl⟩
 have hWe:=hc10
 have hab:=hc10.eq hCW hSW hmW (hnp▸Ui hGd)
 have habl:=congrArg List.length hab
 refine rV ?_
 refine aM ?_
 refine cU ?_
 refine rC (t9 r5 r4.roads a1 a2 dj dj dj dj dj dj) ?_
 rintro _ ⟨r13,hc12,rfl⟩
 obtain ⟨lL,loL,hSL,hCL,hmL⟩:=hc12
 refine br ?_
 refine rC (t10 a0 r4 r5 a1 a2 dj dj dj dj dj dj dj) ?_
 rintro _ ⟨r15,hc14,rfl⟩
 have hLe:=hc14
 have hxy:=hc14.eq hCL hSL hmL (Um hNn hGd)
 have hxyl:=congrArg List.length hxy
 refine rV ?_
 refine aM ?_
 refine ao ?_
 have hL16:=r9.lk
 refine jy r9 ?_
 refine oV ?_
 have hL17:=r11.lk
 refine jy r11 ?_
 refine lg (λh18=>?_) (λh18=>?_)
 refine a8 ?_
 refine ac ?_
 exact gM
 refine am ?_
 have hL19:=r13.lk
 refine jy r13 ?_
 refine oV ?_
 have hL20:=r15.lk
 refine jy r15 ?_
 refine lg (λh21=>?_) (λh21=>?_)
 refine ac ?_
 exact gM
 refine aq ?_
 refine ao ?_
 have hL22:=r9.lk
 refine jy r9 ?_
 refine aG ?_
 have hNk23:=r9.lk
 refine iL r9.l.length (λyL e h=>At [10,11,12,13,64,65] [jf r9,jf r11,jf r13,jf r15,cb r9.l.length,cb yL] aT.empty [] e h) ?_ (k0:=0) du atR
 rintro yL e h hkk23 hA
 refine aF ?_
 refine iX (λh24=>?_) (λh24=>?_)
 refine ak ?_
 refine bH ?_
 refine bG ?_
 have hx25:yL<r9.l.length:=by omega
 refine pM yL r9 hx25 ?_
 generalize hqx26:r9.l[yL]=x26
 refine bw ?_
 have hx27:yL<r11.l.length:=by omega
 refine pM yL r11 hx27 ?_
 generalize hqx28:r11.l[yL]=x28
 refine rV ?_
 refine mC rfl rfl (λ_=>wY rfl rfl rfl (λ_ _=>rfl)) (λh29=>?_) (λh29=>?_)
 refine bL ?_
 refine aA ?_
 exact gM
 refine bO ?_
 refine qg ?_
 refine jd ?_
 refine ab ?_
 exact gf
 refine ai ?_
 refine ao ?_
 have hL30:=r13.lk
 refine jy r13 ?_
 refine aG ?_
 have hNk31:=r13.lk
 refine iL r13.l.length (λmE e h=>At [12,13,79,80] [jf r13,jf r15,cb r13.l.length,cb mE] aT.empty [] e h) ?_ (k0:=0) du atR
 rintro mE e h hkk31 hA
 refine aF ?_
 refine iX (λh32=>?_) (λh32=>?_)
 refine ak ?_
 refine bH ?_
 refine bG ?_
 have hx33:mE<r13.l.length:=by omega
 refine pM mE r13 hx33 ?_
 generalize hqx34:r13.l[mE]=x34
 refine bw ?_
 have hx35:mE<r15.l.length:=by omega
 refine pM mE r15 hx35 ?_
 generalize hqx36:r15.l[mE]=x36
 refine rV ?_
 refine mC rfl rfl (λ_=>wY rfl rfl rfl (λ_ _=>rfl)) (λh37=>?_) (λh37=>?_)
 refine bL ?_
 refine aA ?_
 exact gM
 refine bO ?_
 refine qg ?_
 refine jd ?_
 refine ab ?_
 exact gf
 refine cQ ?_
 exact xB ⟨true,dQ,rfl⟩
 refine am ?_
 refine ct ?_
 refine ac ?_
 exact xB ⟨true,dQ,rfl⟩
def adV (_a0:Row Int) (v:AV):Prop:=∃ r0:Int,(r0=rb _a0.l)/\v=iv r0
def afa (a0:Row Int) :Ed 24 [j3 a0] (adV a0):=by
 refine uk Mo ?_
 refine ah ?_
 refine bo ?_
 have hL1:=a0.lk
 refine jy a0 ?_
 refine aG ?_
 have hNk2:=a0.lk
 refine iL a0.l.length (λk2 e h=>(rb a0.l=rb (a0.l.drop k2))/\At [3,6,7,8] [iv 0,j3 a0,cb a0.l.length,cb k2] aT.empty [] e h) ?_ (k0:=0) du ⟨fW,atR⟩
 rintro k2 e h hkk2 ⟨hOr,hA⟩
 refine aF ?_
 refine iX (λh3=>?_) (λh3=>?_)
 refine ak ?_
 refine bc ?_
 have hx4:k2<a0.l.length:=by omega
 refine kM k2 a0 hx4 ?_
 generalize hqx5:a0.l[k2]=x5
 refine bb ?_
 refine ae ?_
 refine lg (λh6=>?_) (λh6=>?_)
 refine ci ?_
 exact xB ⟨x5,fS,rfl⟩
 refine cq ?_
 refine jd ?_
 refine ab ?_
 exact ⟨by omega,(by exact Tl hOr dl du),atR⟩
 refine ai ?_
 refine aO ?_
 exact xB ⟨0,fS,rfl⟩
def agm (_a0:Int) (v:AV):Prop:=∃ r0:Bool,(r0=false)/\v=.bool r0
def Od (a0:Int) :Ed 59 [iv a0] (agm a0):=by
 refine uk NB ?_
 refine cP ?_
 refine lg (λh1=>?_) (λh1=>?_)
 refine ag ?_
 exact xB ⟨true,(by first | rfl | (exfalso; omega)),rfl⟩
 refine ag ?_
 exact xB ⟨false,(by first | rfl | (exfalso; omega)),rfl⟩
def ag0 (_a0:Int) (_a1:Int) (v:AV):Prop:=∃ r0:Int,(r0=cI _a0 _a1)/\v=iv r0
def Iv (a0:Int) (a1:Int) :Ed 25 [iv a0,iv a1] (ag0 a0 a1):=by
 refine uk Oa ?_
 refine ah ?_
 refine aj ?_
 refine oC (Od a0) ?_
 rintro _ ⟨r2,hc1,rfl⟩
 have hNn:=hc1
 cases r2
 refine ab ?_
 refine aj ?_
 refine oC (Od a1) ?_
 rintro _ ⟨r4,hc3,rfl⟩
 have hNn:=hc3
 cases r4
 refine ab ?_
 refine cC ?_
 refine aq ?_
 refine cC ?_
 refine aq ?_
 refine aH ?_
 refine iX (λh5=>?_) (λh5=>?_)
 refine be ?_
 exact xB ⟨(-1),ef,rfl⟩
 refine aB ?_
 refine aH ?_
 refine ki (λh6=>?_) (λh6=>?_)
 refine be ?_
 exact xB ⟨1,ef,rfl⟩
 refine aB ?_
 refine aA ?_
 exact xB ⟨0,ef,rfl⟩
 refine ab ?_
 refine cC ?_
 refine aq ?_
 refine cC ?_
 refine ac ?_
 exact xB ⟨1,ef,rfl⟩
 refine ab ?_
 refine aj ?_
 refine oC (Od a1) ?_
 rintro _ ⟨r8,hc7,rfl⟩
 have hNn:=hc7
 cases r8
 refine ab ?_
 refine cC ?_
 refine aE ?_
 refine cC ?_
 refine aq ?_
 refine aA ?_
 exact xB ⟨(-1),ef,rfl⟩
 refine ab ?_
 refine cC ?_
 refine aE ?_
 refine cC ?_
 refine ac ?_
 exact xB ⟨0,ef,rfl⟩
def adS (_a0:iu) (_a1:iu) (v:AV):Prop:=∃ r0:Int,(r0=ni (pv _a0) (pv _a1))/\v=iv r0
def afP (a0:iu) (a1:iu) :Ed 23 [.agg (iu.af a0),.agg (iu.af a1)] (adS a0 a1):=by
 refine uk MH ?_
 refine bz ?_
 refine aL ?_
 refine cu ?_
 refine rC (Iv a0.elem a1.elem) ?_
 rintro _ ⟨r2,hc1,rfl⟩
 have hCc:=hc1
 refine cu ?_
 refine rC (Iv a0.pos a1.pos) ?_
 rintro _ ⟨r4,hc3,rfl⟩
 have hCc:=hc3
 refine cY ?_
 rintro _ ⟨r6,hc5,rfl⟩
 have hCo:=hc5
 refine bP ?_
 exact xB ⟨r6,(by exact KI dl dl hCo),rfl⟩
def afo (_a0:iu) (_a1:iu) (v:AV):Prop:=∃ r0:Int,(r0=ni (pv _a0) (pv _a1))/\v=iv r0
def aga (a0:iu) (a1:iu) :Ed 30 [.agg (iu.af a0),.agg (iu.af a1)] (afo a0 a1):=by
 refine uk Nk ?_
 refine bz ?_
 refine aL ?_
 refine cu ?_
 refine rC (Iv a0.elem a1.elem) ?_
 rintro _ ⟨r2,hc1,rfl⟩
 have hCc:=hc1
 refine cu ?_
 refine rC (Iv a0.pos a1.pos) ?_
 rintro _ ⟨r4,hc3,rfl⟩
 have hCc:=hc3
 refine cY ?_
 rintro _ ⟨r6,hc5,rfl⟩
 have hCo:=hc5
 refine bP ?_
 exact xB ⟨r6,(by exact KI dl dl hCo),rfl⟩
def agN (_a0:iu) (_a1:iu) (v:AV):Prop:=∃ r0:Int,(r0=IntKind.i64.wrap (_a0.elem - _a1.elem))/\v=iv r0
def ahc (a0:iu) (a1:iu) :Ed 69 [.agg (iu.af a0),.agg (iu.af a1)] (agN a0 a1):=by
 refine uk Oc ?_
 refine bz ?_
 refine aR ?_
 refine iI rfl (λ_=>kj rfl rfl rfl (pb .i64 a0.elem a1.elem)) ?_
 refine ag ?_
 exact xB ⟨(IntKind.i64.wrap (a0.elem - a1.elem)),fW,rfl⟩
end Go.Sx
