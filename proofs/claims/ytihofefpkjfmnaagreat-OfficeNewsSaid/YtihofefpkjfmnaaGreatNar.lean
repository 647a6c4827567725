/- Proves what some functions of the program answer, by walking through them. -/
import Derived.Test.YtihofefpkjfmnaaGreatNal
import Derived.Test.YtihofefpkjfmnaaGreatNao
import Derived.Test.YtihofefpkjfmnaaGreatNap
import Derived.Test.YtihofefpkjfmnaaGreatNaq
set_option linter.all false
set_option maxRecDepth 100000
set_option maxHeartbeats 0
namespace Go.Sx
open Go Go.Proofs
def P3 (_a0:bY) (_a1:dO) (v:AV):Prop:=∃ r0:Bool,(r0=true)/\v=.bool r0
def t3 (a0:bY) (a1:dO) (qc:a0.canon=a0) (hJg:JG a0):Ct 3 [.agg (bY.af a0),.agg (dO.af a1)] (P3 a0 a1):=by
 refine kA TC ?_
 refine cy ?_
 refine bp ?_
 refine oC (t5) ?_
 rintro _ ⟨r2,hc1,rfl⟩
 cases r2
 refine aq ?_
 exact jD
 refine oV ?_
 refine dG ?_
 refine oC (t6 a0 a1 dS) ?_
 rintro _ (⟨r4,r5,hc3,rfl⟩ | ⟨r6,r7,hc3,rfl⟩)
 obtain ⟨hNn,hFw,hDf,hSt,hSn,h64,⟨hPl0,nx,hnk,hnx⟩,hBd,hDv,hCv⟩:=hc3
 have hPc:r4.kH=a0:=hPl0.trans qc
 have hp1:mU r4.kH:=by rw [hPc]; exact hFw
 have hp2:∃ nx:kb,qo nx r4.kH/\rs 31 [.agg (bY.af r4.kH)]=.kO [.ip (kb.af nx) 0 false,iv 0]:=by rw [hPc]; exact ⟨nx,hnk,hnx⟩
 have hp3:uG r4.kH a1:=by rw [hPc]; exact hDv
 have hp4:r4.kH.canon=r4.kH:=by rw [hPc]; exact qc
 have hx1:∀ r∈r4.roads.l,0<r.steps.l.length:=λr hr=>(hSn r hr).1
 have hx2:=LC hnk.x.kd
 have hx3:a0.elems.l.length<=40:=by have:=hnk.Zl; rwa [hnk.elems] at this
 have hx4:=hnk.x.ln
 have hx5:∀ r∈a1.runs.l,0<=r.ko/\r.ko<(a1.ko.l.length:Int):=λr hr=>(hDf.2 r hr).2
 have hx6:∀ r∈a1.runs.l,r.kr.l.length<=12:=λr hr=>(hDf.2 r hr).1
 have hx7:=hDf.1
 refine aD ?_
 refine dg ?_
 refine aR ?_
 refine dG ?_
 refine lB (H:=bV.empty) (args:=[.agg (kV.af r4),.agg (dO.af a1)]) (p:=[]) (r:=[]) rfl rfl rfl rfl rfl rfl rfl (u7 r4 a1 ([]) lJ fo fo fo fo fo fo fo fo) ?_
 rintro _ H9 (⟨e11,hc10,hS12,rfl⟩ | ⟨b13,nt14,cc15,dd16,vl17,lg18,rd19,hc10,hS20,rfl⟩)
 have hNe:=hc10.1; have hNw:=hc10.2
 rw [hPc] at hNw
 refine dg ?_
 refine bJ ?_
 refine oC (t8 a0 r4.roads a1 dS dS dS dS dS) ?_
 rintro _ ⟨r22,hc21,rfl⟩
 have hCh:=hc21
 refine ab ?_
 refine bZ ?_
 have hL23:=a1.runs.lk
 refine xQ a1.runs ?_
 refine mP rfl rfl (tW (m:=a1.runs.l.length) hS12 rfl rfl rfl rfl rfl dX dW) ?_
 rintro v24 H25 hS26
 have hS28:=Sep.CP (enc:=kX) (z:=(0)) hS26 rfl
 refine aK ?_
 have hL29:=a1.runs.lk
 refine xQ a1.runs ?_
 refine mP rfl rfl (tW (m:=a1.runs.l.length) hS28 rfl rfl rfl rfl rfl dX dW) ?_
 rintro v30 H31 hS32
 have hS34:=Sep.CP (enc:=kX) (z:=(0)) hS32 rfl
 refine rV ?_
 refine aP ?_
 refine am ?_
 refine iS rfl (λ_=>nO (i:=0) hS34 rfl rfl rfl rfl rfl rfl rfl) ?_
 refine aC ?_
 refine ke ((List.replicate a1.runs.l.length ((0):Int)).length) (λk35 e h=>∃ v36:AV,∃ l37:List Int,∃ H38:bV,(l37.length=a1.runs.l.length)/\(∀ (i:Nat) (h:i<l37.length),i<k35->l37[i] = -1)/\Sep H38 (om v36 l37::om v24 (List.replicate a1.runs.l.length ((0):Int))::[])/\At [2,3,5,8,9,10,11,12,46,47] [.la 2 0,.la 3 0,.la 5 0,.l3,iv e11,iv r22,v24,v36,iv ((List.replicate a1.runs.l.length ((0):Int)).length:Int),ck k35] H38 [(2,(bY.af a0)),(3,(dO.af a1)),(5,(kV.af r4))] e h) ?_ (k0:=0) d4 ⟨v30,((List.replicate a1.runs.l.length ((0):Int))),H31,fQ,eX,hS34,(kF hS34 [(11,1),(12,0)])⟩
 rintro k35 e h hkk35 ⟨v36,l37,H38,hM0,hM1,hS39,hA⟩
 refine rR hA ?_
 have hrl:(List.replicate a1.runs.l.length (0:Int)).length=a1.runs.l.length:=List.length_replicate
 refine aa ?_
 refine kE (λh40=>?_) (λh40=>?_)
 refine ai ?_
 refine wz [.la 2 0,.la 3 0,.la 5 0,.l3,iv e11,iv r22,v24,v36,iv ((List.replicate a1.runs.l.length ((0):Int)).length:Int),ck k35] H38 [(2,(bY.af a0)),(3,(dO.af a1)),(5,(kV.af r4))] ?_ (kF hS39 [(11,1),(12,0)])
 refine aw ?_
 refine aV ?_
 refine ci ?_
 have hx41:k35<l37.length:=by first | omega | (simp<;>omega) | (simp_all; omega)
 obtain ⟨x42,hqx42⟩:∃ x,l37[k35]=x:=⟨_,rfl⟩
 refine nM rfl (mS (i:=0) (m:=k35) (cs:=kX x42) hS39 rfl rfl rfl rfl rfl rfl rfl (mq hx41 hqx42)) ?_
 rintro a43 ⟨ha44,hea45⟩
 have hz48:(l37.set k35 (-1)).length=l37.length:=List.length_set
 refine kM rfl (oY (i:=0) (m:=k35) (o:=0) x42 (-1) hS39 rfl hx41 hqx42 hea45 rfl ha44 rfl rfl rfl rfl) ?_
 rintro _ H46 ⟨rfl,hS47⟩
 refine oN ?_
 refine wz [.la 2 0,.la 3 0,.la 5 0,.l3,iv e11,iv r22,v24,v36,iv ((List.replicate a1.runs.l.length ((0):Int)).length:Int),ck k35] H46 [(2,(bY.af a0)),(3,(dO.af a1)),(5,(kV.af r4))] ?_ (kF hS47 [(11,1),(12,0)])
 refine qg ?_
 refine kI ?_
 refine ab ?_
 exact ⟨by omega,v36,((l37.set k35 (-1))),H46,gN,(by exact FH hM1 rfl),hS47,(kF hS47 [(11,1),(12,0)])⟩
 refine ah ?_
 refine wz [.la 2 0,.la 3 0,.la 5 0,.l3,iv e11,iv r22,v24,v36] H38 [(2,(bY.af a0)),(3,(dO.af a1)),(5,(kV.af r4))] ?_ (kF hS39 [(11,1),(12,0)])
 refine db ?_
 refine nd hS39 1 λr49 hl50 hln53 hz52=>?_
 refine nd hS39 0 λr54 hl55 hln58 hz57=>?_
 have hs5:r49.l.length=a1.runs.l.length:=by rw [hl50,List.length_replicate]
 have hs6:r54.l.length=a1.runs.l.length:=by rw [hl55]; exact hM0
 have hs7:∀ x∈r49.l,x=0:=by rw [hl50]; exact λx hx=>(List.mem_replicate.mp hx).2
 have hs8:∀ x∈r54.l,x = -1:=by rw [hl55]; refine m6 hM1 ?_; simp only [List.length_replicate] at *; omega
 refine ns (args:=[.agg (bY.af a0),.agg (kV.af r4),.agg (dO.af a1),v24,v36]) (p:=[]) (r:=[]) (args':=[.agg (bY.af a0),.agg (kV.af r4),.agg (dO.af a1),lG r49,lG r54]) (R:=P9 a0 r4 a1 r49 r54) rfl rfl rfl rfl rfl (j8 rfl (j8 rfl (j8 rfl (j8 (Sep.arg (i:=1) hS39 rfl) (j8 (Sep.arg (i:=0) hS39 rfl) kK))))) rfl fh (lj (by show kP (freeze true { H38 with cT:=[] } 8) [.agg (bY.af a0),.agg (kV.af r4),.agg (dO.af a1),v24,v36] = _; simp only [FZ,hz52,hz57]) (j8 rfl (j8 rfl (j8 rfl (j8 (Sep.ot (i:=1) hS39 rfl) (j8 (Sep.ot (i:=0) hS39 rfl) kK)))))) (lj e9 (j8 rfl (j8 rfl (j8 rfl (j8 rfl (j8 rfl kK)))))) (λh=>t9 a0 r4 a1 r49 r54 dS dS dS dS dS dS dS dS dS dS dS dS h) ?_
 rintro _ ⟨r60,hc59,rfl⟩
 have hLcl:=hc59
 have hLc:=hc59; have hLa:=hc59.NW hx3; have hLl:=hc59.1
 refine ak ?_
 refine kZ (λh61=>?_) (λh61=>?_)
 refine ao ?_
 refine oC (t10 r60 dS) ?_
 rintro _ ⟨r63,hc62,rfl⟩
 have hSafeR:=hc62
 have hSf:=hc62
 cases r63
 refine oV ?_
 refine ba ?_
 refine qg ?_
 refine ab ?_
 refine wz [.la 3 0,.l3,iv e11,iv 19,v24,v36,ma r60] H38 [(3,(dO.af a1))] ?_ (kF hS39 [(11,1),(12,0)])
 refine aR ?_
 refine mg (λh64=>?_) (λh64=>?_)
 refine aZ ?_
 exact jD
 refine au ?_
 refine wz [.la 3 0,.l3,iv 19,v24,v36,ma r60] H38 [(3,(dO.af a1))] ?_ (kF hS39 [(11,1),(12,0)])
 refine bp ?_
 refine dy ?_
 exact jE
 refine cf ?_
 refine wz [.la 3 0,.l3,iv e11,iv r22,v24,v36,ma r60] H38 [(3,(dO.af a1))] ?_ (kF hS39 [(11,1),(12,0)])
 refine aR ?_
 refine mg (λh65=>?_) (λh65=>?_)
 refine aZ ?_
 exact jD
 refine au ?_
 refine wz [.la 3 0,.l3,iv r22,v24,v36,ma r60] H38 [(3,(dO.af a1))] ?_ (kF hS39 [(11,1),(12,0)])
 refine am ?_
 refine mg (λh66=>?_) (λh66=>?_)
 refine aG ?_
 exact jE
 refine au ?_
 refine wz [.la 3 0,.l3,v24,v36,ma r60] H38 [(3,(dO.af a1))] ?_ (kF hS39 [(11,1),(12,0)])
 refine cM ?_
 exfalso; omega
 refine bX ?_
 refine ap ?_
 refine wz [.la 3 0,.l3,iv e11,iv r22,v24,v36,ma r60] H38 [(3,(dO.af a1))] ?_ (kF hS39 [(11,1),(12,0)])
 refine aR ?_
 refine mg (λh67=>?_) (λh67=>?_)
 refine aZ ?_
 exact jD
 refine au ?_
 refine wz [.la 3 0,.l3,iv r22,v24,v36,ma r60] H38 [(3,(dO.af a1))] ?_ (kF hS39 [(11,1),(12,0)])
 refine am ?_
 refine mg (λh68=>?_) (λh68=>?_)
 refine aG ?_
 exact jE
 refine au ?_
 refine wz [.la 3 0,.l3,v24,v36,ma r60] H38 [(3,(dO.af a1))] ?_ (kF hS39 [(11,1),(12,0)])
 refine cM ?_
 exfalso; omega
 obtain ⟨hN1,hN2,hN3,hN4,hN5,hN6,hN7,hN8,hN9,hNa,hNck,hNs2,hNp2,hNcr,hNdr,hNds,hNos,hNw⟩:=hc10
 rw [hPc] at hNw hNp2
 refine dg ?_
 refine bJ ?_
 refine oC (t8 a0 r4.roads a1 dS dS dS dS dS) ?_
 rintro _ ⟨r70,hc69,rfl⟩
 have hCh:=hc69
 refine ab ?_
 refine bZ ?_
 have hL71:=a1.runs.lk
 refine xQ a1.runs ?_
 refine mP rfl rfl (tW (m:=a1.runs.l.length) hS20 rfl rfl rfl rfl rfl dX dW) ?_
 rintro v72 H73 hS74
 have hS76:=Sep.CP (enc:=kX) (z:=(0)) hS74 rfl
 refine aK ?_
 have hL77:=a1.runs.lk
 refine xQ a1.runs ?_
 refine mP rfl rfl (tW (m:=a1.runs.l.length) hS76 rfl rfl rfl rfl rfl dX dW) ?_
 rintro v78 H79 hS80
 have hS82:=Sep.CP (enc:=kX) (z:=(0)) hS80 rfl
 refine rV ?_
 refine aP ?_
 refine am ?_
 refine iS rfl (λ_=>nO (i:=0) hS82 rfl rfl rfl rfl rfl rfl rfl) ?_
 refine aC ?_
 refine ke ((List.replicate a1.runs.l.length ((0):Int)).length) (λk83 e h=>∃ v84:AV,∃ l85:List Int,∃ H86:bV,(l85.length=a1.runs.l.length)/\(∀ (i:Nat) (h:i<l85.length),i<k83->l85[i] = -1)/\Sep H86 (om v84 l85::om v72 (List.replicate a1.runs.l.length ((0):Int))::lE b13 (pk nt14 cc15 dd16 vl17 (kU rd19) iN iN)::om vl17 lg18::[])/\At [2,3,5,8,9,10,11,12,46,47] [.la 2 0,.la 3 0,.la 5 0,(ki b13),iv 0,iv r70,v72,v84,iv ((List.replicate a1.runs.l.length ((0):Int)).length:Int),ck k83] H86 [(2,(bY.af a0)),(3,(dO.af a1)),(5,(kV.af r4))] e h) ?_ (k0:=0) d4 ⟨v78,((List.replicate a1.runs.l.length ((0):Int))),H79,fQ,eX,hS82,(kF hS82 [(11,1),(12,0)])⟩
 rintro k83 e h hkk83 ⟨v84,l85,H86,hM0,hM1,hS87,hA⟩
 refine rR hA ?_
 have hrl:(List.replicate a1.runs.l.length (0:Int)).length=a1.runs.l.length:=List.length_replicate
 refine aa ?_
 refine kE (λh88=>?_) (λh88=>?_)
 refine ai ?_
 refine wz [.la 2 0,.la 3 0,.la 5 0,(ki b13),iv 0,iv r70,v72,v84,iv ((List.replicate a1.runs.l.length ((0):Int)).length:Int),ck k83] H86 [(2,(bY.af a0)),(3,(dO.af a1)),(5,(kV.af r4))] ?_ (kF hS87 [(11,1),(12,0)])
 refine aw ?_
 refine aV ?_
 refine ci ?_
 have hx89:k83<l85.length:=by first | omega | (simp<;>omega) | (simp_all; omega)
 obtain ⟨x90,hqx90⟩:∃ x,l85[k83]=x:=⟨_,rfl⟩
 refine nM rfl (mS (i:=0) (m:=k83) (cs:=kX x90) hS87 rfl rfl rfl rfl rfl rfl rfl (mq hx89 hqx90)) ?_
 rintro a91 ⟨ha92,hea93⟩
 have hz96:(l85.set k83 (-1)).length=l85.length:=List.length_set
 refine kM rfl (oY (i:=0) (m:=k83) (o:=0) x90 (-1) hS87 rfl hx89 hqx90 hea93 rfl ha92 rfl rfl rfl rfl) ?_
 rintro _ H94 ⟨rfl,hS95⟩
 refine oN ?_
 refine wz [.la 2 0,.la 3 0,.la 5 0,(ki b13),iv 0,iv r70,v72,v84,iv ((List.replicate a1.runs.l.length ((0):Int)).length:Int),ck k83] H94 [(2,(bY.af a0)),(3,(dO.af a1)),(5,(kV.af r4))] ?_ (kF hS95 [(11,1),(12,0)])
 refine qg ?_
 refine kI ?_
 refine ab ?_
 exact ⟨by omega,v84,((l85.set k83 (-1))),H94,gN,(by exact FH hM1 rfl),hS95,(kF hS95 [(11,1),(12,0)])⟩
 refine ah ?_
 refine wz [.la 2 0,.la 3 0,.la 5 0,(ki b13),iv 0,iv r70,v72,v84] H86 [(2,(bY.af a0)),(3,(dO.af a1)),(5,(kV.af r4))] ?_ (kF hS87 [(11,1),(12,0)])
 refine db ?_
 refine nd hS87 1 λr97 hl98 hln101 hz100=>?_
 refine nd hS87 0 λr102 hl103 hln106 hz105=>?_
 have hs5:r97.l.length=a1.runs.l.length:=by rw [hl98,List.length_replicate]
 have hs6:r102.l.length=a1.runs.l.length:=by rw [hl103]; exact hM0
 have hs7:∀ x∈r97.l,x=0:=by rw [hl98]; exact λx hx=>(List.mem_replicate.mp hx).2
 have hs8:∀ x∈r102.l,x = -1:=by rw [hl103]; refine m6 hM1 ?_; simp only [List.length_replicate] at *; omega
 refine ns (args:=[.agg (bY.af a0),.agg (kV.af r4),.agg (dO.af a1),v72,v84]) (p:=[]) (r:=[]) (args':=[.agg (bY.af a0),.agg (kV.af r4),.agg (dO.af a1),lG r97,lG r102]) (R:=P9 a0 r4 a1 r97 r102) rfl rfl rfl rfl rfl (j8 rfl (j8 rfl (j8 rfl (j8 (Sep.arg (i:=1) hS87 rfl) (j8 (Sep.arg (i:=0) hS87 rfl) kK))))) rfl fh (lj (by show kP (freeze true { H86 with cT:=[] } 8) [.agg (bY.af a0),.agg (kV.af r4),.agg (dO.af a1),v72,v84] = _; simp only [FZ,hz100,hz105]) (j8 rfl (j8 rfl (j8 rfl (j8 (Sep.ot (i:=1) hS87 rfl) (j8 (Sep.ot (i:=0) hS87 rfl) kK)))))) (lj e9 (j8 rfl (j8 rfl (j8 rfl (j8 rfl (j8 rfl kK)))))) (λh=>t9 a0 r4 a1 r97 r102 dS dS dS dS dS dS dS dS dS dS dS dS h) ?_
 rintro _ ⟨r108,hc107,rfl⟩
 have hLcl:=hc107
 have hLc:=hc107; have hLa:=hc107.NW hx3; have hLl:=hc107.1
 refine ak ?_
 refine kZ (λh109=>?_) (λh109=>?_)
 refine ao ?_
 refine oC (t10 r108 dS) ?_
 rintro _ ⟨r111,hc110,rfl⟩
 have hSafeR:=hc110
 have hSf:=hc110
 cases r111
 refine oV ?_
 refine ba ?_
 refine qg ?_
 refine ab ?_
 refine wz [.la 3 0,(ki b13),iv 0,iv 19,v72,v84,ma r108] H86 [(3,(dO.af a1))] ?_ (kF hS87 [(11,1),(12,0)])
 refine am ?_
 refine bw ?_
 exact jD
 refine cf ?_
 refine wz [.la 3 0,(ki b13),iv 0,iv r70,v72,v84,ma r108] H86 [(3,(dO.af a1))] ?_ (kF hS87 [(11,1),(12,0)])
 refine aR ?_
 refine mg (λh112=>?_) (λh112=>?_)
 refine aZ ?_
 exact jD
 refine au ?_
 refine wz [.la 3 0,(ki b13),iv r70,v72,v84,ma r108] H86 [(3,(dO.af a1))] ?_ (kF hS87 [(11,1),(12,0)])
 refine am ?_
 refine mg (λh113=>?_) (λh113=>?_)
 refine aG ?_
 exact jD
 refine au ?_
 refine wz [.la 3 0,(ki b13),v72,v84,ma r108] H86 [(3,(dO.af a1))] ?_ (kF hS87 [(11,1),(12,0)])
 refine cM ?_
 refine nd hS87 3 λr114 hl115 hln118 hz117=>?_
 have hz119:∀ m,freeze true { H86 with cT:=[] } (m+4) (ki b13)=some (.ip (pk nt14 cc15 dd16 (lG r114) (kU rd19) iN iN) 0 true):=λm=>oA (i:=2) hS87 rfl [] _ (by simp only [FZ,hz117]; try rfl)
 refine oj (args:=[(ki b13)]) (p:=[]) (r:=[]) (args':=[.ip (pk nt14 cc15 dd16 (lG r114) (kU rd19) iN iN) 0 true]) (R:=TR nt14 cc15 dd16 r114 (Row.mi rd19) (⟨[],.nil,Nat.zero_le _,λ_=>rfl⟩:ka Int) (⟨[],.nil,Nat.zero_le _,λ_=>rfl⟩:ka Int)) rfl rfl rfl rfl rfl rfl rfl rfl fh (lj (by show kP (freeze true { H86 with cT:=[] } 8) [(ki b13)] = _; simp only [FZ,hz117,hz119]) (j8 rfl kK)) (lj e9 (j8 rfl kK)) (λh=>t12 nt14 cc15 dd16 r114 (Row.mi rd19) (⟨[],.nil,Nat.zero_le _,λ_=>rfl⟩:ka Int) (⟨[],.nil,Nat.zero_le _,λ_=>rfl⟩:ka Int) dS h) ?_
 rintro _ ⟨r121,hc120,rfl⟩
 have hLg:=hc120.trans hl115
 refine rV ?_
 refine nd hS87 1 λr122 hl123 hln126 hz125=>?_
 have hEq:r121.l=r122.l:=by rw [hl123]; first | exact hLg.trans (List.eq_replicate_iff.mpr ⟨hN6,hN8⟩) | exact all_eq hRd (hN5.trans hN6) hN9 hM0 (m6 hM1 gv)
 refine oj (args:=[kU r121,v72]) (p:=[]) (r:=[]) (args':=[kU r121,lG r122]) (R:=LP r121 r122) rfl rfl rfl rfl rfl rfl (j8 rfl (j8 (Sep.arg (i:=1) hS87 rfl) kK)) rfl fh (lj (by show kP (freeze true { H86 with cT:=[] } 8) [kU r121,v72] = _; simp only [FZ,hz125]) (j8 rfl (j8 (Sep.ot (i:=1) hS87 rfl) kK))) (lj e9 (j8 rfl (j8 rfl kK))) (λh=>t11 r121 r122  h) ?_
 rintro _ ⟨r128,hc127,rfl⟩
 have hSm:=hc127
 cases r128
 refine rV ?_
 iterate 4 refine rS ?_
 refine c9 ?_
 refine co ?_
 exact jD
 refine aK ?_
 refine nd hS87 3 λr129 hl130 hln133 hz132=>?_
 have hz134:∀ m,freeze true { H86 with cT:=[] } (m+4) (ki b13)=some (.ip (pk nt14 cc15 dd16 (lG r129) (kU rd19) iN iN) 0 true):=λm=>oA (i:=2) hS87 rfl [] _ (by simp only [FZ,hz132]; try rfl)
 refine oj (args:=[(ki b13)]) (p:=[]) (r:=[]) (args':=[.ip (pk nt14 cc15 dd16 (lG r129) (kU rd19) iN iN) 0 true]) (R:=Uj nt14 cc15 dd16 r129 (Row.mi rd19) (⟨[],.nil,Nat.zero_le _,λ_=>rfl⟩:ka Int) (⟨[],.nil,Nat.zero_le _,λ_=>rfl⟩:ka Int)) rfl rfl rfl rfl rfl rfl rfl rfl fh (lj (by show kP (freeze true { H86 with cT:=[] } 8) [(ki b13)] = _; simp only [FZ,hz132,hz134]) (j8 rfl kK)) (lj e9 (j8 rfl kK)) (λh=>t13 nt14 cc15 dd16 r129 (Row.mi rd19) (⟨[],.nil,Nat.zero_le _,λ_=>rfl⟩:ka Int) (⟨[],.nil,Nat.zero_le _,λ_=>rfl⟩:ka Int) dS h) ?_
 rintro _ ⟨r136,hc135,rfl⟩
 have hRd:=hc135.trans rfl
 refine rV ?_
 refine nd hS87 0 λr137 hl138 hln141 hz140=>?_
 have hEq:r136.l=r137.l:=by rw [hl138]; first | exact hLg.trans (List.eq_replicate_iff.mpr ⟨hN6,hN8⟩) | exact all_eq hRd (hN5.trans hN6) hN9 hM0 (m6 hM1 gv)
 refine oj (args:=[kU r136,v84]) (p:=[]) (r:=[]) (args':=[kU r136,lG r137]) (R:=LP r136 r137) rfl rfl rfl rfl rfl rfl (j8 rfl (j8 (Sep.arg (i:=0) hS87 rfl) kK)) rfl fh (lj (by show kP (freeze true { H86 with cT:=[] } 8) [kU r136,v84] = _; simp only [FZ,hz140]) (j8 rfl (j8 (Sep.ot (i:=0) hS87 rfl) kK))) (lj e9 (j8 rfl (j8 rfl kK))) (λh=>t11 r136 r137  h) ?_
 rintro _ ⟨r143,hc142,rfl⟩
 have hSm:=hc142
 cases r143
 refine c9 ?_
 refine co ?_
 exact jD
 refine bA ?_
 refine nd hS87 3 λr144 hl145 hln148 hz147=>?_
 have hz149:∀ m,freeze true { H86 with cT:=[] } (m+4) (ki b13)=some (.ip (pk nt14 cc15 dd16 (lG r144) (kU rd19) iN iN) 0 true):=λm=>oA (i:=2) hS87 rfl [] _ (by simp only [FZ,hz147]; try rfl)
 have hr6:r144.l.length<=8:=by rw [hl145]; exact hN7
 have hr5:(Row.mi rd19).l.length=r144.l.length:=by rw [hl145]; exact hN5
 have hr7:∀ x∈r144.l,x=0:=by rw [hl145]; exact hN8
 have hr9:r144.l.length=dd16.runs.l.length:=by rw [hl145]; exact hNa.symm
 refine oj (args:=[(ki b13)]) (p:=[]) (r:=[]) (args':=[.ip (pk nt14 cc15 dd16 (lG r144) (kU rd19) iN iN) 0 true]) (R:=Q6 nt14 cc15 dd16 r144 (Row.mi rd19) (⟨[],.nil,Nat.zero_le _,λ_=>rfl⟩:ka Int) (⟨[],.nil,Nat.zero_le _,λ_=>rfl⟩:ka Int)) rfl rfl rfl rfl rfl rfl rfl rfl fh (lj (by show kP (freeze true { H86 with cT:=[] } 8) [(ki b13)] = _; simp only [FZ,hz147,hz149]) (j8 rfl kK)) (lj e9 (j8 rfl kK)) (λh=>t15 nt14 cc15 dd16 r144 (Row.mi rd19) (⟨[],.nil,Nat.zero_le _,λ_=>rfl⟩:ka Int) (⟨[],.nil,Nat.zero_le _,λ_=>rfl⟩:ka Int) dS dS dS dS dS dS dS dS dS dS dS h) ?_
 rintro _ ⟨r151,⟨hc150,hc150r⟩,rfl⟩
 have hCe:=hc150.2
 rw [hNp2,hl145,hN6] at hCe
 have hCe2:=hCe.MV hNdr hNds hNcr
 refine rV ?_
 refine rC (t14 r151 r108) ?_
 rintro _ ⟨r153,hc152,rfl⟩
 have hSc:=hc152
 cases r153
 refine co ?_
 exact jD
 refine bA ?_
 refine nd hS87 3 λr154 hl155 hln158 hz157=>?_
 have hz159:∀ m,freeze true { H86 with cT:=[] } (m+4) (ki b13)=some (.ip (pk nt14 cc15 dd16 (lG r154) (kU rd19) iN iN) 0 true):=λm=>oA (i:=2) hS87 rfl [] _ (by simp only [FZ,hz157]; try rfl)
 have hr6:r154.l.length<=8:=by rw [hl155]; exact hN7
 have hr5:(Row.mi rd19).l.length=r154.l.length:=by rw [hl155]; exact hN5
 have hr7:∀ x∈r154.l,x=0:=by rw [hl155]; exact hN8
 have hr9:r154.l.length=dd16.runs.l.length:=by rw [hl155]; exact hNa.symm
 refine oj (args:=[(ki b13)]) (p:=[]) (r:=[]) (args':=[.ip (pk nt14 cc15 dd16 (lG r154) (kU rd19) iN iN) 0 true]) (R:=Th nt14 cc15 dd16 r154 (Row.mi rd19) (⟨[],.nil,Nat.zero_le _,λ_=>rfl⟩:ka Int) (⟨[],.nil,Nat.zero_le _,λ_=>rfl⟩:ka Int)) rfl rfl rfl rfl rfl rfl rfl rfl fh (lj (by show kP (freeze true { H86 with cT:=[] } 8) [(ki b13)] = _; simp only [FZ,hz157,hz159]) (j8 rfl kK)) (lj e9 (j8 rfl kK)) (λh=>t16 nt14 cc15 dd16 r154 (Row.mi rd19) (⟨[],.nil,Nat.zero_le _,λ_=>rfl⟩:ka Int) (⟨[],.nil,Nat.zero_le _,λ_=>rfl⟩:ka Int) dS dS h) ?_
 rintro _ ⟨r161,hc160,rfl⟩
 have hDn:=hc160
 rw [hl155] at hDn
 cases r161
 refine aK ?_
 have hL162:=a1.runs.lk
 refine xQ a1.runs ?_
 refine w9 (λh163=>?_) (λh163=>?_)
 refine dc ?_
 exact jD
 refine dc ?_
 exact jE
 refine aK ?_
 have hL164:=a1.runs.lk
 refine xQ a1.runs ?_
 refine w9 (λh165=>?_) (λh165=>?_)
 refine dc ?_
 exact jE
 refine dc ?_
 exact jD
 refine bX ?_
 refine ap ?_
 refine wz [.la 3 0,(ki b13),iv 0,iv r70,v72,v84,ma r108] H86 [(3,(dO.af a1))] ?_ (kF hS87 [(11,1),(12,0)])
 refine aR ?_
 refine mg (λh166=>?_) (λh166=>?_)
 refine aZ ?_
 exact jD
 refine au ?_
 refine wz [.la 3 0,(ki b13),iv r70,v72,v84,ma r108] H86 [(3,(dO.af a1))] ?_ (kF hS87 [(11,1),(12,0)])
 refine am ?_
 refine mg (λh167=>?_) (λh167=>?_)
 refine aG ?_
 exact jD
 refine au ?_
 refine wz [.la 3 0,(ki b13),v72,v84,ma r108] H86 [(3,(dO.af a1))] ?_ (kF hS87 [(11,1),(12,0)])
 refine cM ?_
 refine nd hS87 3 λr168 hl169 hln172 hz171=>?_
 have hz173:∀ m,freeze true { H86 with cT:=[] } (m+4) (ki b13)=some (.ip (pk nt14 cc15 dd16 (lG r168) (kU rd19) iN iN) 0 true):=λm=>oA (i:=2) hS87 rfl [] _ (by simp only [FZ,hz171]; try rfl)
 refine oj (args:=[(ki b13)]) (p:=[]) (r:=[]) (args':=[.ip (pk nt14 cc15 dd16 (lG r168) (kU rd19) iN iN) 0 true]) (R:=TR nt14 cc15 dd16 r168 (Row.mi rd19) (⟨[],.nil,Nat.zero_le _,λ_=>rfl⟩:ka Int) (⟨[],.nil,Nat.zero_le _,λ_=>rfl⟩:ka Int)) rfl rfl rfl rfl rfl rfl rfl rfl fh (lj (by show kP (freeze true { H86 with cT:=[] } 8) [(ki b13)] = _; simp only [FZ,hz171,hz173]) (j8 rfl kK)) (lj e9 (j8 rfl kK)) (λh=>t12 nt14 cc15 dd16 r168 (Row.mi rd19) (⟨[],.nil,Nat.zero_le _,λ_=>rfl⟩:ka Int) (⟨[],.nil,Nat.zero_le _,λ_=>rfl⟩:ka Int) dS h) ?_
 rintro _ ⟨r175,hc174,rfl⟩
 have hLg:=hc174.trans hl169
 refine rV ?_
 refine nd hS87 1 λr176 hl177 hln180 hz179=>?_
 have hEq:r175.l=r176.l:=by rw [hl177]; first | exact hLg.trans (List.eq_replicate_iff.mpr ⟨hN6,hN8⟩) | exact all_eq hRd (hN5.trans hN6) hN9 hM0 (m6 hM1 gv)
 refine oj (args:=[kU r175,v72]) (p:=[]) (r:=[]) (args':=[kU r175,lG r176]) (R:=LP r175 r176) rfl rfl rfl rfl rfl rfl (j8 rfl (j8 (Sep.arg (i:=1) hS87 rfl) kK)) rfl fh (lj (by show kP (freeze true { H86 with cT:=[] } 8) [kU r175,v72] = _; simp only [FZ,hz179]) (j8 rfl (j8 (Sep.ot (i:=1) hS87 rfl) kK))) (lj e9 (j8 rfl (j8 rfl kK))) (λh=>t11 r175 r176  h) ?_
 rintro _ ⟨r182,hc181,rfl⟩
 have hSm:=hc181
 cases r182
 refine rV ?_
 iterate 4 refine rS ?_
 refine c9 ?_
 refine co ?_
 exact jD
 refine aK ?_
 refine nd hS87 3 λr183 hl184 hln187 hz186=>?_
 have hz188:∀ m,freeze true { H86 with cT:=[] } (m+4) (ki b13)=some (.ip (pk nt14 cc15 dd16 (lG r183) (kU rd19) iN iN) 0 true):=λm=>oA (i:=2) hS87 rfl [] _ (by simp only [FZ,hz186]; try rfl)
 refine oj (args:=[(ki b13)]) (p:=[]) (r:=[]) (args':=[.ip (pk nt14 cc15 dd16 (lG r183) (kU rd19) iN iN) 0 true]) (R:=Uj nt14 cc15 dd16 r183 (Row.mi rd19) (⟨[],.nil,Nat.zero_le _,λ_=>rfl⟩:ka Int) (⟨[],.nil,Nat.zero_le _,λ_=>rfl⟩:ka Int)) rfl rfl rfl rfl rfl rfl rfl rfl fh (lj (by show kP (freeze true { H86 with cT:=[] } 8) [(ki b13)] = _; simp only [FZ,hz186,hz188]) (j8 rfl kK)) (lj e9 (j8 rfl kK)) (λh=>t13 nt14 cc15 dd16 r183 (Row.mi rd19) (⟨[],.nil,Nat.zero_le _,λ_=>rfl⟩:ka Int) (⟨[],.nil,Nat.zero_le _,λ_=>rfl⟩:ka Int) dS h) ?_
 rintro _ ⟨r190,hc189,rfl⟩
 have hRd:=hc189.trans rfl
 refine rV ?_
 refine nd hS87 0 λr191 hl192 hln195 hz194=>?_
 have hEq:r190.l=r191.l:=by rw [hl192]; first | exact hLg.trans (List.eq_replicate_iff.mpr ⟨hN6,hN8⟩) | exact all_eq hRd (hN5.trans hN6) hN9 hM0 (m6 hM1 gv)
 refine oj (args:=[kU r190,v84]) (p:=[]) (r:=[]) (args':=[kU r190,lG r191]) (R:=LP r190 r191) rfl rfl rfl rfl rfl rfl (j8 rfl (j8 (Sep.arg (i:=0) hS87 rfl) kK)) rfl fh (lj (by show kP (freeze true { H86 with cT:=[] } 8) [kU r190,v84] = _; simp only [FZ,hz194]) (j8 rfl (j8 (Sep.ot (i:=0) hS87 rfl) kK))) (lj e9 (j8 rfl (j8 rfl kK))) (λh=>t11 r190 r191  h) ?_
 rintro _ ⟨r197,hc196,rfl⟩
 have hSm:=hc196
 cases r197
 refine c9 ?_
 refine co ?_
 exact jD
 refine bA ?_
 refine nd hS87 3 λr198 hl199 hln202 hz201=>?_
 have hz203:∀ m,freeze true { H86 with cT:=[] } (m+4) (ki b13)=some (.ip (pk nt14 cc15 dd16 (lG r198) (kU rd19) iN iN) 0 true):=λm=>oA (i:=2) hS87 rfl [] _ (by simp only [FZ,hz201]; try rfl)
 have hr6:r198.l.length<=8:=by rw [hl199]; exact hN7
 have hr5:(Row.mi rd19).l.length=r198.l.length:=by rw [hl199]; exact hN5
 have hr7:∀ x∈r198.l,x=0:=by rw [hl199]; exact hN8
 have hr9:r198.l.length=dd16.runs.l.length:=by rw [hl199]; exact hNa.symm
 refine oj (args:=[(ki b13)]) (p:=[]) (r:=[]) (args':=[.ip (pk nt14 cc15 dd16 (lG r198) (kU rd19) iN iN) 0 true]) (R:=Q6 nt14 cc15 dd16 r198 (Row.mi rd19) (⟨[],.nil,Nat.zero_le _,λ_=>rfl⟩:ka Int) (⟨[],.nil,Nat.zero_le _,λ_=>rfl⟩:ka Int)) rfl rfl rfl rfl rfl rfl rfl rfl fh (lj (by show kP (freeze true { H86 with cT:=[] } 8) [(ki b13)] = _; simp only [FZ,hz201,hz203]) (j8 rfl kK)) (lj e9 (j8 rfl kK)) (λh=>t15 nt14 cc15 dd16 r198 (Row.mi rd19) (⟨[],.nil,Nat.zero_le _,λ_=>rfl⟩:ka Int) (⟨[],.nil,Nat.zero_le _,λ_=>rfl⟩:ka Int) dS dS dS dS dS dS dS dS dS dS dS h) ?_
 rintro _ ⟨r205,⟨hc204,hc204r⟩,rfl⟩
 have hCe:=hc204.2
 rw [hNp2,hl199,hN6] at hCe
 have hCe2:=hCe.MV hNdr hNds hNcr
 refine rV ?_
 refine rC (t14 r205 r108) ?_
 rintro _ ⟨r207,hc206,rfl⟩
 have hSc:=hc206
 cases r207
 refine co ?_
 exact jD
 refine bA ?_
 refine nd hS87 3 λr208 hl209 hln212 hz211=>?_
 have hz213:∀ m,freeze true { H86 with cT:=[] } (m+4) (ki b13)=some (.ip (pk nt14 cc15 dd16 (lG r208) (kU rd19) iN iN) 0 true):=λm=>oA (i:=2) hS87 rfl [] _ (by simp only [FZ,hz211]; try rfl)
 have hr6:r208.l.length<=8:=by rw [hl209]; exact hN7
 have hr5:(Row.mi rd19).l.length=r208.l.length:=by rw [hl209]; exact hN5
 have hr7:∀ x∈r208.l,x=0:=by rw [hl209]; exact hN8
 have hr9:r208.l.length=dd16.runs.l.length:=by rw [hl209]; exact hNa.symm
 refine oj (args:=[(ki b13)]) (p:=[]) (r:=[]) (args':=[.ip (pk nt14 cc15 dd16 (lG r208) (kU rd19) iN iN) 0 true]) (R:=Th nt14 cc15 dd16 r208 (Row.mi rd19) (⟨[],.nil,Nat.zero_le _,λ_=>rfl⟩:ka Int) (⟨[],.nil,Nat.zero_le _,λ_=>rfl⟩:ka Int)) rfl rfl rfl rfl rfl rfl rfl rfl fh (lj (by show kP (freeze true { H86 with cT:=[] } 8) [(ki b13)] = _; simp only [FZ,hz211,hz213]) (j8 rfl kK)) (lj e9 (j8 rfl kK)) (λh=>t16 nt14 cc15 dd16 r208 (Row.mi rd19) (⟨[],.nil,Nat.zero_le _,λ_=>rfl⟩:ka Int) (⟨[],.nil,Nat.zero_le _,λ_=>rfl⟩:ka Int) dS dS h) ?_
 rintro _ ⟨r215,hc214,rfl⟩
 have hDn:=hc214
 rw [hl209] at hDn
 cases r215
 refine aK ?_
 have hL216:=a1.runs.lk
 refine xQ a1.runs ?_
 refine w9 (λh217=>?_) (λh217=>?_)
 refine dc ?_
 exact jD
 refine dc ?_
 exact jE
 refine aK ?_
 have hL218:=a1.runs.lk
 refine xQ a1.runs ?_
 refine w9 (λh219=>?_) (λh219=>?_)
 refine dc ?_
 exact jE
 refine dc ?_
 exact jD
 refine ao ?_
 refine bO ?_
 refine aq ?_
 exact jE
end Go.Sx
