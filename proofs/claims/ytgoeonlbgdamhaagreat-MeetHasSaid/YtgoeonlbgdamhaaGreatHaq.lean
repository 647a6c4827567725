/- Proves what some functions of the program answer, by walking through them. -/
import Derived.Test.YtgoeonlbgdamhaaGreatHag
import Derived.Test.YtgoeonlbgdamhaaGreatHal
import Derived.Test.YtgoeonlbgdamhaaGreatHao
import Derived.Test.YtgoeonlbgdamhaaGreatHap
set_option linter.all false
set_option maxRecDepth 100000
set_option maxHeartbeats 0
namespace Go.Sx
open Go Go.Proofs
def P4 (_a0:bS) (_a1:iI) (_a2:Row jz) (_a3:Int) (_a4:Int) (v:AV):Prop:=∃ r0:Bool,(r0=true)/\v=.bool r0
def t4 (a0:bS) (a1:iI) (a2:Row jz) (a3:Int) (a4:Int) (qc:a0.canon=a0) (hJg:JG a0) (q4:a4<=9223372036854775807):Ct 4 [.agg (bS.af a0),.agg (iI.af a1),jQ a2,iv a3,iv a4] (P4 a0 a1 a2 a3 a4):=by
 refine ja U8 ?_
 refine bR ?_
 refine cy ?_
 refine oC (t8) ?_
 rintro _ ⟨r2,hc1,rfl⟩
 cases r2
 refine aq ?_
 exact xB ⟨false,eu,rfl⟩
 refine aA ?_
 refine wy [jQ a2,iv a3,iv a4,.la 5 0,.la 6 0] [(5,(bS.af a0)),(6,(iI.af a1))] ?_
 refine ae ?_
 refine oC (t9 a0 a1 dK) ?_
 rintro _ (⟨r4,r5,hc3,rfl⟩ | ⟨r6,r7,hc3,rfl⟩)
 have hO:=hc3
 obtain ⟨hNn,hFw,hDf,hSt,hSn,h64,⟨hPl0,nx,hnk,hnx⟩,hBd,hDv,hCv⟩:=hc3
 have hnp:r5.p=a0:=hNn.vk.trans qc
 have he4:a0.elems.l.length<=40:=by have:=hNn.e40; rwa [hNn.elems] at this
 have hx5:∀ r∈a1.runs.l,0<=r.iW/\r.iW<(a1.iW.l.length:Int):=λr hr=>(hDf.2 r hr).2
 have hRt2:∀ t,uS a0 t->uS r5.p t:=λt h=>hnp▸h
 have he5:r5.p.elems.l.length<=40:=hnp▸he4
 refine aj ?_
 refine ct ?_
 refine aj ?_
 refine oC (t14 a2) ?_
 rintro _ ⟨r9,hc8,rfl⟩
 cases r9
 clear hc8
 refine aK ?_
 iterate 6 refine oS ?_
 refine bI ?_
 refine bQ ?_
 exact gR
 have hc8t:=hc8 rfl
 obtain ⟨hSm1,hSmT⟩:=hc8t
 iterate 7 refine oV ?_
 refine oC (t15 a0 r4 a1 a2 dK dK dK) ?_
 rintro _ ⟨r11,hc10,rfl⟩
 cases r11
 clear hc10
 refine oV ?_
 refine bI ?_
 refine bQ ?_
 exact gR
 have hc10t:=hc10 rfl
 have hRtT:=hc10t
 refine bk ?_
 refine iV (λh12=>?_) (λh12=>?_)
 refine bQ ?_
 exact gR
 refine bk ?_
 have hL13:=a2.lk
 refine jb a2 ?_
 refine kL (λh14=>?_) (λh14=>?_)
 refine aq ?_
 exact gR
 refine aA ?_
 refine wy [jQ a2,iv a3,iv a4,.la 5 0,.ip (iR.af r5) 0 false] [(5,(bS.af a0))] ?_
 refine qs ?_
 refine cY ?_
 have hx15:(a3).toNat<a2.l.length:=by omega
 refine iN rfl rfl (λ_=>jh (n:=a3) (r:=a2) (enc:=jz.af) rfl rfl rfl rfl rfl dT hx15 rfl) ?_
 generalize hqx16:a2.l[(a3).toNat]=x16
 have hinx16:x16∈a2.l:=by rw [<- hqx16]; exact List.getElem_mem _
 have hTkx16:=hRtT x16 hinx16; have hTsx16:=hSmT x16 hinx16; have hTnx16:=hRt2 _ hTkx16; have hb5x16:=hTsx16.Dw
 refine ay ?_
 have hL17:=x16.iC.lk
 refine Ca x16.iC ?_
 have hL18:=x16.iC.lk
 refine Qx ?_
 refine ay ?_
 have hx19:(a3).toNat<a2.l.length:=by omega
 refine iN rfl rfl (λ_=>jh (n:=a3) (r:=a2) (enc:=jz.af) rfl rfl rfl rfl rfl dT hx19 rfl) ?_
 rw [hqx16]
 refine ay ?_
 have hL21:=x16.iC.lk
 refine Ca x16.iC ?_
 refine ay ?_
 refine aI ?_
 refine qb ?_
 refine iF 4 (λmE e h=>At [2,3,5,12,67,68,69] [jQ a2,iv a3,.la 5 0,.ip (iR.af r5) 0 false,.sl [[iv a4],[iv ((x16.iC.l.length:Int) - 1)],[ir x16.iC.l.length],[iv 0]] (.exact 4),iv 4,ir mE] aT.empty [(5,(bS.af a0))] e h) ?_ (k0:=0) dT atR
 rintro mE e h hkk22 hA
 refine aO ?_
 refine iV (λh23=>?_) (λh23=>?_)
 refine ap ?_
 refine wy [jQ a2,iv a3,.la 5 0,.ip (iR.af r5) 0 false,.sl [[iv a4],[iv ((x16.iC.l.length:Int) - 1)],[ir x16.iC.l.length],[iv 0]] (.exact 4),iv 4,ir mE] [(5,(bS.af a0))] ?_
 refine bi ?_
 have hx24:mE<(⟨[a4,((x16.iC.l.length:Int) - 1),((x16.iC.l.length:Int)),0],.exact 4,nM,rfl,lN⟩:Row Int).l.length:=by show mE<4; omega
 refine iz rfl (λ_=>rF (n:=mE) (r:=(⟨[a4,((x16.iC.l.length:Int) - 1),((x16.iC.l.length:Int)),0],.exact 4,nM,rfl,lN⟩:Row Int)) (enc:=iP) rfl rfl rfl rfl rfl hx24 rfl) ?_
 generalize hqx25:(⟨[a4,((x16.iC.l.length:Int) - 1),((x16.iC.l.length:Int)),0],.exact 4,nM,rfl,lN⟩:Row Int).l[mE]=x25
 have hzx25:x25<=9223372036854775807:=ae6 hqx25 rfl dT dT dT dT
 refine bo ?_
 refine cY ?_
 have hx26:(a3).toNat<a2.l.length:=by omega
 refine iN rfl rfl (λ_=>jh (n:=a3) (r:=a2) (enc:=jz.af) rfl rfl rfl rfl rfl dT hx26 rfl) ?_
 rw [hqx16]
 refine ay ?_
 refine rC (t16 a0 x16 x25 dK dK dK dK) ?_
 rintro _ ⟨r29,r30,r31,hc28,rfl⟩
 have hHd:=hc28
 refine rV ?_
 refine bG ?_
 refine aP ?_
 have hx32:(a3).toNat<a2.l.length:=by omega
 refine iz rfl (λ_=>jh (n:=a3) (r:=a2) (enc:=jz.af) rfl rfl rfl rfl rfl dT hx32 rfl) ?_
 rw [hqx16]
 refine aj ?_
 refine oC (t18 r5 x16 x25 dK dK dK) ?_
 rintro _ ⟨r35,hc34,rfl⟩
 have hHm:=hc34
 refine oV ?_
 refine oC (t17 r35 (Row.ow r29)) ?_
 rintro _ ⟨r37,hc36,rfl⟩
 have hSm:=hc36
 cases r37
 refine aq ?_
 exact xB ⟨false,eu,rfl⟩
 refine aA ?_
 refine wy [jQ a2,iv a3,.la 5 0,.ip (iR.af r5) 0 false,.sl [[iv a4],[iv ((x16.iC.l.length:Int) - 1)],[ir x16.iC.l.length],[iv 0]] (.exact 4),iv 4,ir mE] [(5,(bS.af a0))] ?_
 refine qg ?_
 refine jc ?_
 refine ab ?_
 exact gm
 refine ao ?_
 refine wy [] [] ?_
 refine a6 ?_
 exact gR
 refine aj ?_
 refine ct ?_
 refine cr ?_
 refine bw ?_
 refine oS ?_
 refine bI ?_
 refine bQ ?_
 exact gR
end Go.Sx
