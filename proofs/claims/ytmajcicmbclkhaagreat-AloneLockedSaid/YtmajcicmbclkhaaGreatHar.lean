/- Proves what functions of the program answer. -/
import Derived.Test.YtmajcicmbclkhaaGreatHaq
set_option linter.all false
set_option maxRecDepth 100000
set_option maxHeartbeats 0
namespace Go.Sx
open Go Go.Proofs
def u76 {H:au} (a0:ff fC) (F:List gh) (hS:Sep H F) (q1:a0.l.length<=1000):∃ v H',fh cfg FT fK true 76 [ff.av fC.ai a0] { H with aT:=[] } v H'/\(∃ ov:AV,∃ ol:List fC,(ol=a0.l)/\Sep H' (kh fC.ai 4 ov ol::F)/\v=ov):=by
 refine gO SV ?_
 refine fS ?_
 refine jf (b:=a0.isNil) rfl (λ_=>mi rfl rfl rfl rfl) (λh1=>?_) (λh1=>?_)
 refine gz ?_
 have hS2:=Sep.jZ hS 4
 have hS3:=Sep.pick hS2 [0] 1 bf bf
 exact ⟨ee,rfl,ee,([]:List fC),bR,Sep.aT hS3 _,rfl⟩
 refine fo ?_
 refine wz [ff.av fC.ai a0] H [] ?_
 refine fk ?_
 have hS4:=Sep.nk hS 4
 refine gj rfl (mY (i:=0) (l:=([]:List fC)) (enc:=fC.ai) a0.l hS4 rfl rfl rfl rfl rfl rfl rfl rfl rfl (λ_=>rfl) (.inl rfl) bE (λ_=>rfl)) ?_
 rintro v5 H6 hS7
 refine fo ?_
 have hS8:=Sep.pick hS7 [0] 1 bf bf
 exact ⟨v5,(ia (vs:=[v5]) rfl (ei (Sep.arg (i:=0) hS7 rfl) fT)),v5,(([]:List fC)++a0.l),bR,Sep.aT hS8 _,rfl⟩
def t37 (a0:iQ) (q1:∀ x∈a0.kn.l,x.seen.l.length<=12) (q3:a0.kn.l.length<=64):Ct 37 [.ip (iQ.ai a0) 0 true] (λv=>∃ r0:Row fC,(r0.l.map fC.state=a0.kn.l.map fC.state)/\v=yD r0):=by
 refine fR Ng ?_
 refine hZ ?_
 refine gA (H:=au.empty) (args:=[ff.av fC.ai a0.kn]) (p:=[]) (r:=[]) rfl rfl rfl rfl rfl rfl rfl (u76 a0.kn ([]) gJ aZ) ?_
 rintro ov5 H2 ⟨_,ol6,hc4,hS3,rfl⟩
 have hqF:ol6.length=a0.kn.l.length:=by rw [hc4]
 try simp only [Row.ji] at hqF
 have hOl:=hc4
 refine gS ?_
 refine be rfl (λ_=>jC (i:=0) hS3 rfl rfl rfl rfl rfl rfl rfl) ?_
 refine fo ?_
 refine e8 ol6.length (λk7 e h=>∃ v8:AV,∃ l9:List fC,∃ H10:au,(l9.map fC.state=a0.kn.l.map fC.state)/\(l9.length=a0.kn.l.length)/\(∀ x∈l9,x.seen.l.length<=1000)/\Sep H10 (kh fC.ai 4 v8 l9::[])/\At [3,11,12] [v8,cr ol6.length,cr k7] H10 [] e h) ?_ (k0:=0) bh ⟨ov5,ol6,H2,(by rw [hOl]),(by (rw [hOl])),(by (rw [hOl]; intro x hx; have:=q1 x hx; omega)),hS3,(fV hS3 [(3,0)])⟩
 rintro k7 e h hkk7 ⟨v8,l9,H10,hMp,hLn,hE,hS11,hA⟩
 refine aa ?_
 refine fQ (λh12=>?_) (λh12=>?_)
 refine fk ?_
 refine wz [v8,cr ol6.length,cr k7] H10 [] ?_ (fV hS11 [(3,0)])
 refine j9 ?_
 have hx13:k7<l9.length:=by first | omega | (simp<;>omega) | (simp_all; done) | (simp_all; omega)
 obtain ⟨x14,hqx14⟩:∃ x,l9[k7]=x:=⟨_,rfl⟩
 have hinx14:x14∈l9:=by rw [<- hqx14]; exact List.getElem_mem _
 have hsx14:=hE _ hinx14
 refine lG rfl (iT (i:=0) (m:=k7) (cs:=fC.ai x14) hS11 rfl rfl rfl rfl rfl rfl rfl (gW hx13 hqx14)) ?_
 rintro a15 ⟨ha16,hea17⟩
 refine be rfl (λ_=>EA.FM hea17 rfl rfl rfl ha16) ?_
 refine be rfl (λ_=>lQ (i:=0) (m:=k7) (o:=3) (r:=Row.av fM x14.seen) (cs:=fC.ai x14) hS11 rfl (gW hx13 hqx14) hea17 rfl rfl rfl) ?_
 refine oC (t62 (Row.ji x14.seen) aZ) ?_
 rintro _ ⟨r19,hc18,rfl⟩
 have hCb:=congrArg List.length hc18; try simp only [Row.ji] at hCb
 have hx20:k7<l9.length:=by first | omega | (simp<;>omega) | (simp_all; done) | (simp_all; omega)
 refine lG rfl (iT (i:=0) (m:=k7) (cs:=fC.ai x14) hS11 rfl rfl rfl rfl rfl rfl rfl (gW hx20 hqx14)) ?_
 rintro a21 ⟨ha22,hea23⟩
 refine be rfl (λ_=>EA.FM hea23 rfl rfl rfl ha22) ?_
 have hMs:((l9).set _ (⟨x14.state,x14.front,x14.off,r19⟩:fC)).map fC.state=(l9).map fC.state:=J1 (hk:=hx20) hqx14 rfl
 refine gj rfl (mB (i:=0) (m:=k7) (o:=3) x14 (⟨x14.state,x14.front,x14.off,r19⟩:fC) hS11 rfl hx20 hqx14 hea23 rfl rfl rfl rfl rfl rfl) ?_
 rintro _ H24 ⟨rfl,hS25⟩
 refine oN ?_
 refine wz [v8,cr ol6.length,cr k7] H24 [] ?_ (fV hS25 [(3,0)])
 refine qg ?_
 refine be rfl (λ_=>ca rfl rfl rfl (ej ((k7:Int)) 1 aY aY)) ?_
 refine e9 ?_
 exact ⟨by omega,v8,((l9.set k7 (⟨x14.state,x14.front,x14.off,r19⟩:fC))),H24,(by exact hMs.trans hMp),dD,(by exact uk hE (by show List.length (Row.l _)<=1000; rw [hCb]; assumption)),hS25,(fV hS25 [(3,0)])⟩
 refine fk ?_
 refine wz [v8] H10 [] ?_ (fV hS11 [(3,0)])
 refine gS ?_
 obtain ⟨r26,hl27,hf28⟩:=iZ (H:=H10) (i:=0) (l:=l9) (enc:=fC.ai) hS11 rfl a8
 have hlq:=hl27; have hln30:=congrArg List.length hl27
 have hz29:∀ m,freeze false { H10 with aT:=[] } (m+2) v8=some (yD r26):=λm=>hf28 _ _ (λ_=>by simp only [fC.ai,fU,sm,iE,qM,rY,um])
 exact ⟨v8,(ia (vs:=[v8]) rfl (ei (Sep.arg (i:=0) hS11 rfl) fT)),yD r26,(show freeze false { H10 with aT:=[] } 8 v8=some (yD r26) by simp only [FZ,hz29]),r26,(by exact (congrArg (List.map fC.state) hlq).trans hMp),rfl⟩
def T3:fK 39=some nZ:=by rfl
def PM {H:au} (vs:AV) (l:List Int) (F:List gh) (hS:Sep H (kL vs l::F)) (q1:l.length<=1000000) (q2:∀ x∈l,ky x):∃ v H',fh cfg FT fK true 39 [vs] { H with aT:=[] } v H'/\(∃ lo:List Int,(lo=iY l)/\Sep H' (kL vs lo::F)/\v=.fG []):=by
 obtain ⟨v,H',hc,hv,hS'⟩:=Gr T3 hS q1 q2
 exact ⟨v,H',hc,_,rfl,hS',hv⟩
def Tf:fK 40=some pg:=by rfl
def Y0 {H:au} (vs:AV) (l:List Int) (F:List gh) (hS:Sep H (kL vs l::F)) (q1:l.length<=1000000) (q2:∀ x∈l,ky x):∃ v H',fh cfg FT fK true 40 [vs] { H with aT:=[] } v H'/\(∃ vo:AV,∃ lo:List Int,(lo=Lib.compact l)/\Sep H' (gy cI 1 vo lo::F)/\v=vo):=by
 obtain ⟨v,H',hc,hS'⟩:=NQ Tf hS q1 q2
 exact ⟨v,H',hc,v,_,rfl,hS',rfl⟩
def P8 (_a0:iQ) (_a1:Int) (v:AV):Prop:=∃ r0:Row Int,∃ r1:Row Int,(Ah _a0 _a1 r0.l/\yR _a0 _a1 r1.l)/\v=.fG [gk r0,gk r1]
def t8 (a0:iQ) (a1:Int) (q0:oL a0) (hFw:j1 a0.c.cB) (q2:rs 17 [.agg (bY.ai a0.c.cB)]=.fG [.agg (fz.ai a0.c),iv 0]):Ct 8 [.ip (iQ.ai a0) 0 true,iv a1] (P8 a0 a1):=by
 refine fR T5 ?_
 have q1:=q0.seen
 have q3:a0.kn.l.length<=64:=by have:=q0.len; have:=q0.Cz; omega
 have hBq:=q0.bk
 have hqL:=q0.len
 refine fS ?_
 refine oC (t36 a0 aZ aZ) ?_
 rintro _ ⟨r2,hc1,rfl⟩
 have hCh:=hc1; have hChr:=congrArg (λc:fz=>c.roads.l.length) hCh; try simp only [] at hChr
 refine gz ?_
 refine fQ (λh3=>?_) (λh3=>?_)
 refine mw ?_
 exact eS
 refine fo ?_
 have hL4:=r2.roads.lk
 refine gL r2.roads ?_
 refine jw (λh5=>?_) (λh5=>?_)
 refine gl ?_
 exact eS
 refine j9 ?_
 refine gA (H:=au.empty) (args:=[.ip (iQ.ai a0) 0 true]) (p:=[]) (r:=[]) rfl rfl rfl rfl rfl rfl rfl (Uj a0 ([]) gJ) ?_
 rintro _ H7 ⟨bq10,hc9,hS8,rfl⟩
 refine gz ?_
 have hx11:(a1).toNat<r2.roads.l.length:=by omega
 refine pa a1 r2.roads hx11 ?_
 generalize hqx12:r2.roads.l[(a1).toNat]=x12
 have hinx12:x12∈r2.roads.l:=by rw [<- hqx12]; exact List.getElem_mem _
 have hgR:=q0.rd x12 (hCh▸hinx12); have hsx12:=hgR.1; have hzx12:=hgR.2.1
 refine e9 ?_
 have hL13:=x12.steps.lk
 refine gL x12.steps ?_
 refine fo ?_
 have hS14:=Sep.jZ hS8 1
 have hNk15:=x12.steps.lk
 refine e8 x12.steps.l.length (λkM e h=>∃ v16:AV,∃ l17:List Int,∃ H18:au,(l17.length<=0+kM)/\(l17=mI a0.book.pl a1 ((x12.steps.l.take kM).map fi.elem))/\Sep H18 (kL v16 l17::gi bq10 (fq.ai a0.book)::[])/\At [0,1,6,7,8,9,29,30,31] [.ip (iQ.ai a0) 0 true,iv a1,gm r2.roads,v16,ee,(eX bq10),fx x12.steps,cr x12.steps.l.length,cr kM] H18 [] e h) ?_ (k0:=0) bh ⟨ee,(([]:List Int)),H7,bD,c7,hS14,atR⟩
 rintro kM e h hkk15 ⟨v16,l17,H18,hl20,hOs,hS19,hA⟩
 refine aa ?_
 refine fQ (λh21=>?_) (λh21=>?_)
 refine fk ?_
 refine wz [.ip (iQ.ai a0) 0 true,iv a1,gm r2.roads,v16,ee,(eX bq10),fx x12.steps,cr x12.steps.l.length,cr kM] H18 [] ?_ (fV hS19 [(7,0)])
 refine fk ?_
 have hx22:kM<x12.steps.l.length:=by omega
 refine jn kM x12.steps hx22 ?_
 generalize hqx23:x12.steps.l[kM]=x23
 refine gl ?_
 have hz24:∀ m,freeze true { H18 with aT:=[] } (m+4) (eX bq10)=some (.ip (fq.ai a0.book) 0 true):=λm=>jh (i:=1) hS19 rfl [] _ rfl
 refine y7 (args:=[(eX bq10),iv x23.elem]) (p:=[]) (r:=[]) (args':=[.ip (fq.ai a0.book) 0 true,iv x23.elem]) (R:=PF a0.book x23.elem) rfl rfl rfl rfl rfl rfl rfl Co (gG (by show fU (freeze true { H18 with aT:=[] } 8) [(eX bq10),iv x23.elem] = _; simp only [FZ,hz24]) (ei rfl (ei rfl fT))) (gG bV (ei rfl (ei rfl fT))) (λh=>t11 a0.book x23.elem aZ h) ?_
 rintro _ ⟨r26,hc25,rfl⟩
 have hOw:=hc25
 refine oV ?_
 refine gN (λh27=>?_) (λh27=>?_)
 refine gz ?_
 refine oF 0 [x23.elem] hS19 λv28 H29 hS30=>?_
 refine e9 ?_
 refine wz [.ip (iQ.ai a0) 0 true,iv a1,gm r2.roads,v28,ee,(eX bq10),fx x12.steps,cr x12.steps.l.length,cr kM] H29 [] ?_ (fV hS30 [(7,0)])
 refine qg ?_
 refine be rfl (λ_=>ca rfl rfl rfl (ej ((kM:Int)) 1 aY aY)) ?_
 refine e9 ?_
 exact ⟨by omega,v28,((l17++[x23.elem])),H29,aY,dc,hS30,(fV hS30 [(7,0)])⟩
 refine fo ?_
 refine wz [.ip (iQ.ai a0) 0 true,iv a1,gm r2.roads,v16,ee,(eX bq10),fx x12.steps,cr x12.steps.l.length,cr kM] H18 [] ?_ (fV hS19 [(7,0)])
 refine qg ?_
 refine be rfl (λ_=>ca rfl rfl rfl (ej ((kM:Int)) 1 aY aY)) ?_
 refine e9 ?_
 exact ⟨by omega,v16,l17,H18,aY,dc,hS19,(fV hS19 [(7,0)])⟩
 refine fk ?_
 refine wz [.ip (iQ.ai a0) 0 true,iv a1,gm r2.roads,v16,ee] H18 [] ?_ (fV hS19 [(7,0)])
 refine fk ?_
 refine oC (t37 a0 aZ aZ) ?_
 rintro _ ⟨r32,hc31,rfl⟩
 have hLv:=hc31; have hLvl:=congrArg List.length hLv; simp only [List.length_map] at hLvl
 refine oV ?_
 have hx33:(a1).toNat<r32.l.length:=by omega
 refine pa a1 r32 hx33 ?_
 generalize hqx34:r32.l[(a1).toNat]=x34
 refine e9 ?_
 refine iV (λh35=>?_) (λh35=>?_)
 refine gq ?_
 have hx36:(a1).toNat<r2.roads.l.length:=by omega
 refine pa a1 r2.roads hx36 ?_
 rw [hqx12]
 refine e9 ?_
 have hS38:=Sep.pick hS19 [0,1] 2 bf bf
 refine gA (H:=H18) (args:=[gk x12.gB]) (p:=[]) (r:=[]) rfl rfl rfl rfl rfl rfl rfl (aa2 (Row.ji x12.gB) (kL v16 l17::gi bq10 (fq.ai a0.book)::[]) hS38 aZ) ?_
 rintro ov42 H39 ⟨_,ol43,hc41,hS40,rfl⟩
 have hOl:=hc41
 refine e9 ?_
 refine wz [v16,ov42] H39 [] ?_ (fV hS40 [(7,1),(8,0)])
 refine fo ?_
 have hrgA:(∀ x∈l17,ky x)/\l17.length<=12:=by first | exact yp hOs (λs hs=>hgR.2.2.1 s hs) hgR.1 | (rw [hOl]; exact ⟨hgR.2.2.2,hgR.2.1⟩) | exact ⟨by simp,by simp⟩
 have hrgB:=hrgA.1; have hrgC:=hrgA.2
 have hS44:=Sep.pick hS40 [1,0,2] 3 bf bf
 refine gA (H:=H39) (args:=[v16]) (p:=[]) (r:=[]) rfl rfl rfl rfl rfl (ei (Sep.arg (i:=1) hS40 rfl) fT) rfl (PM v16 l17 (kL ov42 ol43::gi bq10 (fq.ai a0.book)::[]) hS44 aZ aZ) ?_
 rintro _ H45 ⟨lo48,hc47,hS46,rfl⟩
 have hSo:=hc47
 have hrg2:=xH hSo a6
 have hsl2:=yv hSo
 refine fk ?_
 have hrgA:(∀ x∈ol43,ky x)/\ol43.length<=12:=by first | exact yp hOs (λs hs=>hgR.2.2.1 s hs) hgR.1 | (rw [hOl]; exact ⟨hgR.2.2.2,hgR.2.1⟩) | exact ⟨by simp,by simp⟩
 have hrgB:=hrgA.1; have hrgC:=hrgA.2
 have hS49:=Sep.pick hS46 [1,0,2] 3 bf bf
 refine gA (H:=H45) (args:=[ov42]) (p:=[]) (r:=[]) rfl rfl rfl rfl rfl (ei (Sep.arg (i:=1) hS46 rfl) fT) rfl (PM ov42 ol43 (kL v16 lo48::gi bq10 (fq.ai a0.book)::[]) hS49 aZ aZ) ?_
 rintro _ H50 ⟨lo53,hc52,hS51,rfl⟩
 have hSo:=hc52
 have hrg2:=xH hSo a6
 have hsl2:=yv hSo
 refine gq ?_
 have hS54:=Sep.pick hS51 [0,1,2] 3 bf bf
 refine gA (H:=H50) (args:=[ov42]) (p:=[]) (r:=[]) rfl rfl rfl rfl rfl (ei (Sep.arg (i:=0) hS51 rfl) fT) rfl (Y0 ov42 lo53 (kL v16 lo48::gi bq10 (fq.ai a0.book)::[]) hS54 aZ aZ) ?_
 rintro vo58 H55 ⟨_,lo59,hc57,hS56,rfl⟩
 have hCo:=hc57
 have hcl2:=Gl hc57
 refine fk ?_
 obtain ⟨r60,hl61,hf62⟩:=iZ (H:=H55) (i:=1) (l:=lo48) (enc:=cI) hS56 rfl a8
 have hlq:=hl61; have hln64:=congrArg List.length hl61
 have hz63:∀ m,freeze false { H55 with aT:=[] } (m+2) v16=some (gk r60):=λm=>hf62 _ _ (λ_=>rfl)
 obtain ⟨r65,hl66,hf67⟩:=iZ (H:=H55) (i:=0) (l:=lo59) (enc:=cI) hS56 rfl a8
 have hlq:=hl66; have hln69:=congrArg List.length hl66
 have hz68:∀ m,freeze false { H55 with aT:=[] } (m+2) vo58=some (gk r65):=λm=>hf67 _ _ (λ_=>rfl)
 exact ⟨.fG [v16,vo58],(ia (vs:=[v16,vo58]) rfl (ei (Sep.arg (i:=1) hS56 rfl) (ei (Sep.arg (i:=0) hS56 rfl) fT))),.fG [gk r60,gk r65],(show freeze false { H55 with aT:=[] } 8 (.fG [v16,vo58])=some (.fG [gk r60,gk r65]) by simp only [FZ,hz63,hz68]),r60,r65,bJ,rfl⟩
 refine fo ?_
 refine wz [v16,ee] H18 [] ?_ (fV hS19 [(7,0)])
 refine fo ?_
 have hrgA:(∀ x∈l17,ky x)/\l17.length<=12:=by first | exact yp hOs (λs hs=>hgR.2.2.1 s hs) hgR.1 | (rw [hOl]; exact ⟨hgR.2.2.2,hgR.2.1⟩) | exact ⟨by simp,by simp⟩
 have hrgB:=hrgA.1; have hrgC:=hrgA.2
 have hS70:=Sep.pick hS19 [0,1] 2 bf bf
 refine gA (H:=H18) (args:=[v16]) (p:=[]) (r:=[]) rfl rfl rfl rfl rfl (ei (Sep.arg (i:=0) hS19 rfl) fT) rfl (PM v16 l17 (gi bq10 (fq.ai a0.book)::[]) hS70 aZ aZ) ?_
 rintro _ H71 ⟨lo74,hc73,hS72,rfl⟩
 have hSo:=hc73
 have hrg2:=xH hSo a6
 have hsl2:=yv hSo
 refine fk ?_
 have hS75:=Sep.jZ hS72 1
 have hrgA:(∀ x∈([]:List Int),ky x)/\([]:List Int).length<=12:=by first | exact yp hOs (λs hs=>hgR.2.2.1 s hs) hgR.1 | (rw [hOl]; exact ⟨hgR.2.2.2,hgR.2.1⟩) | exact ⟨by simp,by simp⟩
 have hrgB:=hrgA.1; have hrgC:=hrgA.2
 have hS76:=Sep.pick hS75 [0,1,2] 3 bf bf
 refine gA (H:=H71) (args:=[ee]) (p:=[]) (r:=[]) rfl rfl rfl rfl rfl rfl rfl (PM ee ([]:List Int) (kL v16 lo74::gi bq10 (fq.ai a0.book)::[]) hS76 aZ aZ) ?_
 rintro _ H77 ⟨lo80,hc79,hS78,rfl⟩
 have hSo:=hc79
 have hrg2:=xH hSo a6
 have hsl2:=yv hSo
 refine gq ?_
 have hS81:=Sep.jZ hS78 1
 have hS82:=Sep.pick hS81 [0,1,2,3] 4 bf bf
 refine gA (H:=H77) (args:=[ee]) (p:=[]) (r:=[]) rfl rfl rfl rfl rfl rfl rfl (Y0 ee ([]:List Int) (kL ee lo80::kL v16 lo74::gi bq10 (fq.ai a0.book)::[]) hS82 aZ aZ) ?_
 rintro vo86 H83 ⟨_,lo87,hc85,hS84,rfl⟩
 have hCo:=hc85
 have hcl2:=Gl hc85
 refine fk ?_
 obtain ⟨r88,hl89,hf90⟩:=iZ (H:=H83) (i:=2) (l:=lo74) (enc:=cI) hS84 rfl a8
 have hlq:=hl89; have hln92:=congrArg List.length hl89
 have hz91:∀ m,freeze false { H83 with aT:=[] } (m+2) v16=some (gk r88):=λm=>hf90 _ _ (λ_=>rfl)
 obtain ⟨r93,hl94,hf95⟩:=iZ (H:=H83) (i:=0) (l:=lo87) (enc:=cI) hS84 rfl a8
 have hlq:=hl94; have hln97:=congrArg List.length hl94
 have hz96:∀ m,freeze false { H83 with aT:=[] } (m+2) vo86=some (gk r93):=λm=>hf95 _ _ (λ_=>rfl)
 exact ⟨.fG [v16,vo86],(ia (vs:=[v16,vo86]) rfl (ei (Sep.arg (i:=2) hS84 rfl) (ei (Sep.arg (i:=0) hS84 rfl) fT))),.fG [gk r88,gk r93],(show freeze false { H83 with aT:=[] } 8 (.fG [v16,vo86])=some (.fG [gk r88,gk r93]) by simp only [FZ,hz91,hz96]),r88,r93,bJ,rfl⟩
def t41 (a0:iQ) (a1:Int) (q0:oL a0):Ct 41 [.ip (iQ.ai a0) 0 true,iv a1] (λv=>∃ r0:Bool,((r0=false->0<=a1/\a1<(a0.kn.l.length:Int)/\mh a0.kn.l a1)/\(r0=true->¬ (0<=a1/\mh a0.kn.l a1)))/\v=.bool r0):=by
 refine fR Uw ?_
 have q1:=q0.seen
 have q3:a0.kn.l.length<=64:=by have:=q0.len; have:=q0.Cz; omega
 refine gz ?_
 refine oC (t37 a0 aZ aZ) ?_
 rintro _ ⟨r2,hc1,rfl⟩
 have hLv:=hc1; have hLvl:=congrArg List.length hLv; simp only [List.length_map] at hLvl
 refine gq ?_
 refine fQ (λh3=>?_) (λh3=>?_)
 refine rQ ?_
 exact eK
 refine fo ?_
 have hL4:=r2.lk
 refine gL r2 ?_
 refine jw (λh5=>?_) (λh5=>?_)
 refine j9 ?_
 exact eK
 refine fk ?_
 have hx6:(a1).toNat<r2.l.length:=by omega
 refine pa a1 r2 hx6 ?_
 generalize hqx7:r2.l[(a1).toNat]=x7
 refine e9 ?_
 refine gN (λh8=>?_) (λh8=>?_)
 refine fk ?_
 exact eK
 refine fk ?_
 exact xB ⟨false,bG,rfl⟩
def P9 (_a0:fz) (_a1:iQ) (_a2:Int) (v:AV):Prop:=∃ r0:Row Int,∃ r1:Row Int,(Ah _a1 _a2 r0.l/\yR _a1 _a2 r1.l)/\v=.fG [gk r0,gk r1]
def t9 (a0:fz) (a1:iQ) (a2:Int) (q0:oL a1) (qc:a0=a1.c):Ct 9 [.agg (fz.ai a0),.ip (iQ.ai a1) 0 true,iv a2] (P9 a0 a1 a2):=by
 refine fR YO ?_
 have q1:=q0.seen
 have hBq:=q0.bk
 have hqL:=q0.len
 have hFe:=q0.el
 have hqE:a0.cB.elems.l.length=a1.c.cB.elems.l.length:=by rw [qc]
 have hqN:a0.roads.l.length=a1.c.roads.l.length:=by rw [qc]
 refine kP ?_
 refine oC (t41 a1 a2 aZ) ?_
 rintro _ ⟨r2,hc1,rfl⟩
 have hId:=hc1
 cases r2
 refine fk ?_
 have hL3:=a0.roads.lk
 refine gL a0.roads ?_
 refine jw (λh4=>?_) (λh4=>?_)
 refine gl ?_
 exact eT
 obtain ⟨hz1,hz2,hz3⟩:=hId.1 rfl
 obtain ⟨r9,hr9⟩:∃ r,a0.roads.l[a2.toNat]?=some r:=⟨_,List.getElem?_eq_getElem bh⟩
 refine j9 ?_
 refine gA (H:=au.empty) (args:=[.ip (iQ.ai a1) 0 true]) (p:=[]) (r:=[]) rfl rfl rfl rfl rfl rfl rfl (Uj a1 ([]) gJ) ?_
 rintro _ H6 ⟨bq9,hc8,hS7,rfl⟩
 refine fS ?_
 have hL10:=a0.cB.elems.lk
 refine gL a0.cB.elems ?_
 refine fo ?_
 have hS11:=Sep.jZ hS7 1
 have hS12:=Sep.jZ hS11 1
 have hNk13:=a0.cB.elems.lk
 refine e8 a0.cB.elems.l.length (λim e h=>∃ v14:AV,∃ l15:List Int,∃ v16:AV,∃ l17:List Int,∃ H18:au,(l15.length<=0+im)/\(l17.length<=0+im)/\(l15=mI a1.book.pl a2 ((List.range im).map λn:Nat=>(n:Int)))/\(l17=th r9.gB.l ((List.range im).map λn:Nat=>(n:Int)))/\Sep H18 (kL v14 l15::kL v16 l17::gi bq9 (fq.ai a1.book)::[])/\At [2,3,8,9,10,27,28] [iv a2,.la 3 0,v14,v16,(eX bq9),cr a0.cB.elems.l.length,cr im] H18 [(3,(fz.ai a0))] e h) ?_ (k0:=0) bh ⟨ee,(([]:List Int)),ee,(([]:List Int)),H6,bD,bD,c7,c7,hS12,atR⟩
 rintro im e h hkk13 ⟨v14,l15,v16,l17,H18,hl20,hl21,hOs,hZs,hS19,hA⟩
 refine aa ?_
 refine fQ (λh22=>?_) (λh22=>?_)
 refine fk ?_
 refine wz [iv a2,.la 3 0,v14,v16,(eX bq9),cr a0.cB.elems.l.length,cr im] H18 [(3,(fz.ai a0))] ?_ (fV hS19 [(8,0),(9,1)])
 refine j9 ?_
 have hz23:∀ m,freeze true { H18 with aT:=[] } (m+4) (eX bq9)=some (.ip (fq.ai a1.book) 0 true):=λm=>jh (i:=2) hS19 rfl [] _ rfl
 refine y7 (args:=[(eX bq9),cr im]) (p:=[]) (r:=[]) (args':=[.ip (fq.ai a1.book) 0 true,cr im]) (R:=PF a1.book ((im:Int))) rfl rfl rfl rfl rfl rfl rfl Co (gG (by show fU (freeze true { H18 with aT:=[] } 8) [(eX bq9),cr im] = _; simp only [FZ,hz23]) (ei rfl (ei rfl fT))) (gG bV (ei rfl (ei rfl fT))) (λh=>t11 a1.book ((im:Int)) aZ h) ?_
 rintro _ ⟨r25,hc24,rfl⟩
 have hOw:=hc24
 refine oV ?_
 refine gN (λh26=>?_) (λh26=>?_)
 refine gS ?_
 refine oF 0 [((im:Int))] hS19 λv27 H28 hS29=>?_
 refine e9 ?_
 refine wz [iv a2,.la 3 0,v27,v16,(eX bq9),cr im,cr a0.cB.elems.l.length,cr im] H28 [(3,(fz.ai a0))] ?_ (fV hS29 [(8,0),(9,1)])
 refine gq ?_
 have hx30:(a2).toNat<a0.roads.l.length:=by omega
 refine pa a2 a0.roads hx30 ?_
 generalize hqx31:a0.roads.l[(a2).toNat]=x31
 have hinx31:x31∈a0.roads.l:=by rw [<- hqx31]; exact List.getElem_mem _
 have hex31:=hqx31.symm.trans (List.getElem?_eq_some_iff.1 hr9).2; have heqZ:x31.gB.l=r9.gB.l:=(by rw [hex31]); have hgR:=q0.rd x31 (qc▸hinx31); have hzx31:=hgR.2.1
 refine fo ?_
 refine oC (t42 (Row.ji x31.gB) ((im:Int))) ?_
 rintro _ ⟨r33,hc32,rfl⟩
 have hIn:=hc32
 have hIn6:=hc32
 cases r33
 refine fo ?_
 refine wz [iv a2,.la 3 0,v27,v16,(eX bq9),cr a0.cB.elems.l.length,cr im] H28 [(3,(fz.ai a0))] ?_ (fV hS29 [(8,0),(9,1)])
 refine qg ?_
 refine be rfl (λ_=>ca rfl rfl rfl (ej ((im:Int)) 1 aY aY)) ?_
 refine e9 ?_
 exact ⟨by omega,v27,((l15++[((im:Int))])),v16,l17,H28,aY,aY,cq,bT,hS29,(fV hS29 [(8,0),(9,1)])⟩
 refine gS ?_
 refine oF 1 [((im:Int))] hS29 λv34 H35 hS36=>?_
 refine e9 ?_
 refine wz [iv a2,.la 3 0,v27,v34,(eX bq9),cr a0.cB.elems.l.length,cr im] H35 [(3,(fz.ai a0))] ?_ (fV hS36 [(8,0),(9,1)])
 refine qg ?_
 refine be rfl (λ_=>ca rfl rfl rfl (ej ((im:Int)) 1 aY aY)) ?_
 refine e9 ?_
 exact ⟨by omega,v27,((l15++[((im:Int))])),v34,((l17++[((im:Int))])),H35,aY,aY,cq,bT,hS36,(fV hS36 [(8,0),(9,1)])⟩
 refine fo ?_
 refine wz [iv a2,.la 3 0,v14,v16,(eX bq9),cr im,cr a0.cB.elems.l.length,cr im] H18 [(3,(fz.ai a0))] ?_ (fV hS19 [(8,0),(9,1)])
 refine gq ?_
 have hx37:(a2).toNat<a0.roads.l.length:=by omega
 refine pa a2 a0.roads hx37 ?_
 generalize hqx38:a0.roads.l[(a2).toNat]=x38
 have hinx38:x38∈a0.roads.l:=by rw [<- hqx38]; exact List.getElem_mem _
 have hex38:=hqx38.symm.trans (List.getElem?_eq_some_iff.1 hr9).2; have heqZ:x38.gB.l=r9.gB.l:=(by rw [hex38]); have hgR:=q0.rd x38 (qc▸hinx38); have hzx38:=hgR.2.1
 refine fo ?_
 refine oC (t42 (Row.ji x38.gB) ((im:Int))) ?_
 rintro _ ⟨r40,hc39,rfl⟩
 have hIn:=hc39
 have hIn6:=hc39
 cases r40
 refine fo ?_
 refine wz [iv a2,.la 3 0,v14,v16,(eX bq9),cr a0.cB.elems.l.length,cr im] H18 [(3,(fz.ai a0))] ?_ (fV hS19 [(8,0),(9,1)])
 refine qg ?_
 refine be rfl (λ_=>ca rfl rfl rfl (ej ((im:Int)) 1 aY aY)) ?_
 refine e9 ?_
 exact ⟨by omega,v14,l15,v16,l17,H18,aY,aY,cq,bT,hS19,(fV hS19 [(8,0),(9,1)])⟩
 refine gS ?_
 refine oF 1 [((im:Int))] hS19 λv41 H42 hS43=>?_
 refine e9 ?_
 refine wz [iv a2,.la 3 0,v14,v41,(eX bq9),cr a0.cB.elems.l.length,cr im] H42 [(3,(fz.ai a0))] ?_ (fV hS43 [(8,0),(9,1)])
 refine qg ?_
 refine be rfl (λ_=>ca rfl rfl rfl (ej ((im:Int)) 1 aY aY)) ?_
 refine e9 ?_
 exact ⟨by omega,v14,l15,v41,((l17++[((im:Int))])),H42,aY,aY,cq,bT,hS43,(fV hS43 [(8,0),(9,1)])⟩
 refine fk ?_
 refine wz [v14,v16] H18 [] ?_ (fV hS19 [(8,0),(9,1)])
 refine fS ?_
 obtain ⟨r44,hl45,hf46⟩:=iZ (H:=H18) (i:=0) (l:=l15) (enc:=cI) hS19 rfl a8
 have hlq:=hl45; have hln48:=congrArg List.length hl45
 have hz47:∀ m,freeze false { H18 with aT:=[] } (m+2) v14=some (gk r44):=λm=>hf46 _ _ (λ_=>rfl)
 obtain ⟨r49,hl50,hf51⟩:=iZ (H:=H18) (i:=1) (l:=l17) (enc:=cI) hS19 rfl a8
 have hlq:=hl50; have hln53:=congrArg List.length hl50
 have hz52:∀ m,freeze false { H18 with aT:=[] } (m+2) v16=some (gk r49):=λm=>hf51 _ _ (λ_=>rfl)
 exact ⟨.fG [v14,v16],(ia (vs:=[v14,v16]) rfl (ei (Sep.arg (i:=0) hS19 rfl) (ei (Sep.arg (i:=1) hS19 rfl) fT))),.fG [gk r44,gk r49],(show freeze false { H18 with aT:=[] } 8 (.fG [v14,v16])=some (.fG [gk r44,gk r49]) by simp only [FZ,hz47,hz52]),r44,r49,cy,rfl⟩
 refine nR ?_
 exact eT
def t12 (a0:Row Int) (a1:ff Int) :Ct 12 [gk a0,nj a1] (λv=>∃ r0:Bool,((a0.l=a1.l->r0=true))/\v=.bool r0):=by
 refine fR Sv ?_
 refine fS ?_
 have hL1:=a0.lk
 refine aF ?_
 have hL2:=a1.lk
 refine be rfl (λ_=>mj (r:=a1) (enc:=cI) rfl rfl rfl rfl rfl rfl) ?_
 refine iV (λh3=>?_) (λh3=>?_)
 refine gz ?_
 exact xB ⟨false,cD,rfl⟩
 refine gl ?_
 have hNk4:=a0.lk
 refine e8 a0.l.length (λk4 e h=>At [0,1,5] [gk a0,nj a1,cr k4] au.empty [] e h) ?_ (k0:=0) bh atR
 rintro k4 e h hkk4 hA
 refine aw ?_
 have hL5:=a0.lk
 refine gL a0 ?_
 refine fQ (λh6=>?_) (λh6=>?_)
 refine aW ?_
 have hx7:k4<a0.l.length:=by omega
 refine ni k4 a0 hx7 ?_
 generalize hqx8:a0.l[k4]=x8
 refine jG ?_
 have hx9:k4<a1.l.length:=by omega
 refine fD rfl rfl (λ_=>nA (n:=k4) (r:=a1) (enc:=cI) rfl rfl rfl rfl rfl hx9 rfl) ?_
 generalize hqx10:a1.l[k4]=x10
 refine rV ?_
 refine yy (λh11=>?_) (λh11=>?_)
 refine aD ?_
 exact xB ⟨false,cD,rfl⟩
 refine lu ?_
 refine oV ?_
 refine be rfl (λ_=>ca rfl rfl rfl (ej ((k4:Int)) 1 aY aY)) ?_
 refine e9 ?_
 exact dJ
 refine fS ?_
 exact xB ⟨true,cD,rfl⟩
def P4 (v:AV):Prop:=∃ r0:Bool,(r0=true)/\v=.bool r0
def t4 (h:au):∃ v,fh cfg FT fK false 4 [] h v h/\P4 v:=by
 refine ⟨.bool true,⟨1,λk hk=>?_⟩,true,rfl,rfl⟩
 obtain ⟨k,rfl⟩:∃ k',k=k'+1:=⟨k - 1,by omega⟩
 rfl
def t3 (a0:bY) (a1:Row Int) (a2:Int) (qc:a0.canon=a0) (hJg:JG a0):Ct 3 [.agg (bY.ai a0),gk a1,iv a2] (λv=>∃ r0:Bool,(r0=true)/\v=.bool r0):=by
 refine fR YS ?_
 refine fS ?_
 refine oC (t4) ?_
 rintro _ ⟨r2,hc1,rfl⟩
 have h4:=hc1
 cases r2
 refine fS ?_
 exact eF
 refine fk ?_
 refine wy [gk a1,iv a2,.la 3 0] [(3,(bY.ai a0))] ?_
 refine fo ?_
 refine oC (t5 a0 aZ) ?_
 rintro _ ⟨r4,r5,hc3,rfl⟩
 have hBt:=hc3
 cases r5
 clear hc3
 refine Si ?_
 exact eG
 have hc3t:=hc3 rfl
 have hBt:=hc3t
 obtain ⟨hFw,h64,⟨hPl0,nx,hnk,hnx⟩,hBd,hSmall,hRd⟩:=hBt
 have hFe0:=hFw.elems; have hFs0:=hFw.signals
 refine mw ?_
 have hL6:=a1.lk
 refine gL a1 ?_
 refine jI (λh7=>?_) (λh7=>?_)
 refine fS ?_
 exact eG
 refine fk ?_
 refine wy [gk a1,iv a2,.la 3 0,.la 7 0] [(3,(bY.ai a0)),(7,(fz.ai r4))] ?_
 refine fo ?_
 have hPc:r4.cB=a0:=hPl0.trans qc
 have hF1:j1 r4.cB:=by rw [hPc]; exact hFw
 have hB1:rs 17 [.agg (bY.ai r4.cB)]=.fG [.agg (fz.ai r4),iv 0]:=by rw [hPc]; exact hBd
 have hX1:∃ nx:fw,sA nx r4.cB/\rs 19 [.agg (bY.ai r4.cB)]=.fG [.ip (fw.ai nx) 0 false,iv 0]:=by rw [hPc]; exact ⟨nx,hnk,hnx⟩
 refine gA (H:=au.empty) (args:=[.agg (fz.ai r4)]) (p:=[]) (r:=[]) rfl rfl rfl rfl rfl rfl rfl (u6 r4 ([]) gJ aZ aZ aZ aZ) ?_
 rintro _ H9 ⟨b012,vlv13,lvl14,bb15,ke16,vms17,vmz18,vmd19,vmg20,bt21,nt22,vmr23,vas24,asl25,hc11,hS10,rfl⟩
 obtain ⟨hN1,hN2,hN3,hN4,hN5⟩:=hc11
 refine mw ?_
 refine wz [gk a1,iv a2,.la 3 0,.la 7 0,(eX b012)] H9 [(3,(bY.ai a0)),(7,(fz.ai r4))] ?_
 refine lu ?_
 have hL26:=a0.elems.lk
 refine rl a0.elems ?_
 refine iH rfl rfl (oM (m:=a0.elems.l.length) hS10 rfl rfl rfl rfl rfl aY bf) ?_
 rintro v27 H28 hS29
 have hS31:=Sep.yG (enc:=fM) (z:=false) hS29 rfl
 refine lj ?_
 have hL32:=a0.elems.lk
 refine rl a0.elems ?_
 refine iH rfl rfl (oM (m:=a0.elems.l.length) hS31 rfl rfl rfl rfl rfl aY bf) ?_
 rintro v33 H34 hS35
 have hS37:=Sep.yG (enc:=cI) (z:=(0)) hS35 rfl
 refine lj ?_
 have hL38:=a0.signals.lk
 refine rl a0.signals ?_
 refine iH rfl rfl (oM (m:=a0.signals.l.length) hS37 rfl rfl rfl rfl rfl aY bf) ?_
 rintro v39 H40 hS41
 have hS43:=Sep.yG (enc:=fM) (z:=false) hS41 rfl
 refine lj ?_
 have hL44:=a0.signals.lk
 refine rl a0.signals ?_
 refine iH rfl rfl (oM (m:=a0.signals.l.length) hS43 rfl rfl rfl rfl rfl aY bf) ?_
 rintro v45 H46 hS47
 have hS49:=Sep.yG (enc:=fM) (z:=false) hS47 rfl
 refine fD rfl rfl (λ_=>IV rfl rfl rfl (nH rfl rfl (jx rfl rfl (Sep.cell (i:=3) hS49 rfl)) (ei (Sep.cell (i:=3) hS49 rfl) fT) rfl (nH rfl rfl (jx rfl rfl (Sep.cell (i:=2) hS49 rfl)) (ei (Sep.cell (i:=2) hS49 rfl) fT) rfl (nH rfl rfl (jx rfl rfl (Sep.cell (i:=1) hS49 rfl)) (ei (Sep.cell (i:=1) hS49 rfl) fT) rfl (nH rfl rfl (jx rfl rfl (Sep.cell (i:=0) hS49 rfl)) (ei (Sep.cell (i:=0) hS49 rfl) fT) rfl rfl))))) ?_
 refine rV ?_
 refine fD rfl rfl (λ_=>pf rfl rfl rfl rfl (ei (Sep.cell (i:=3) hS49 rfl) (ei (Sep.cell (i:=2) hS49 rfl) (ei (Sep.cell (i:=1) hS49 rfl) (ei (Sep.cell (i:=0) hS49 rfl) fT)))) rfl rfl) ?_
 refine jG ?_
 refine fo ?_
 have hS50:=Sep.nB (i:=5) hS49 rfl
 have hS51:=Sep.nB (i:=13) hS50 rfl
 have hS52:=Sep.nB (i:=3) hS51 rfl
 have hS53:=Sep.nB (i:=2) hS52 rfl
 have hS54:=Sep.nB (i:=1) hS53 rfl
 have hS55:=Sep.nB (i:=0) hS54 rfl
 have hBk0:=VI
 have hFam:lP [] []:=lP.nil
 have hTi0:vS r4 lvl14 ke16 []:=Qt hN4
 have hq1:=hN1.Cz
 have hq2:=Zm hRd
 have hq3:=Ss hN1
 have hq8:(List.replicate a0.elems.l.length false).length=r4.cB.elems.l.length/\(List.replicate a0.elems.l.length ((0):Int)).length=r4.cB.elems.l.length/\(List.replicate a0.signals.l.length false).length=r4.cB.signals.l.length/\(List.replicate a0.signals.l.length false).length=r4.cB.signals.l.length:=by rw [hPc]; simp
 have hFe1:r4.cB.elems.l.length<=60:=hF1.elems
 have hS56:=Sep.pick hS55 [4,5,6,7,8,9,10,11,12,13,3,2,1,0] 14 bf bf
 have hFm:lP [] ([]):=hFam
 refine gA (H:=H46) (args:=[(eX b012),.agg [v27,v33,v39,v45],gk a1,ee]) (p:=[]) (r:=[]) rfl rfl rfl rfl rfl rfl rfl (u7 b012 r4 vlv13 lvl14 vas24 asl25 bb15 ke16 vms17 [] vmz18 [] vmd19 [] vmg20 [] bt21 nt22 vmr23 [] v27 (List.replicate a0.elems.l.length false) v33 (List.replicate a0.elems.l.length ((0):Int)) v39 (List.replicate a0.signals.l.length false) v45 (List.replicate a0.signals.l.length false) a1 ([]) hS56 aZ aZ aZ aZ aZ aZ aZ aZ aZ aZ aZ aZ aZ) ?_
 rintro _ H57 ⟨vlv160,lvl161,y162,z163,d164,g165,ru166,asr67,N68,u169,u270,u371,u472,hc59,hS58,rfl⟩
 have hS73:Sep H57 (gi b012 [fA r4.cB.elems,fJ r4.cB.fj,fP r4.cB.signals,fy r4.cB.lines,iv r4.cB.top,iv r4.cB.gD,iv r4.cB.gu,iv r4.cB.gw,.bool r4.cB.gE,gm r4.roads,vlv160,(eX bb15),(eX bt21),gk asr67]::gy fC.ai 4 vlv160 lvl161::gi bb15 [iv ke16,vms17,vmz18,vmd19,vmg20]::.map vms17 (cA iK kx y162)::.map vmz18 (cA iK (Row.av cI) z163)::.map vmd19 (cA iK (Row.av bm.ai) d164)::.map vmg20 (cA iK (Row.av bm.ai) g165)::gi bt21 [.ip (fw.ai nt22) 0 false,vmr23]::.map vmr23 (cA nK bK ru166)::gy fM 1 v27 (List.replicate a0.elems.l.length false)::gy cI 1 v33 (List.replicate a0.elems.l.length ((0):Int))::gy fM 1 v39 (List.replicate a0.signals.l.length false)::gy fM 1 v45 (List.replicate a0.signals.l.length false)::(N68++[])):=Sep.PU (A:=[gi b012 [fA r4.cB.elems,fJ r4.cB.fj,fP r4.cB.signals,fy r4.cB.lines,iv r4.cB.top,iv r4.cB.gD,iv r4.cB.gu,iv r4.cB.gw,.bool r4.cB.gE,gm r4.roads,vlv160,(eX bb15),(eX bt21),gk asr67],gy fC.ai 4 vlv160 lvl161,gi bb15 [iv ke16,vms17,vmz18,vmd19,vmg20],.map vms17 (cA iK kx y162),.map vmz18 (cA iK (Row.av cI) z163),.map vmd19 (cA iK (Row.av bm.ai) d164),.map vmg20 (cA iK (Row.av bm.ai) g165),gi bt21 [.ip (fw.ai nt22) 0 false,vmr23],.map vmr23 (cA nK bK ru166),gy fM 1 v27 (List.replicate a0.elems.l.length false),gy cI 1 v33 (List.replicate a0.elems.l.length ((0):Int)),gy fM 1 v39 (List.replicate a0.signals.l.length false),gy fM 1 v45 (List.replicate a0.signals.l.length false)]) (B:=[]) (N:=N68) (F:=[]) hS58
 obtain ⟨hTi,hBk,hFam,hLl,hAs,hSe⟩:=hc59
 refine gq ?_
 refine lJ hS73 1 λr74 hl75 hln78 hz77=>?_
 obtain ⟨S79,hm80,hz81⟩:=qU hS73 (i:=3) rfl hFam.cons.cons.cons.cons.cons.cons.cons.cons.cons.cons.cons.cons.cons
 have hz82:∀ m,freeze true { H57 with aT:=[] } (m+3) vmz18=some (.fm (cA iK (Row.av cI) z163) true):=λm=>gU (i:=4) hS73 rfl [] _ (ij λ_=>iE _)
 have hz83:∀ m,freeze true { H57 with aT:=[] } (m+3) vmd19=some (.fm (cA iK (Row.av bm.ai) d164) true):=λm=>gU (i:=5) hS73 rfl [] _ (ij λ_=>iE _)
 have hz84:∀ m,freeze true { H57 with aT:=[] } (m+3) vmg20=some (.fm (cA iK (Row.av bm.ai) g165) true):=λm=>gU (i:=6) hS73 rfl [] _ (ij λ_=>iE _)
 have hz85:∀ m,freeze true { H57 with aT:=[] } (m+4) (eX bb15)=some (.ip [iv ke16,.fm (cA iK (ff.av cI) S79) true,.fm (cA iK (Row.av cI) z163) true,.fm (cA iK (Row.av bm.ai) d164) true,.fm (cA iK (Row.av bm.ai) g165) true] 0 true):=λm=>jh (i:=2) hS73 rfl [] _ (by simp only [FZ,hz77,hz81,hz82,hz83,hz84]; try rfl)
 have hz86:∀ m,freeze true { H57 with aT:=[] } (m+3) vmr23=some (.fm (cA nK bK ru166) true):=λm=>gU (i:=8) hS73 rfl [] _ (ij λ_=>rfl)
 have hz87:∀ m,freeze true { H57 with aT:=[] } (m+4) (eX bt21)=some (.ip [.ip (fw.ai nt22) 0 false,.fm (cA nK bK ru166) true] 0 true):=λm=>jh (i:=7) hS73 rfl [] _ (by simp only [FZ,hz77,hz81,hz82,hz83,hz84,hz85,hz86]; try rfl)
 have hz88:∀ m,freeze true { H57 with aT:=[] } (m+5) (eX b012)=some (.ip [fA r4.cB.elems,fJ r4.cB.fj,fP r4.cB.signals,fy r4.cB.lines,iv r4.cB.top,iv r4.cB.gD,iv r4.cB.gu,iv r4.cB.gw,.bool r4.cB.gE,gm r4.roads,ff.av fC.ai r74,.ip [iv ke16,.fm (cA iK (ff.av cI) S79) true,.fm (cA iK (Row.av cI) z163) true,.fm (cA iK (Row.av bm.ai) d164) true,.fm (cA iK (Row.av bm.ai) g165) true] 0 true,.ip [.ip (fw.ai nt22) 0 false,.fm (cA nK bK ru166) true] 0 true,gk asr67] 0 true):=λm=>jh (i:=0) hS73 rfl [] _ (by simp only [FZ,hz77,hz81,hz82,hz83,hz84,hz85,hz86,hz87]; try rfl)
 have hPB1:(⟨ke16,S79,z163,d164,g165⟩:fq).pl=rL _ _ _ _:=sx hm80
 have hBx1:oL (⟨r4,r74,(⟨ke16,S79,z163,d164,g165⟩:fq),(⟨nt22,ru166⟩:iy),(Row.ji asr67)⟩:iQ):=GC hPB1 hl75 hBk hTi hN2 bh bh hSe hRd hFe1
 refine kD (args:=[(eX b012),iv a2]) (p:=[]) (r:=[]) (args':=[.ip [fA r4.cB.elems,fJ r4.cB.fj,fP r4.cB.signals,fy r4.cB.lines,iv r4.cB.top,iv r4.cB.gD,iv r4.cB.gu,iv r4.cB.gw,.bool r4.cB.gE,gm r4.roads,ff.av fC.ai r74,.ip [iv ke16,.fm (cA iK (ff.av cI) S79) true,.fm (cA iK (Row.av cI) z163) true,.fm (cA iK (Row.av bm.ai) d164) true,.fm (cA iK (Row.av bm.ai) g165) true] 0 true,.ip [.ip (fw.ai nt22) 0 false,.fm (cA nK bK ru166) true] 0 true,gk asr67] 0 true,iv a2]) (R:=P8 (⟨r4,r74,(⟨ke16,S79,z163,d164,g165⟩:fq),(⟨nt22,ru166⟩:iy),(Row.ji asr67)⟩:iQ) a2) rfl rfl rfl rfl rfl rfl rfl cC (gG (by show fU (freeze true { H57 with aT:=[] } 8) [(eX b012),iv a2] = _; simp only [FZ,hz77,hz81,hz82,hz83,hz84,hz85,hz86,hz87,hz88]) (ei rfl (ei rfl fT))) (gG bV (ei rfl (ei rfl fT))) (λh=>t8 (⟨r4,r74,(⟨ke16,S79,z163,d164,g165⟩:fq),(⟨nt22,ru166⟩:iy),(Row.ji asr67)⟩:iQ) a2 aZ aZ aZ h) ?_
 rintro _ ⟨r90,r91,hc89,rfl⟩
 have hLk1:=hc89; have hLv1:=hl75
 refine kP ?_
 refine lJ hS73 1 λr92 hl93 hln96 hz95=>?_
 obtain ⟨S97,hm98,hz99⟩:=qU hS73 (i:=3) rfl hFam.cons.cons.cons.cons.cons.cons.cons.cons.cons.cons.cons.cons.cons
 have hz100:∀ m,freeze true { H57 with aT:=[] } (m+3) vmz18=some (.fm (cA iK (Row.av cI) z163) true):=λm=>gU (i:=4) hS73 rfl [] _ (ij λ_=>iE _)
 have hz101:∀ m,freeze true { H57 with aT:=[] } (m+3) vmd19=some (.fm (cA iK (Row.av bm.ai) d164) true):=λm=>gU (i:=5) hS73 rfl [] _ (ij λ_=>iE _)
 have hz102:∀ m,freeze true { H57 with aT:=[] } (m+3) vmg20=some (.fm (cA iK (Row.av bm.ai) g165) true):=λm=>gU (i:=6) hS73 rfl [] _ (ij λ_=>iE _)
 have hz103:∀ m,freeze true { H57 with aT:=[] } (m+4) (eX bb15)=some (.ip [iv ke16,.fm (cA iK (ff.av cI) S97) true,.fm (cA iK (Row.av cI) z163) true,.fm (cA iK (Row.av bm.ai) d164) true,.fm (cA iK (Row.av bm.ai) g165) true] 0 true):=λm=>jh (i:=2) hS73 rfl [] _ (by simp only [FZ,hz95,hz99,hz100,hz101,hz102]; try rfl)
 have hz104:∀ m,freeze true { H57 with aT:=[] } (m+3) vmr23=some (.fm (cA nK bK ru166) true):=λm=>gU (i:=8) hS73 rfl [] _ (ij λ_=>rfl)
 have hz105:∀ m,freeze true { H57 with aT:=[] } (m+4) (eX bt21)=some (.ip [.ip (fw.ai nt22) 0 false,.fm (cA nK bK ru166) true] 0 true):=λm=>jh (i:=7) hS73 rfl [] _ (by simp only [FZ,hz95,hz99,hz100,hz101,hz102,hz103,hz104]; try rfl)
 have hz106:∀ m,freeze true { H57 with aT:=[] } (m+5) (eX b012)=some (.ip [fA r4.cB.elems,fJ r4.cB.fj,fP r4.cB.signals,fy r4.cB.lines,iv r4.cB.top,iv r4.cB.gD,iv r4.cB.gu,iv r4.cB.gw,.bool r4.cB.gE,gm r4.roads,ff.av fC.ai r92,.ip [iv ke16,.fm (cA iK (ff.av cI) S97) true,.fm (cA iK (Row.av cI) z163) true,.fm (cA iK (Row.av bm.ai) d164) true,.fm (cA iK (Row.av bm.ai) g165) true] 0 true,.ip [.ip (fw.ai nt22) 0 false,.fm (cA nK bK ru166) true] 0 true,gk asr67] 0 true):=λm=>jh (i:=0) hS73 rfl [] _ (by simp only [FZ,hz95,hz99,hz100,hz101,hz102,hz103,hz104,hz105]; try rfl)
 have hPB2:(⟨ke16,S97,z163,d164,g165⟩:fq).pl=rL _ _ _ _:=sx hm98
 have hBx2:oL (⟨r4,r92,(⟨ke16,S97,z163,d164,g165⟩:fq),(⟨nt22,ru166⟩:iy),(Row.ji asr67)⟩:iQ):=GC hPB2 hl93 hBk hTi hN2 bh bh hSe hRd hFe1
 refine kD (args:=[.agg (fz.ai r4),(eX b012),iv a2]) (p:=[]) (r:=[]) (args':=[.agg (fz.ai r4),.ip [fA r4.cB.elems,fJ r4.cB.fj,fP r4.cB.signals,fy r4.cB.lines,iv r4.cB.top,iv r4.cB.gD,iv r4.cB.gu,iv r4.cB.gw,.bool r4.cB.gE,gm r4.roads,ff.av fC.ai r92,.ip [iv ke16,.fm (cA iK (ff.av cI) S97) true,.fm (cA iK (Row.av cI) z163) true,.fm (cA iK (Row.av bm.ai) d164) true,.fm (cA iK (Row.av bm.ai) g165) true] 0 true,.ip [.ip (fw.ai nt22) 0 false,.fm (cA nK bK ru166) true] 0 true,gk asr67] 0 true,iv a2]) (R:=P9 r4 (⟨r4,r92,(⟨ke16,S97,z163,d164,g165⟩:fq),(⟨nt22,ru166⟩:iy),(Row.ji asr67)⟩:iQ) a2) rfl rfl rfl rfl rfl rfl rfl cC (gG (by show fU (freeze true { H57 with aT:=[] } 8) [.agg (fz.ai r4),(eX b012),iv a2] = _; simp only [FZ,hz95,hz99,hz100,hz101,hz102,hz103,hz104,hz105,hz106]) (ei rfl (ei rfl (ei rfl fT)))) (gG bV (ei rfl (ei rfl (ei rfl fT)))) (λh=>t9 r4 (⟨r4,r92,(⟨ke16,S97,z163,d164,g165⟩:fq),(⟨nt22,ru166⟩:iy),(Row.ji asr67)⟩:iQ) a2 aZ aZ h) ?_
 rintro _ ⟨r108,r109,hc107,rfl⟩
 have hLk2:=hc107; have hE1:=Rv hLk1.1 hLk2.1 hPB1 hPB2; have hE2:=Tp hLk1.2 hLk2.2 hLv1 hl93 rfl
 refine gl ?_
 have hS110:=Sep.pick hS73 [0,2,3,4,5,6,1,7,8,9,10,11,12] 13 bf bf
 refine gA (H:=H57) (args:=[(eX b012)]) (p:=[]) (r:=[]) rfl rfl rfl rfl rfl rfl rfl (u10 b012 r4 vlv160 (eX bt21) (gk asr67) bb15 ke16 vms17 y162 vmz18 z163 vmd19 d164 vmg20 g165 (gy fC.ai 4 vlv160 lvl161::gi bt21 [.ip (fw.ai nt22) 0 false,vmr23]::.map vmr23 (cA nK bK ru166)::gy fM 1 v27 (List.replicate a0.elems.l.length false)::gy cI 1 v33 (List.replicate a0.elems.l.length ((0):Int))::gy fM 1 v39 (List.replicate a0.signals.l.length false)::gy fM 1 v45 (List.replicate a0.signals.l.length false)::(N68++[])) hS110) ?_
 rintro _ H111 ⟨bq114,ws115,wz_116,wd117,wg118,hc113,hS112,rfl⟩
 refine gS ?_
 have hL119:=r90.lk
 refine gL r90 ?_
 refine fo ?_
 have hNk120:=r90.lk
 refine e8 r90.l.length (λk120 e h=>At [2,12,13,14,15,16,76,77,78] [iv a2,gk r90,gk r91,gk r108,gk r109,(eX bq114),gk r90,cr r90.l.length,cr k120] H111 [] e h) ?_ (k0:=0) bh atR
 rintro k120 e h hkk120 hA
 refine aa ?_
 refine fQ (λh121=>?_) (λh121=>?_)
 refine fk ?_
 refine wz [iv a2,gk r90,gk r91,gk r108,gk r109,(eX bq114),gk r90,cr r90.l.length,cr k120] H111 [] ?_
 refine fk ?_
 have hx122:k120<r90.l.length:=by omega
 refine jn k120 r90 hx122 ?_
 generalize hqx123:r90.l[k120]=x123
 have hinx123:x123∈r90.l:=by rw [<- hqx123]; exact List.getElem_mem _
 have hsX:=(hLk1.1.2 x123).1 hinx123
 refine gz ?_
 obtain ⟨S124,hm125,hz126⟩:=qU hS112 (i:=7) rfl hFam.cons.cons.cons.cons.cons.cons.cons.cons.cons.cons.cons.cons.cons.cons.cons.cons.cons.cons
 have hz127:∀ m,freeze true { H111 with aT:=[] } (m+3) wz_116=some (.fm (cA iK (Row.av cI) z163) true):=λm=>gU (i:=8) hS112 rfl [] _ (ij λ_=>iE _)
 have hz128:∀ m,freeze true { H111 with aT:=[] } (m+3) wd117=some (.fm (cA iK (Row.av bm.ai) d164) true):=λm=>gU (i:=9) hS112 rfl [] _ (ij λ_=>iE _)
 have hz129:∀ m,freeze true { H111 with aT:=[] } (m+3) wg118=some (.fm (cA iK (Row.av bm.ai) g165) true):=λm=>gU (i:=10) hS112 rfl [] _ (ij λ_=>iE _)
 have hz130:∀ m,freeze true { H111 with aT:=[] } (m+4) (eX bq114)=some (.ip [iv ke16,.fm (cA iK (ff.av cI) S124) true,.fm (cA iK (Row.av cI) z163) true,.fm (cA iK (Row.av bm.ai) d164) true,.fm (cA iK (Row.av bm.ai) g165) true] 0 true):=λm=>jh (i:=6) hS112 rfl [] _ (by simp only [FZ,hz126,hz127,hz128,hz129]; try rfl)
 have hBq:mn (⟨ke16,S124,z163,d164,g165⟩:fq).pl:=by rw [sx hm125]; exact hBk
 have hPB3:(⟨ke16,S124,z163,d164,g165⟩:fq).pl=rL _ _ _ _:=sx hm125
 refine y7 (args:=[(eX bq114),iv x123]) (p:=[]) (r:=[]) (args':=[.ip [iv ke16,.fm (cA iK (ff.av cI) S124) true,.fm (cA iK (Row.av cI) z163) true,.fm (cA iK (Row.av bm.ai) d164) true,.fm (cA iK (Row.av bm.ai) g165) true] 0 true,iv x123]) (R:=PF (⟨ke16,S124,z163,d164,g165⟩:fq) x123) rfl rfl rfl rfl rfl rfl rfl Co (gG (by show fU (freeze true { H111 with aT:=[] } 8) [(eX bq114),iv x123] = _; simp only [FZ,hz126,hz127,hz128,hz129,hz130]) (ei rfl (ei rfl fT))) (gG bV (ei rfl (ei rfl fT))) (λh=>t11 (⟨ke16,S124,z163,d164,g165⟩:fq) x123 aZ h) ?_
 rintro _ ⟨r132,hc131,rfl⟩
 have hOw:=hc131
 have hOr:=QW hBk hc131 hsX hPB1 hPB3
 refine oV ?_
 refine iV (λh133=>?_) (λh133=>?_)
 exfalso; omega
 refine fo ?_
 refine wz [iv a2,gk r90,gk r91,gk r108,gk r109,(eX bq114),gk r90,cr r90.l.length,cr k120] H111 [] ?_
 refine qg ?_
 refine be rfl (λ_=>ca rfl rfl rfl (ej ((k120:Int)) 1 aY aY)) ?_
 refine e9 ?_
 exact dJ
 refine fk ?_
 refine wz [gk r90,gk r91,gk r108,gk r109] H111 [] ?_
 refine fk ?_
 refine oC (t12 r90 (Row.ji r108)) ?_
 rintro _ ⟨r135,hc134,rfl⟩
 have hSm:=hc134
 have hSa1:=hc134 dG
 cases r135
 refine fS ?_
 exact eF
 refine fo ?_
 refine oC (t12 r91 (Row.ji r109)) ?_
 rintro _ ⟨r137,hc136,rfl⟩
 have hSm:=hc136
 have hSa2:=hc136 dG
 cases r137
 refine fk ?_
 exact eF
 refine fk ?_
 exact eG
def Wq (a0:bm) (a1:bm) :YC 146 [.agg (bm.ai a0),.agg (bm.ai a1)] (λv=>∃ r0:Int,(r0=IntKind.i64.wrap (a0.elem - a1.elem))/\v=iv r0):=by
 refine Qs Pp ?_
 refine j9 ?_
 refine be rfl (λ_=>ca rfl rfl rfl (pJ .i64 a0.elem a1.elem)) ?_
 refine fo ?_
 exact xB ⟨(IntKind.i64.wrap (a0.elem - a1.elem)),c7,rfl⟩
end Go.Sx
