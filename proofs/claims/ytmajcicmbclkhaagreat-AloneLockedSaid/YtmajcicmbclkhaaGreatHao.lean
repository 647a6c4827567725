/- Proves what functions of the program answer. -/
import Derived.Test.YtmajcicmbclkhaaGreatHan
set_option linter.all false
set_option maxRecDepth 100000
set_option maxHeartbeats 0
namespace Go.Sx
open Go Go.Proofs
def TG (a0:bY) (q1:j1 a0):Ct 19 [.agg (bY.ai a0)] (λv=>(∃ r0:fw,(sA r0 a0)/\v=.fG [.ip (fw.ai r0) 0 false,iv 0])\/(∃ r1:Int,(r1≠0)/\v=.fG [.iL,iv r1])):=by
 refine fR SZ ?_
 have q2:=q1.fj; have q3:=q1.signals; have q4:=q1.lines
 refine hZ ?_
 refine oC (t60 a0) ?_
 rintro _ ⟨r2,hc1,rfl⟩
 have hC89:=hc1
 refine gq ?_
 refine iV (λh3=>?_) (λh3=>?_)
 refine gl ?_
 refine xG (.inr (⟨r2,c6,rfl⟩))
 refine fo ?_
 refine wy [.la 1 0] [(1,(bY.ai a0))] ?_
 refine fo ?_
 refine oC (t61 a0 aZ) ?_
 rintro _ ⟨r5,hc4,rfl⟩
 have hC90:=hc4
 refine gj rfl (iW gJ) ?_
 rintro _ H7 ⟨b6,rfl,hS8⟩
 refine gj rfl (iW hS8) ?_
 rintro _ H10 ⟨b9,rfl,hS11⟩
 refine gj rfl (iW hS11) ?_
 rintro _ H13 ⟨b12,rfl,hS14⟩
 refine gj rfl (iW hS14) ?_
 rintro _ H16 ⟨b15,rfl,hS17⟩
 refine oV ?_
 refine gj rfl (o3 hS17 rfl rfl rfl rfl rfl) ?_
 rintro _ H19 ⟨b18,rfl,hS20⟩
 refine gz ?_
 have hL21:=a0.fj.lk
 refine gL a0.fj ?_
 refine fo ?_
 have hNk22:=a0.fj.lk
 refine e8 a0.fj.l.length (λme e h=>∃ l23:List (eU×eU),∃ H24:au,(∀ x:eU,look x l23=j8 (a0.fj.l.take me) x)/\(l23.length<=2*me)/\(∀ y∈(l23:List (eU×eU)),pc a0 y.2)/\Sep H24 (gi b18 [fA r5.elems,fJ r5.fj,fP r5.signals,fy r5.lines,iv r5.top,iv r5.gD,iv r5.gu,iv r5.gw,.bool r5.gE,(.hm b6),(.hm b9),(.hm b12),(.hm b15)]::kb b15 iK iK []::kb b12 iK sb []::kb b9 pK iK []::kb b6 pK pK l23::[])/\At [1,5,31,32,33] [.la 1 0,(eX b18),fJ a0.fj,cr a0.fj.l.length,cr me] H24 [(1,(bY.ai a0))] e h) ?_ (k0:=0) bh ⟨([]),H19,dE,ci,ci,hS20,atR⟩
 rintro me e h hkk22 ⟨l23,H24,hD,hN,hNg,hS25,hA⟩
 refine aa ?_
 refine fQ (λh26=>?_) (λh26=>?_)
 refine fk ?_
 refine wz [.la 1 0,(eX b18),fJ a0.fj,cr a0.fj.l.length,cr me] H24 [(1,(bY.ai a0))] ?_
 refine fk ?_
 have hx27:me<a0.fj.l.length:=by omega
 refine jn me a0.fj hx27 ?_
 generalize hqx28:a0.fj.l[me]=x28
 have hinx28:x28∈a0.fj.l:=by rw [<- hqx28]; exact List.getElem_mem _
 obtain ⟨hgax28,hgbx28⟩:=XM (hC89 bh).2.2.2.2.2.2.jv (hC89 bh).2.2.2.1 x28 hinx28
 refine gq ?_
 refine rV ?_
 refine aX ?_
 refine jG ?_
 refine aX ?_
 refine vD ?_
 refine uf rfl rfl (qJ (H:=H24) (i:=4) (ek:=pK) (ev:=pK) (l:=l23) x28.a x28.b hS25 rfl rfl rfl rfl rfl rfl rfl rfl rfl jU) ?_
 rintro _ H29 ⟨w30,n31,H32,rfl,hop33,hS34⟩
 refine ⟨λcall=>(mH (gC rfl rfl rfl rfl rfl cu) (mH (gC rfl rfl rfl rfl rfl cu) (nz (gC rfl rfl rfl rfl rfl cu)))),?_⟩
 refine rV ?_
 refine BR rfl rfl ⟨0,λ_ _=>hop33 _ _ _ _ _ _ _ _ rfl rfl rfl⟩ (λcall=>(mH (gC rfl rfl rfl rfl rfl cu) (nz (gC rfl rfl rfl rfl rfl cu)))) ?_
 refine uf rfl rfl (qJ (H:=H32) (i:=4) (ek:=pK) (ev:=pK) (l:=(put x28.a x28.b l23)) x28.b x28.a hS34 rfl rfl rfl rfl rfl rfl rfl rfl rfl jU) ?_
 rintro _ H35 ⟨w36,n37,H38,rfl,hop39,hS40⟩
 refine ⟨λcall=>(nz (gC rfl rfl rfl rfl rfl cu)),?_⟩
 refine rV ?_
 refine fD rfl rfl (λ_=>hop39 _ _ _ _ _ _ _ _ rfl rfl rfl) ?_
 refine rN ?_
 refine wz [.la 1 0,(eX b18),fJ a0.fj,cr a0.fj.l.length,cr me] H38 [(1,(bY.ai a0))] ?_
 refine qg ?_
 refine be rfl (λ_=>ca rfl rfl rfl (ej ((me:Int)) 1 aY aY)) ?_
 refine e9 ?_
 exact ⟨by omega,((put x28.b x28.a (put x28.a x28.b l23))),H38,(by exact Nu a6 a6 (hC89 bh).1 hD),(by exact Nw hN),(by exact qL (P:=λy:eU=>pc a0 y) (qL (P:=λy:eU=>pc a0 y) hNg a6) a6),hS40,atR⟩
 refine fk ?_
 refine wz [.la 1 0,(eX b18)] H24 [(1,(bY.ai a0))] ?_
 refine gq ?_
 have hL41:=a0.signals.lk
 refine aP ?_
 have hNk42:=a0.signals.lk
 refine e8 a0.signals.l.length (λuZ e h=>∃ l43:List (eU×Int),∃ H44:au,(∀ x:eU,look x l43=nC (a0.signals.l.take uZ) x)/\Sep H44 (gi b18 [fA r5.elems,fJ r5.fj,fP r5.signals,fy r5.lines,iv r5.top,iv r5.gD,iv r5.gu,iv r5.gw,.bool r5.gE,(.hm b6),(.hm b9),(.hm b12),(.hm b15)]::kb b15 iK iK []::kb b12 iK sb []::kb b9 pK iK l43::kb b6 pK pK l23::[])/\At [1,5,59,60,61] [.la 1 0,(eX b18),fP a0.signals,cr a0.signals.l.length,cr uZ] H44 [(1,(bY.ai a0))] e h) ?_ (k0:=0) bh ⟨([]),H24,dE,hS25,atR⟩
 rintro uZ e h hkk42 ⟨l43,H44,hR,hS45,hA⟩
 refine aa ?_
 refine fQ (λh46=>?_) (λh46=>?_)
 refine fk ?_
 refine wz [.la 1 0,(eX b18),fP a0.signals,cr a0.signals.l.length,cr uZ] H44 [(1,(bY.ai a0))] ?_
 refine gq ?_
 have hx47:uZ<a0.signals.l.length:=by omega
 refine jn uZ a0.signals hx47 ?_
 generalize hqx48:a0.signals.l[uZ]=x48
 refine aG ?_
 refine nW 0 hS45 ?_
 refine mS 0 hS45 ?_
 refine l3 0 hS45 ((.hm b9)) ?_
 refine jG ?_
 refine iH rfl rfl (kI (H:=H44) (i:=3) (ek:=pK) (ev:=iK) (l:=l43) x48.at_ ((uZ:Int)) hS45 rfl rfl rfl rfl rfl rfl jU) ?_
 rintro _ H49 ⟨rfl,hS50⟩
 refine rN ?_
 refine wz [.la 1 0,(eX b18),fP a0.signals,cr a0.signals.l.length,cr uZ] H49 [(1,(bY.ai a0))] ?_
 refine qg ?_
 refine be rfl (λ_=>ca rfl rfl rfl (ej ((uZ:Int)) 1 aY aY)) ?_
 refine e9 ?_
 exact ⟨by omega,((put x48.at_ ((uZ:Int)) l43)),H49,(by exact I3 a6 a6 (hC89 bh).2.1 hR),hS50,atR⟩
 refine fk ?_
 refine wz [.la 1 0,(eX b18)] H44 [(1,(bY.ai a0))] ?_
 refine gq ?_
 have hL51:=a0.lines.lk
 refine gL a0.lines ?_
 refine fo ?_
 have hNk52:=a0.lines.lk
 refine e8 a0.lines.l.length (λkG e h=>∃ l53:List (Int×Int),∃ l54:List (Int×(Int×Int)),∃ H55:au,(qx a0 kG 0 l54)/\(xM l54 l53)/\Sep H55 (gi b18 [fA r5.elems,fJ r5.fj,fP r5.signals,fy r5.lines,iv r5.top,iv r5.gD,iv r5.gu,iv r5.gw,.bool r5.gE,(.hm b6),(.hm b9),(.hm b12),(.hm b15)]::kb b15 iK iK l53::kb b12 iK sb l54::kb b9 pK iK l43::kb b6 pK pK l23::[])/\At [5,75,76,77] [(eX b18),fy a0.lines,cr a0.lines.l.length,cr kG] H55 [] e h) ?_ (k0:=0) bh ⟨([]),([]),H44,(by exact qx.zero),(by (intro e y h; simp [look] at h)),hS45,atR⟩
 rintro kG e h hkk52 ⟨l53,l54,H55,hLi,hLe,hS56,hA⟩
 refine aa ?_
 refine fQ (λh57=>?_) (λh57=>?_)
 refine fk ?_
 refine wz [(eX b18),fy a0.lines,cr a0.lines.l.length,cr kG] H55 [] ?_
 refine gq ?_
 have hx58:kG<a0.lines.l.length:=by omega
 refine jn kG a0.lines hx58 ?_
 generalize hqx59:a0.lines.l[kG]=x59
 have hinx59:x59∈a0.lines.l:=by rw [<- hqx59]; exact List.getElem_mem _
 have hsx59:=q1.line x59 hinx59
 refine gl ?_
 refine BC (λE Z=>(E=[(5,(eX b18)),(10,cr kG),(11,.la 11 0),(12,iv 1),(75,fy a0.lines),(76,cr a0.lines.l.length),(77,cr kG)]/\Z = { H55 with aT:=[(11,(gp.ai x59))] })\/(E=[(5,(eX b18)),(10,cr kG),(11,.la 11 0),(12,iv 0),(75,fy a0.lines),(76,cr a0.lines.l.length),(77,cr kG)]/\Z = { H55 with aT:=[(11,(gp.ai x59))] })) ?_ ?_
 rintro _ _ (⟨rfl,rfl⟩ | ⟨rfl,rfl⟩)
 refine fk ?_
 have hL60:=x59.elems.lk
 refine gL x59.elems ?_
 refine fo ?_
 have hNk61:=x59.elems.lk
 refine e8 x59.elems.l.length (λpB e h=>∃ l62:List (Int×Int),∃ l63:List (Int×(Int×Int)),∃ n64:Int,∃ H65:au,(qx a0 kG pB l63)/\(xM l63 l62)/\Sep H65 (gi b18 [fA r5.elems,fJ r5.fj,fP r5.signals,fy r5.lines,iv r5.top,iv r5.gD,iv r5.gu,iv r5.gw,.bool r5.gE,(.hm b6),(.hm b9),(.hm b12),(.hm b15)]::kb b15 iK iK l62::kb b12 iK sb l63::kb b9 pK iK l43::kb b6 pK pK l23::[])/\At [5,10,12,75,76,77,110,111,112] [(eX b18),cr kG,iv n64,fy a0.lines,cr a0.lines.l.length,cr kG,gk x59.elems,cr x59.elems.l.length,cr pB] H65 [] e h) ?_ (k0:=0) bh ⟨l53,l54,1,H55,(by exact hLi),(by exact hLe),hS56,atR⟩
 rintro pB e h hkk61 ⟨l62,l63,n64,H65,hLi2,hLe2,hS66,hA⟩
 refine aa ?_
 refine fQ (λh67=>?_) (λh67=>?_)
 refine fk ?_
 refine wz [(eX b18),cr kG,iv n64,fy a0.lines,cr a0.lines.l.length,cr kG,gk x59.elems,cr x59.elems.l.length,cr pB] H65 [] ?_
 refine gq ?_
 have hx68:pB<x59.elems.l.length:=by omega
 refine jn pB x59.elems hx68 ?_
 generalize hqx69:x59.elems.l[pB]=x69
 refine aG ?_
 refine nW 0 hS66 ?_
 refine mS 0 hS66 ?_
 refine l3 0 hS66 ((.hm b12)) ?_
 refine lj ?_
 refine nW 0 hS66 ?_
 refine mS 0 hS66 ?_
 refine l3 0 hS66 ((.hm b15)) ?_
 refine lY ?_
 refine iH rfl rfl (qJ (H:=H65) (i:=2) (ek:=iK) (ev:=sb) (l:=l63) x69 (((kG:Int),(pB:Int))) hS66 rfl rfl rfl rfl rfl rfl rfl rfl rfl iF) ?_
 rintro _ H70 ⟨w71,n72,H73,rfl,hop74,hS75⟩
 refine rV ?_
 refine fD rfl rfl (λ_=>hop74 _ _ _ _ _ _ _ _ rfl rfl rfl) ?_
 refine iH rfl rfl (qJ (H:=H73) (i:=1) (ek:=iK) (ev:=iK) (l:=l62) x69 n64 hS75 rfl rfl rfl rfl rfl rfl rfl rfl rfl iF) ?_
 rintro _ H76 ⟨w77,n78,H79,rfl,hop80,hS81⟩
 refine rV ?_
 refine fD rfl rfl (λ_=>hop80 _ _ _ _ _ _ _ _ rfl rfl rfl) ?_
 refine lj ?_
 refine oV ?_
 refine Ao 0 hS81 ?_
 refine nO 0 hS81 ?_
 refine kW 0 hS81 ((.hm b6)) ?_
 refine e9 ?_
 refine be rfl (λ_=>ca rfl rfl rfl (pJ .i64 1 n64)) ?_
 refine oV ?_
 refine kg (H:=H79) (i:=4) (ek:=pK) (ev:=pK) (l:=l23) ((⟨x69,(IntKind.i64.wrap (1 - n64))⟩:eU)) rfl rfl hS81 rfl rfl rfl rfl rfl rfl rfl rfl jU (λy82 h83=>?_) (λh84=>?_)
 refine fo ?_
 refine wz [(eX b18),cr kG,iv y82.en,fy a0.lines,cr a0.lines.l.length,cr kG,gk x59.elems,cr x59.elems.l.length,cr pB] H79 [] ?_
 refine qg ?_
 refine be rfl (λ_=>ca rfl rfl rfl (ej ((pB:Int)) 1 aY aY)) ?_
 refine e9 ?_
 exact ⟨by omega,((put x69 n64 l62)),((put x69 (((kG:Int),(pB:Int))) l63)),y82.en,H79,cQ,du,hS81,atR⟩
 refine fo ?_
 refine wz [(eX b18),cr kG,iv 0,fy a0.lines,cr a0.lines.l.length,cr kG,gk x59.elems,cr x59.elems.l.length,cr pB] H79 [] ?_
 refine qg ?_
 refine be rfl (λ_=>ca rfl rfl rfl (ej ((pB:Int)) 1 aY aY)) ?_
 refine e9 ?_
 exact ⟨by omega,((put x69 n64 l62)),((put x69 (((kG:Int),(pB:Int))) l63)),0,H79,cQ,du,hS81,atR⟩
 refine fk ?_
 refine wz [(eX b18),fy a0.lines,cr a0.lines.l.length,cr kG] H65 [] ?_
 refine qg ?_
 refine be rfl (λ_=>ca rfl rfl rfl (ej ((kG:Int)) 1 aY aY)) ?_
 refine e9 ?_
 exact ⟨by omega,l62,l63,H65,(by exact hLi2.next a6 bh),(by exact hLe2),hS66,atR⟩
 refine fk ?_
 have hL85:=x59.elems.lk
 refine gL x59.elems ?_
 refine fo ?_
 have hNk86:=x59.elems.lk
 refine e8 x59.elems.l.length (λk86 e h=>∃ l87:List (Int×Int),∃ l88:List (Int×(Int×Int)),∃ n89:Int,∃ H90:au,(qx a0 kG k86 l88)/\(xM l88 l87)/\Sep H90 (gi b18 [fA r5.elems,fJ r5.fj,fP r5.signals,fy r5.lines,iv r5.top,iv r5.gD,iv r5.gu,iv r5.gw,.bool r5.gE,(.hm b6),(.hm b9),(.hm b12),(.hm b15)]::kb b15 iK iK l87::kb b12 iK sb l88::kb b9 pK iK l43::kb b6 pK pK l23::[])/\At [5,10,12,75,76,77,110,111,112] [(eX b18),cr kG,iv n89,fy a0.lines,cr a0.lines.l.length,cr kG,gk x59.elems,cr x59.elems.l.length,cr k86] H90 [] e h) ?_ (k0:=0) bh ⟨l53,l54,0,H55,(by exact hLi),(by exact hLe),hS56,atR⟩
 rintro k86 e h hkk86 ⟨l87,l88,n89,H90,hLi2,hLe2,hS91,hA⟩
 refine aa ?_
 refine fQ (λh92=>?_) (λh92=>?_)
 refine fk ?_
 refine wz [(eX b18),cr kG,iv n89,fy a0.lines,cr a0.lines.l.length,cr kG,gk x59.elems,cr x59.elems.l.length,cr k86] H90 [] ?_
 refine gq ?_
 have hx93:k86<x59.elems.l.length:=by omega
 refine jn k86 x59.elems hx93 ?_
 generalize hqx94:x59.elems.l[k86]=x94
 refine aG ?_
 refine nW 0 hS91 ?_
 refine mS 0 hS91 ?_
 refine l3 0 hS91 ((.hm b12)) ?_
 refine lj ?_
 refine nW 0 hS91 ?_
 refine mS 0 hS91 ?_
 refine l3 0 hS91 ((.hm b15)) ?_
 refine lY ?_
 refine iH rfl rfl (qJ (H:=H90) (i:=2) (ek:=iK) (ev:=sb) (l:=l88) x94 (((kG:Int),(k86:Int))) hS91 rfl rfl rfl rfl rfl rfl rfl rfl rfl iF) ?_
 rintro _ H95 ⟨w96,n97,H98,rfl,hop99,hS100⟩
 refine rV ?_
 refine fD rfl rfl (λ_=>hop99 _ _ _ _ _ _ _ _ rfl rfl rfl) ?_
 refine iH rfl rfl (qJ (H:=H98) (i:=1) (ek:=iK) (ev:=iK) (l:=l87) x94 n89 hS100 rfl rfl rfl rfl rfl rfl rfl rfl rfl iF) ?_
 rintro _ H101 ⟨w102,n103,H104,rfl,hop105,hS106⟩
 refine rV ?_
 refine fD rfl rfl (λ_=>hop105 _ _ _ _ _ _ _ _ rfl rfl rfl) ?_
 refine lj ?_
 refine oV ?_
 refine Ao 0 hS106 ?_
 refine nO 0 hS106 ?_
 refine kW 0 hS106 ((.hm b6)) ?_
 refine e9 ?_
 refine be rfl (λ_=>ca rfl rfl rfl (pJ .i64 1 n89)) ?_
 refine oV ?_
 refine kg (H:=H104) (i:=4) (ek:=pK) (ev:=pK) (l:=l23) ((⟨x94,(IntKind.i64.wrap (1 - n89))⟩:eU)) rfl rfl hS106 rfl rfl rfl rfl rfl rfl rfl rfl jU (λy107 h108=>?_) (λh109=>?_)
 refine fo ?_
 refine wz [(eX b18),cr kG,iv y107.en,fy a0.lines,cr a0.lines.l.length,cr kG,gk x59.elems,cr x59.elems.l.length,cr k86] H104 [] ?_
 refine qg ?_
 refine be rfl (λ_=>ca rfl rfl rfl (ej ((k86:Int)) 1 aY aY)) ?_
 refine e9 ?_
 exact ⟨by omega,((put x94 n89 l87)),((put x94 (((kG:Int),(k86:Int))) l88)),y107.en,H104,cQ,du,hS106,atR⟩
 refine fo ?_
 refine wz [(eX b18),cr kG,iv 0,fy a0.lines,cr a0.lines.l.length,cr kG,gk x59.elems,cr x59.elems.l.length,cr k86] H104 [] ?_
 refine qg ?_
 refine be rfl (λ_=>ca rfl rfl rfl (ej ((k86:Int)) 1 aY aY)) ?_
 refine e9 ?_
 exact ⟨by omega,((put x94 n89 l87)),((put x94 (((kG:Int),(k86:Int))) l88)),0,H104,cQ,du,hS106,atR⟩
 refine fk ?_
 refine wz [(eX b18),fy a0.lines,cr a0.lines.l.length,cr kG] H90 [] ?_
 refine qg ?_
 refine be rfl (λ_=>ca rfl rfl rfl (ej ((kG:Int)) 1 aY aY)) ?_
 refine e9 ?_
 exact ⟨by omega,l87,l88,H90,(by exact hLi2.next a6 bh),(by exact hLe2),hS91,atR⟩
 refine fk ?_
 have hL110:=x59.elems.lk
 refine gL x59.elems ?_
 refine jI (λh111=>?_) (λh111=>?_)
 refine fk ?_
 refine rV ?_
 refine nW 0 hS56 ?_
 refine mS 0 hS56 ?_
 refine l3 0 hS56 ((.hm b6)) ?_
 refine lj ?_
 have hx112:0<x59.elems.l.length:=by omega
 refine ni 0 x59.elems hx112 ?_
 generalize hqx113:x59.elems.l[0]=x113
 refine lj ?_
 refine Kq (H:=H55) (i:=4) (ek:=pK) (ev:=pK) (l:=l23) ((⟨x113,0⟩:eU)) rfl rfl rfl hS56 rfl rfl rfl rfl rfl rfl rfl rfl jU (λy114 h115=>?_) (λh116=>?_)
 refine NT ?_
 have hx117:1<x59.elems.l.length:=by omega
 refine ni 1 x59.elems hx117 ?_
 generalize hqx118:x59.elems.l[1]=x118
 refine rV ?_
 refine FK (λh119=>?_) (λh119=>?_)
 refine lu ?_
 refine e9 ?_
 exact .inl ⟨rfl,rfl⟩
 refine lu ?_
 exact dZ
 refine J3 ?_
 exact dZ
 refine fo ?_
 exact dZ
 refine fk ?_
 refine wz [(eX b18)] H55 [] ?_
 refine gz ?_
 have hz120:∀ m,freeze false { H55 with aT:=[] } (m+3) (.hm b6)=some (.fm (cA pK pK l23) false):=λm=>gU (i:=4) hS56 rfl _ _ (ij λ_=>rfl)
 have hz121:∀ m,freeze false { H55 with aT:=[] } (m+3) (.hm b9)=some (.fm (cA pK iK l43) false):=λm=>gU (i:=3) hS56 rfl _ _ (ij λ_=>rfl)
 have hz122:∀ m,freeze false { H55 with aT:=[] } (m+3) (.hm b12)=some (.fm (cA iK sb l54) false):=λm=>gU (i:=2) hS56 rfl _ _ (ij λ_=>rfl)
 have hz123:∀ m,freeze false { H55 with aT:=[] } (m+3) (.hm b15)=some (.fm (cA iK iK l53) false):=λm=>gU (i:=1) hS56 rfl _ _ (ij λ_=>rfl)
 have hz124:∀ m,freeze false { H55 with aT:=[] } (m+4) (eX b18)=some (.ip [fA r5.elems,fJ r5.fj,fP r5.signals,fy r5.lines,iv r5.top,iv r5.gD,iv r5.gu,iv r5.gw,.bool r5.gE,.fm (cA pK pK l23) false,.fm (cA pK iK l43) false,.fm (cA iK sb l54) false,.fm (cA iK iK l53) false] 0 false):=λm=>jh (i:=0) hS56 rfl _ _ (by simp only [FZ,hz120,hz121,hz122,hz123])
 refine ⟨.fG [(eX b18),iv 0],rfl,.fG [.ip [fA r5.elems,fJ r5.fj,fP r5.signals,fy r5.lines,iv r5.top,iv r5.gD,iv r5.gu,iv r5.gw,.bool r5.gE,.fm (cA pK pK l23) false,.fm (cA pK iK l43) false,.fm (cA iK sb l54) false,.fm (cA iK iK l53) false] 0 false,iv 0],(show freeze false { H55 with aT:=[] } 8 (.fG [(eX b18),iv 0])=some (.fG [.ip [fA r5.elems,fJ r5.fj,fP r5.signals,fy r5.lines,iv r5.top,iv r5.gD,iv r5.gu,iv r5.gw,.bool r5.gE,.fm (cA pK pK l23) false,.fm (cA pK iK l43) false,.fm (cA iK sb l54) false,.fm (cA iK iK l53) false] 0 false,iv 0]) by simp only [FZ,hz120,hz121,hz122,hz123,hz124]),.inl ⟨(⟨r5,l23,l43,l54,l53⟩:fw),c6,rfl⟩⟩
def P19 (_a0:bY) (v:AV):Prop:=(∃ r0:fw,((sA r0 _a0)/\rs 19 [.agg (bY.ai _a0)]=.fG [.ip (fw.ai r0) 0 false,iv 0])/\v=.fG [.ip (fw.ai r0) 0 false,iv 0])\/(∃ r1:Int,((r1≠0)/\rs 19 [.agg (bY.ai _a0)]=.fG [.iL,iv r1])/\v=.fG [.iL,iv r1])
def t19 (a0:bY) (q1:j1 a0) (h:au):∃ v,fh cfg FT fK false 19 [.agg (bY.ai a0)] h v h/\P19 a0 v:=by
 obtain ⟨v,hc,hP,hr⟩:=rZ AR (TG a0 q1) h
 rcases hP with ⟨r0,hp,rfl⟩ | ⟨r1,hp,rfl⟩
 ·exact ⟨_,hc,.inl ⟨r0,⟨hp,hr⟩,rfl⟩⟩
 ·exact ⟨_,hc,.inr (⟨r1,⟨hp,hr⟩,rfl⟩)⟩
def Y3 (a0:bY) (q1:j1 a0) {V:AV} (hV:rs 19 [.agg (bY.ai a0)]=V) (h:au):∃ v,fh cfg FT fK false 19 [.agg (bY.ai a0)] h v h/\v=V:=by
 obtain ⟨v,hc,hP,hr⟩:=rZ AR (TG a0 q1) h
 exact ⟨v,hc,hr.symm.trans hV⟩
def t23 (a0:fw) :Ct 23 [.ip (fw.ai a0) 0 false] (λv=>∃ r0:Int,(r0=(a0.p.signals.l.length:Int))/\v=iv r0):=by
 refine fR TY ?_
 refine kP ?_
 have hL1:=a0.p.signals.lk
 refine gL a0.p.signals ?_
 refine fo ?_
 exact xB ⟨((a0.p.signals.l.length:Int)),c7,rfl⟩
def t106 (a0:fw) (a1:eU) :Ct 106 [.ip (fw.ai a0) 0 false,.agg (eU.ai a1)] (λv=>∃ r0:eU,∃ r1:Bool,(((r1=true->look a1 a0.next=some r0)/\(r1=false->look a1 a0.next=none)/\(r1=false->r0=⟨0,0⟩)))/\v=.fG [.agg (eU.ai r0),.bool r1]):=by
 refine fR OM ?_
 refine fS ?_
 refine lY ?_
 refine E3 (key:=a1) (l:=a0.next) (ek:=pK) (ev:=pK) rfl rfl rfl rfl rfl rfl rfl rfl rfl rfl jU (λy1 h2=>?_) (λh3=>?_)
 refine D3 ?_
 refine gS ?_
 exact xG ⟨y1,true,de,rfl⟩
 refine D3 ?_
 refine gS ?_
 exact xG ⟨(⟨0,0⟩:eU),false,de,rfl⟩
def t109 (a0:fw) (a1:eU) :Ct 109 [.ip (fw.ai a0) 0 false,.agg (eU.ai a1)] (λv=>∃ r0:Int,(r0=(look a1 a0.reads).getD (-1))/\v=iv r0):=by
 refine fR OE ?_
 refine fS ?_
 refine lY ?_
 refine E3 (key:=a1) (l:=a0.reads) (ek:=pK) (ev:=iK) rfl rfl rfl rfl rfl rfl rfl rfl rfl rfl jU (λy1 h2=>?_) (λh3=>?_)
 refine ze ?_
 refine gl ?_
 exact xB ⟨y1,cZ,rfl⟩
 refine ze ?_
 refine gl ?_
 exact xB ⟨(-1),cZ,rfl⟩
def t205 (a0:fw) (a1:Int) :Ct 205 [.ip (fw.ai a0) 0 false,iv a1] (λv=>∃ r0:jl,((r0.kind=kp a0.p a1/\r0.len=ym a0.p a1))/\v=.agg (jl.ai r0)):=by
 refine fR N5 ?_
 refine fS ?_
 refine fQ (λh1=>?_) (λh1=>?_)
 refine yj ?_
 exact ef
 refine gz ?_
 have hL2:=a0.p.elems.lk
 refine gL a0.p.elems ?_
 refine jw (λh3=>?_) (λh3=>?_)
 refine gl ?_
 exact ef
 refine j9 ?_
 have hx4:(a1).toNat<a0.p.elems.l.length:=by omega
 refine pa a1 a0.p.elems hx4 ?_
 generalize hqx5:a0.p.elems.l[(a1).toNat]=x5
 refine fk ?_
 exact xG ⟨x5,cg,rfl⟩
def t110 (a0:fw) (a1:Int) :Ct 110 [.ip (fw.ai a0) 0 false,iv a1] (λv=>∃ r0:Int,(r0=kp a0.p a1)/\v=iv r0):=by
 refine fR Pv ?_
 refine fS ?_
 refine oC (t205 a0 a1) ?_
 rintro _ ⟨r2,hc1,rfl⟩
 obtain ⟨hEk,hEl⟩:=hc1
 refine fk ?_
 exact xB ⟨r2.kind,a6,rfl⟩
def t138 (a0:fw) (a1:Int) :Ct 138 [.ip (fw.ai a0) 0 false,iv a1] (λv=>∃ r0:eU,∃ r1:Bool,((((r1=true->tq a0.p.signals.l a1=some r0)/\(r1=false->tq a0.p.signals.l a1=none))/\(r1=false->r0=⟨0,0⟩)))/\v=.fG [.agg (eU.ai r0),.bool r1]):=by
 refine fR OZ ?_
 refine gl ?_
 refine fQ (λh1=>?_) (λh1=>?_)
 refine tc ?_
 exact dW
 refine gz ?_
 have hL2:=a0.p.signals.lk
 refine gL a0.p.signals ?_
 refine jw (λh3=>?_) (λh3=>?_)
 refine hZ ?_
 exact dW
 refine j9 ?_
 have hx4:(a1).toNat<a0.p.signals.l.length:=by omega
 refine pa a1 a0.p.signals hx4 ?_
 generalize hqx5:a0.p.signals.l[(a1).toNat]=x5
 refine gS ?_
 exact xG ⟨x5.at_,true,bZ,rfl⟩
def abd {H:au} (b:Nat) (x:fi) (en:Int) (F:List gh) (hS:Sep H (gi b [iv en]::F)) :∃ v H',fh cfg FT fK true 204 [.agg (fi.ai x),(eX b)] { H with aT:=[] } v H'/\(∃ r0:Bool,(True)/\Sep H' (gi b [iv en]::F)/\v=.bool r0):=by
 refine gO PY ?_
 refine gl ?_
 refine kW 0 hS (iv en) ?_
 refine gN (λh1=>?_) (λh1=>?_)
 refine fo ?_
 have hS2:=Sep.pick hS [0] 1 bf bf
 exact d9
 refine fo ?_
 have hS3:=Sep.pick hS [0] 1 bf bf
 exact ed
def aaJ {H:au} (b:Nat) (x:fi) (en:Int) (F:List gh) (hS:Sep H (gi b [iv en]::F)) :∃ v H',fh cfg FT fK true 254 [.agg (fi.ai x),(eX b)] { H with aT:=[] } v H'/\(∃ r0:Bool,(True)/\Sep H' (gi b [iv en]::F)/\v=.bool r0):=by
 refine gO OS ?_
 refine gl ?_
 refine kW 0 hS (iv en) ?_
 refine gN (λh1=>?_) (λh1=>?_)
 refine fo ?_
 have hS2:=Sep.pick hS [0] 1 bf bf
 exact d9
 refine fo ?_
 have hS3:=Sep.pick hS [0] 1 bf bf
 exact ed
def Ma {H:au} (l:ff fi) (b:Nat) (en:Int) (F:List gh) (hS:Sep H (gi b [iv en]::F)) :∃ v H',fh cfg FT fK true 256 [ff.av fi.ai l,.gx 254 [] [(eX b)]] { H with aT:=[] } v H'/\(∃ r0:Int,(True)/\Sep H' (gi b [iv en]::F)/\v=iv r0):=by
 refine gO JD ?_
 refine fS ?_
 have hL1:=l.lk
 refine aL ?_
 have hNk2:=l.lk
 refine e8 l.l.length (λk2 e h=>∃ H3:au,Sep H3 (gi b [iv en]::F)/\At [0,1,7,8] [ff.av fi.ai l,.gx 254 [] [(eX b)],cr l.l.length,cr k2] H3 [] e h) ?_ (k0:=0) bh ⟨H,hS,atR⟩
 rintro k2 e h hkk2 ⟨H3,hS4,hA⟩
 refine aa ?_
 refine fQ (λh5=>?_) (λh5=>?_)
 refine oi ?_
 have hx6:k2<l.l.length:=by omega
 refine be rfl (λ_=>nA (n:=k2) (r:=l) (enc:=fi.ai) rfl rfl rfl rfl rfl hx6 rfl) ?_
 generalize hqx7:l.l[k2]=x7
 refine oV ?_
 have hS8:=Sep.pick hS4 [0] 1 bf bf
 refine gA (H:=H3) (args:=[.agg (fi.ai x7)]) (p:=[]) (r:=[(eX b)]) rfl rfl rfl rfl rfl rfl rfl (aaJ b x7 en F hS8) ?_
 rintro _ H9 ⟨r12,hc11,hS10,rfl⟩
 cases r12
 refine fk ?_
 refine be rfl (λ_=>ca rfl rfl rfl (ej ((k2:Int)) 1 aY aY)) ?_
 refine e9 ?_
 exact ⟨by omega,H9,hS10,atR⟩
 refine fS ?_
 have hS13:=Sep.pick hS10 [0] 1 bf bf
 exact ez
 refine gl ?_
 have hS14:=Sep.pick hS4 [0] 1 bf bf
 exact eA
def MZ {H:au} (l:ff fi) (b:Nat) (en:Int) (F:List gh) (hS:Sep H (gi b [iv en]::F)) :∃ v H',fh cfg FT fK true 256 [ff.av fi.ai l,.gx 204 [] [(eX b)]] { H with aT:=[] } v H'/\(∃ r0:Int,(True)/\Sep H' (gi b [iv en]::F)/\v=iv r0):=by
 refine gO JD ?_
 refine fS ?_
 have hL1:=l.lk
 refine aL ?_
 have hNk2:=l.lk
 refine e8 l.l.length (λk2 e h=>∃ H3:au,Sep H3 (gi b [iv en]::F)/\At [0,1,7,8] [ff.av fi.ai l,.gx 204 [] [(eX b)],cr l.l.length,cr k2] H3 [] e h) ?_ (k0:=0) bh ⟨H,hS,atR⟩
 rintro k2 e h hkk2 ⟨H3,hS4,hA⟩
 refine aa ?_
 refine fQ (λh5=>?_) (λh5=>?_)
 refine oi ?_
 have hx6:k2<l.l.length:=by omega
 refine be rfl (λ_=>nA (n:=k2) (r:=l) (enc:=fi.ai) rfl rfl rfl rfl rfl hx6 rfl) ?_
 generalize hqx7:l.l[k2]=x7
 refine oV ?_
 have hS8:=Sep.pick hS4 [0] 1 bf bf
 refine gA (H:=H3) (args:=[.agg (fi.ai x7)]) (p:=[]) (r:=[(eX b)]) rfl rfl rfl rfl rfl rfl rfl (abd b x7 en F hS8) ?_
 rintro _ H9 ⟨r12,hc11,hS10,rfl⟩
 cases r12
 refine fk ?_
 refine be rfl (λ_=>ca rfl rfl rfl (ej ((k2:Int)) 1 aY aY)) ?_
 refine e9 ?_
 exact ⟨by omega,H9,hS10,atR⟩
 refine fS ?_
 have hS13:=Sep.pick hS10 [0] 1 bf bf
 exact ez
 refine gl ?_
 have hS14:=Sep.pick hS4 [0] 1 bf bf
 exact eA
def NP {H:au} (l:ff fi) (b:Nat) (en:Int) (F:List gh) (hS:Sep H (gi b [iv en]::F)) :∃ v H',fh cfg FT fK true 203 [ff.av fi.ai l,.gx 254 [] [(eX b)]] { H with aT:=[] } v H'/\(∃ r0:Bool,(True)/\Sep H' (gi b [iv en]::F)/\v=.bool r0):=by
 refine gO Jp ?_
 refine fS ?_
 have hS1:=Sep.pick hS [0] 1 bf bf
 refine gA (H:=H) (args:=[ff.av fi.ai l,.gx 254 [] [(eX b)]]) (p:=[]) (r:=[]) rfl rfl rfl rfl rfl rfl rfl (Ma l b en F hS1) ?_
 rintro _ H2 ⟨r5,hc4,hS3,rfl⟩
 refine jw (λh6=>?_) (λh6=>?_)
 refine fo ?_
 have hS7:=Sep.pick hS3 [0] 1 bf bf
 exact d7
 refine fo ?_
 have hS8:=Sep.pick hS3 [0] 1 bf bf
 exact d8
def MI {H:au} (l:ff fi) (b:Nat) (en:Int) (F:List gh) (hS:Sep H (gi b [iv en]::F)) :∃ v H',fh cfg FT fK true 203 [ff.av fi.ai l,.gx 204 [] [(eX b)]] { H with aT:=[] } v H'/\(∃ r0:Bool,(True)/\Sep H' (gi b [iv en]::F)/\v=.bool r0):=by
 refine gO Jp ?_
 refine fS ?_
 have hS1:=Sep.pick hS [0] 1 bf bf
 refine gA (H:=H) (args:=[ff.av fi.ai l,.gx 204 [] [(eX b)]]) (p:=[]) (r:=[]) rfl rfl rfl rfl rfl rfl rfl (MZ l b en F hS1) ?_
 rintro _ H2 ⟨r5,hc4,hS3,rfl⟩
 refine jw (λh6=>?_) (λh6=>?_)
 refine fo ?_
 have hS7:=Sep.pick hS3 [0] 1 bf bf
 exact d7
 refine fo ?_
 have hS8:=Sep.pick hS3 [0] 1 bf bf
 exact d8
def Ur (_a0:mO) (_a1:Int) (v:AV):Prop:=∃ r0:Bool,((r0=true->_a0.steps.l.length<12))/\v=.bool r0
def t199 (a0:mO) (a1:Int) :Ct 199 [.ip (mO.ai a0) 0 true,iv a1] (Ur a0 a1):=by
 refine fR OI ?_
 refine ay ?_
 rintro _ H2 ⟨b1,rfl,hS3⟩
 refine fk ?_
 refine lu ?_
 have hL4:=a0.steps.lk
 refine fD rfl rfl (λ_=>mj (r:=a0.steps) (enc:=fi.ai) rfl rfl rfl rfl rfl rfl) ?_
 refine wC (λh5=>?_) (λh5=>?_)
 refine rV ?_
 refine l3 0 hS3 (iv a1) ?_
 refine lu ?_
 refine yy (λh6=>?_) (λh6=>?_)
 refine vD ?_
 refine fD rfl rfl (λ_=>yg rfl rfl (xK rfl rfl)) ?_
 have hS7:=Sep.pick hS3 [0] 1 bf bf
 refine Dy (H:=H2) (args:=[ff.av fi.ai a0.steps,.gx 254 [] [(eX b1)]]) (p:=[]) (r:=[]) rfl rfl rfl rfl rfl rfl rfl rfl (NP a0.steps b1 a1 ([]) hS7) ?_
 rintro _ H8 ⟨r11,hc10,hS9,rfl⟩
 cases r11
 refine lY ?_
 exact xB ⟨true,bU,rfl⟩
 refine lY ?_
 exact d5
 refine Mc ?_
 exact d5
 refine MM ?_
 exact d5
def t255 (a0:fw) (a1:Int) (a2:Int) :Ct 255 [.ip (fw.ai a0) 0 false,iv a1,iv a2] (λv=>∃ r0:Row gI,(r0.l.length<=2/\∀ y∈r0.l,nq y.pos)/\v=ub r0):=by
 refine fR Pl ?_
 refine fS ?_
 refine fQ (λh1=>?_) (λh1=>?_)
 refine nR ?_
 exact ew
 refine fk ?_
 refine oC (t110 a0 a1) ?_
 rintro _ ⟨r3,hc2,rfl⟩
 have hK:=hc2
 refine oC (t209 r3) ?_
 rintro _ ⟨r5,hc4,rfl⟩
 have hEnd:=hc4.2
 refine jw (λh6=>?_) (λh6=>?_)
 refine fS ?_
 exact ew
 refine gl ?_
 refine oC (t110 a0 a1) ?_
 rintro _ ⟨r8,hc7,rfl⟩
 have hK:=hc7
 refine fk ?_
 refine gN (λh9=>?_) (λh9=>?_)
 refine gS ?_
 refine be rfl (λ_=>ca rfl rfl rfl (pJ .i64 1 a2)) ?_
 refine gq ?_
 exact xG ⟨(⟨[(⟨(IntKind.i64.wrap (1 - a2)),0⟩:gI)],.exact 1,pd,rfl,capXn⟩:Row gI),bC,rfl⟩
 refine gq ?_
 refine gN (λh10=>?_) (λh10=>?_)
 refine j9 ?_
 have hd11:a2=0\/a2=1\/a2=2\/a2=3:=by omega
 rcases hd11 with rfl | rfl | rfl | rfl
 refine gz ?_
 exact xG ⟨(⟨[(⟨1,0⟩:gI)],.exact 1,pd,rfl,capXn⟩:Row gI),bC,rfl⟩
 refine gz ?_
 exact ey
 refine gz ?_
 exact xG ⟨(⟨[(⟨3,0⟩:gI)],.exact 1,pd,rfl,capXn⟩:Row gI),bC,rfl⟩
 refine gz ?_
 exact xG ⟨(⟨[(⟨2,0⟩:gI)],.exact 1,pd,rfl,capXn⟩:Row gI),bC,rfl⟩
 refine gq ?_
 refine gN (λh12=>?_) (λh12=>?_)
 refine gz ?_
 refine gN (λh13=>?_) (λh13=>?_)
 refine hZ ?_
 exact xG ⟨(⟨[(⟨1,1⟩:gI),(⟨2,2⟩:gI)],.exact 2,pd,rfl,capXn⟩:Row gI),bC,rfl⟩
 refine gz ?_
 have hd14:a2=0\/a2=1\/a2=2:=by omega
 rcases hd14 with rfl | rfl | rfl
 refine gS ?_
 exact ey
 refine gS ?_
 exact xG ⟨(⟨[(⟨0,1⟩:gI)],.exact 1,pd,rfl,capXn⟩:Row gI),bC,rfl⟩
 refine gS ?_
 exact xG ⟨(⟨[(⟨0,2⟩:gI)],.exact 1,pd,rfl,capXn⟩:Row gI),bC,rfl⟩
 refine gl ?_
 exact ew
def aal {H:au} (p:Nat) (vE:Int) (vs:AV) (steps:List fi) (vp:AV) (pos:List Int) (vl:AV) (left:List (Row gI)) (nn:fw) (x:eU) (F:List gh) (hS:Sep H (gi p [iv vE,vs,vp,vl]::gy fi.ai 3 vs steps::gy cI 1 vp pos::gy (kq gI.ai) 1 vl left::F)) (q1:steps.length<=11) (q2:pos.length=steps.length) (q3:left.length=steps.length):∃ v H',fh cfg FT fK true 200 [(eX p),.ip (fw.ai nn) 0 false,.agg (eU.ai x)] { H with aT:=[] } v H'/\(∃ vso:AV,∃ stepso:List fi,∃ vpo:AV,∃ poso:List Int,∃ vlo:AV,∃ lefto:List (Row gI),(stepso.length=steps.length+1/\poso.length=stepso.length/\(pc nn.p x->(∀ s∈steps,pc nn.p ⟨s.elem,s.kH⟩)->∀ s∈stepso,pc nn.p ⟨s.elem,s.kH⟩)/\(∀ x∈poso,x∈pos\/x=0)/\∃ w:Row gI,(w.l.length<=2/\∀ y∈w.l,nq y.pos)/\lefto=left++[w])/\Sep H' (gi p [iv vE,vso,vpo,vlo]::gy fi.ai 3 vso stepso::gy cI 1 vpo poso::gy (kq gI.ai) 1 vlo lefto::F)/\v=.fG []):=by
 refine gO O0 ?_
 refine gS ?_
 refine lj ?_
 refine nW 0 hS ?_
 refine mS 0 hS ?_
 refine l3 0 hS vs ?_
 refine vD ?_
 refine A1 1 [(⟨x.elem,x.en,(-1)⟩:fi)] hS λv1 H2 hS3=>?_
 refine nW 0 hS3 ?_
 refine mS 0 hS3 ?_
 refine iH rfl rfl (lV (H:=H2) (i:=0) (o:=1) (r:=v1) hS3 rfl rfl rfl rfl (jx rfl rfl (Sep.cell (i:=1) hS3 rfl)) (ei (Sep.cell (i:=1) hS3 rfl) fT) rfl) ?_
 rintro _ H4 ⟨rfl,hS5⟩
 refine jG ?_
 refine e9 ?_
 refine Ao 0 hS5 ?_
 refine nO 0 hS5 ?_
 refine kW 0 hS5 vp ?_
 refine oV ?_
 refine oF 2 ([0]:List Int) hS5 λv6 H7 hS8=>?_
 refine Ao 0 hS8 ?_
 refine nO 0 hS8 ?_
 refine gj rfl (lV (H:=H7) (i:=0) (o:=2) (r:=v6) hS8 rfl rfl rfl rfl (jx rfl rfl (Sep.cell (i:=2) hS8 rfl)) (ei (Sep.cell (i:=2) hS8 rfl) fT) rfl) ?_
 rintro _ H9 ⟨rfl,hS10⟩
 refine e9 ?_
 refine lj ?_
 refine nW 0 hS10 ?_
 refine mS 0 hS10 ?_
 refine l3 0 hS10 vl ?_
 refine lY ?_
 refine rC (t255 nn x.elem x.en) ?_
 rintro _ ⟨r12,hc11,rfl⟩
 refine fD rfl rfl (λ_=>AN (xs:=[[ub r12]]) rfl rfl rfl rfl (DX (ei (jS _) fT) rfl)) ?_
 refine A1 3 [r12] hS10 λv13 H14 hS15=>?_
 refine nW 0 hS15 ?_
 refine mS 0 hS15 ?_
 refine iH rfl rfl (lV (H:=H14) (i:=0) (o:=3) (r:=v13) hS15 rfl rfl rfl rfl (jx rfl rfl (Sep.cell (i:=3) hS15 rfl)) (ei (Sep.cell (i:=3) hS15 rfl) fT) rfl) ?_
 rintro _ H16 ⟨rfl,hS17⟩
 refine rN ?_
 have hS18:=Sep.pick hS17 [0,1,2,3] 4 bf bf
 exact ⟨.fG [],rfl,v1,((steps++[(⟨x.elem,x.en,(-1)⟩:fi)])),v6,(pos++[0]),v13,(left++[r12]),(by refine ⟨by simp,by simp; omega,λh1 h2=>pL (P:=λs:fi=>pc nn.p ⟨s.elem,s.kH⟩) h2 h1,λx hx=>by simpa using hx,_,?_,rfl⟩; assumption),Sep.aT hS18 _,rfl⟩
def t104 (a0:ff fi) (q1:a0.l.length<=1000):Ct 104 [ff.av fi.ai a0] (λv=>∃ r0:Row fi,(r0.l=a0.l)/\v=fx r0):=by
 refine fR Oo ?_
 refine fS ?_
 refine jf (b:=a0.isNil) rfl (λ_=>mi rfl rfl rfl rfl) (λh1=>?_) (λh1=>?_)
 refine gz ?_
 exact xG ⟨(kZ:Row fi),bO,rfl⟩
 refine gz ?_
 have hS2:=Sep.nk gJ 3
 refine gj rfl (mY (i:=0) (l:=([]:List fi)) (enc:=fi.ai) a0.l hS2 rfl rfl rfl rfl rfl rfl rfl rfl rfl (λ_=>rfl) (.inl rfl) bE (λ_=>rfl)) ?_
 rintro v3 H4 hS5
 refine fo ?_
 obtain ⟨r6,hl7,hf8⟩:=iZ (H:=H4) (i:=0) (l:=(([]:List fi)++a0.l)) (enc:=fi.ai) hS5 rfl a8
 have hlq:=hl7; have hln10:=congrArg List.length hl7
 have hz9:∀ m,freeze false { H4 with aT:=[] } (m+2) v3=some (fx r6):=λm=>hf8 _ _ (λ_=>rfl)
 exact ⟨v3,(ia (vs:=[v3]) rfl (ei (Sep.arg (i:=0) hS5 rfl) fT)),fx r6,(show freeze false { H4 with aT:=[] } 8 v3=some (fx r6) by simp only [FZ,hz9]),r6,bO,rfl⟩
def JH (_a0:mO) (_a1:Int) (_a2:Int) (_a3:Int) (v:AV):Prop:=∃ r0:fe,((r0.from_ = _a1)/\((r0.steps.l = _a0.steps.l/\r0.fX.l.length<=_a0.steps.l.length/\r0.guards.l=[]/\r0.gB.l=[]/\r0.holds.l=[]/\∀ x∈r0.fX.l,(∃ s∈_a0.steps.l,x.elem=s.elem)/\x.pos∈_a0.pos.l/\¬ x.pos=0)))/\v=.agg (fe.ai r0)
def t201 (a0:mO) (a1:Int) (a2:Int) (a3:Int) (q1:a0.steps.l.length<=12) (q2:a0.pos.l.length=a0.steps.l.length):Ct 201 [.ip (mO.ai a0) 0 true,iv a1,iv a2,iv a3] (JH a0 a1 a2 a3):=by
 refine fR Qe ?_
 refine kS ?_
 refine oC (t104 a0.steps aZ) ?_
 rintro _ ⟨r2,hc1,rfl⟩
 have hC93:=congrArg List.length hc1; try simp only [Row.ji] at hC93
 refine kP ?_
 have hL3:=a0.steps.lk
 refine be rfl (λ_=>mj (r:=a0.steps) (enc:=fi.ai) rfl rfl rfl rfl rfl rfl) ?_
 refine fo ?_
 have hS4:=Sep.jZ gJ 2
 have hNk5:=a0.steps.lk
 refine e8 a0.steps.l.length (λk5 e h=>∃ v6:AV,∃ l7:List bm,∃ H8:au,(l7.length<=0+k5)/\(∀ x∈(l7:List bm),(∃ s∈a0.steps.l,x.elem=s.elem)/\x.pos∈a0.pos.l/\¬ x.pos=0)/\Sep H8 (kh bm.ai 2 v6 l7::[])/\At [0,8,9,24,25,26] [.ip (mO.ai a0) 0 true,.la 8 0,.la 9 0,ff.av fi.ai a0.steps,cr a0.steps.l.length,cr k5] H8 [(8,[iv 0,iv 0,iv 0,ee,ee,ee,ee,ee,eV]),(9,[iv a1,iv a2,iv a3,fx r2,v6,ee,ee,ee,eV])] e h) ?_ (k0:=0) bh ⟨ee,(([]:List bm)),au.empty,bD,ci,hS4,atR⟩
 rintro k5 e h hkk5 ⟨v6,l7,H8,hl10,hNw,hS9,hA⟩
 refine aa ?_
 refine fQ (λh11=>?_) (λh11=>?_)
 refine gl ?_
 have hx12:k5<a0.steps.l.length:=by omega
 refine be rfl (λ_=>nA (n:=k5) (r:=a0.steps) (enc:=fi.ai) rfl rfl rfl rfl rfl hx12 rfl) ?_
 generalize hqx13:a0.steps.l[k5]=x13
 have hinx13:x13∈a0.steps.l:=by rw [<- hqx13]; exact List.getElem_mem _
 have hmx13:=hinx13
 refine j9 ?_
 have hx14:k5<a0.pos.l.length:=by omega
 refine be rfl (λ_=>nA (n:=k5) (r:=a0.pos) (enc:=cI) rfl rfl rfl rfl rfl hx14 rfl) ?_
 generalize hqx15:a0.pos.l[k5]=x15
 have hinx15:x15∈a0.pos.l:=by rw [<- hqx15]; exact List.getElem_mem _
 have hmx15:=hinx15
 refine oV ?_
 refine iV (λh16=>?_) (λh16=>?_)
 refine fo ?_
 refine D3 ?_
 have hx17:k5<a0.pos.l.length:=by omega
 refine fD rfl rfl (λ_=>nA (n:=k5) (r:=a0.pos) (enc:=cI) rfl rfl rfl rfl rfl hx17 rfl) ?_
 rw [hqx15]
 refine jG ?_
 refine A1 0 [(⟨x13.elem,x15⟩:bm)] hS9 λv19 H20 hS21=>?_
 refine rV ?_
 refine fD rfl rfl (λ_=>pf rfl rfl rfl (jx rfl rfl (Sep.cell (i:=0) hS21 rfl)) (ei (Sep.cell (i:=0) hS21 rfl) fT) rfl rfl) ?_
 refine lj ?_
 refine be rfl (λ_=>ca rfl rfl rfl (ej ((k5:Int)) 1 aY aY)) ?_
 refine e9 ?_
 exact ⟨by omega,v19,((l7++[(⟨x13.elem,x15⟩:bm)])),H20,aY,cY,hS21,atR⟩
 refine fk ?_
 refine be rfl (λ_=>ca rfl rfl rfl (ej ((k5:Int)) 1 aY aY)) ?_
 refine e9 ?_
 exact ⟨by omega,v6,l7,H8,aY,cY,hS9,atR⟩
 refine gz ?_
 refine be rfl (λ_=>pf rfl rfl rfl rfl (ei rfl (ei rfl (ei rfl (ei rfl (ei (Sep.cell (i:=0) hS9 rfl) (ei rfl (ei rfl (ei rfl (ei rfl fT))))))))) rfl rfl) ?_
 refine e9 ?_
 obtain ⟨r22,hl23,hf24⟩:=iZ (H:=H8) (i:=0) (l:=l7) (enc:=bm.ai) hS9 rfl a8
 have hlq:=hl23; have hln26:=congrArg List.length hl23
 have hz25:∀ m,freeze false { H8 with aT:=[(8,[iv a1,iv a2,iv a3,fx r2,v6,ee,ee,ee,eV]),(9,[iv a1,iv a2,iv a3,fx r2,v6,ee,ee,ee,eV])] } (m+2) v6=some (fu r22):=λm=>hf24 _ _ (λ_=>rfl)
 exact ⟨.agg [iv a1,iv a2,iv a3,fx r2,v6,ee,ee,ee,eV],(ia (vs:=[.agg [iv a1,iv a2,iv a3,fx r2,v6,ee,ee,ee,eV]]) rfl rfl),.agg [iv a1,iv a2,iv a3,fx r2,fu r22,ee,ee,ee,eV],(show freeze false { H8 with aT:=[(8,[iv a1,iv a2,iv a3,fx r2,v6,ee,ee,ee,eV]),(9,[iv a1,iv a2,iv a3,fx r2,v6,ee,ee,ee,eV])] } 8 (.agg [iv a1,iv a2,iv a3,fx r2,v6,ee,ee,ee,eV])=some (.agg [iv a1,iv a2,iv a3,fx r2,fu r22,ee,ee,ee,eV]) by simp only [FZ,hz25]),(⟨a1,a2,a3,r2,r22,(kZ:Row bm),(kZ:Row Int),(kZ:Row Int),false⟩:fe),(by exact ⟨rfl,by first | exact ⟨by assumption,by dsimp only; omega,rfl,rfl,rfl,λx hx=>hNw x (hlq▸hx)⟩ | exact ⟨by assumption,by simp,rfl,rfl,rfl,by simp⟩⟩),rfl⟩
def ZI {H:au} (p:Nat) (vE:Int) (vs:AV) (steps:List fi) (vp:AV) (pos:List Int) (vl:AV) (left:List (Row gI)) (F:List gh) (hS:Sep H (gi p [iv vE,vs,vp,vl]::gy fi.ai 3 vs steps::gy cI 1 vp pos::gy (kq gI.ai) 1 vl left::F)) (q1:steps.length<=12) (q2:pos.length=steps.length) (q3:left.length=steps.length) (q4:0<steps.length):∃ v H',fh cfg FT fK true 202 [(eX p)] { H with aT:=[] } v H'/\(∃ vso:AV,∃ stepso:List fi,∃ vpo:AV,∃ poso:List Int,∃ vlo:AV,∃ lefto:List (Row gI),(stepso.length+1=steps.length/\poso.length=stepso.length/\(∀ s∈stepso,s∈steps)/\(∀ x∈poso,x∈pos)/\lefto=left.take (left.length - 1))/\Sep H' (gi p [iv vE,vso,vpo,vlo]::gy fi.ai 3 vso stepso::gy cI 1 vpo poso::gy (kq gI.ai) 1 vlo lefto::F)/\v=.fG []):=by
 refine gO N7 ?_
 refine fo ?_
 refine ae ?_
 refine be rfl (λ_=>iP (i:=0) (o:=1) (r:=vs) hS rfl rfl rfl rfl) ?_
 refine be rfl (λ_=>jC (i:=1) hS rfl rfl rfl rfl rfl rfl rfl) ?_
 refine be rfl (λ_=>ca rfl rfl rfl (ju ((steps.length:Int)) 1 aY aY)) ?_
 refine fo ?_
 refine lu ?_
 refine ac ?_
 refine fD rfl rfl (λ_=>iP (i:=0) (o:=1) (r:=vs) hS rfl rfl rfl rfl) ?_
 refine rV ?_
 have hk1:((((steps.length:Int) - 1).toNat:Nat):Int)=(steps.length:Int) - 1:=Int.toNat_of_nonneg aY
 have hx2:((steps.length:Int) - 1).toNat<=steps.length:=by first | omega | (simp<;>omega) | (simp_all; done) | (simp_all; omega)
 refine iH rfl rfl (xJ (i:=1) (k:=((steps.length:Int) - 1).toNat) hS rfl rfl rfl rfl rfl rfl (congrArg (AV.int .i64) hk1.symm) hx2) ?_
 rintro v3 H4 ⟨hc5,hS6⟩
 refine rV ?_
 refine fD rfl rfl (λ_=>pI (i:=0) hS6 rfl rfl) ?_
 refine fD rfl rfl (λ_=>oW (i:=0) hS6 rfl rfl rfl rfl rfl) ?_
 refine fD rfl rfl (λ_=>iP (i:=0) (o:=2) (r:=vp) hS6 rfl rfl rfl rfl) ?_
 refine rV ?_
 have hk7:((((steps.length:Int) - 1).toNat:Nat):Int)=(steps.length:Int) - 1:=Int.toNat_of_nonneg aY
 have hx8:((steps.length:Int) - 1).toNat<=pos.length:=by first | omega | (simp<;>omega) | (simp_all; done) | (simp_all; omega)
 refine iH rfl rfl (xJ (i:=2) (k:=((steps.length:Int) - 1).toNat) hS6 rfl rfl rfl rfl rfl rfl (congrArg (AV.int .i64) hk7.symm) hx8) ?_
 rintro v9 H10 ⟨hc11,hS12⟩
 refine rV ?_
 refine fD rfl rfl (λ_=>pI (i:=0) hS12 rfl rfl) ?_
 refine fD rfl rfl (λ_=>oW (i:=0) hS12 rfl rfl rfl rfl rfl) ?_
 refine fD rfl rfl (λ_=>iP (i:=0) (o:=3) (r:=vl) hS12 rfl rfl rfl rfl) ?_
 refine rV ?_
 have hk13:((((steps.length:Int) - 1).toNat:Nat):Int)=(steps.length:Int) - 1:=Int.toNat_of_nonneg aY
 have hx14:((steps.length:Int) - 1).toNat<=left.length:=by first | omega | (simp<;>omega) | (simp_all; done) | (simp_all; omega)
 refine iH rfl rfl (xJ (i:=3) (k:=((steps.length:Int) - 1).toNat) hS12 rfl rfl rfl rfl rfl rfl (congrArg (AV.int .i64) hk13.symm) hx14) ?_
 rintro v15 H16 ⟨hc17,hS18⟩
 refine fD rfl rfl (λ_=>pI (i:=0) hS18 rfl rfl) ?_
 refine fD rfl rfl (λ_=>oW (i:=0) hS18 rfl rfl rfl rfl rfl) ?_
 refine uf rfl rfl (lV (i:=0) (o:=1) (r:=v3) hS18 rfl rfl rfl rfl (jx rfl rfl (Sep.cell (i:=1) hS18 rfl)) (ei (Sep.cell (i:=1) hS18 rfl) fT) rfl) ?_
 rintro _ H19 ⟨rfl,hS20⟩
 refine ⟨λcall=>(mH (gC rfl rfl rfl (tn (i:=2) (k:=((steps.length:Int) - 1).toNat) hS20 rfl hc11 rfl rfl rfl rfl rfl (congrArg (AV.int .i64) hk7.symm)) rfl (Df (i:=2) hS20 rfl)) (nz (gC rfl rfl rfl (tn (i:=3) (k:=((steps.length:Int) - 1).toNat) hS20 rfl hc17 rfl rfl rfl rfl rfl (congrArg (AV.int .i64) hk13.symm)) rfl (Df (i:=3) hS20 rfl)))),?_⟩
 refine fD rfl rfl (λ_=>pI (i:=0) hS20 rfl rfl) ?_
 refine fD rfl rfl (λ_=>oW (i:=0) hS20 rfl rfl rfl rfl rfl) ?_
 refine uf rfl rfl (lV (i:=0) (o:=2) (r:=v9) hS20 rfl rfl rfl rfl (jx rfl rfl (Sep.cell (i:=2) hS20 rfl)) (ei (Sep.cell (i:=2) hS20 rfl) fT) rfl) ?_
 rintro _ H21 ⟨rfl,hS22⟩
 refine ⟨λcall=>(nz (gC rfl rfl rfl (tn (i:=3) (k:=((steps.length:Int) - 1).toNat) hS22 rfl hc17 rfl rfl rfl rfl rfl (congrArg (AV.int .i64) hk13.symm)) rfl (Df (i:=3) hS22 rfl))),?_⟩
 refine fD rfl rfl (λ_=>pI (i:=0) hS22 rfl rfl) ?_
 refine fD rfl rfl (λ_=>oW (i:=0) hS22 rfl rfl rfl rfl rfl) ?_
 refine iH rfl rfl (lV (i:=0) (o:=3) (r:=v15) hS22 rfl rfl rfl rfl (jx rfl rfl (Sep.cell (i:=3) hS22 rfl)) (ei (Sep.cell (i:=3) hS22 rfl) fT) rfl) ?_
 rintro _ H23 ⟨rfl,hS24⟩
 refine rN ?_
 have hS25:=Sep.pick hS24 [0,1,2,3] 4 bf bf
 exact ⟨.fG [],rfl,v3,(steps.take (((steps.length:Int) - 1).toNat)),v9,(pos.take (((steps.length:Int) - 1).toNat)),v15,(left.take (((steps.length:Int) - 1).toNat)),(by refine ⟨by simp only [List.length_take]; omega,by simp only [List.length_take]; omega,λs hs=>List.mem_of_mem_take hs,λs hs=>List.mem_of_mem_take hs,?_⟩; congr 1; omega),Sep.aT hS25 _,rfl⟩
def t103 (a0:fw) (a1:Int) (hJg:∀ y∈univ a0,pc a0.p y):Ct 103 [.ip (fw.ai a0) 0 false,iv a1] (λv=>∃ r0:Row fe,(r0.l.length<=8192/\(∀ r∈(r0.l:List fe),0<r.steps.l.length/\r.steps.l.length<=12/\r.fX.l.length<=12/\ns a0.p r))/\v=gm r0):=by
 refine fR OX ?_
 refine fk ?_
 refine qH ?_
 refine fk ?_
 refine oC (t138 a0 a1) ?_
 rintro _ ⟨r2,r3,hc1,rfl⟩
 have hA:=hc1.1; have hA0:=hc1.2
 have hA:=hc1.1; have hA0:=hc1.2; have hAtR:=λh=>NW (hA.1 h)
 cases r3
 refine tc ?_
 exact xG ⟨(kZ:Row fe),cE,rfl⟩
 try have hAtR:=hAtR rfl
 refine nR ?_
 refine wy [.ip (fw.ai a0) 0 false,iv a1,.la 5 0] [(5,(eU.ai r2))] ?_
 refine fk ?_
 refine oC (t106 a0 r2) ?_
 rintro _ ⟨r5,r6,hc4,rfl⟩
 have hN:=hc4
 cases r6
 refine tc ?_
 exact xG ⟨(kZ:Row fe),cE,rfl⟩
 refine nR ?_
 refine wy [.ip (fw.ai a0) 0 false,iv a1,.la 5 0,.la 7 0] [(5,(eU.ai r2)),(7,(eU.ai r5))] ?_
 refine gl ?_
 refine gj rfl (o3 gJ rfl rfl rfl rfl rfl) ?_
 rintro _ H8 ⟨b7,rfl,hS9⟩
 refine gS ?_
 have hS10:=Sep.jZ hS9 1
 have hS11:=Sep.jZ hS10 9
 have hS12:=Sep.jZ hS11 1
 have hS13:=Sep.jZ hS12 3
 have hS14:=Sep.nB (i:=0) hS13 rfl
 have hS15:=Sep.nB (i:=1) hS14 rfl
 have hS16:=Sep.nB (i:=3) hS15 rfl
 refine nT (λm30 e h=>∃ v17:AV,∃ l18:List fi,∃ v19:AV,∃ l20:List Int,∃ v21:AV,∃ l22:List fe,∃ v23:AV,∃ l24:List (Row gI),∃ n25:Int,∃ n26:Int,∃ n27:Int,∃ H28:au,m30=2*(wt l24+uq l18.length)+l18.length/\(l18.length<=12/\l20.length=l18.length/\l22.length+wt l24+uq l18.length<=8192)/\(l24.length=l18.length)/\((∀ r∈(l22:List fe),0<r.steps.l.length/\r.steps.l.length<=12/\r.fX.l.length<=12/\ns a0.p r))/\(∀ s∈(l18:List fi),pc a0.p ⟨s.elem,s.kH⟩)/\(∀ x∈(l20:List Int),nq x)/\(∀ r∈(l24:List (Row gI)),∀ w∈r.l,nq w.pos)/\(pc a0.p ⟨n25,n26⟩)/\Sep H28 (gy fi.ai 3 v17 l18::gy cI 1 v19 l20::kh fe.ai 9 v21 l22::gy (kq gI.ai) 1 v23 l24::gi b7 [iv n27,v17,v19,v23]::[])/\At [0,1,7,8,9] [.ip (fw.ai a0) 0 false,iv a1,.la 7 0,v21,(eX b7)] H28 [(7,[iv n25,iv n26])] e h) ?_ _ _ _ ⟨ee,(([]:List fi)),ee,(([]:List Int)),ee,(([]:List fe)),ee,(([]:List (Row gI))),r5.elem,r5.en,r2.elem,H8,rfl,(by (simp [R4,RX])),ci,ci,ci,ci,ci,(by exact hJg _ (xx a6)),hS16,atR⟩
 rintro m30 e h ⟨v17,l18,v19,l20,v21,l22,v23,l24,n25,n26,n27,H28,hmm30,hL,hL3,hRo,hSg,hPs,hLf,hxg,hS29,hA⟩
 refine yQ hA ?_
 clear hA
 have hPp:l18.length<=12->1<=uq l18.length:=Bw
 refine qb ?_
 refine qH ?_
 refine BC (λE Z=>∃ v31:AV,∃ l32:List fi,∃ v33:AV,∃ l34:List Int,∃ v35:AV,∃ l36:List fe,∃ v37:AV,∃ l38:List (Row gI),∃ H39:au,(l32.length<=12/\l34.length=l32.length/\l36.length+wt l38<=8192/\2*wt l38+l32.length<m30)/\(l38.length=l32.length)/\((∀ r∈(l36:List fe),0<r.steps.l.length/\r.steps.l.length<=12/\r.fX.l.length<=12/\ns a0.p r))/\(∀ s∈(l32:List fi),pc a0.p ⟨s.elem,s.kH⟩)/\(∀ x∈(l34:List Int),nq x)/\(∀ r∈(l38:List (Row gI)),∀ w∈r.l,nq w.pos)/\Sep H39 (gy fi.ai 3 v31 l32::gy cI 1 v33 l34::kh fe.ai 9 v35 l36::gy (kq gI.ai) 1 v37 l38::gi b7 [iv n27,v31,v33,v37]::[])/\E=[(0,.ip (fw.ai a0) 0 false),(1,iv a1),(7,.la 7 0),(8,v35),(9,(eX b7))]/\Z = { H39 with aT:=[(7,[iv n25,iv n26])] }) ?_ ?_
 rintro _ _ ⟨v31,l32,v33,l34,v35,l36,v37,l38,H39,hL,hL3,hRo,hSg,hPs,hLf,hS40,rfl,rfl⟩
 have hPp:l32.length<=12->1<=uq l32.length:=Bw
 refine fk ?_
 refine nT (λm51 e h=>∃ v41:AV,∃ l42:List fi,∃ v43:AV,∃ l44:List Int,∃ v45:AV,∃ l46:List fe,∃ v47:AV,∃ l48:List (Row gI),∃ H49:au,m51=2*wt l48+l42.length/\(l42.length<=12/\l44.length=l42.length/\l46.length+wt l48<=8192/\2*wt l48+l42.length<m30)/\(l48.length=l42.length)/\((∀ r∈(l46:List fe),0<r.steps.l.length/\r.steps.l.length<=12/\r.fX.l.length<=12/\ns a0.p r))/\(∀ s∈(l42:List fi),pc a0.p ⟨s.elem,s.kH⟩)/\(∀ x∈(l44:List Int),nq x)/\(∀ r∈(l48:List (Row gI)),∀ w∈r.l,nq w.pos)/\Sep H49 (gy fi.ai 3 v41 l42::gy cI 1 v43 l44::kh fe.ai 9 v45 l46::gy (kq gI.ai) 1 v47 l48::gi b7 [iv n27,v41,v43,v47]::[])/\At [0,1,7,8,9] [.ip (fw.ai a0) 0 false,iv a1,.la 7 0,v45,(eX b7)] H49 [(7,[iv n25,iv n26])] e h) ?_ _ _ _ ⟨v31,l32,v33,l34,v35,l36,v37,l38,H39,rfl,bh,bh,(by exact hRo),dl,dm,dp,hS40,(fV hS40 [(8,2)])⟩
 rintro m51 e h ⟨v41,l42,v43,l44,v45,l46,v47,l48,H49,hmm51,hL,hL3,hRo,hSg,hPs,hLf,hS50,hA⟩
 refine yQ hA ?_
 clear hA
 have hPp:l42.length<=12->1<=uq l42.length:=Bw
 refine aq ?_
 refine jI (λh52=>?_) (λh52=>?_)
 refine fo ?_
 refine wz [.ip (fw.ai a0) 0 false,iv a1,.la 7 0,v45,(eX b7)] H49 [(7,[iv n25,iv n26])] ?_ (fV hS50 [(8,2)])
 refine aq ?_
 refine be rfl (λ_=>ca rfl rfl rfl (ju ((l42.length:Int)) 1 aY aY)) ?_
 refine gS ?_
 refine aU ?_
 have hk53:((((l42.length:Int) - 1).toNat:Nat):Int)=(l42.length:Int) - 1:=Int.toNat_of_nonneg aY
 have hx54:((l42.length:Int) - 1).toNat<l48.length:=by first | omega | (simp<;>omega) | (simp_all; done) | (simp_all; omega)
 obtain ⟨x55,hqx55⟩:∃ x,l48[((l42.length:Int) - 1).toNat]=x:=⟨_,rfl⟩
 have hinx55:x55∈l48:=by rw [<- hqx55]; exact List.getElem_mem _
 have hLfw:=hLf x55 hinx55
 refine lG rfl (iT (H:=H49) (i:=3) (m:=((l42.length:Int) - 1).toNat) (cs:=(kq gI.ai) x55) hS50 rfl rfl rfl rfl rfl rfl (congrArg (AV.int .i64) hk53.symm) (gW hx54 hqx55)) ?_
 rintro a56 ⟨ha57,hea58⟩
 refine be rfl (λ_=>lQ (H:=H49) (i:=3) (m:=((l42.length:Int) - 1).toNat) (o:=0) (r:=ub x55) (cs:=(kq gI.ai) x55) hS50 rfl (gW hx54 hqx55) hea58 rfl rfl ha57) ?_
 have hL59:=x55.lk
 refine gL x55 ?_
 refine gN (λh60=>?_) (λh60=>?_)
 refine gq ?_
 have hS61:=Sep.pick hS50 [4,0,1,3,2] 5 bf bf
 refine gA (H:=H49) (args:=[(eX b7)]) (p:=[]) (r:=[]) rfl rfl rfl rfl rfl rfl rfl (ZI b7 n27 v41 l42 v43 l44 v47 l48 (kh fe.ai 9 v45 l46::[]) hS61 aZ aZ aZ aZ) ?_
 rintro _ H62 ⟨vso65,stepso66,vpo67,poso68,vlo69,lefto70,hc64,hS63,rfl⟩
 obtain ⟨hp1,hp2,hpS,hpP,hp3⟩:=hc64
 have hPs:∀ z9∈poso68,nq z9:=λz9 hx=>hPs z9 (hpP z9 hx)
 have hLf:∀ r∈lefto70,∀ w∈r.l,nq w.pos:=λr hr=>hLf r (by rw [hp3] at hr; exact List.mem_of_mem_take hr)
 have hSg:∀ s∈stepso66,pc a0.p ⟨s.elem,s.kH⟩:=λs hs=>hSg s (hpS s hs)
 have hWt:wt lefto70=wt l48:=by rw [hp3]; exact NU a6 bh a6 bh
 have hp5:lefto70.length+1=l48.length:=by rw [hp3,List.length_take]; omega
 refine e9 ?_
 have hS71:=Sep.pick hS63 [1,2,4,3,0] 5 bf bf
 refine ⟨_,?_,vso65,stepso66,vpo67,poso68,v45,l46,vlo69,lefto70,H62,rfl,bh,bh,bc,dl,dm,dp,hS71,(fV hS71 [(8,2)])⟩
 omega
 refine fo ?_
 refine wz [.ip (fw.ai a0) 0 false,iv a1,.la 7 0,v45,(eX b7),iv ((l42.length:Int) - 1)] H49 [(7,[iv n25,iv n26])] ?_ (fV hS50 [(8,2)])
 refine fo ?_
 refine aU ?_
 have hk72:((((l42.length:Int) - 1).toNat:Nat):Int)=(l42.length:Int) - 1:=Int.toNat_of_nonneg aY
 have hx73:((l42.length:Int) - 1).toNat<l48.length:=by first | omega | (simp<;>omega) | (simp_all; done) | (simp_all; omega)
 refine lG rfl (iT (H:=H49) (i:=3) (m:=((l42.length:Int) - 1).toNat) (cs:=(kq gI.ai) x55) hS50 rfl rfl rfl rfl rfl rfl (congrArg (AV.int .i64) hk72.symm) (gW hx73 hqx55)) ?_
 rintro a74 ⟨ha75,hea76⟩
 refine be rfl (λ_=>lQ (H:=H49) (i:=3) (m:=((l42.length:Int) - 1).toNat) (o:=0) (r:=ub x55) (cs:=(kq gI.ai) x55) hS50 rfl (gW hx73 hqx55) hea76 rfl rfl ha75) ?_
 have hx77:0<x55.l.length:=by omega
 refine jn 0 x55 hx77 ?_
 generalize hqx78:x55.l[0]=x78
 have hinx78:x78∈x55.l:=by rw [<- hqx78]; exact List.getElem_mem _
 have hWp:=hLfw x78 hinx78
 refine aG ?_
 refine nW 4 hS50 ?_
 refine mS 4 hS50 ?_
 refine l3 4 hS50 v47 ?_
 refine lj ?_
 refine nW 4 hS50 ?_
 refine mS 4 hS50 ?_
 refine l3 4 hS50 v47 ?_
 refine rV ?_
 have hk79:((((l42.length:Int) - 1).toNat:Nat):Int)=(l42.length:Int) - 1:=Int.toNat_of_nonneg aY
 have hx80:((l42.length:Int) - 1).toNat<l48.length:=by first | omega | (simp<;>omega) | (simp_all; done) | (simp_all; omega)
 refine lW rfl rfl (iT (H:=H49) (i:=3) (m:=((l42.length:Int) - 1).toNat) (cs:=(kq gI.ai) x55) hS50 rfl rfl rfl rfl rfl rfl (congrArg (AV.int .i64) hk79.symm) (gW hx80 hqx55)) ?_
 rintro a81 ⟨ha82,hea83⟩
 refine fD rfl rfl (λ_=>lQ (H:=H49) (i:=3) (m:=((l42.length:Int) - 1).toNat) (o:=0) (r:=ub x55) (cs:=(kq gI.ai) x55) hS50 rfl (gW hx80 hqx55) hea83 rfl rfl ha82) ?_
 have hx84:1<=x55.l.length:=by omega
 refine fD rfl rfl (λ_=>Nb (k:=1) (r:=x55) (enc:=gI.ai) (n:=2) rfl rfl rfl rfl rfl rfl hx84 (λ_=>rfl)) ?_
 have hk85:((((l42.length:Int) - 1).toNat:Nat):Int)=(l42.length:Int) - 1:=Int.toNat_of_nonneg aY
 have hx86:((l42.length:Int) - 1).toNat<l48.length:=by first | omega | (simp<;>omega) | (simp_all; done) | (simp_all; omega)
 refine lW rfl rfl (iT (H:=H49) (i:=3) (m:=((l42.length:Int) - 1).toNat) (cs:=(kq gI.ai) x55) hS50 rfl rfl rfl rfl rfl rfl (congrArg (AV.int .i64) hk85.symm) (gW hx86 hqx55)) ?_
 rintro a87 ⟨ha88,hea89⟩
 have hLf:=(λ(k:Nat) (_:k<l48.length)=>uk (k:=k) (P:=λr:Row gI=>∀ w∈r.l,nq w.pos) hLf (show ∀ w∈((Row.drop x55 1)).l,nq w.pos from λw hw=>hLfw w (List.mem_of_mem_drop hw))) _ hx86
 have hWs:wt (l48.set _ (Row.drop x55 1))+uq l48.length=wt l48:=Ug hx86 bh hqx55 bh (by simp [Row.drop]; omega); rw [hL3] at hWs
 have hz92:(l48.set (((l42.length:Int) - 1).toNat) (Row.drop x55 1)).length=l48.length:=List.length_set
 refine iH rfl rfl (mB (H:=H49) (i:=3) (m:=((l42.length:Int) - 1).toNat) (o:=0) x55 (Row.drop x55 1) hS50 rfl hx86 hqx55 hea89 rfl ha88 rfl rfl rfl rfl) ?_
 rintro _ H90 ⟨rfl,hS91⟩
 simp only [List.set] at hS91
 refine lu ?_
 refine nW 4 hS91 ?_
 refine mS 4 hS91 ?_
 refine l3 4 hS91 v41 ?_
 refine lj ?_
 refine nW 4 hS91 ?_
 refine mS 4 hS91 ?_
 refine l3 4 hS91 v43 ?_
 refine lY ?_
 have hk93:((((l42.length:Int) - 1).toNat:Nat):Int)=(l42.length:Int) - 1:=Int.toNat_of_nonneg aY
 have hx94:((l42.length:Int) - 1).toNat<l42.length:=by first | omega | (simp<;>omega) | (simp_all; done) | (simp_all; omega)
 obtain ⟨x95,hqx95⟩:∃ x,l42[((l42.length:Int) - 1).toNat]=x:=⟨_,rfl⟩
 refine lW rfl rfl (iT (H:=H90) (i:=0) (m:=((l42.length:Int) - 1).toNat) (cs:=fi.ai x95) hS91 rfl rfl rfl rfl rfl rfl (congrArg (AV.int .i64) hk93.symm) (gW hx94 hqx95)) ?_
 rintro a96 ⟨ha97,hea98⟩
 refine fD rfl rfl (λ_=>EA.FM hea98 rfl rfl rfl ha97) ?_
 have hSg:=Ui (x2:=(⟨x95.elem,x95.kH,x78.out⟩:fi)) hSg hqx95 rfl rfl
 have hz101:(l42.set (((l42.length:Int) - 1).toNat) (⟨x95.elem,x95.kH,x78.out⟩:fi)).length=l42.length:=List.length_set
 refine uf rfl rfl (mB (H:=H90) (i:=0) (m:=((l42.length:Int) - 1).toNat) (o:=2) x95 (⟨x95.elem,x95.kH,x78.out⟩:fi) hS91 rfl hx94 hqx95 hea98 rfl rfl rfl rfl rfl rfl) ?_
 rintro _ H99 ⟨rfl,hS100⟩
 refine ⟨λcall=>(nz (gC (v:=iv x78.pos) rfl rfl rfl rfl rfl (jm _ _ _))),?_⟩
 have hk102:((((l42.length:Int) - 1).toNat:Nat):Int)=(l42.length:Int) - 1:=Int.toNat_of_nonneg aY
 have hx103:((l42.length:Int) - 1).toNat<l44.length:=by first | omega | (simp<;>omega) | (simp_all; done) | (simp_all; omega)
 obtain ⟨x104,hqx104⟩:∃ x,l44[((l42.length:Int) - 1).toNat]=x:=⟨_,rfl⟩
 refine lW rfl rfl (iT (H:=H99) (i:=1) (m:=((l42.length:Int) - 1).toNat) (cs:=cI x104) hS100 rfl rfl rfl rfl rfl rfl (congrArg (AV.int .i64) hk102.symm) (gW hx103 hqx104)) ?_
 rintro a105 ⟨ha106,hea107⟩
 have hPs:=(λ(k:Nat) (_:k<l44.length)=>uk (k:=k) (P:=nq) hPs hWp) _ hx103
 have hz110:(l44.set (((l42.length:Int) - 1).toNat) x78.pos).length=l44.length:=List.length_set
 refine iH rfl rfl (mB (H:=H99) (i:=1) (m:=((l42.length:Int) - 1).toNat) (o:=0) x104 x78.pos hS100 rfl hx103 hqx104 hea107 rfl ha106 rfl rfl rfl rfl) ?_
 rintro _ H108 ⟨rfl,hS109⟩
 simp only [List.set] at hS109
 refine lu ?_
 refine nW 4 hS109 ?_
 refine mS 4 hS109 ?_
 refine l3 4 hS109 v41 ?_
 refine rV ?_
 have hk111:((((l42.length:Int) - 1).toNat:Nat):Int)=(l42.length:Int) - 1:=Int.toNat_of_nonneg aY
 have hx112:((l42.length:Int) - 1).toNat<((l42.set (((l42.length:Int) - 1).toNat) (⟨x95.elem,x95.kH,x78.out⟩:fi))).length:=by first | omega | (simp<;>omega) | (simp_all; done) | (simp_all; omega)
 obtain ⟨x113,hqx113⟩:∃ x,((l42.set (((l42.length:Int) - 1).toNat) (⟨x95.elem,x95.kH,x78.out⟩:fi)))[((l42.length:Int) - 1).toNat]=x:=⟨_,rfl⟩
 refine lW rfl rfl (iT (H:=H108) (i:=0) (m:=((l42.length:Int) - 1).toNat) (cs:=fi.ai x113) hS109 rfl rfl rfl rfl rfl rfl (congrArg (AV.int .i64) hk111.symm) (gW hx112 hqx113)) ?_
 rintro a114 ⟨ha115,hea116⟩
 refine fD rfl rfl (λ_=>EA.FM hea116 rfl rfl rfl ha115) ?_
 refine fD rfl rfl (λ_=>lQ (H:=H108) (i:=0) (m:=((l42.length:Int) - 1).toNat) (o:=0) (r:=iv x113.elem) (cs:=fi.ai x113) hS109 rfl (gW hx112 hqx113) hea116 rfl rfl rfl) ?_
 refine D3 ?_
 refine e9 ?_
 refine oC (t109 a0 (⟨x113.elem,x78.out⟩:eU)) ?_
 rintro _ ⟨r118,hc117,rfl⟩
 have hR:=hc117
 refine gq ?_
 refine jw (λh119=>?_) (λh119=>?_)
 refine fS ?_
 refine lJ hS109 0 λr120 hl121 hln124 hz123=>?_
 refine lJ hS109 1 λr125 hl126 hln129 hz128=>?_
 refine lJ hS109 3 λr130 hl131 hln134 hz133=>?_
 have hz135:∀ m,freeze true { H108 with aT:=[] } (m+4) (eX b7)=some (.ip [iv n27,ff.av fi.ai r120,nj r125,ff.av (kq gI.ai) r130] 0 true):=λm=>jh (i:=4) hS109 rfl [] _ (by simp only [FZ,hz123,hz128,hz133]; try rfl)
 refine kD (args:=[(eX b7),iv a1,iv r118,iv 1]) (p:=[]) (r:=[]) (args':=[.ip [iv n27,ff.av fi.ai r120,nj r125,ff.av (kq gI.ai) r130] 0 true,iv a1,iv r118,iv 1]) (R:=JH (⟨n27,r120,r125,r130⟩:mO) a1 r118 1) rfl rfl rfl rfl rfl rfl rfl cC (gG (by show fU (freeze true { H108 with aT:=[] } 8) [(eX b7),iv a1,iv r118,iv 1] = _; simp only [FZ,hz123,hz128,hz133,hz135]) (ei rfl (ei rfl (ei rfl (ei rfl fT))))) (gG bV (ei rfl (ei rfl (ei rfl (ei rfl fT))))) (λh=>t201 (⟨n27,r120,r125,r130⟩:mO) a1 r118 1 aZ aZ h) ?_
 rintro _ ⟨r137,hc136,rfl⟩
 have hF158:=hc136.1; replace hc136:=hc136.2; have hC158:=congrArg List.length hc136.1; have hD158:=hc136.2.1; dsimp only at hC158 hD158; have hG158:=Bp hc136.1 a6 hSg a6 hPs hc136.2.2.2.2.2 ⟨hc136.2.2.1,hc136.2.2.2.1,hc136.2.2.2.2.1⟩ dx
 refine be rfl (λ_=>AN (xs:=[(fe.ai r137)]) rfl rfl rfl rfl (DX (ei rfl (ei rfl (ei rfl (ei (jS _) (ei (jS _) (ei (jS _) (ei (jS _) (ei (jS _) (ei rfl fT))))))))) rfl)) ?_
 have hz141:(l46++[r137]).length=l46.length+1:=List.length_append
 refine oF 2 [r137] hS109 λv138 H139 hS140=>?_
 simp only [List.set] at hS140
 refine fo ?_
 refine ⟨_,?_,v41,((l42.set (((l42.length:Int) - 1).toNat) (⟨x95.elem,x95.kH,x78.out⟩:fi))),v43,((l44.set (((l42.length:Int) - 1).toNat) x78.pos)),v138,((l46++[r137])),v47,((l48.set (((l42.length:Int) - 1).toNat) (Row.drop x55 1))),H139,rfl,bh,bh,bc,dl,dm,dp,hS140,(fV hS140 [(8,2)])⟩
 omega
 refine fo ?_
 refine wz [.ip (fw.ai a0) 0 false,iv a1,.la 7 0,v45,(eX b7),.la 12 0] H108 [(7,[iv n25,iv n26]),(12,[iv x113.elem,iv x78.out])] ?_ (fV hS109 [(8,2)])
 refine fk ?_
 refine oC (t106 a0 (⟨x113.elem,x78.out⟩:eU)) ?_
 rintro _ ⟨r143,r144,hc142,rfl⟩
 have hN:=hc142
 cases r144
 refine tc ?_
 refine lJ hS109 0 λr145 hl146 hln149 hz148=>?_
 refine lJ hS109 1 λr150 hl151 hln154 hz153=>?_
 refine lJ hS109 3 λr155 hl156 hln159 hz158=>?_
 have hz160:∀ m,freeze true { H108 with aT:=[] } (m+4) (eX b7)=some (.ip [iv n27,ff.av fi.ai r145,nj r150,ff.av (kq gI.ai) r155] 0 true):=λm=>jh (i:=4) hS109 rfl [] _ (by simp only [FZ,hz148,hz153,hz158]; try rfl)
 refine kD (args:=[(eX b7),iv a1,iv (-1),iv 3]) (p:=[]) (r:=[]) (args':=[.ip [iv n27,ff.av fi.ai r145,nj r150,ff.av (kq gI.ai) r155] 0 true,iv a1,iv (-1),iv 3]) (R:=JH (⟨n27,r145,r150,r155⟩:mO) a1 (-1) 3) rfl rfl rfl rfl rfl rfl rfl cC (gG (by show fU (freeze true { H108 with aT:=[] } 8) [(eX b7),iv a1,iv (-1),iv 3] = _; simp only [FZ,hz148,hz153,hz158,hz160]) (ei rfl (ei rfl (ei rfl (ei rfl fT))))) (gG bV (ei rfl (ei rfl (ei rfl (ei rfl fT))))) (λh=>t201 (⟨n27,r145,r150,r155⟩:mO) a1 (-1) 3 aZ aZ h) ?_
 rintro _ ⟨r162,hc161,rfl⟩
 have hF158:=hc161.1; replace hc161:=hc161.2; have hC158:=congrArg List.length hc161.1; have hD158:=hc161.2.1; dsimp only at hC158 hD158; have hG158:=Bp hc161.1 a6 hSg a6 hPs hc161.2.2.2.2.2 ⟨hc161.2.2.1,hc161.2.2.2.1,hc161.2.2.2.2.1⟩ dx
 refine be rfl (λ_=>AN (xs:=[(fe.ai r162)]) rfl rfl rfl rfl (DX (ei rfl (ei rfl (ei rfl (ei (jS _) (ei (jS _) (ei (jS _) (ei (jS _) (ei (jS _) (ei rfl fT))))))))) rfl)) ?_
 have hz166:(l46++[r162]).length=l46.length+1:=List.length_append
 refine oF 2 [r162] hS109 λv163 H164 hS165=>?_
 simp only [List.set] at hS165
 refine fo ?_
 refine ⟨_,?_,v41,((l42.set (((l42.length:Int) - 1).toNat) (⟨x95.elem,x95.kH,x78.out⟩:fi))),v43,((l44.set (((l42.length:Int) - 1).toNat) x78.pos)),v163,((l46++[r162])),v47,((l48.set (((l42.length:Int) - 1).toNat) (Row.drop x55 1))),H164,rfl,bh,bh,bc,dl,dm,dp,hS165,(fV hS165 [(8,2)])⟩
 omega
 refine nR ?_
 refine wz [.ip (fw.ai a0) 0 false,iv a1,.la 7 0,v45,(eX b7),.la 14 0] H108 [(7,[iv n25,iv n26]),(14,(eU.ai r143))] ?_ (fV hS109 [(8,2)])
 refine gS ?_
 refine ⟨_,?_,v41,((l42.set (((l42.length:Int) - 1).toNat) (⟨x95.elem,x95.kH,x78.out⟩:fi))),v43,((l44.set (((l42.length:Int) - 1).toNat) x78.pos)),v45,l46,v47,((l48.set (((l42.length:Int) - 1).toNat) (Row.drop x55 1))),r143.elem,r143.en,n27,H108,rfl,dv,bh,bc,dl,dm,dp,(by first | exact hxg | exact hJg _ (xx a6)),hS109,(fV hS109 [(8,2)])⟩
 (first | omega | (simp only [List.length_set]; omega))
 refine fo ?_
 refine wz [v45] H49 [] ?_ (fV hS50 [(8,2)])
 refine qe ?_
 refine wz [v45] H49 [] ?_ (fV hS50 [(8,2)])
 refine gS ?_
 obtain ⟨r167,hl168,hf169⟩:=iZ (H:=H49) (i:=2) (l:=l46) (enc:=fe.ai) hS50 rfl a8
 have hlq:=hl168; have hln171:=congrArg List.length hl168
 have hz170:∀ m,freeze false { H49 with aT:=[] } (m+2) v45=some (gm r167):=λm=>hf169 _ _ (λ_=>by simp only [fe.ai,fU,sm,iE,qM,rY,um])
 exact ⟨v45,(ia (vs:=[v45]) rfl (ei (Sep.arg (i:=2) hS50 rfl) fT)),gm r167,(show freeze false { H49 with aT:=[] } 8 v45=some (gm r167) by simp only [FZ,hz170]),r167,cE,rfl⟩
 refine gq ?_
 refine lJ hS29 0 λr172 hl173 hln176 hz175=>?_
 refine lJ hS29 1 λr177 hl178 hln181 hz180=>?_
 refine lJ hS29 3 λr182 hl183 hln186 hz185=>?_
 have hz187:∀ m,freeze true { H28 with aT:=[] } (m+4) (eX b7)=some (.ip [iv n27,ff.av fi.ai r172,nj r177,ff.av (kq gI.ai) r182] 0 true):=λm=>jh (i:=4) hS29 rfl [] _ (by simp only [FZ,hz175,hz180,hz185]; try rfl)
 refine kD (args:=[(eX b7),iv n25]) (p:=[]) (r:=[]) (args':=[.ip [iv n27,ff.av fi.ai r172,nj r177,ff.av (kq gI.ai) r182] 0 true,iv n25]) (R:=Ur (⟨n27,r172,r177,r182⟩:mO) n25) rfl rfl rfl rfl rfl rfl rfl cC (gG (by show fU (freeze true { H28 with aT:=[] } 8) [(eX b7),iv n25] = _; simp only [FZ,hz175,hz180,hz185,hz187]) (ei rfl (ei rfl fT))) (gG bV (ei rfl (ei rfl fT))) (λh=>t199 (⟨n27,r172,r177,r182⟩:mO) n25  h) ?_
 rintro _ ⟨r189,hc188,rfl⟩
 cases r189
 clear hc188
 refine fo ?_
 exact ⟨v17,l18,v19,l20,v21,l22,v23,l24,H28,bh,bh,bc,dl,dm,dp,hS29,(Oa hS29 [(8,2)]),rfl⟩
 have hc188t:=hc188 rfl
 dsimp only at hc188t
 refine gz ?_
 have hS190:=Sep.pick hS29 [4,0,1,3,2] 5 bf bf
 refine gA (H:=H28) (args:=[(eX b7),.ip (fw.ai a0) 0 false,.agg [iv n25,iv n26]]) (p:=[]) (r:=[]) rfl rfl rfl rfl rfl rfl rfl (aal b7 n27 v17 l18 v19 l20 v23 l24 a0 ((⟨n25,n26⟩:eU)) (kh fe.ai 9 v21 l22::[]) hS190 aZ aZ aZ) ?_
 rintro _ H191 ⟨vso194,stepso195,vpo196,poso197,vlo198,lefto199,hc193,hS192,rfl⟩
 obtain ⟨hp1,hp2,hpS,hpP,ww,⟨hp3,hpW⟩,hp4⟩:=hc193
 have hSg:=hpS hxg hSg
 have hPs:∀ z9∈poso197,nq z9:=λz9 hx=>(hpP z9 hx).elim (hPs z9) (λe=>by rw [e]; exact ⟨by decide,by decide⟩)
 have hLf:∀ r∈lefto199,∀ w∈r.l,nq w.pos:=by rw [hp4]; exact pL (P:=λr:Row gI=>∀ w∈r.l,nq w.pos) hLf hpW
 have hWp:=QU (l:=l24) (w:=ww) bh hp3
 rw [<- hp4,hL3] at hWp
 have hp5:lefto199.length=l24.length+1:=by rw [hp4]; simp
 refine gS ?_
 refine oC (t110 a0 n25) ?_
 rintro _ ⟨r201,hc200,rfl⟩
 have hK:=hc200
 refine gN (λh202=>?_) (λh202=>?_)
 refine gS ?_
 refine lJ hS192 1 λr203 hl204 hln207 hz206=>?_
 refine lJ hS192 2 λr208 hl209 hln212 hz211=>?_
 refine lJ hS192 3 λr213 hl214 hln217 hz216=>?_
 have hz218:∀ m,freeze true { H191 with aT:=[] } (m+4) (eX b7)=some (.ip [iv n27,ff.av fi.ai r203,nj r208,ff.av (kq gI.ai) r213] 0 true):=λm=>jh (i:=0) hS192 rfl [] _ (by simp only [FZ,hz206,hz211,hz216]; try rfl)
 refine kD (args:=[(eX b7),iv a1,iv (-1),iv 2]) (p:=[]) (r:=[]) (args':=[.ip [iv n27,ff.av fi.ai r203,nj r208,ff.av (kq gI.ai) r213] 0 true,iv a1,iv (-1),iv 2]) (R:=JH (⟨n27,r203,r208,r213⟩:mO) a1 (-1) 2) rfl rfl rfl rfl rfl rfl rfl cC (gG (by show fU (freeze true { H191 with aT:=[] } 8) [(eX b7),iv a1,iv (-1),iv 2] = _; simp only [FZ,hz206,hz211,hz216,hz218]) (ei rfl (ei rfl (ei rfl (ei rfl fT))))) (gG bV (ei rfl (ei rfl (ei rfl (ei rfl fT))))) (λh=>t201 (⟨n27,r203,r208,r213⟩:mO) a1 (-1) 2 aZ aZ h) ?_
 rintro _ ⟨r220,hc219,rfl⟩
 have hF158:=hc219.1; replace hc219:=hc219.2; have hC158:=congrArg List.length hc219.1; have hD158:=hc219.2.1; dsimp only at hC158 hD158; have hG158:=Bp hc219.1 a6 hSg a6 hPs hc219.2.2.2.2.2 ⟨hc219.2.2.1,hc219.2.2.2.1,hc219.2.2.2.2.1⟩ dx
 refine be rfl (λ_=>AN (xs:=[(fe.ai r220)]) rfl rfl rfl rfl (DX (ei rfl (ei rfl (ei rfl (ei (jS _) (ei (jS _) (ei (jS _) (ei (jS _) (ei (jS _) (ei rfl fT))))))))) rfl)) ?_
 have hz224:(l22++[r220]).length=l22.length+1:=List.length_append
 refine oF 4 [r220] hS192 λv221 H222 hS223=>?_
 simp only [List.set] at hS223
 refine e9 ?_
 have hS225:=Sep.pick hS223 [1,2,4,3,0] 5 bf bf
 exact ⟨vso194,stepso195,vpo196,poso197,v221,((l22++[r220])),vlo198,lefto199,H222,bh,bh,bc,dl,dm,dp,hS225,(Oa hS225 [(8,2)]),rfl⟩
 refine fo ?_
 have hS226:=Sep.pick hS192 [1,2,4,3,0] 5 bf bf
 exact ⟨vso194,stepso195,vpo196,poso197,v21,l22,vlo198,lefto199,H191,bh,bh,bc,dl,dm,dp,hS226,(Oa hS226 [(8,2)]),rfl⟩
def s52 {H:au} (nn:fw) (F:List gh) (hS:Sep H F) (q1:nn.p.signals.l.length<=60) (hJg:∀ y∈univ nn,pc nn.p y):∃ v H',fh cfg FT fK true 54 [.ip (fw.ai nn) 0 false] { H with aT:=[] } v H'/\(∃ ov:AV,∃ ol:List fe,∃ eo:Int,((∀ r∈(ol:List fe),0<r.steps.l.length/\r.steps.l.length<=12/\r.fX.l.length<=12/\ns nn.p r)/\ol.length<=64)/\Sep H' (kh fe.ai 9 ov ol::F)/\v=.fG [ov,iv eo]):=by
 refine gO To ?_
 refine kS ?_
 refine oC (t23 nn) ?_
 rintro _ ⟨r2,hc1,rfl⟩
 have hC91:=hc1
 refine fo ?_
 have hS3:=Sep.jZ hS 9
 refine e8 ((r2).toNat) (λk4 e h=>∃ v5:AV,∃ l6:List fe,∃ H7:au,(l6.length<=8192*k4)/\((∀ r∈(l6:List fe),0<r.steps.l.length/\r.steps.l.length<=12/\r.fX.l.length<=12/\ns nn.p r))/\Sep H7 (kh fe.ai 9 v5 l6::F)/\At [0,4,7,8] [.ip (fw.ai nn) 0 false,v5,iv r2,cr k4] H7 [] e h) ?_ (k0:=0) bh ⟨ee,(([]:List fe)),H,ci,ci,hS3,atR⟩
 rintro k4 e h hkk4 ⟨v5,l6,H7,hI,hR,hS8,hA⟩
 refine aa ?_
 refine fQ (λh9=>?_) (λh9=>?_)
 refine fk ?_
 refine wz [.ip (fw.ai nn) 0 false,v5,iv r2,cr k4] H7 [] ?_ (fV hS8 [(4,0)])
 refine kP ?_
 refine oC (t103 nn ((k4:Int)) aZ) ?_
 rintro _ ⟨r11,hc10,rfl⟩
 have hL12:=r11.lk
 refine oF 0 r11.l hS8 λv13 H14 hS15=>?_
 refine e9 ?_
 refine wz [.ip (fw.ai nn) 0 false,v13,iv r2,cr k4] H14 [] ?_ (fV hS15 [(4,0)])
 refine qg ?_
 refine be rfl (λ_=>ca rfl rfl rfl (ej ((k4:Int)) 1 aY aY)) ?_
 refine e9 ?_
 exact ⟨by omega,v13,((l6++r11.l)),H14,dD,(by exact QA hR (by simp_all)),hS15,(fV hS15 [(4,0)])⟩
 refine fk ?_
 refine wz [v5] H7 [] ?_ (fV hS8 [(4,0)])
 refine fk ?_
 refine be rfl (λ_=>jC (i:=0) hS8 rfl rfl rfl rfl rfl rfl rfl) ?_
 refine jI (λh16=>?_) (λh16=>?_)
 refine fS ?_
 have hS17:=Sep.jZ hS8 9
 have hS18:=Sep.pick hS17 [0] 2 bf bf
 exact ⟨.fG [ee,iv 3],rfl,ee,([]:List fe),3,dr,Sep.aT hS18 _,rfl⟩
 refine fo ?_
 refine wz [v5] H7 [] ?_ (fV hS8 [(4,0)])
 refine gz ?_
 have hS19:=Sep.pick hS8 [0] 1 bf bf
 exact ⟨.fG [v5,iv 0],(ia (vs:=[v5,iv 0]) rfl (ei (Sep.arg (i:=0) hS8 rfl) (ei rfl fT))),v5,l6,0,dr,Sep.aT hS19 _,rfl⟩
def t66 (a0:ff Int) (a1:Int) :Ct 66 [nj a0,iv a1] (λv=>∃ r0:Int,(((0<=r0->a1∈a0.l)/\(r0<0->a1∉a0.l)))/\v=iv r0):=by
 refine fR Nt ?_
 refine fS ?_
 have hL1:=a0.lk
 refine aO ?_
 have hNk2:=a0.lk
 refine e8 a0.l.length (λk2 e h=>(∀ (i:Nat) (h:i<a0.l.length),i<k2->¬ a0.l[i]=a1)/\At [0,1,7,8] [nj a0,iv a1,cr a0.l.length,cr k2] au.empty [] e h) ?_ (k0:=0) bh ⟨ct,atR⟩
 rintro k2 e h hkk2 ⟨hU,hA⟩
 refine aa ?_
 refine fQ (λh3=>?_) (λh3=>?_)
 refine oi ?_
 have hx4:k2<a0.l.length:=by omega
 refine be rfl (λ_=>nA (n:=k2) (r:=a0) (enc:=cI) rfl rfl rfl rfl rfl hx4 rfl) ?_
 generalize hqx5:a0.l[k2]=x5
 refine oV ?_
 refine gN (λh6=>?_) (λh6=>?_)
 refine fS ?_
 exact xB ⟨((k2:Int)),ck,rfl⟩
 refine fk ?_
 refine be rfl (λ_=>ca rfl rfl rfl (ej ((k2:Int)) 1 aY aY)) ?_
 refine e9 ?_
 exact eL
 refine gl ?_
 exact xB ⟨(-1),ck,rfl⟩
def Sp (_a0:ff Int) (_a1:Int) (v:AV):Prop:=∃ r0:Bool,(((r0=true->_a1∈_a0.l)/\(r0=false->_a1∉_a0.l)))/\v=.bool r0
def t44 (a0:ff Int) (a1:Int) :Ct 44 [nj a0,iv a1] (Sp a0 a1):=by
 refine fR ND ?_
 refine fS ?_
 refine oC (t66 a0 a1) ?_
 rintro _ ⟨r2,hc1,rfl⟩
 have hIx:=hc1
 refine jw (λh3=>?_) (λh3=>?_)
 refine fo ?_
 exact xB ⟨true,cb,rfl⟩
 refine fo ?_
 exact xB ⟨false,cb,rfl⟩
def t56 (a0:fw) (q1:j1 a0.p):Ct 56 [.ip (fw.ai a0) 0 false] (λv=>∃ r0:bY,(r0.elems.l=a0.p.elems.l/\r0.fj.l=a0.p.fj.l/\r0.signals.l=a0.p.signals.l/\r0.lines.l.length=a0.p.lines.l.length/\(∀ x∈r0.lines.l,x.elems.l.length<=60)/\r0=a0.p.canon)/\v=.agg (bY.ai r0)):=by
 refine fR Tt ?_
 refine hZ ?_
 refine oC (t61 a0.p aZ) ?_
 rintro _ ⟨r2,hc1,rfl⟩
 have hC90:=hc1
 refine fo ?_
 exact xG ⟨r2,a6,rfl⟩
def t65 (a0:ff bm) (q1:a0.l.length<=1000):Ct 65 [ff.av bm.ai a0] (λv=>∃ r0:Row bm,(r0.l=a0.l)/\v=fu r0):=by
 refine fR JI ?_
 refine fS ?_
 refine jf (b:=a0.isNil) rfl (λ_=>mi rfl rfl rfl rfl) (λh1=>?_) (λh1=>?_)
 refine gz ?_
 exact xG ⟨(kZ:Row bm),bO,rfl⟩
 refine fo ?_
 refine wy [ff.av bm.ai a0] [] ?_
 refine fk ?_
 have hS2:=Sep.nk gJ 2
 refine gj rfl (mY (i:=0) (l:=([]:List bm)) (enc:=bm.ai) a0.l hS2 rfl rfl rfl rfl rfl rfl rfl rfl rfl (λ_=>rfl) (.inl rfl) bE (λ_=>rfl)) ?_
 rintro v3 H4 hS5
 refine fo ?_
 obtain ⟨r6,hl7,hf8⟩:=iZ (H:=H4) (i:=0) (l:=(([]:List bm)++a0.l)) (enc:=bm.ai) hS5 rfl a8
 have hlq:=hl7; have hln10:=congrArg List.length hl7
 have hz9:∀ m,freeze false { H4 with aT:=[] } (m+2) v3=some (fu r6):=λm=>hf8 _ _ (λ_=>rfl)
 exact ⟨v3,(ia (vs:=[v3]) rfl (ei (Sep.arg (i:=0) hS5 rfl) fT)),fu r6,(show freeze false { H4 with aT:=[] } 8 v3=some (fu r6) by simp only [FZ,hz9]),r6,bO,rfl⟩
def u65 {H:au} (a0:ff bm) (F:List gh) (hS:Sep H F) (q1:a0.l.length<=1000):∃ v H',fh cfg FT fK true 65 [ff.av bm.ai a0] { H with aT:=[] } v H'/\(∃ ov:AV,∃ ol:List bm,(ol=a0.l)/\Sep H' (kh bm.ai 2 ov ol::F)/\v=ov):=by
 refine gO JI ?_
 refine fS ?_
 refine jf (b:=a0.isNil) rfl (λ_=>mi rfl rfl rfl rfl) (λh1=>?_) (λh1=>?_)
 refine gz ?_
 have hS2:=Sep.jZ hS 2
 have hS3:=Sep.pick hS2 [0] 1 bf bf
 exact eP
 refine fo ?_
 refine wz [ff.av bm.ai a0] H [] ?_
 refine fk ?_
 have hS4:=Sep.nk hS 2
 refine gj rfl (mY (i:=0) (l:=([]:List bm)) (enc:=bm.ai) a0.l hS4 rfl rfl rfl rfl rfl rfl rfl rfl rfl (λ_=>rfl) (.inl rfl) bE (λ_=>rfl)) ?_
 rintro v5 H6 hS7
 refine fo ?_
 have hS8:=Sep.pick hS7 [0] 1 bf bf
 exact eQ
def t105 (a0:fw) (a1:fe) (q1:a1.steps.l.length<=12):Ct 105 [.ip (fw.ai a0) 0 false,.agg (fe.ai a1)] (λv=>∃ r0:Row eU,(r0.l.length<=2*a1.steps.l.length)/\v=px r0):=by
 refine fR Pt ?_
 refine mw ?_
 have hL1:=a1.steps.lk
 refine gL a1.steps ?_
 refine fo ?_
 have hS2:=Sep.jZ gJ 2
 have hNk3:=a1.steps.lk
 refine e8 a1.steps.l.length (λk3 e h=>∃ v4:AV,∃ l5:List eU,∃ H6:au,(l5.length<=2*k3)/\Sep H6 (kh eU.ai 2 v4 l5::[])/\At [0,5,16,17,18] [.ip (fw.ai a0) 0 false,v4,fx a1.steps,cr a1.steps.l.length,cr k3] H6 [] e h) ?_ (k0:=0) bh ⟨ee,(([]:List eU)),au.empty,ci,hS2,atR⟩
 rintro k3 e h hkk3 ⟨v4,l5,H6,hI,hS7,hA⟩
 refine aa ?_
 refine fQ (λh8=>?_) (λh8=>?_)
 refine fk ?_
 refine wz [.ip (fw.ai a0) 0 false,v4,fx a1.steps,cr a1.steps.l.length,cr k3] H6 [] ?_ (fV hS7 [(5,0)])
 refine fk ?_
 have hx9:k3<a1.steps.l.length:=by omega
 refine jn k3 a1.steps hx9 ?_
 generalize hqx10:a1.steps.l[k3]=x10
 refine mw ?_
 refine oC (t110 a0 x10.elem) ?_
 rintro _ ⟨r12,hc11,rfl⟩
 have hK:=hc11
 refine fk ?_
 refine gN (λh13=>?_) (λh13=>?_)
 refine mw ?_
 refine be rfl (λ_=>ca rfl rfl rfl (pJ .i64 3 ((if x10.out > x10.kH then x10.out else x10.kH)))) ?_
 refine fo ?_
 refine wz [.ip (fw.ai a0) 0 false,v4,.la 7 0,.sl [[iv (IntKind.i64.wrap (3 - ((if x10.out > x10.kH then x10.out else x10.kH))))]] (.exact 1),fx a1.steps,cr a1.steps.l.length,cr k3] H6 [(7,(fi.ai x10))] ?_ (fV hS7 [(5,0)])
 refine gz ?_
 refine e8 1 (λmc e h=>∃ v15:AV,∃ l16:List eU,∃ H17:au,(l16.length<=l5.length+mc)/\Sep H17 (kh eU.ai 2 v15 l16::[])/\At [0,5,7,16,17,18,43,44,45] [.ip (fw.ai a0) 0 false,v15,.la 7 0,fx a1.steps,cr a1.steps.l.length,cr k3,.sl [[iv (IntKind.i64.wrap (3 - ((if x10.out > x10.kH then x10.out else x10.kH))))]] (.exact 1),iv 1,cr mc] H17 [(7,(fi.ai x10))] e h) ?_ (k0:=0) bh ⟨v4,l5,H6,bD,hS7,(fV hS7 [(5,0)])⟩
 rintro mc e h hkk14 ⟨v15,l16,H17,hl19,hS18,hA⟩
 refine aa ?_
 refine fQ (λh20=>?_) (λh20=>?_)
 refine fk ?_
 refine wz [.ip (fw.ai a0) 0 false,v15,.la 7 0,fx a1.steps,cr a1.steps.l.length,cr k3,.sl [[iv (IntKind.i64.wrap (3 - ((if x10.out > x10.kH then x10.out else x10.kH))))]] (.exact 1),iv 1,cr mc] H17 [(7,(fi.ai x10))] ?_ (fV hS18 [(5,0)])
 refine fk ?_
 have hx21:mc<(⟨[(IntKind.i64.wrap (3 - ((if x10.out > x10.kH then x10.out else x10.kH))))],.exact 1,pd,rfl,capXn⟩:Row Int).l.length:=by show mc<1; omega
 refine be rfl (λ_=>sJ (n:=mc) (r:=(⟨[(IntKind.i64.wrap (3 - ((if x10.out > x10.kH then x10.out else x10.kH))))],.exact 1,pd,rfl,capXn⟩:Row Int)) (enc:=cI) rfl rfl rfl rfl rfl hx21 rfl) ?_
 generalize hqx22:(⟨[(IntKind.i64.wrap (3 - ((if x10.out > x10.kH then x10.out else x10.kH))))],.exact 1,pd,rfl,capXn⟩:Row Int).l[mc]=x22
 refine oi ?_
 refine oC (t106 a0 (⟨x10.elem,x22⟩:eU)) ?_
 rintro _ ⟨r24,r25,hc23,rfl⟩
 have hN:=hc23
 cases r25
 refine kS ?_
 refine wz [.ip (fw.ai a0) 0 false,v15,.la 7 0,fx a1.steps,cr a1.steps.l.length,cr k3,.sl [[iv (IntKind.i64.wrap (3 - ((if x10.out > x10.kH then x10.out else x10.kH))))]] (.exact 1),iv 1,cr mc] H17 [(7,(fi.ai x10))] ?_ (fV hS18 [(5,0)])
 refine qg ?_
 refine be rfl (λ_=>ca rfl rfl rfl (ej ((mc:Int)) 1 aY aY)) ?_
 refine e9 ?_
 exact ⟨by omega,v15,l16,H17,aY,hS18,(fV hS18 [(5,0)])⟩
 refine oi ?_
 refine oF 0 [(⟨x10.elem,x22⟩:eU)] hS18 λv26 H27 hS28=>?_
 refine e9 ?_
 refine wz [.ip (fw.ai a0) 0 false,v26,.la 7 0,fx a1.steps,cr a1.steps.l.length,cr k3,.sl [[iv (IntKind.i64.wrap (3 - ((if x10.out > x10.kH then x10.out else x10.kH))))]] (.exact 1),iv 1,cr mc] H27 [(7,(fi.ai x10))] ?_ (fV hS28 [(5,0)])
 refine qg ?_
 refine be rfl (λ_=>ca rfl rfl rfl (ej ((mc:Int)) 1 aY aY)) ?_
 refine e9 ?_
 exact ⟨by omega,v26,((l16++[(⟨x10.elem,x22⟩:eU)])),H27,aY,hS28,(fV hS28 [(5,0)])⟩
 refine fk ?_
 refine wz [.ip (fw.ai a0) 0 false,v15,fx a1.steps,cr a1.steps.l.length,cr k3] H17 [] ?_ (fV hS18 [(5,0)])
 refine qg ?_
 refine be rfl (λ_=>ca rfl rfl rfl (ej ((k3:Int)) 1 aY aY)) ?_
 refine e9 ?_
 exact ⟨by omega,v15,l16,H17,bj,hS18,(fV hS18 [(5,0)])⟩
 refine gq ?_
 refine gN (λh29=>?_) (λh29=>?_)
 refine j9 ?_
 refine jI (λh30=>?_) (λh30=>?_)
 refine gS ?_
 refine wz [.ip (fw.ai a0) 0 false,v4,.la 7 0,.sl [[iv 0],[iv 1]] (.exact 2),fx a1.steps,cr a1.steps.l.length,cr k3] H6 [(7,(fi.ai x10))] ?_ (fV hS7 [(5,0)])
 refine gz ?_
 refine e8 2 (λj3 e h=>∃ v32:AV,∃ l33:List eU,∃ H34:au,(l33.length<=l5.length+j3)/\Sep H34 (kh eU.ai 2 v32 l33::[])/\At [0,5,7,16,17,18,43,44,45] [.ip (fw.ai a0) 0 false,v32,.la 7 0,fx a1.steps,cr a1.steps.l.length,cr k3,.sl [[iv 0],[iv 1]] (.exact 2),iv 2,cr j3] H34 [(7,(fi.ai x10))] e h) ?_ (k0:=0) bh ⟨v4,l5,H6,bD,hS7,(fV hS7 [(5,0)])⟩
 rintro j3 e h hkk31 ⟨v32,l33,H34,hl36,hS35,hA⟩
 refine aa ?_
 refine fQ (λh37=>?_) (λh37=>?_)
 refine fk ?_
 refine wz [.ip (fw.ai a0) 0 false,v32,.la 7 0,fx a1.steps,cr a1.steps.l.length,cr k3,.sl [[iv 0],[iv 1]] (.exact 2),iv 2,cr j3] H34 [(7,(fi.ai x10))] ?_ (fV hS35 [(5,0)])
 refine fk ?_
 have hx38:j3<(⟨[0,1],.exact 2,pd,rfl,capXn⟩:Row Int).l.length:=by show j3<2; omega
 refine be rfl (λ_=>sJ (n:=j3) (r:=(⟨[0,1],.exact 2,pd,rfl,capXn⟩:Row Int)) (enc:=cI) rfl rfl rfl rfl rfl hx38 rfl) ?_
 generalize hqx39:(⟨[0,1],.exact 2,pd,rfl,capXn⟩:Row Int).l[j3]=x39
 refine oi ?_
 refine oC (t106 a0 (⟨x10.elem,x39⟩:eU)) ?_
 rintro _ ⟨r41,r42,hc40,rfl⟩
 have hN:=hc40
 cases r42
 refine kS ?_
 refine wz [.ip (fw.ai a0) 0 false,v32,.la 7 0,fx a1.steps,cr a1.steps.l.length,cr k3,.sl [[iv 0],[iv 1]] (.exact 2),iv 2,cr j3] H34 [(7,(fi.ai x10))] ?_ (fV hS35 [(5,0)])
 refine qg ?_
 refine be rfl (λ_=>ca rfl rfl rfl (ej ((j3:Int)) 1 aY aY)) ?_
 refine e9 ?_
 exact ⟨by omega,v32,l33,H34,aY,hS35,(fV hS35 [(5,0)])⟩
 refine oi ?_
 refine oF 0 [(⟨x10.elem,x39⟩:eU)] hS35 λv43 H44 hS45=>?_
 refine e9 ?_
 refine wz [.ip (fw.ai a0) 0 false,v43,.la 7 0,fx a1.steps,cr a1.steps.l.length,cr k3,.sl [[iv 0],[iv 1]] (.exact 2),iv 2,cr j3] H44 [(7,(fi.ai x10))] ?_ (fV hS45 [(5,0)])
 refine qg ?_
 refine be rfl (λ_=>ca rfl rfl rfl (ej ((j3:Int)) 1 aY aY)) ?_
 refine e9 ?_
 exact ⟨by omega,v43,((l33++[(⟨x10.elem,x39⟩:eU)])),H44,aY,hS45,(fV hS45 [(5,0)])⟩
 refine fk ?_
 refine wz [.ip (fw.ai a0) 0 false,v32,fx a1.steps,cr a1.steps.l.length,cr k3] H34 [] ?_ (fV hS35 [(5,0)])
 refine qg ?_
 refine be rfl (λ_=>ca rfl rfl rfl (ej ((k3:Int)) 1 aY aY)) ?_
 refine e9 ?_
 exact ⟨by omega,v32,l33,H34,bj,hS35,(fV hS35 [(5,0)])⟩
 refine fo ?_
 refine wz [.ip (fw.ai a0) 0 false,v4,.la 7 0,.sl [[iv 2],[iv 3]] (.exact 2),fx a1.steps,cr a1.steps.l.length,cr k3] H6 [(7,(fi.ai x10))] ?_ (fV hS7 [(5,0)])
 refine gz ?_
 refine e8 2 (λmJ e h=>∃ v47:AV,∃ l48:List eU,∃ H49:au,(l48.length<=l5.length+mJ)/\Sep H49 (kh eU.ai 2 v47 l48::[])/\At [0,5,7,16,17,18,43,44,45] [.ip (fw.ai a0) 0 false,v47,.la 7 0,fx a1.steps,cr a1.steps.l.length,cr k3,.sl [[iv 2],[iv 3]] (.exact 2),iv 2,cr mJ] H49 [(7,(fi.ai x10))] e h) ?_ (k0:=0) bh ⟨v4,l5,H6,bD,hS7,(fV hS7 [(5,0)])⟩
 rintro mJ e h hkk46 ⟨v47,l48,H49,hl51,hS50,hA⟩
 refine aa ?_
 refine fQ (λh52=>?_) (λh52=>?_)
 refine fk ?_
 refine wz [.ip (fw.ai a0) 0 false,v47,.la 7 0,fx a1.steps,cr a1.steps.l.length,cr k3,.sl [[iv 2],[iv 3]] (.exact 2),iv 2,cr mJ] H49 [(7,(fi.ai x10))] ?_ (fV hS50 [(5,0)])
 refine fk ?_
 have hx53:mJ<(⟨[2,3],.exact 2,pd,rfl,capXn⟩:Row Int).l.length:=by show mJ<2; omega
 refine be rfl (λ_=>sJ (n:=mJ) (r:=(⟨[2,3],.exact 2,pd,rfl,capXn⟩:Row Int)) (enc:=cI) rfl rfl rfl rfl rfl hx53 rfl) ?_
 generalize hqx54:(⟨[2,3],.exact 2,pd,rfl,capXn⟩:Row Int).l[mJ]=x54
 refine oi ?_
 refine oC (t106 a0 (⟨x10.elem,x54⟩:eU)) ?_
 rintro _ ⟨r56,r57,hc55,rfl⟩
 have hN:=hc55
 cases r57
 refine kS ?_
 refine wz [.ip (fw.ai a0) 0 false,v47,.la 7 0,fx a1.steps,cr a1.steps.l.length,cr k3,.sl [[iv 2],[iv 3]] (.exact 2),iv 2,cr mJ] H49 [(7,(fi.ai x10))] ?_ (fV hS50 [(5,0)])
 refine qg ?_
 refine be rfl (λ_=>ca rfl rfl rfl (ej ((mJ:Int)) 1 aY aY)) ?_
 refine e9 ?_
 exact ⟨by omega,v47,l48,H49,aY,hS50,(fV hS50 [(5,0)])⟩
 refine oi ?_
 refine oF 0 [(⟨x10.elem,x54⟩:eU)] hS50 λv58 H59 hS60=>?_
 refine e9 ?_
 refine wz [.ip (fw.ai a0) 0 false,v58,.la 7 0,fx a1.steps,cr a1.steps.l.length,cr k3,.sl [[iv 2],[iv 3]] (.exact 2),iv 2,cr mJ] H59 [(7,(fi.ai x10))] ?_ (fV hS60 [(5,0)])
 refine qg ?_
 refine be rfl (λ_=>ca rfl rfl rfl (ej ((mJ:Int)) 1 aY aY)) ?_
 refine e9 ?_
 exact ⟨by omega,v58,((l48++[(⟨x10.elem,x54⟩:eU)])),H59,aY,hS60,(fV hS60 [(5,0)])⟩
 refine fk ?_
 refine wz [.ip (fw.ai a0) 0 false,v47,fx a1.steps,cr a1.steps.l.length,cr k3] H49 [] ?_ (fV hS50 [(5,0)])
 refine qg ?_
 refine be rfl (λ_=>ca rfl rfl rfl (ej ((k3:Int)) 1 aY aY)) ?_
 refine e9 ?_
 exact ⟨by omega,v47,l48,H49,bj,hS50,(fV hS50 [(5,0)])⟩
 refine fk ?_
 refine wz [.ip (fw.ai a0) 0 false,v4,.la 7 0,ee,fx a1.steps,cr a1.steps.l.length,cr k3] H6 [(7,(fi.ai x10))] ?_ (fV hS7 [(5,0)])
 refine gz ?_
 refine e8 0 (λpB e h=>At [0,5,7,16,17,18,43,44,45] [.ip (fw.ai a0) 0 false,v4,.la 7 0,fx a1.steps,cr a1.steps.l.length,cr k3,ee,iv 0,cr pB] H6 [(7,(fi.ai x10))] e h) ?_ (k0:=0) bh (fV hS7 [(5,0)])
 rintro pB e h hkk61 hA
 refine aa ?_
 refine fQ (λh62=>?_) (λh62=>?_)
 refine fk ?_
 refine wz [.ip (fw.ai a0) 0 false,v4,.la 7 0,fx a1.steps,cr a1.steps.l.length,cr k3,ee,iv 0,cr pB] H6 [(7,(fi.ai x10))] ?_ (fV hS7 [(5,0)])
 refine fk ?_
 exfalso; omega
 refine fk ?_
 refine wz [.ip (fw.ai a0) 0 false,v4,fx a1.steps,cr a1.steps.l.length,cr k3] H6 [] ?_ (fV hS7 [(5,0)])
 refine qg ?_
 refine be rfl (λ_=>ca rfl rfl rfl (ej ((k3:Int)) 1 aY aY)) ?_
 refine e9 ?_
 exact ⟨by omega,v4,l5,H6,bj,hS7,(fV hS7 [(5,0)])⟩
 refine fk ?_
 refine wz [v4] H6 [] ?_ (fV hS7 [(5,0)])
 refine gS ?_
 obtain ⟨r63,hl64,hf65⟩:=iZ (H:=H6) (i:=0) (l:=l5) (enc:=eU.ai) hS7 rfl a8
 have hlq:=hl64; have hln67:=congrArg List.length hl64
 have hz66:∀ m,freeze false { H6 with aT:=[] } (m+2) v4=some (px r63):=λm=>hf65 _ _ (λ_=>rfl)
 exact ⟨v4,(ia (vs:=[v4]) rfl (ei (Sep.arg (i:=0) hS7 rfl) fT)),px r63,(show freeze false { H6 with aT:=[] } 8 v4=some (px r63) by simp only [FZ,hz66]),r63,(by first | omega | (simp_all; omega)),rfl⟩
def Lo {H:au} (el:Int) (en:Int) (bn:Nat) (nn:fw) (bt:Nat) (vt:AV) (todo:List eU) (F:List gh) (hS:Sep H (gi bn [.ip (fw.ai nn) 0 false]::gi bt [vt]::gy eU.ai 2 vt todo::F)) (q1:todo.length<=2000):∃ v H',fh cfg FT fK true 107 [iv el,iv en,(eX bn),(eX bt)] { H with aT:=[] } v H'/\(∃ vto:AV,∃ todoo:List eU,(todoo.length<=todo.length+1/\∀ y∈todoo,y∈todo\/y∈univ nn)/\Sep H' (gi bn [.ip (fw.ai nn) 0 false]::gi bt [vto]::gy eU.ai 2 vto todoo::F)/\v=.fG []):=by
 refine gO Ou ?_
 refine e9 ?_
 refine kW 0 hS (.ip (fw.ai nn) 0 false) ?_
 refine fo ?_
 refine oC (t106 nn (⟨el,en⟩:eU)) ?_
 rintro _ ⟨r2,r3,hc1,rfl⟩
 have hN:=hc1
 cases r3
 refine kS ?_
 have hS4:=Sep.pick hS [0,1,2] 3 bf bf
 exact ⟨.fG [],rfl,vt,todo,cO,Sep.aT hS4 _,rfl⟩
 refine kS ?_
 refine kW 1 hS vt ?_
 refine e9 ?_
 refine oF 2 [r2] hS λv5 H6 hS7=>?_
 refine gj rfl (lV (H:=H6) (i:=1) (o:=0) (r:=v5) hS7 rfl rfl rfl rfl (jx rfl rfl (Sep.cell (i:=2) hS7 rfl)) (ei (Sep.cell (i:=2) hS7 rfl) fT) rfl) ?_
 rintro _ H8 ⟨rfl,hS9⟩
 refine oN ?_
 have hS10:=Sep.pick hS9 [0,1,2] 3 bf bf
 exact ⟨.fG [],rfl,v5,(todo++[r2]),cO,Sep.aT hS10 _,rfl⟩
def Rw (_a0:sW) (_a1:Int) (v:AV):Prop:=∃ r0:Bool,(True)/\v=.bool r0
def t108 (a0:sW) (a1:Int) :Ct 108 [.agg (sW.ai a0),iv a1] (Rw a0 a1):=by
 refine fR OF ?_
 refine fo ?_
 refine gj rfl (o3 gJ rfl rfl rfl rfl rfl) ?_
 rintro _ H2 ⟨b1,rfl,hS3⟩
 refine gS ?_
 refine be rfl (λ_=>yg rfl rfl (xK rfl rfl)) ?_
 have hS4:=Sep.pick hS3 [0] 1 bf bf
 refine gA (H:=H2) (args:=[ff.av fi.ai a0.steps,.gx 204 [] [(eX b1)]]) (p:=[]) (r:=[]) rfl rfl rfl rfl rfl rfl rfl (MI a0.steps b1 a1 ([]) hS4) ?_
 rintro _ H5 ⟨r8,hc7,hS6,rfl⟩
 cases r8
 refine fo ?_
 exact dI
 refine fo ?_
 exact dK
def P7 {H:au} (b:Nat) (f0:Int) (f1:Int) (f2:Int) (steps:Row fi) (fX:Row bm) (vg:AV) (guards:List bm) (vz:AV) (gB:List Int) (vh:AV) (holds:List Int) (bare:Bool) (el:Int) (F:List gh) (hS:Sep H (gi b [iv f0,iv f1,iv f2,fx steps,fu fX,vg,vz,vh,.bool bare]::kh bm.ai 2 vg guards::kL vz gB::kL vh holds::F)) (q1:gB.length<=12):∃ v H',fh cfg FT fK true 111 [(eX b),iv el] { H with aT:=[] } v H'/\(∃ r0:Bool,∃ vzo:AV,∃ zoneo:List Int,∃ bareo:Bool,(zoneo.length<=12/\∀ x∈zoneo,x∈gB\/x=el)/\Sep H' (gi b [iv f0,iv f1,iv f2,fx steps,fu fX,vg,vzo,vh,.bool bareo]::kh bm.ai 2 vg guards::kL vzo zoneo::kL vh holds::F)/\v=.bool r0):=by
 refine gO Oh ?_
 refine fS ?_
 refine ae ?_
 refine be rfl (λ_=>iP (i:=0) (o:=6) (r:=vz) hS rfl rfl rfl rfl) ?_
 refine oV ?_
 refine lJ hS 2 λr1 hl2 hln5 hz4=>?_
 refine kD (args:=[vz,iv el]) (p:=[]) (r:=[]) (args':=[nj r1,iv el]) (R:=Sp r1 el) rfl rfl rfl rfl rfl (ei (Sep.arg (i:=2) hS rfl) (ei rfl fT)) rfl cC (gG (by show fU (freeze true { H with aT:=[] } 8) [vz,iv el] = _; simp only [FZ,hz4]) (ei (Sep.qE (i:=2) hS rfl) (ei rfl fT))) (gG bV (ei rfl (ei rfl fT))) (λh=>t44 r1 el  h) ?_
 rintro _ ⟨r7,hc6,rfl⟩
 have hIn:=hc6
 cases r7
 refine fo ?_
 refine wz [(eX b),iv el] H [] ?_
 refine fk ?_
 refine ae ?_
 refine be rfl (λ_=>iP (i:=0) (o:=6) (r:=vz) hS rfl rfl rfl rfl) ?_
 refine be rfl (λ_=>jC (i:=2) (l:=gB) (enc:=cI) hS rfl rfl rfl rfl rfl rfl rfl) ?_
 refine jw (λh8=>?_) (λh8=>?_)
 refine gq ?_
 refine ae ?_
 refine gj rfl (lV (i:=0) (o:=8) (r:=.bool true) hS rfl rfl rfl rfl rfl rfl rfl) ?_
 rintro _ H9 ⟨rfl,hS10⟩
 refine gS ?_
 have hS11:=Sep.pick hS10 [0,1,2,3] 4 bf bf
 exact ⟨.bool false,rfl,false,vz,gB,true,cm,Sep.aT hS11 _,rfl⟩
 refine fo ?_
 refine wz [(eX b),iv el] H [] ?_
 refine fk ?_
 refine ae ?_
 refine be rfl (λ_=>iP (i:=0) (o:=6) (r:=vz) hS rfl rfl rfl rfl) ?_
 refine e9 ?_
 refine oF 2 [el] hS λv12 H13 hS14=>?_
 refine be rfl (λ_=>pI (i:=0) hS14 rfl rfl) ?_
 refine be rfl (λ_=>oW (i:=0) hS14 rfl rfl rfl rfl rfl) ?_
 refine gj rfl (lV (i:=0) (o:=6) (r:=v12) hS14 rfl rfl rfl rfl (jx rfl rfl (Sep.cell (i:=2) hS14 rfl)) (ei (Sep.cell (i:=2) hS14 rfl) fT) rfl) ?_
 rintro _ H15 ⟨rfl,hS16⟩
 refine gS ?_
 have hS17:=Sep.pick hS16 [0,1,2,3] 4 bf bf
 exact ⟨.bool true,rfl,true,v12,(gB++[el]),bare,cm,Sep.aT hS17 _,rfl⟩
 refine gz ?_
 have hS18:=Sep.pick hS [0,1,2,3] 4 bf bf
 exact ⟨.bool true,rfl,true,vz,gB,bare,cm,Sep.aT hS18 _,rfl⟩
def t206 (a0:ff bm) (a1:bm) :Ct 206 [ff.av bm.ai a0,.agg (bm.ai a1)] (λv=>∃ r0:Int,(True)/\v=iv r0):=by
 refine fR N8 ?_
 refine gl ?_
 have hL1:=a0.lk
 refine be rfl (λ_=>mj (r:=a0) (enc:=bm.ai) rfl rfl rfl rfl rfl rfl) ?_
 refine fo ?_
 have hNk2:=a0.lk
 refine e8 a0.l.length (λk2 e h=>At [0,3,7,8] [ff.av bm.ai a0,.la 3 0,cr a0.l.length,cr k2] au.empty [(3,(bm.ai a1))] e h) ?_ (k0:=0) bh atR
 rintro k2 e h hkk2 hA
 refine aa ?_
 refine fQ (λh3=>?_) (λh3=>?_)
 refine kS ?_
 refine jG ?_
 have hx4:k2<a0.l.length:=by omega
 refine fD rfl rfl (λ_=>nA (n:=k2) (r:=a0) (enc:=bm.ai) rfl rfl rfl rfl rfl hx4 rfl) ?_
 generalize hqx5:a0.l[k2]=x5
 refine rV ?_
 refine og rfl rfl (λ_=>xe rfl rfl rfl (λ_ _=>rfl)) (λh6=>?_) (λh6=>?_)
 refine lu ?_
 refine fk ?_
 exact xB ⟨((k2:Int)),zt⟩
 refine lu ?_
 refine be rfl (λ_=>ca rfl rfl rfl (ej ((k2:Int)) 1 aY aY)) ?_
 refine e9 ?_
 exact dJ
 refine gl ?_
 exact xB ⟨(-1),zt⟩
def Ms (_a0:ff bm) (_a1:bm) (v:AV):Prop:=∃ r0:Bool,(True)/\v=.bool r0
def t112 (a0:ff bm) (a1:bm) :Ct 112 [ff.av bm.ai a0,.agg (bm.ai a1)] (Ms a0 a1):=by
 refine fR OW ?_
 refine gl ?_
 refine oC (t206 a0 a1) ?_
 rintro _ ⟨r2,hc1,rfl⟩
 refine jw (λh3=>?_) (λh3=>?_)
 refine fo ?_
 exact dK
 refine fo ?_
 exact dI
def t207 (a0:fw) (a1:Int) (a2:Int) (a3:Int) :Ct 207 [.ip (fw.ai a0) 0 false,iv a1,iv a2,iv a3] (λv=>∃ r0:Int,∃ r1:Bool,(True)/\v=.fG [iv r0,.bool r1]):=by
 refine fR Oq ?_
 refine kP ?_
 refine oC (t255 a0 a1 a2) ?_
 rintro _ ⟨r2,hc1,rfl⟩
 have hL3:=r2.lk
 refine gL r2 ?_
 refine fo ?_
 have hNk4:=r2.lk
 refine e8 r2.l.length (λk4 e h=>At [3,15,16,17] [iv a3,ub r2,cr r2.l.length,cr k4] au.empty [] e h) ?_ (k0:=0) bh atR
 rintro k4 e h hkk4 hA
 refine aa ?_
 refine fQ (λh5=>?_) (λh5=>?_)
 refine fS ?_
 have hx6:k4<r2.l.length:=by omega
 refine jn k4 r2 hx6 ?_
 generalize hqx7:r2.l[k4]=x7
 refine fS ?_
 refine gN (λh8=>?_) (λh8=>?_)
 refine oi ?_
 exact xG ⟨x7.out,true,zt⟩
 refine fk ?_
 refine gN (λh9=>?_) (λh9=>?_)
 refine kP ?_
 exact xG ⟨x7.out,true,zt⟩
 refine gq ?_
 refine be rfl (λ_=>ca rfl rfl rfl (ej ((k4:Int)) 1 aY aY)) ?_
 refine e9 ?_
 exact dJ
 refine hZ ?_
 exact xG ⟨0,false,zt⟩
def t113 (a0:fw) (a1:Int) (a2:Int) (a3:Int) :Ct 113 [.ip (fw.ai a0) 0 false,iv a1,iv a2,iv a3] (λv=>∃ r0:Int,∃ r1:Bool,(True)/\v=.fG [iv r0,.bool r1]):=by
 refine fR PC ?_
 refine kP ?_
 refine oC (t207 a0 a1 a2 a3) ?_
 rintro _ ⟨r2,r3,hc1,rfl⟩
 cases r3
 refine gS ?_
 exact xG ⟨r2,false,zt⟩
 refine gS ?_
 exact xG ⟨r2,true,zt⟩
end Go.Sx
