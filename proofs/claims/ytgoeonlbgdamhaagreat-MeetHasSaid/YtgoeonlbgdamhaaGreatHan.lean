/- Proves what some functions of the program answer, by walking through them. -/
import Derived.Test.YtgoeonlbgdamhaaGreatHag
import Derived.Test.YtgoeonlbgdamhaaGreatHaj
import Derived.Test.YtgoeonlbgdamhaaGreatHal
import Derived.Test.YtgoeonlbgdamhaaGreatHam
set_option linter.all false
set_option maxRecDepth 100000
set_option maxHeartbeats 0
namespace Go.Sx
open Go Go.Proofs
def adD (_a0:bS) (v:AV):Prop:=(∃ r0:iR,(rG r0 _a0)/\v=.je [.ip (iR.af r0) 0 false,iv 0])\/(∃ r1:Int,(r1≠0)/\v=.je [.j4,iv r1])
def ac4 (a0:bS) (q1:mu a0):Ct 49 [.agg (bS.af a0)] (adD a0):=by
 refine ja Lz ?_
 have q2:=q1.iO; have q3:=q1.signals; have q4:=q1.lines
 refine bR ?_
 refine ah ?_
 refine oC (t100 a0) ?_
 rintro _ ⟨r2,hc1,rfl⟩
 have hC89:=hc1
 refine cR ?_
 refine kE (λh3=>?_) (λh3=>?_)
 refine az ?_
 refine bj ?_
 refine xG (.inr (⟨r2,fP,rfl⟩))
 refine aC ?_
 refine wy [.la 1 0] [(1,(bS.af a0))] ?_
 refine aE ?_
 refine oC (t101 a0 dK) ?_
 rintro _ ⟨r5,hc4,rfl⟩
 have hC90:=hc4
 refine jq rfl (oe j1) ?_
 rintro _ H7 ⟨b6,rfl,hS8⟩
 refine jq rfl (oe hS8) ?_
 rintro _ H10 ⟨b9,rfl,hS11⟩
 refine jq rfl (oe hS11) ?_
 rintro _ H13 ⟨b12,rfl,hS14⟩
 refine jq rfl (oe hS14) ?_
 rintro _ H16 ⟨b15,rfl,hS17⟩
 refine oV ?_
 refine jq rfl (vZ hS17 rfl rfl rfl rfl rfl) ?_
 rintro _ H19 ⟨b18,rfl,hS20⟩
 refine ab ?_
 refine aQ ?_
 have hL21:=a0.iO.lk
 refine jb a0.iO ?_
 refine aL ?_
 have hNk22:=a0.iO.lk
 refine iF a0.iO.l.length (λmE e h=>∃ l23:List (iu×iu),∃ H24:aT,(∀ x:iu,look x l23=lq (a0.iO.l.take mE) x)/\(l23.length<=2*mE)/\(∀ y∈(l23:List (iu×iu)),nk y.2.elem)/\Sep H24 (kM b18 [jw r5.elems,jC r5.iO,jD r5.signals,jr r5.lines,iv r5.top,iv r5.jY,iv r5.j5,iv r5.j8,.bool r5.ke,(.hm b6),(.hm b9),(.hm b12),(.hm b15)]::lJ b15 iK iK []::lJ b12 iK sR []::lJ b9 pK iK []::lJ b6 pK pK l23::[])/\At [1,5,31,32,33] [.la 1 0,(iX b18),jC a0.iO,ir a0.iO.l.length,ir mE] H24 [(1,(bS.af a0))] e h) ?_ (k0:=0) dT ⟨([]),H19,(by (intro x; rfl)),fp,fp,hS20,atR⟩
 rintro mE e h hkk22 ⟨l23,H24,hD,hN,hNg,hS25,hA⟩
 refine aO ?_
 refine iV (λh26=>?_) (λh26=>?_)
 refine ap ?_
 refine wz [.la 1 0,(iX b18),jC a0.iO,ir a0.iO.l.length,ir mE] H24 [(1,(bS.af a0))] ?_
 refine bi ?_
 have hx27:mE<a0.iO.l.length:=by omega
 refine kH mE a0.iO hx27 ?_
 generalize hqx28:a0.iO.l[mE]=x28
 have hinx28:x28∈a0.iO.l:=by rw [<- hqx28]; exact List.getElem_mem _
 obtain ⟨hgax28,hgbx28⟩:=ab7 (hC89 dT).2.2.2.2.2.2.jv (hC89 dT).2.2.2.1 x28 hinx28
 refine ba ?_
 refine qd ?_
 refine rV ?_
 refine dI ?_
 refine bf ?_
 refine dI ?_
 refine cJ ?_
 refine qN rfl rfl (qU (H:=H24) (i:=4) (ek:=pK) (ev:=pK) (l:=l23) x28.a x28.b hS25 rfl rfl rfl rfl rfl rfl rfl rfl rfl lx) ?_
 rintro _ H29 ⟨w30,n31,H32,rfl,hop33,hS34⟩
 refine ⟨λcall=>(zE (l8 rfl rfl rfl rfl rfl eU) (zE (l8 rfl rfl rfl rfl rfl eU) (wM (l8 rfl rfl rfl rfl rfl eU)))),?_⟩
 refine rV ?_
 refine EU rfl rfl ⟨0,λ_ _=>hop33 _ _ _ _ _ _ _ _ rfl rfl rfl⟩ (λcall=>(zE (l8 rfl rfl rfl rfl rfl eU) (wM (l8 rfl rfl rfl rfl rfl eU)))) ?_
 refine qN rfl rfl (qU (H:=H32) (i:=4) (ek:=pK) (ev:=pK) (l:=(put x28.a x28.b l23)) x28.b x28.a hS34 rfl rfl rfl rfl rfl rfl rfl rfl rfl lx) ?_
 rintro _ H35 ⟨w36,n37,H38,rfl,hop39,hS40⟩
 refine ⟨λcall=>(wM (l8 rfl rfl rfl rfl rfl eU)),?_⟩
 refine rV ?_
 refine iN rfl rfl (λ_=>hop39 _ _ _ _ _ _ _ _ rfl rfl rfl) ?_
 refine rN ?_
 refine wz [.la 1 0,(iX b18),jC a0.iO,ir a0.iO.l.length,ir mE] H38 [(1,(bS.af a0))] ?_
 refine qg ?_
 refine jc ?_
 refine ab ?_
 exact ⟨by omega,((put x28.b x28.a (put x28.a x28.b l23))),H38,(by exact Lg dS dS (hC89 dT).1 hD),(by exact MG hN),(by exact qR (P:=λy:iu=>nk y.elem) (qR (P:=λy:iu=>nk y.elem) hNg dS) dS),hS40,atR⟩
 refine ao ?_
 refine wz [.la 1 0,(iX b18)] H24 [(1,(bS.af a0))] ?_
 refine aQ ?_
 have hL41:=a0.signals.lk
 refine da ?_
 have hNk42:=a0.signals.lk
 refine iF a0.signals.l.length (λvT e h=>∃ l43:List (iu×Int),∃ H44:aT,(∀ x:iu,look x l43=nC (a0.signals.l.take vT) x)/\Sep H44 (kM b18 [jw r5.elems,jC r5.iO,jD r5.signals,jr r5.lines,iv r5.top,iv r5.jY,iv r5.j5,iv r5.j8,.bool r5.ke,(.hm b6),(.hm b9),(.hm b12),(.hm b15)]::lJ b15 iK iK []::lJ b12 iK sR []::lJ b9 pK iK l43::lJ b6 pK pK l23::[])/\At [1,5,59,60,61] [.la 1 0,(iX b18),jD a0.signals,ir a0.signals.l.length,ir vT] H44 [(1,(bS.af a0))] e h) ?_ (k0:=0) dT ⟨([]),H24,(by (intro x; rfl)),hS25,atR⟩
 rintro vT e h hkk42 ⟨l43,H44,hR,hS45,hA⟩
 refine aO ?_
 refine iV (λh46=>?_) (λh46=>?_)
 refine ap ?_
 refine wz [.la 1 0,(iX b18),jD a0.signals,ir a0.signals.l.length,ir vT] H44 [(1,(bS.af a0))] ?_
 refine bT ?_
 have hx47:vT<a0.signals.l.length:=by omega
 refine kH vT a0.signals hx47 ?_
 generalize hqx48:a0.signals.l[vT]=x48
 refine cg ?_
 refine qd ?_
 refine rV ?_
 refine s7 0 hS45 ?_
 refine qV 0 hS45 ?_
 refine rL 0 hS45 ((.hm b9)) ?_
 refine bf ?_
 refine l3 rfl rfl (mZ (H:=H44) (i:=3) (ek:=pK) (ev:=iK) (l:=l43) x48.at_ ((vT:Int)) hS45 rfl rfl rfl rfl rfl rfl lx) ?_
 rintro _ H49 ⟨rfl,hS50⟩
 refine rN ?_
 refine wz [.la 1 0,(iX b18),jD a0.signals,ir a0.signals.l.length,ir vT] H49 [(1,(bS.af a0))] ?_
 refine qg ?_
 refine jc ?_
 refine ab ?_
 exact ⟨by omega,((put x48.at_ ((vT:Int)) l43)),H49,(by exact GH dS dS (hC89 dT).2.1 hR),hS50,atR⟩
 refine ao ?_
 refine wz [.la 1 0,(iX b18)] H44 [(1,(bS.af a0))] ?_
 refine aQ ?_
 have hL51:=a0.lines.lk
 refine jb a0.lines ?_
 refine aL ?_
 have hNk52:=a0.lines.lk
 refine iF a0.lines.l.length (λlP e h=>∃ l53:List (Int×Int),∃ l54:List (Int×(Int×Int)),∃ H55:aT,(qK a0 lP 0 l54)/\Sep H55 (kM b18 [jw r5.elems,jC r5.iO,jD r5.signals,jr r5.lines,iv r5.top,iv r5.jY,iv r5.j5,iv r5.j8,.bool r5.ke,(.hm b6),(.hm b9),(.hm b12),(.hm b15)]::lJ b15 iK iK l53::lJ b12 iK sR l54::lJ b9 pK iK l43::lJ b6 pK pK l23::[])/\At [5,75,76,77] [(iX b18),jr a0.lines,ir a0.lines.l.length,ir lP] H55 [] e h) ?_ (k0:=0) dT ⟨([]),([]),H44,(by exact qK.zero),hS45,atR⟩
 rintro lP e h hkk52 ⟨l53,l54,H55,hLi,hS56,hA⟩
 refine aO ?_
 refine iV (λh57=>?_) (λh57=>?_)
 refine ap ?_
 refine wz [(iX b18),jr a0.lines,ir a0.lines.l.length,ir lP] H55 [] ?_
 refine bT ?_
 have hx58:lP<a0.lines.l.length:=by omega
 refine kH lP a0.lines hx58 ?_
 generalize hqx59:a0.lines.l[lP]=x59
 have hinx59:x59∈a0.lines.l:=by rw [<- hqx59]; exact List.getElem_mem _
 have hsx59:=q1.line x59 hinx59
 refine cg ?_
 refine aU ?_
 refine zQ (λE Z=>(E=[(5,(iX b18)),(10,ir lP),(11,.la 11 0),(12,iv 1),(75,jr a0.lines),(76,ir a0.lines.l.length),(77,ir lP)]/\Z = { H55 with iq:=[(11,(jx.af x59))] })\/(E=[(5,(iX b18)),(10,ir lP),(11,.la 11 0),(12,iv 0),(75,jr a0.lines),(76,ir a0.lines.l.length),(77,ir lP)]/\Z = { H55 with iq:=[(11,(jx.af x59))] })) ?_ ?_
 rintro _ _ (⟨rfl,rfl⟩ | ⟨rfl,rfl⟩)
 refine ae ?_
 have hL60:=x59.elems.lk
 refine jb x59.elems ?_
 refine aL ?_
 have hNk61:=x59.elems.lk
 refine iF x59.elems.l.length (λra e h=>∃ l62:List (Int×Int),∃ l63:List (Int×(Int×Int)),∃ n64:Int,∃ H65:aT,(qK a0 lP ra l63)/\Sep H65 (kM b18 [jw r5.elems,jC r5.iO,jD r5.signals,jr r5.lines,iv r5.top,iv r5.jY,iv r5.j5,iv r5.j8,.bool r5.ke,(.hm b6),(.hm b9),(.hm b12),(.hm b15)]::lJ b15 iK iK l62::lJ b12 iK sR l63::lJ b9 pK iK l43::lJ b6 pK pK l23::[])/\At [5,10,12,75,76,77,110,111,112] [(iX b18),ir lP,iv n64,jr a0.lines,ir a0.lines.l.length,ir lP,jV x59.elems,ir x59.elems.l.length,ir ra] H65 [] e h) ?_ (k0:=0) dT ⟨l53,l54,1,H55,(by exact hLi),hS56,atR⟩
 rintro ra e h hkk61 ⟨l62,l63,n64,H65,hLi2,hS66,hA⟩
 refine aO ?_
 refine iV (λh67=>?_) (λh67=>?_)
 refine ap ?_
 refine wz [(iX b18),ir lP,iv n64,jr a0.lines,ir a0.lines.l.length,ir lP,jV x59.elems,ir x59.elems.l.length,ir ra] H65 [] ?_
 refine bT ?_
 have hx68:ra<x59.elems.l.length:=by omega
 refine kH ra x59.elems hx68 ?_
 generalize hqx69:x59.elems.l[ra]=x69
 refine ba ?_
 refine aH ?_
 refine rV ?_
 refine s7 0 hS66 ?_
 refine qV 0 hS66 ?_
 refine rL 0 hS66 ((.hm b12)) ?_
 refine ay ?_
 refine s7 0 hS66 ?_
 refine qV 0 hS66 ?_
 refine rL 0 hS66 ((.hm b15)) ?_
 refine cu ?_
 refine l3 rfl rfl (qU (H:=H65) (i:=2) (ek:=iK) (ev:=sR) (l:=l63) x69 (((lP:Int),(ra:Int))) hS66 rfl rfl rfl rfl rfl rfl rfl rfl rfl pY) ?_
 rintro _ H70 ⟨w71,n72,H73,rfl,hop74,hS75⟩
 refine rV ?_
 refine iN rfl rfl (λ_=>hop74 _ _ _ _ _ _ _ _ rfl rfl rfl) ?_
 refine l3 rfl rfl (qU (H:=H73) (i:=1) (ek:=iK) (ev:=iK) (l:=l62) x69 n64 hS75 rfl rfl rfl rfl rfl rfl rfl rfl rfl pY) ?_
 rintro _ H76 ⟨w77,n78,H79,rfl,hop80,hS81⟩
 refine rV ?_
 refine iN rfl rfl (λ_=>hop80 _ _ _ _ _ _ _ _ rfl rfl rfl) ?_
 refine rN ?_
 refine aM ?_
 refine F5 0 hS81 ?_
 refine pq 0 hS81 ?_
 refine mX 0 hS81 ((.hm b6)) ?_
 refine aj ?_
 refine iz rfl (λ_=>iZ rfl rfl rfl (jF .i64 1 n64)) ?_
 refine oV ?_
 refine mw (H:=H79) (i:=4) (ek:=pK) (ev:=pK) (l:=l23) ((⟨x69,(IntKind.i64.wrap (1 - n64))⟩:iu)) rfl rfl hS81 rfl rfl rfl rfl rfl rfl rfl rfl lx (λy82 h83=>?_) (λh84=>?_)
 refine bo ?_
 refine wz [(iX b18),ir lP,iv y82.en,jr a0.lines,ir a0.lines.l.length,ir lP,jV x59.elems,ir x59.elems.l.length,ir ra] H79 [] ?_
 refine qg ?_
 refine jc ?_
 refine ab ?_
 exact ⟨by omega,((put x69 n64 l62)),((put x69 (((lP:Int),(ra:Int))) l63)),y82.en,H79,fu,hS81,atR⟩
 refine bo ?_
 refine wz [(iX b18),ir lP,iv 0,jr a0.lines,ir a0.lines.l.length,ir lP,jV x59.elems,ir x59.elems.l.length,ir ra] H79 [] ?_
 refine qg ?_
 refine jc ?_
 refine ab ?_
 exact ⟨by omega,((put x69 n64 l62)),((put x69 (((lP:Int),(ra:Int))) l63)),0,H79,fu,hS81,atR⟩
 refine ao ?_
 refine wz [(iX b18),jr a0.lines,ir a0.lines.l.length,ir lP] H65 [] ?_
 refine qg ?_
 refine jc ?_
 refine ab ?_
 exact ⟨by omega,l62,l63,H65,(by exact hLi2.next dS dT),hS66,atR⟩
 refine ae ?_
 have hL85:=x59.elems.lk
 refine jb x59.elems ?_
 refine aL ?_
 have hNk86:=x59.elems.lk
 refine iF x59.elems.l.length (λtR e h=>∃ l87:List (Int×Int),∃ l88:List (Int×(Int×Int)),∃ n89:Int,∃ H90:aT,(qK a0 lP tR l88)/\Sep H90 (kM b18 [jw r5.elems,jC r5.iO,jD r5.signals,jr r5.lines,iv r5.top,iv r5.jY,iv r5.j5,iv r5.j8,.bool r5.ke,(.hm b6),(.hm b9),(.hm b12),(.hm b15)]::lJ b15 iK iK l87::lJ b12 iK sR l88::lJ b9 pK iK l43::lJ b6 pK pK l23::[])/\At [5,10,12,75,76,77,110,111,112] [(iX b18),ir lP,iv n89,jr a0.lines,ir a0.lines.l.length,ir lP,jV x59.elems,ir x59.elems.l.length,ir tR] H90 [] e h) ?_ (k0:=0) dT ⟨l53,l54,0,H55,(by exact hLi),hS56,atR⟩
 rintro tR e h hkk86 ⟨l87,l88,n89,H90,hLi2,hS91,hA⟩
 refine aO ?_
 refine iV (λh92=>?_) (λh92=>?_)
 refine ap ?_
 refine wz [(iX b18),ir lP,iv n89,jr a0.lines,ir a0.lines.l.length,ir lP,jV x59.elems,ir x59.elems.l.length,ir tR] H90 [] ?_
 refine bT ?_
 have hx93:tR<x59.elems.l.length:=by omega
 refine kH tR x59.elems hx93 ?_
 generalize hqx94:x59.elems.l[tR]=x94
 refine ba ?_
 refine aH ?_
 refine rV ?_
 refine s7 0 hS91 ?_
 refine qV 0 hS91 ?_
 refine rL 0 hS91 ((.hm b12)) ?_
 refine ay ?_
 refine s7 0 hS91 ?_
 refine qV 0 hS91 ?_
 refine rL 0 hS91 ((.hm b15)) ?_
 refine cu ?_
 refine l3 rfl rfl (qU (H:=H90) (i:=2) (ek:=iK) (ev:=sR) (l:=l88) x94 (((lP:Int),(tR:Int))) hS91 rfl rfl rfl rfl rfl rfl rfl rfl rfl pY) ?_
 rintro _ H95 ⟨w96,n97,H98,rfl,hop99,hS100⟩
 refine rV ?_
 refine iN rfl rfl (λ_=>hop99 _ _ _ _ _ _ _ _ rfl rfl rfl) ?_
 refine l3 rfl rfl (qU (H:=H98) (i:=1) (ek:=iK) (ev:=iK) (l:=l87) x94 n89 hS100 rfl rfl rfl rfl rfl rfl rfl rfl rfl pY) ?_
 rintro _ H101 ⟨w102,n103,H104,rfl,hop105,hS106⟩
 refine rV ?_
 refine iN rfl rfl (λ_=>hop105 _ _ _ _ _ _ _ _ rfl rfl rfl) ?_
 refine rN ?_
 refine aM ?_
 refine F5 0 hS106 ?_
 refine pq 0 hS106 ?_
 refine mX 0 hS106 ((.hm b6)) ?_
 refine aj ?_
 refine iz rfl (λ_=>iZ rfl rfl rfl (jF .i64 1 n89)) ?_
 refine oV ?_
 refine mw (H:=H104) (i:=4) (ek:=pK) (ev:=pK) (l:=l23) ((⟨x94,(IntKind.i64.wrap (1 - n89))⟩:iu)) rfl rfl hS106 rfl rfl rfl rfl rfl rfl rfl rfl lx (λy107 h108=>?_) (λh109=>?_)
 refine bo ?_
 refine wz [(iX b18),ir lP,iv y107.en,jr a0.lines,ir a0.lines.l.length,ir lP,jV x59.elems,ir x59.elems.l.length,ir tR] H104 [] ?_
 refine qg ?_
 refine jc ?_
 refine ab ?_
 exact ⟨by omega,((put x94 n89 l87)),((put x94 (((lP:Int),(tR:Int))) l88)),y107.en,H104,fu,hS106,atR⟩
 refine bo ?_
 refine wz [(iX b18),ir lP,iv 0,jr a0.lines,ir a0.lines.l.length,ir lP,jV x59.elems,ir x59.elems.l.length,ir tR] H104 [] ?_
 refine qg ?_
 refine jc ?_
 refine ab ?_
 exact ⟨by omega,((put x94 n89 l87)),((put x94 (((lP:Int),(tR:Int))) l88)),0,H104,fu,hS106,atR⟩
 refine ao ?_
 refine wz [(iX b18),jr a0.lines,ir a0.lines.l.length,ir lP] H90 [] ?_
 refine qg ?_
 refine jc ?_
 refine ab ?_
 exact ⟨by omega,l87,l88,H90,(by exact hLi2.next dS dT),hS91,atR⟩
 refine ae ?_
 have hL110:=x59.elems.lk
 refine jb x59.elems ?_
 refine jI (λh111=>?_) (λh111=>?_)
 refine aZ ?_
 refine s7 0 hS56 ?_
 refine qV 0 hS56 ?_
 refine rL 0 hS56 ((.hm b6)) ?_
 refine ay ?_
 have hx112:0<x59.elems.l.length:=by omega
 refine lh 0 x59.elems hx112 ?_
 generalize hqx113:x59.elems.l[0]=x113
 refine ay ?_
 refine KK (H:=H55) (i:=4) (ek:=pK) (ev:=pK) (l:=l23) ((⟨x113,0⟩:iu)) rfl rfl rfl hS56 rfl rfl rfl rfl rfl rfl rfl rfl lx (λy114 h115=>?_) (λh116=>?_)
 refine bG ?_
 refine aH ?_
 refine cJ ?_
 have hx117:1<x59.elems.l.length:=by omega
 refine lh 1 x59.elems hx117 ?_
 generalize hqx118:x59.elems.l[1]=x118
 refine rV ?_
 refine lE (λh119=>?_) (λh119=>?_)
 refine cf ?_
 refine qg ?_
 refine ab ?_
 exact .inl ⟨rfl,rfl⟩
 refine bD ?_
 exact .inr (⟨rfl,rfl⟩)
 refine bG ?_
 refine bX ?_
 iterate 7 refine rS ?_
 refine bD ?_
 exact .inr (⟨rfl,rfl⟩)
 refine aC ?_
 exact .inr (⟨rfl,rfl⟩)
 refine ao ?_
 refine wz [(iX b18)] H55 [] ?_
 refine bj ?_
 have hz120:∀ m,freeze false { H55 with iq:=[] } (m+3) (.hm b6)=some (.fm (jO pK pK l23) false):=λm=>tW (i:=4) hS56 rfl _ _ (vH λ_=>rfl)
 have hz121:∀ m,freeze false { H55 with iq:=[] } (m+3) (.hm b9)=some (.fm (jO pK iK l43) false):=λm=>tW (i:=3) hS56 rfl _ _ (vH λ_=>rfl)
 have hz122:∀ m,freeze false { H55 with iq:=[] } (m+3) (.hm b12)=some (.fm (jO iK sR l54) false):=λm=>tW (i:=2) hS56 rfl _ _ (vH λ_=>rfl)
 have hz123:∀ m,freeze false { H55 with iq:=[] } (m+3) (.hm b15)=some (.fm (jO iK iK l53) false):=λm=>tW (i:=1) hS56 rfl _ _ (vH λ_=>rfl)
 have hz124:∀ m,freeze false { H55 with iq:=[] } (m+4) (iX b18)=some (.ip [jw r5.elems,jC r5.iO,jD r5.signals,jr r5.lines,iv r5.top,iv r5.jY,iv r5.j5,iv r5.j8,.bool r5.ke,.fm (jO pK pK l23) false,.fm (jO pK iK l43) false,.fm (jO iK sR l54) false,.fm (jO iK iK l53) false] 0 false):=λm=>uo (i:=0) hS56 rfl _ _ (by simp only [FZ,hz120,hz121,hz122,hz123])
 refine ⟨.je [(iX b18),iv 0],rfl,.je [.ip [jw r5.elems,jC r5.iO,jD r5.signals,jr r5.lines,iv r5.top,iv r5.jY,iv r5.j5,iv r5.j8,.bool r5.ke,.fm (jO pK pK l23) false,.fm (jO pK iK l43) false,.fm (jO iK sR l54) false,.fm (jO iK iK l53) false] 0 false,iv 0],(show freeze false { H55 with iq:=[] } 8 (.je [(iX b18),iv 0])=some (.je [.ip [jw r5.elems,jC r5.iO,jD r5.signals,jr r5.lines,iv r5.top,iv r5.jY,iv r5.j5,iv r5.j8,.bool r5.ke,.fm (jO pK pK l23) false,.fm (jO pK iK l43) false,.fm (jO iK sR l54) false,.fm (jO iK iK l53) false] 0 false,iv 0]) by simp only [FZ,hz120,hz121,hz122,hz123,hz124]),.inl ⟨(⟨r5,l23,l43,l54,l53⟩:iR),fP,rfl⟩⟩
def P49 (_a0:bS) (v:AV):Prop:=(∃ r0:iR,((rG r0 _a0)/\rs 49 [.agg (bS.af _a0)]=.je [.ip (iR.af r0) 0 false,iv 0])/\v=.je [.ip (iR.af r0) 0 false,iv 0])\/(∃ r1:Int,((r1≠0)/\rs 49 [.agg (bS.af _a0)]=.je [.j4,iv r1])/\v=.je [.j4,iv r1])
def t49 (a0:bS) (q1:mu a0) (h:aT):∃ v,jf cfg FT jA false 49 [.agg (bS.af a0)] h v h/\P49 a0 v:=by
 obtain ⟨v,hc,hP,hr⟩:=rX yT (ac4 a0 q1) h
 rcases hP with ⟨r0,hp,rfl⟩ | ⟨r1,hp,rfl⟩
 ·exact ⟨_,hc,.inl ⟨r0,⟨hp,hr⟩,rfl⟩⟩
 ·exact ⟨_,hc,.inr (⟨r1,⟨hp,hr⟩,rfl⟩)⟩
def afv (_a0:iR) (v:AV):Prop:=∃ r0:Int,(r0=(_a0.p.signals.l.length:Int))/\v=iv r0
def t212 (a0:iR) :Ct 212 [.ip (iR.af a0) 0 false] (afv a0):=by
 refine ja Im ?_
 refine aU ?_
 refine aa ?_
 refine ci ?_
 have hL1:=a0.p.signals.lk
 refine jb a0.p.signals ?_
 refine ai ?_
 exact xB ⟨((a0.p.signals.l.length:Int)),(by rfl),rfl⟩
def adJ (_a0:iR) (_a1:Int) (v:AV):Prop:=∃ r0:j9,((r0.kind=kr _a0.p _a1/\r0.len=rT _a0.p _a1))/\v=.agg (j9.af r0)
def t160 (a0:iR) (a1:Int) :Ct 160 [.ip (iR.af a0) 0 false,iv a1] (adJ a0 a1):=by
 refine ja HT ?_
 refine bN ?_
 refine iV (λh1=>?_) (λh1=>?_)
 refine oV ?_
 refine dk ?_
 refine oV ?_
 refine dy ?_
 exact gk
 iterate 7 refine oV ?_
 have hL2:=a0.p.elems.lk
 refine jb a0.p.elems ?_
 refine kL (λh3=>?_) (λh3=>?_)
 refine oV ?_
 refine dy ?_
 exact gk
 refine dE ?_
 refine ci ?_
 have hx4:(a1).toNat<a0.p.elems.l.length:=by omega
 refine iz rfl (λ_=>jh (n:=a1) (r:=a0.p.elems) (enc:=j9.af) rfl rfl rfl rfl rfl dT hx4 rfl) ?_
 generalize hqx5:a0.p.elems.l[(a1).toNat]=x5
 refine bE ?_
 exact xG ⟨x5,eS,rfl⟩
def P85 (_a0:iR) (_a1:Int) (v:AV):Prop:=∃ r0:Int,(r0=kr _a0.p _a1)/\v=iv r0
def t85 (a0:iR) (a1:Int) :Ct 85 [.ip (iR.af a0) 0 false,iv a1] (P85 a0 a1):=by
 refine ja MI ?_
 refine aU ?_
 refine ae ?_
 refine oC (t160 a0 a1) ?_
 rintro _ ⟨r2,hc1,rfl⟩
 obtain ⟨hEk,hEl⟩:=hc1
 refine bE ?_
 exact xB ⟨r2.kind,dS,rfl⟩
def afL (_a0:iR) (_a1:iu) (v:AV):Prop:=∃ r0:Int,(r0=(look _a1 _a0.reads).getD (-1))/\v=iv r0
def t146 (a0:iR) (a1:iu) :Ct 146 [.ip (iR.af a0) 0 false,.agg (iu.af a1)] (afL a0 a1):=by
 refine ja G9 ?_
 refine bb ?_
 refine bZ ?_
 refine cu ?_
 refine DK (key:=a1) (l:=a0.reads) (ek:=pK) (ev:=iK) rfl rfl rfl rfl rfl rfl rfl rfl rfl rfl lx (λy1 h2=>?_) (λh3=>?_)
 refine a7 ?_
 refine aI ?_
 refine aE ?_
 refine dy ?_
 exact xB ⟨y1,fG,rfl⟩
 refine a7 ?_
 refine aI ?_
 refine aa ?_
 refine aA ?_
 refine a6 ?_
 exact xB ⟨(-1),fG,rfl⟩
def afy (_a0:iR) (_a1:Int) (v:AV):Prop:=∃ r0:iu,∃ r1:Bool,((((r1=true->oE _a0.p.signals.l _a1=some r0)/\(r1=false->oE _a0.p.signals.l _a1=none))/\(r1=false->r0=⟨0,0⟩)))/\v=.je [.agg (iu.af r0),.bool r1]
def t208 (a0:iR) (a1:Int) :Ct 208 [.ip (iR.af a0) 0 false,iv a1] (afy a0 a1):=by
 refine ja Hc ?_
 refine bb ?_
 refine ah ?_
 refine iV (λh1=>?_) (λh1=>?_)
 refine oV ?_
 refine dk ?_
 refine co ?_
 exact gf
 iterate 7 refine oV ?_
 have hL2:=a0.p.signals.lk
 refine jb a0.p.signals ?_
 refine kL (λh3=>?_) (λh3=>?_)
 refine co ?_
 exact gf
 refine dE ?_
 refine ci ?_
 have hx4:(a1).toNat<a0.p.signals.l.length:=by omega
 refine iz rfl (λ_=>jh (n:=a1) (r:=a0.p.signals) (enc:=j6.af) rfl rfl rfl rfl rfl dT hx4 rfl) ?_
 generalize hqx5:a0.p.signals.l[(a1).toNat]=x5
 refine ck ?_
 exact xG ⟨x5.at_,true,ej,rfl⟩
def adt (_a0:iR) (_a1:iu) (v:AV):Prop:=∃ r0:iu,∃ r1:Bool,(((r1=true->look _a1 _a0.next=some r0)/\(r1=false->look _a1 _a0.next=none)/\(r1=false->r0=⟨0,0⟩)))/\v=.je [.agg (iu.af r0),.bool r1]
def t239 (a0:iR) (a1:iu) :Ct 239 [.ip (iR.af a0) 0 false,.agg (iu.af a1)] (adt a0 a1):=by
 refine ja Jg ?_
 refine bR ?_
 refine aH ?_
 refine cu ?_
 refine DK (key:=a1) (l:=a0.next) (ek:=pK) (ev:=pK) rfl rfl rfl rfl rfl rfl rfl rfl rfl rfl lx (λy1 h2=>?_) (λh3=>?_)
 refine bG ?_
 refine aa ?_
 refine ck ?_
 exact xG ⟨y1,true,fQ,rfl⟩
 refine bG ?_
 refine aa ?_
 refine ck ?_
 exact xG ⟨(⟨0,0⟩:iu),false,fQ,rfl⟩
def adk {H:aT} (b:Nat) (x:iT) (en:Int) (F:List jL) (hS:Sep H (kM b [iv en]::F)) :∃ v H',jf cfg FT jA true 315 [.agg (iT.af x),(iX b)] { H with iq:=[] } v H'/\(∃ r0:Bool,(True)/\Sep H' (kM b [iv en]::F)/\v=.bool r0):=by
 refine lW Hj ?_
 refine bb ?_
 refine ae ?_
 refine mX 0 hS (iv en) ?_
 refine iY (λh1=>?_) (λh1=>?_)
 refine ai ?_
 have hS2:=Sep.pick hS [0] 1 dX dX
 exact gJ
 refine ai ?_
 have hS3:=Sep.pick hS [0] 1 dX dX
 exact gK
def adj {H:aT} (b:Nat) (x:iT) (en:Int) (F:List jL) (hS:Sep H (kM b [iv en]::F)) :∃ v H',jf cfg FT jA true 360 [.agg (iT.af x),(iX b)] { H with iq:=[] } v H'/\(∃ r0:Bool,(True)/\Sep H' (kM b [iv en]::F)/\v=.bool r0):=by
 refine lW Ic ?_
 refine bb ?_
 refine ae ?_
 refine mX 0 hS (iv en) ?_
 refine iY (λh1=>?_) (λh1=>?_)
 refine ai ?_
 have hS2:=Sep.pick hS [0] 1 dX dX
 exact gJ
 refine ai ?_
 have hS3:=Sep.pick hS [0] 1 dX dX
 exact gK
def L1 {H:aT} (l:jo iT) (b:Nat) (en:Int) (F:List jL) (hS:Sep H (kM b [iv en]::F)) :∃ v H',jf cfg FT jA true 361 [jo.av iT.af l,.jN 360 [] [(iX b)]] { H with iq:=[] } v H'/\(∃ r0:Int,(True)/\Sep H' (kM b [iv en]::F)/\v=iv r0):=by
 refine lW Db ?_
 refine bN ?_
 have hL1:=l.lk
 refine iz rfl (λ_=>pP (r:=l) (enc:=iT.af) rfl rfl rfl rfl rfl rfl) ?_
 refine aL ?_
 have hNk2:=l.lk
 refine iF l.l.length (λk2 e h=>∃ H3:aT,Sep H3 (kM b [iv en]::F)/\At [0,1,7,8] [jo.av iT.af l,.jN 360 [] [(iX b)],ir l.l.length,ir k2] H3 [] e h) ?_ (k0:=0) dT ⟨H,hS,atR⟩
 rintro k2 e h hkk2 ⟨H3,hS4,hA⟩
 refine aO ?_
 refine iV (λh5=>?_) (λh5=>?_)
 refine b5 ?_
 refine bo ?_
 refine aP ?_
 have hx6:k2<l.l.length:=by omega
 refine iz rfl (λ_=>pV (n:=k2) (r:=l) (enc:=iT.af) rfl rfl rfl rfl rfl hx6 rfl) ?_
 generalize hqx7:l.l[k2]=x7
 refine oV ?_
 have hS8:=Sep.pick hS4 [0] 1 dX dX
 refine kj (H:=H3) (args:=[.agg (iT.af x7)]) (p:=[]) (r:=[(iX b)]) rfl rfl rfl rfl rfl rfl rfl (adj b x7 en F hS8) ?_
 rintro _ H9 ⟨r12,hc11,hS10,rfl⟩
 cases r12
 refine cm ?_
 refine jc ?_
 refine ab ?_
 exact ⟨by omega,H9,hS10,atR⟩
 refine dy ?_
 have hS13:=Sep.pick hS10 [0] 1 dX dX
 exact gO
 refine cG ?_
 have hS14:=Sep.pick hS4 [0] 1 dX dX
 exact ⟨iv (-1),rfl,(-1),zT,Sep.iq hS14 _,rfl⟩
def M1 {H:aT} (l:jo iT) (b:Nat) (en:Int) (F:List jL) (hS:Sep H (kM b [iv en]::F)) :∃ v H',jf cfg FT jA true 361 [jo.av iT.af l,.jN 315 [] [(iX b)]] { H with iq:=[] } v H'/\(∃ r0:Int,(True)/\Sep H' (kM b [iv en]::F)/\v=iv r0):=by
 refine lW Db ?_
 refine bN ?_
 have hL1:=l.lk
 refine iz rfl (λ_=>pP (r:=l) (enc:=iT.af) rfl rfl rfl rfl rfl rfl) ?_
 refine aL ?_
 have hNk2:=l.lk
 refine iF l.l.length (λk2 e h=>∃ H3:aT,Sep H3 (kM b [iv en]::F)/\At [0,1,7,8] [jo.av iT.af l,.jN 315 [] [(iX b)],ir l.l.length,ir k2] H3 [] e h) ?_ (k0:=0) dT ⟨H,hS,atR⟩
 rintro k2 e h hkk2 ⟨H3,hS4,hA⟩
 refine aO ?_
 refine iV (λh5=>?_) (λh5=>?_)
 refine b5 ?_
 refine bo ?_
 refine aP ?_
 have hx6:k2<l.l.length:=by omega
 refine iz rfl (λ_=>pV (n:=k2) (r:=l) (enc:=iT.af) rfl rfl rfl rfl rfl hx6 rfl) ?_
 generalize hqx7:l.l[k2]=x7
 refine oV ?_
 have hS8:=Sep.pick hS4 [0] 1 dX dX
 refine kj (H:=H3) (args:=[.agg (iT.af x7)]) (p:=[]) (r:=[(iX b)]) rfl rfl rfl rfl rfl rfl rfl (adk b x7 en F hS8) ?_
 rintro _ H9 ⟨r12,hc11,hS10,rfl⟩
 cases r12
 refine cm ?_
 refine jc ?_
 refine ab ?_
 exact ⟨by omega,H9,hS10,atR⟩
 refine dy ?_
 have hS13:=Sep.pick hS10 [0] 1 dX dX
 exact gO
 refine cG ?_
 have hS14:=Sep.pick hS4 [0] 1 dX dX
 exact ⟨iv (-1),rfl,(-1),zT,Sep.iq hS14 _,rfl⟩
def LN {H:aT} (l:jo iT) (b:Nat) (en:Int) (F:List jL) (hS:Sep H (kM b [iv en]::F)) :∃ v H',jf cfg FT jA true 314 [jo.av iT.af l,.jN 360 [] [(iX b)]] { H with iq:=[] } v H'/\(∃ r0:Bool,(True)/\Sep H' (kM b [iv en]::F)/\v=.bool r0):=by
 refine lW C5 ?_
 refine aU ?_
 refine ae ?_
 have hS1:=Sep.pick hS [0] 1 dX dX
 refine kj (H:=H) (args:=[jo.av iT.af l,.jN 360 [] [(iX b)]]) (p:=[]) (r:=[]) rfl rfl rfl rfl rfl rfl rfl (L1 l b en F hS1) ?_
 rintro _ H2 ⟨r5,hc4,hS3,rfl⟩
 refine kL (λh6=>?_) (λh6=>?_)
 refine ai ?_
 have hS7:=Sep.pick hS3 [0] 1 dX dX
 exact gH
 refine ai ?_
 have hS8:=Sep.pick hS3 [0] 1 dX dX
 exact gI
def L5 {H:aT} (l:jo iT) (b:Nat) (en:Int) (F:List jL) (hS:Sep H (kM b [iv en]::F)) :∃ v H',jf cfg FT jA true 314 [jo.av iT.af l,.jN 315 [] [(iX b)]] { H with iq:=[] } v H'/\(∃ r0:Bool,(True)/\Sep H' (kM b [iv en]::F)/\v=.bool r0):=by
 refine lW C5 ?_
 refine aU ?_
 refine ae ?_
 have hS1:=Sep.pick hS [0] 1 dX dX
 refine kj (H:=H) (args:=[jo.av iT.af l,.jN 315 [] [(iX b)]]) (p:=[]) (r:=[]) rfl rfl rfl rfl rfl rfl rfl (M1 l b en F hS1) ?_
 rintro _ H2 ⟨r5,hc4,hS3,rfl⟩
 refine kL (λh6=>?_) (λh6=>?_)
 refine ai ?_
 have hS7:=Sep.pick hS3 [0] 1 dX dX
 exact gH
 refine ai ?_
 have hS8:=Sep.pick hS3 [0] 1 dX dX
 exact gI
def T3 (_a0:nw) (_a1:Int) (v:AV):Prop:=∃ r0:Bool,((r0=true->_a0.steps.l.length<12))/\v=.bool r0
def t310 (a0:nw) (a1:Int) :Ct 310 [.ip (nw.af a0) 0 true,iv a1] (T3 a0 a1):=by
 refine ja Ji ?_
 refine cA ?_
 rintro _ H2 ⟨b1,rfl,hS3⟩
 refine ab ?_
 refine aH ?_
 refine a7 ?_
 have hL4:=a0.steps.lk
 refine iN rfl rfl (λ_=>pP (r:=a0.steps) (enc:=iT.af) rfl rfl rfl rfl rfl rfl) ?_
 refine mK (λh5=>?_) (λh5=>?_)
 refine rV ?_
 refine rL 0 hS3 (iv a1) ?_
 refine a7 ?_
 refine vx (λh6=>?_) (λh6=>?_)
 refine cJ ?_
 refine iN rfl rfl (λ_=>yW rfl rfl (yS rfl rfl)) ?_
 have hS7:=Sep.pick hS3 [0] 1 dX dX
 refine Se (H:=H2) (args:=[jo.av iT.af a0.steps,.jN 360 [] [(iX b1)]]) (p:=[]) (r:=[]) rfl rfl rfl rfl rfl rfl rfl rfl (LN a0.steps b1 a1 ([]) hS7) ?_
 rintro _ H8 ⟨r11,hc10,hS9,rfl⟩
 cases r11
 refine ag ?_
 exact gA
 refine ag ?_
 exact gB
 refine bM ?_
 refine rS ?_
 refine br ?_
 exact gB
 refine rV ?_
 iterate 2 refine rS ?_
 refine c6 ?_
 refine rS ?_
 refine br ?_
 exact gB
def adN (_a0:iR) (_a1:Int) (_a2:Int) (v:AV):Prop:=∃ r0:Row jB,(r0.l.length<=2)/\v=p5 r0
def t329 (a0:iR) (a1:Int) (a2:Int) :Ct 329 [.ip (iR.af a0) 0 false,iv a1,iv a2] (adN a0 a1 a2):=by
 refine ja Hb ?_
 refine bN ?_
 refine iV (λh1=>?_) (λh1=>?_)
 refine bB ?_
 refine oS ?_
 refine aq ?_
 exact gM
 refine bk ?_
 refine oC (t85 a0 a1) ?_
 rintro _ ⟨r3,hc2,rfl⟩
 have hK:=hc2
 refine oC (t277 r3) ?_
 rintro _ ⟨r5,hc4,rfl⟩
 refine kL (λh6=>?_) (λh6=>?_)
 refine aq ?_
 exact gM
 refine aA ?_
 refine aQ ?_
 refine oC (t85 a0 a1) ?_
 rintro _ ⟨r8,hc7,rfl⟩
 have hK:=hc7
 refine cT ?_
 refine iY (λh9=>?_) (λh9=>?_)
 refine aN ?_
 refine aE ?_
 refine iz rfl (λ_=>iZ rfl rfl rfl (jF .i64 1 a2)) ?_
 refine b8 ?_
 exact xG ⟨(⟨[(⟨(IntKind.i64.wrap (1 - a2)),0⟩:jB)],.exact 1,nM,rfl,lN⟩:Row jB),eK,rfl⟩
 refine aS ?_
 refine iY (λh10=>?_) (λh10=>?_)
 refine aN ?_
 refine ae ?_
 refine cR ?_
 have hd11:a2=0\/a2=1\/a2=2\/a2=3:=by omega
 rcases hd11 with rfl | rfl | rfl | rfl
 refine oV ?_
 refine ck ?_
 exact xG ⟨(⟨[(⟨1,0⟩:jB)],.exact 1,nM,rfl,lN⟩:Row jB),eK,rfl⟩
 refine oV ?_
 refine ck ?_
 exact gN
 refine oV ?_
 refine ck ?_
 exact xG ⟨(⟨[(⟨3,0⟩:jB)],.exact 1,nM,rfl,lN⟩:Row jB),eK,rfl⟩
 refine oV ?_
 refine ck ?_
 exact xG ⟨(⟨[(⟨2,0⟩:jB)],.exact 1,nM,rfl,lN⟩:Row jB),eK,rfl⟩
 refine aS ?_
 refine iY (λh12=>?_) (λh12=>?_)
 refine aN ?_
 refine ah ?_
 refine iY (λh13=>?_) (λh13=>?_)
 refine az ?_
 refine aa ?_
 refine ck ?_
 exact xG ⟨(⟨[(⟨1,1⟩:jB),(⟨2,2⟩:jB)],.exact 2,nM,rfl,lN⟩:Row jB),eK,rfl⟩
 refine aC ?_
 refine ae ?_
 have hd14:a2=0\/a2=1\/a2=2:=by omega
 rcases hd14 with rfl | rfl | rfl
 refine ck ?_
 exact gN
 refine ck ?_
 exact xG ⟨(⟨[(⟨0,1⟩:jB)],.exact 1,nM,rfl,lN⟩:Row jB),eK,rfl⟩
 refine ck ?_
 exact xG ⟨(⟨[(⟨0,2⟩:jB)],.exact 1,nM,rfl,lN⟩:Row jB),eK,rfl⟩
 refine aA ?_
 refine a6 ?_
 exact gM
def aef {H:aT} (p:Nat) (uG:Int) (vs:AV) (steps:List iT) (vp:AV) (pos:List Int) (vl:AV) (left:List (Row jB)) (nn:iR) (x:iu) (F:List jL) (hS:Sep H (kM p [iv uG,vs,vp,vl]::oa iT.af 3 vs steps::oa iP 1 vp pos::oa (kp jB.af) 1 vl left::F)) (q1:steps.length<=11) (q2:pos.length=steps.length) (q3:left.length=steps.length):∃ v H',jf cfg FT jA true 311 [(iX p),.ip (iR.af nn) 0 false,.agg (iu.af x)] { H with iq:=[] } v H'/\(∃ vso:AV,∃ stepso:List iT,∃ vpo:AV,∃ poso:List Int,∃ vlo:AV,∃ lefto:List (Row jB),(stepso.length=steps.length+1/\poso.length=stepso.length/\(nk x.elem->(∀ s∈steps,nk s.elem)->∀ s∈stepso,nk s.elem)/\∃ w:Row jB,w.l.length<=2/\lefto=left++[w])/\Sep H' (kM p [iv uG,vso,vpo,vlo]::oa iT.af 3 vso stepso::oa iP 1 vpo poso::oa (kp jB.af) 1 vlo lefto::F)/\v=.je []):=by
 refine lW II ?_
 refine aU ?_
 refine bX ?_
 refine s7 0 hS ?_
 refine qV 0 hS ?_
 refine rL 0 hS vs ?_
 refine cJ ?_
 refine l3 rfl rfl (jZ (H:=H) (i:=1) (l:=steps) (enc:=iT.af) [(⟨x.elem,x.en,(-1)⟩:iT)] hS rfl rfl rfl rfl rfl rfl rfl rfl rfl (λ_=>rfl) (.inr rfl) dW (λ_=>rfl)) ?_
 rintro v1 H2 hS3
 refine s7 0 hS3 ?_
 refine qV 0 hS3 ?_
 refine l3 rfl rfl (mP (H:=H2) (i:=0) (o:=1) (r:=v1) hS3 rfl rfl rfl rfl (nG rfl rfl (Sep.cell (i:=1) hS3 rfl)) (iM (Sep.cell (i:=1) hS3 rfl) jP) rfl) ?_
 rintro _ H4 ⟨rfl,hS5⟩
 refine rN ?_
 refine ae ?_
 refine F5 0 hS5 ?_
 refine pq 0 hS5 ?_
 refine mX 0 hS5 vp ?_
 refine oV ?_
 refine jq rfl (jZ (H:=H4) (i:=2) (l:=pos) (enc:=iP) [0] hS5 rfl rfl rfl rfl rfl rfl rfl rfl rfl (λ_=>rfl) (.inr rfl) dW (λ_=>rfl)) ?_
 rintro v6 H7 hS8
 refine F5 0 hS8 ?_
 refine pq 0 hS8 ?_
 refine jq rfl (mP (H:=H7) (i:=0) (o:=2) (r:=v6) hS8 rfl rfl rfl rfl (nG rfl rfl (Sep.cell (i:=2) hS8 rfl)) (iM (Sep.cell (i:=2) hS8 rfl) jP) rfl) ?_
 rintro _ H9 ⟨rfl,hS10⟩
 refine oN ?_
 refine qd ?_
 refine ay ?_
 refine s7 0 hS10 ?_
 refine qV 0 hS10 ?_
 refine rL 0 hS10 vl ?_
 refine cu ?_
 refine rC (t329 nn x.elem x.en) ?_
 rintro _ ⟨r12,hc11,rfl⟩
 refine iN rfl rfl (λ_=>CU (xs:=[[p5 r12]]) rfl rfl rfl rfl (Qa (iM (ma _) jP) rfl)) ?_
 refine l3 rfl rfl (jZ (H:=H9) (i:=3) (l:=left) (enc:=(kp jB.af)) [r12] hS10 rfl rfl rfl rfl rfl rfl rfl rfl rfl (λ_=>rfl) (.inr rfl) dW (λ_=>rfl)) ?_
 rintro v13 H14 hS15
 refine s7 0 hS15 ?_
 refine qV 0 hS15 ?_
 refine l3 rfl rfl (mP (H:=H14) (i:=0) (o:=3) (r:=v13) hS15 rfl rfl rfl rfl (nG rfl rfl (Sep.cell (i:=3) hS15 rfl)) (iM (Sep.cell (i:=3) hS15 rfl) jP) rfl) ?_
 rintro _ H16 ⟨rfl,hS17⟩
 refine rN ?_
 have hS18:=Sep.pick hS17 [0,1,2,3] 4 dX dX
 exact ⟨.je [],rfl,v1,((steps++[(⟨x.elem,x.en,(-1)⟩:iT)])),v6,(pos++[0]),v13,(left++[r12]),(by refine ⟨by simp,by simp; omega,λh1 h2=>sm (P:=λs:iT=>nk s.elem) h2 h1,_,?_,rfl⟩; assumption),Sep.iq hS18 _,rfl⟩
def ady (_a0:jo iT) (v:AV):Prop:=∃ r0:Row iT,(r0.l = _a0.l)/\v=ji r0
def t236 (a0:jo iT) (q1:a0.l.length<=1000):Ct 236 [jo.av iT.af a0] (ady a0):=by
 refine ja IW ?_
 refine bN ?_
 refine kS (b:=a0.isNil) rfl (λ_=>qJ rfl rfl rfl rfl) (λh1=>?_) (λh1=>?_)
 refine bu ?_
 exact xG ⟨(kI:Row iT),e8,rfl⟩
 refine aC ?_
 refine ae ?_
 have hS2:=Sep.qZ j1 3
 refine jq rfl (jZ (i:=0) (l:=([]:List iT)) (enc:=iT.af) a0.l hS2 rfl rfl rfl rfl rfl rfl rfl rfl rfl (λ_=>rfl) (.inl rfl) dW (λ_=>rfl)) ?_
 rintro v3 H4 hS5
 refine ai ?_
 obtain ⟨r6,hl7,hf8⟩:=lS (H:=H4) (i:=0) (l:=(([]:List iT)++a0.l)) (enc:=iT.af) hS5 rfl dQ
 have hlq:=hl7; have hln10:=congrArg List.length hl7
 have hz9:∀ m,freeze false { H4 with iq:=[] } (m+2) v3=some (ji r6):=λm=>hf8 _ _ (λ_=>rfl)
 exact ⟨v3,(kY (vs:=[v3]) rfl (iM (Sep.arg (i:=0) hS5 rfl) jP)),ji r6,(show freeze false { H4 with iq:=[] } 8 v3=some (ji r6) by simp only [FZ,hz9]),r6,e8,rfl⟩
def Hg (_a0:nw) (_a1:Int) (_a2:Int) (_a3:Int) (v:AV):Prop:=∃ r0:iQ,((r0.steps.l = _a0.steps.l/\r0.lQ.l.length<=_a0.steps.l.length/\r0.guards.l=[]/\r0.mA.l=[]/\r0.holds.l=[]))/\v=.agg (iQ.af r0)
def t312 (a0:nw) (a1:Int) (a2:Int) (a3:Int) (q1:a0.steps.l.length<=12) (q2:a0.pos.l.length=a0.steps.l.length):Ct 312 [.ip (nw.af a0) 0 true,iv a1,iv a2,iv a3] (Hg a0 a1 a2 a3):=by
 refine ja GJ ?_
 refine aU ?_
 refine ae ?_
 refine ci ?_
 refine oC (t236 a0.steps dK) ?_
 rintro _ ⟨r2,hc1,rfl⟩
 have hC93:=congrArg List.length hc1; try simp only [Row.ow] at hC93
 refine ba ?_
 refine qs ?_
 refine bp ?_
 have hL3:=a0.steps.lk
 refine iz rfl (λ_=>pP (r:=a0.steps) (enc:=iT.af) rfl rfl rfl rfl rfl rfl) ?_
 refine aL ?_
 have hS4:=Sep.mn j1 2
 have hNk5:=a0.steps.lk
 refine iF a0.steps.l.length (λk5 e h=>∃ v6:AV,∃ l7:List jy,∃ H8:aT,(l7.length<=0+k5)/\Sep H8 (nH jy.af 2 v6 l7::[])/\At [0,8,9,24,25,26] [.ip (nw.af a0) 0 true,.la 8 0,.la 9 0,jo.av iT.af a0.steps,ir a0.steps.l.length,ir k5] H8 [(8,[iv 0,iv 0,iv 0,iE,iE,iE,iE,iE,iD]),(9,[iv a1,iv a2,iv a3,ji r2,v6,iE,iE,iE,iD])] e h) ?_ (k0:=0) dT ⟨iE,(([]:List jy)),aT.empty,ew,hS4,atR⟩
 rintro k5 e h hkk5 ⟨v6,l7,H8,hl10,hS9,hA⟩
 refine aO ?_
 refine iV (λh11=>?_) (λh11=>?_)
 refine ap ?_
 refine bT ?_
 have hx12:k5<a0.steps.l.length:=by omega
 refine iz rfl (λ_=>pV (n:=k5) (r:=a0.steps) (enc:=iT.af) rfl rfl rfl rfl rfl hx12 rfl) ?_
 generalize hqx13:a0.steps.l[k5]=x13
 refine aj ?_
 refine c9 ?_
 refine ci ?_
 have hx14:k5<a0.pos.l.length:=by omega
 refine iz rfl (λ_=>pV (n:=k5) (r:=a0.pos) (enc:=iP) rfl rfl rfl rfl rfl hx14 rfl) ?_
 generalize hqx15:a0.pos.l[k5]=x15
 refine oV ?_
 refine kE (λh16=>?_) (λh16=>?_)
 refine az ?_
 refine qd ?_
 iterate 9 refine rV ?_
 have hx17:k5<a0.pos.l.length:=by omega
 refine iN rfl rfl (λ_=>pV (n:=k5) (r:=a0.pos) (enc:=iP) rfl rfl rfl rfl rfl hx17 rfl) ?_
 rw [hqx15]
 refine bf ?_
 refine l3 rfl rfl (jZ (H:=H8) (i:=0) (l:=l7) (enc:=jy.af) [(⟨x13.elem,x15⟩:jy)] hS9 rfl rfl rfl rfl rfl rfl rfl rfl rfl (λ_=>rfl) (.inl rfl) dW (λ_=>rfl)) ?_
 rintro v19 H20 hS21
 refine rV ?_
 refine iN rfl rfl (λ_=>yL rfl rfl rfl (nG rfl rfl (Sep.cell (i:=0) hS21 rfl)) (iM (Sep.cell (i:=0) hS21 rfl) jP) rfl rfl) ?_
 refine rN ?_
 refine qg ?_
 refine jc ?_
 refine ab ?_
 exact ⟨by omega,v19,((l7++[(⟨x13.elem,x15⟩:jy)])),H20,dP,hS21,atR⟩
 refine cm ?_
 refine jc ?_
 refine ab ?_
 exact ⟨by omega,v6,l7,H8,dP,hS9,atR⟩
 refine ao ?_
 refine aE ?_
 refine iz rfl (λ_=>yL rfl rfl rfl rfl (iM rfl (iM rfl (iM rfl (iM rfl (iM (Sep.cell (i:=0) hS9 rfl) (iM rfl (iM rfl (iM rfl (iM rfl jP))))))))) rfl rfl) ?_
 refine oN ?_
 refine qr ?_
 obtain ⟨r22,hl23,hf24⟩:=lS (H:=H8) (i:=0) (l:=l7) (enc:=jy.af) hS9 rfl dQ
 have hlq:=hl23; have hln26:=congrArg List.length hl23
 have hz25:∀ m,freeze false { H8 with iq:=[(8,[iv a1,iv a2,iv a3,ji r2,v6,iE,iE,iE,iD]),(9,[iv a1,iv a2,iv a3,ji r2,v6,iE,iE,iE,iD])] } (m+2) v6=some (jM r22):=λm=>hf24 _ _ (λ_=>rfl)
 exact ⟨.agg [iv a1,iv a2,iv a3,ji r2,v6,iE,iE,iE,iD],(kY (vs:=[.agg [iv a1,iv a2,iv a3,ji r2,v6,iE,iE,iE,iD]]) rfl rfl),.agg [iv a1,iv a2,iv a3,ji r2,jM r22,iE,iE,iE,iD],(show freeze false { H8 with iq:=[(8,[iv a1,iv a2,iv a3,ji r2,v6,iE,iE,iE,iD]),(9,[iv a1,iv a2,iv a3,ji r2,v6,iE,iE,iE,iD])] } 8 (.agg [iv a1,iv a2,iv a3,ji r2,v6,iE,iE,iE,iD])=some (.agg [iv a1,iv a2,iv a3,ji r2,jM r22,iE,iE,iE,iD]) by simp only [FZ,hz25]),(⟨a1,a2,a3,r2,r22,(kI:Row jy),(kI:Row Int),(kI:Row Int),false⟩:iQ),(by first | exact ⟨by assumption,by dsimp only; omega,rfl,rfl,rfl⟩ | exact ⟨by assumption,by simp,rfl,rfl,rfl⟩),rfl⟩
def aeJ {H:aT} (p:Nat) (uG:Int) (vs:AV) (steps:List iT) (vp:AV) (pos:List Int) (vl:AV) (left:List (Row jB)) (F:List jL) (hS:Sep H (kM p [iv uG,vs,vp,vl]::oa iT.af 3 vs steps::oa iP 1 vp pos::oa (kp jB.af) 1 vl left::F)) (q1:steps.length<=12) (q2:pos.length=steps.length) (q3:left.length=steps.length) (q4:0<steps.length):∃ v H',jf cfg FT jA true 313 [(iX p)] { H with iq:=[] } v H'/\(∃ vso:AV,∃ stepso:List iT,∃ vpo:AV,∃ poso:List Int,∃ vlo:AV,∃ lefto:List (Row jB),(stepso.length+1=steps.length/\poso.length=stepso.length/\(∀ s∈stepso,s∈steps)/\lefto=left.take (left.length - 1))/\Sep H' (kM p [iv uG,vso,vpo,vlo]::oa iT.af 3 vso stepso::oa iP 1 vpo poso::oa (kp jB.af) 1 vlo lefto::F)/\v=.je []):=by
 refine lW HH ?_
 refine aE ?_
 refine bA ?_
 refine iz rfl (λ_=>nT (i:=0) (o:=1) (r:=vs) hS rfl rfl rfl rfl) ?_
 refine iz rfl (λ_=>oJ (i:=1) hS rfl rfl rfl rfl rfl rfl rfl) ?_
 refine jT ?_
 refine ab ?_
 refine qd ?_
 refine a7 ?_
 refine iN rfl rfl (λ_=>qw (i:=0) hS rfl rfl) ?_
 refine iN rfl rfl (λ_=>pM (i:=0) hS rfl rfl rfl rfl rfl) ?_
 refine iN rfl rfl (λ_=>nT (i:=0) (o:=1) (r:=vs) hS rfl rfl rfl rfl) ?_
 refine rV ?_
 have hk1:((((steps.length:Int) - 1).toNat:Nat):Int)=(steps.length:Int) - 1:=Int.toNat_of_nonneg dP
 have hx2:((steps.length:Int) - 1).toNat<=steps.length:=by first | omega | (simp<;>omega) | (simp_all; omega)
 refine l3 rfl rfl (wV (i:=1) (k:=((steps.length:Int) - 1).toNat) hS rfl rfl rfl rfl rfl rfl (congrArg (AV.int .i64) hk1.symm) hx2) ?_
 rintro v3 H4 ⟨hc5,hS6⟩
 refine rV ?_
 refine iN rfl rfl (λ_=>qw (i:=0) hS6 rfl rfl) ?_
 refine iN rfl rfl (λ_=>pM (i:=0) hS6 rfl rfl rfl rfl rfl) ?_
 refine iN rfl rfl (λ_=>nT (i:=0) (o:=2) (r:=vp) hS6 rfl rfl rfl rfl) ?_
 refine rV ?_
 have hk7:((((steps.length:Int) - 1).toNat:Nat):Int)=(steps.length:Int) - 1:=Int.toNat_of_nonneg dP
 have hx8:((steps.length:Int) - 1).toNat<=pos.length:=by first | omega | (simp<;>omega) | (simp_all; omega)
 refine l3 rfl rfl (wV (i:=2) (k:=((steps.length:Int) - 1).toNat) hS6 rfl rfl rfl rfl rfl rfl (congrArg (AV.int .i64) hk7.symm) hx8) ?_
 rintro v9 H10 ⟨hc11,hS12⟩
 refine rV ?_
 refine iN rfl rfl (λ_=>qw (i:=0) hS12 rfl rfl) ?_
 refine iN rfl rfl (λ_=>pM (i:=0) hS12 rfl rfl rfl rfl rfl) ?_
 refine iN rfl rfl (λ_=>nT (i:=0) (o:=3) (r:=vl) hS12 rfl rfl rfl rfl) ?_
 refine rV ?_
 have hk13:((((steps.length:Int) - 1).toNat:Nat):Int)=(steps.length:Int) - 1:=Int.toNat_of_nonneg dP
 have hx14:((steps.length:Int) - 1).toNat<=left.length:=by first | omega | (simp<;>omega) | (simp_all; omega)
 refine l3 rfl rfl (wV (i:=3) (k:=((steps.length:Int) - 1).toNat) hS12 rfl rfl rfl rfl rfl rfl (congrArg (AV.int .i64) hk13.symm) hx14) ?_
 rintro v15 H16 ⟨hc17,hS18⟩
 refine iN rfl rfl (λ_=>qw (i:=0) hS18 rfl rfl) ?_
 refine iN rfl rfl (λ_=>pM (i:=0) hS18 rfl rfl rfl rfl rfl) ?_
 refine qN rfl rfl (mP (i:=0) (o:=1) (r:=v3) hS18 rfl rfl rfl rfl (nG rfl rfl (Sep.cell (i:=1) hS18 rfl)) (iM (Sep.cell (i:=1) hS18 rfl) jP) rfl) ?_
 rintro _ H19 ⟨rfl,hS20⟩
 refine ⟨λcall=>(zE (l8 rfl rfl rfl (sQ (i:=2) (k:=((steps.length:Int) - 1).toNat) hS20 rfl hc11 rfl rfl rfl rfl rfl (congrArg (AV.int .i64) hk7.symm)) rfl (BP (i:=2) hS20 rfl)) (wM (l8 rfl rfl rfl (sQ (i:=3) (k:=((steps.length:Int) - 1).toNat) hS20 rfl hc17 rfl rfl rfl rfl rfl (congrArg (AV.int .i64) hk13.symm)) rfl (BP (i:=3) hS20 rfl)))),?_⟩
 refine iN rfl rfl (λ_=>qw (i:=0) hS20 rfl rfl) ?_
 refine iN rfl rfl (λ_=>pM (i:=0) hS20 rfl rfl rfl rfl rfl) ?_
 refine qN rfl rfl (mP (i:=0) (o:=2) (r:=v9) hS20 rfl rfl rfl rfl (nG rfl rfl (Sep.cell (i:=2) hS20 rfl)) (iM (Sep.cell (i:=2) hS20 rfl) jP) rfl) ?_
 rintro _ H21 ⟨rfl,hS22⟩
 refine ⟨λcall=>(wM (l8 rfl rfl rfl (sQ (i:=3) (k:=((steps.length:Int) - 1).toNat) hS22 rfl hc17 rfl rfl rfl rfl rfl (congrArg (AV.int .i64) hk13.symm)) rfl (BP (i:=3) hS22 rfl))),?_⟩
 refine iN rfl rfl (λ_=>qw (i:=0) hS22 rfl rfl) ?_
 refine iN rfl rfl (λ_=>pM (i:=0) hS22 rfl rfl rfl rfl rfl) ?_
 refine l3 rfl rfl (mP (i:=0) (o:=3) (r:=v15) hS22 rfl rfl rfl rfl (nG rfl rfl (Sep.cell (i:=3) hS22 rfl)) (iM (Sep.cell (i:=3) hS22 rfl) jP) rfl) ?_
 rintro _ H23 ⟨rfl,hS24⟩
 refine rN ?_
 have hS25:=Sep.pick hS24 [0,1,2,3] 4 dX dX
 exact ⟨.je [],rfl,v3,(steps.take (((steps.length:Int) - 1).toNat)),v9,(pos.take (((steps.length:Int) - 1).toNat)),v15,(left.take (((steps.length:Int) - 1).toNat)),(by refine ⟨by simp only [List.length_take]; omega,by simp only [List.length_take]; omega,λs hs=>List.mem_of_mem_take hs,?_⟩; congr 1; omega),Sep.iq hS25 _,rfl⟩
def adL (_a0:iR) (_a1:Int) (v:AV):Prop:=∃ r0:Row iQ,(r0.l.length<=8192/\(∀ r∈(r0.l:List iQ),0<r.steps.l.length/\r.steps.l.length<=12/\r.lQ.l.length<=12/\nL r))/\v=js r0
def t235 (a0:iR) (a1:Int) (hJg:∀ y∈univ a0,nk y.elem):Ct 235 [.ip (iR.af a0) 0 false,iv a1] (adL a0 a1):=by
 refine ja HI ?_
 refine aU ?_
 refine u1 ?_
 refine ae ?_
 refine oC (t208 a0 a1) ?_
 rintro _ ⟨r2,r3,hc1,rfl⟩
 have hA:=hc1.1; have hA0:=hc1.2
 cases r3
 refine ct ?_
 refine bu ?_
 exact xG ⟨(kI:Row iQ),fe,rfl⟩
 refine ct ?_
 refine aC ?_
 refine wy [.ip (iR.af a0) 0 false,iv a1,.la 5 0] [(5,(iu.af r2))] ?_
 refine ae ?_
 refine oC (t239 a0 r2) ?_
 rintro _ ⟨r5,r6,hc4,rfl⟩
 have hN:=hc4
 cases r6
 refine ct ?_
 refine bu ?_
 exact xG ⟨(kI:Row iQ),fe,rfl⟩
 refine ct ?_
 refine aC ?_
 refine wy [.ip (iR.af a0) 0 false,iv a1,.la 5 0,.la 7 0] [(5,(iu.af r2)),(7,(iu.af r5))] ?_
 refine aU ?_
 refine aP ?_
 refine jq rfl (vZ j1 rfl rfl rfl rfl rfl) ?_
 rintro _ H8 ⟨b7,rfl,hS9⟩
 refine ab ?_
 refine qq ?_
 refine ql ?_
 refine aD ?_
 have hS10:=Sep.mn hS9 1
 have hS11:=Sep.mn hS10 9
 have hS12:=Sep.mn hS11 1
 have hS13:=Sep.mn hS12 3
 have hS14:=Sep.vD (i:=0) hS13 rfl
 have hS15:=Sep.vD (i:=1) hS14 rfl
 have hS16:=Sep.vD (i:=3) hS15 rfl
 refine kF (λm30 e h=>∃ v17:AV,∃ l18:List iT,∃ v19:AV,∃ l20:List Int,∃ v21:AV,∃ l22:List iQ,∃ v23:AV,∃ l24:List (Row jB),∃ n25:Int,∃ n26:Int,∃ n27:Int,∃ H28:aT,m30=2*(wt l24+uy l18.length)+l18.length/\(l18.length<=12/\l20.length=l18.length/\l22.length+wt l24+uy l18.length<=8192)/\(l24.length=l18.length)/\((∀ r∈(l22:List iQ),0<r.steps.l.length/\r.steps.l.length<=12/\r.lQ.l.length<=12/\nL r))/\(∀ s∈(l18:List iT),nk s.elem)/\(nk n25)/\Sep H28 (oa iT.af 3 v17 l18::oa iP 1 v19 l20::nH iQ.af 9 v21 l22::oa (kp jB.af) 1 v23 l24::kM b7 [iv n27,v17,v19,v23]::[])/\At [0,1,7,8,9] [.ip (iR.af a0) 0 false,iv a1,.la 7 0,v21,(iX b7)] H28 [(7,[iv n25,iv n26])] e h) ?_ _ _ _ ⟨iE,(([]:List iT)),iE,(([]:List Int)),iE,(([]:List iQ)),iE,(([]:List (Row jB))),r5.elem,r5.en,r2.elem,H8,rfl,(by (simp [TD,U1])),fp,fp,fp,(by exact hJg _ (tP dS)),hS16,atR⟩
 rintro m30 e h ⟨v17,l18,v19,l20,v21,l22,v23,l24,n25,n26,n27,H28,hmm30,hL,hL3,hRo,hSg,hxg,hS29,hA⟩
 refine s6 hA ?_
 clear hA
 have hPp:l18.length<=12->1<=uy l18.length:=zP
 refine qb ?_
 refine u1 ?_
 refine zQ (λE Z=>∃ v31:AV,∃ l32:List iT,∃ v33:AV,∃ l34:List Int,∃ v35:AV,∃ l36:List iQ,∃ v37:AV,∃ l38:List (Row jB),∃ H39:aT,(l32.length<=12/\l34.length=l32.length/\l36.length+wt l38<=8192/\2*wt l38+l32.length<m30)/\(l38.length=l32.length)/\((∀ r∈(l36:List iQ),0<r.steps.l.length/\r.steps.l.length<=12/\r.lQ.l.length<=12/\nL r))/\(∀ s∈(l32:List iT),nk s.elem)/\Sep H39 (oa iT.af 3 v31 l32::oa iP 1 v33 l34::nH iQ.af 9 v35 l36::oa (kp jB.af) 1 v37 l38::kM b7 [iv n27,v31,v33,v37]::[])/\E=[(0,.ip (iR.af a0) 0 false),(1,iv a1),(7,.la 7 0),(8,v35),(9,(iX b7))]/\Z = { H39 with iq:=[(7,[iv n25,iv n26])] }) ?_ ?_
 rintro _ _ ⟨v31,l32,v33,l34,v35,l36,v37,l38,H39,hL,hL3,hRo,hSg,hS40,rfl,rfl⟩
 have hPp:l32.length<=12->1<=uy l32.length:=zP
 refine qq ?_
 refine ql ?_
 refine aD ?_
 refine kF (λm51 e h=>∃ v41:AV,∃ l42:List iT,∃ v43:AV,∃ l44:List Int,∃ v45:AV,∃ l46:List iQ,∃ v47:AV,∃ l48:List (Row jB),∃ H49:aT,m51=2*wt l48+l42.length/\(l42.length<=12/\l44.length=l42.length/\l46.length+wt l48<=8192/\2*wt l48+l42.length<m30)/\(l48.length=l42.length)/\((∀ r∈(l46:List iQ),0<r.steps.l.length/\r.steps.l.length<=12/\r.lQ.l.length<=12/\nL r))/\(∀ s∈(l42:List iT),nk s.elem)/\Sep H49 (oa iT.af 3 v41 l42::oa iP 1 v43 l44::nH iQ.af 9 v45 l46::oa (kp jB.af) 1 v47 l48::kM b7 [iv n27,v41,v43,v47]::[])/\At [0,1,7,8,9] [.ip (iR.af a0) 0 false,iv a1,.la 7 0,v45,(iX b7)] H49 [(7,[iv n25,iv n26])] e h) ?_ _ _ _ ⟨v31,l32,v33,l34,v35,l36,v37,l38,H39,rfl,dT,dT,(by exact hRo),fS,hS40,(jd hS40 [(8,2)])⟩
 rintro m51 e h ⟨v41,l42,v43,l44,v45,l46,v47,l48,H49,hmm51,hL,hL3,hRo,hSg,hS50,hA⟩
 refine s6 hA ?_
 clear hA
 have hPp:l42.length<=12->1<=uy l42.length:=zP
 refine ah ?_
 refine cq ?_
 refine jI (λh52=>?_) (λh52=>?_)
 refine a8 ?_
 refine wz [.ip (iR.af a0) 0 false,iv a1,.la 7 0,v45,(iX b7)] H49 [(7,[iv n25,iv n26])] ?_ (jd hS50 [(8,2)])
 refine qb ?_
 refine aE ?_
 refine cq ?_
 refine jT ?_
 refine ab ?_
 refine ah ?_
 refine dg ?_
 have hk53:((((l42.length:Int) - 1).toNat:Nat):Int)=(l42.length:Int) - 1:=Int.toNat_of_nonneg dP
 have hx54:((l42.length:Int) - 1).toNat<l48.length:=by first | omega | (simp<;>omega) | (simp_all; omega)
 obtain ⟨x55,hqx55⟩:∃ x,l48[((l42.length:Int) - 1).toNat]=x:=⟨_,rfl⟩
 refine sa rfl (nd (H:=H49) (i:=3) (m:=((l42.length:Int) - 1).toNat) (cs:=(kp jB.af) x55) hS50 rfl rfl rfl rfl rfl rfl (congrArg (AV.int .i64) hk53.symm) (lO hx54 hqx55)) ?_
 rintro a56 ⟨ha57,hea58⟩
 refine iz rfl (λ_=>o9 (H:=H49) (i:=3) (m:=((l42.length:Int) - 1).toNat) (o:=0) (r:=p5 x55) (cs:=(kp jB.af) x55) hS50 rfl (lO hx54 hqx55) hea58 rfl rfl ha57) ?_
 have hL59:=x55.lk
 refine jb x55 ?_
 refine iY (λh60=>?_) (λh60=>?_)
 refine az ?_
 refine aE ?_
 have hS61:=Sep.pick hS50 [4,0,1,3,2] 5 dX dX
 refine kj (H:=H49) (args:=[(iX b7)]) (p:=[]) (r:=[]) rfl rfl rfl rfl rfl rfl rfl (aeJ b7 n27 v41 l42 v43 l44 v47 l48 (nH iQ.af 9 v45 l46::[]) hS61 dK dK dK dK) ?_
 rintro _ H62 ⟨vso65,stepso66,vpo67,poso68,vlo69,lefto70,hc64,hS63,rfl⟩
 obtain ⟨hp1,hp2,hpS,hp3⟩:=hc64
 have hSg:∀ s∈stepso66,nk s.elem:=λs hs=>hSg s (hpS s hs)
 have hWt:wt lefto70=wt l48:=by rw [hp3]; exact M6 dS dT dS dT
 have hp5:lefto70.length+1=l48.length:=by rw [hp3,List.length_take]; omega
 refine oN ?_
 refine qe ?_
 have hS71:=Sep.pick hS63 [1,2,4,3,0] 5 dX dX
 refine ⟨_,?_,vso65,stepso66,vpo67,poso68,v45,l46,vlo69,lefto70,H62,rfl,dT,dT,dR,fS,hS71,(jd hS71 [(8,2)])⟩
 omega
 refine aC ?_
 refine wz [.ip (iR.af a0) 0 false,iv a1,.la 7 0,v45,(iX b7),iv ((l42.length:Int) - 1)] H49 [(7,[iv n25,iv n26])] ?_ (jd hS50 [(8,2)])
 refine aE ?_
 refine dg ?_
 have hk72:((((l42.length:Int) - 1).toNat:Nat):Int)=(l42.length:Int) - 1:=Int.toNat_of_nonneg dP
 have hx73:((l42.length:Int) - 1).toNat<l48.length:=by first | omega | (simp<;>omega) | (simp_all; omega)
 refine sa rfl (nd (H:=H49) (i:=3) (m:=((l42.length:Int) - 1).toNat) (cs:=(kp jB.af) x55) hS50 rfl rfl rfl rfl rfl rfl (congrArg (AV.int .i64) hk72.symm) (lO hx73 hqx55)) ?_
 rintro a74 ⟨ha75,hea76⟩
 refine iz rfl (λ_=>o9 (H:=H49) (i:=3) (m:=((l42.length:Int) - 1).toNat) (o:=0) (r:=p5 x55) (cs:=(kp jB.af) x55) hS50 rfl (lO hx73 hqx55) hea76 rfl rfl ha75) ?_
 have hx77:0<x55.l.length:=by omega
 refine kH 0 x55 hx77 ?_
 generalize hqx78:x55.l[0]=x78
 refine ba ?_
 refine aH ?_
 refine rV ?_
 refine s7 4 hS50 ?_
 refine qV 4 hS50 ?_
 refine rL 4 hS50 v47 ?_
 refine ay ?_
 refine s7 4 hS50 ?_
 refine qV 4 hS50 ?_
 refine rL 4 hS50 v47 ?_
 refine rV ?_
 have hk79:((((l42.length:Int) - 1).toNat:Nat):Int)=(l42.length:Int) - 1:=Int.toNat_of_nonneg dP
 have hx80:((l42.length:Int) - 1).toNat<l48.length:=by first | omega | (simp<;>omega) | (simp_all; omega)
 refine pd rfl rfl (nd (H:=H49) (i:=3) (m:=((l42.length:Int) - 1).toNat) (cs:=(kp jB.af) x55) hS50 rfl rfl rfl rfl rfl rfl (congrArg (AV.int .i64) hk79.symm) (lO hx80 hqx55)) ?_
 rintro a81 ⟨ha82,hea83⟩
 refine iN rfl rfl (λ_=>o9 (H:=H49) (i:=3) (m:=((l42.length:Int) - 1).toNat) (o:=0) (r:=p5 x55) (cs:=(kp jB.af) x55) hS50 rfl (lO hx80 hqx55) hea83 rfl rfl ha82) ?_
 have hx84:1<=x55.l.length:=by omega
 refine iN rfl rfl (λ_=>Lm (k:=1) (r:=x55) (enc:=jB.af) (n:=2) rfl rfl rfl rfl rfl rfl hx84 (λ_=>rfl)) ?_
 have hk85:((((l42.length:Int) - 1).toNat:Nat):Int)=(l42.length:Int) - 1:=Int.toNat_of_nonneg dP
 have hx86:((l42.length:Int) - 1).toNat<l48.length:=by first | omega | (simp<;>omega) | (simp_all; omega)
 refine pd rfl rfl (nd (H:=H49) (i:=3) (m:=((l42.length:Int) - 1).toNat) (cs:=(kp jB.af) x55) hS50 rfl rfl rfl rfl rfl rfl (congrArg (AV.int .i64) hk85.symm) (lO hx86 hqx55)) ?_
 rintro a87 ⟨ha88,hea89⟩
 have hWs:wt (l48.set _ (Row.drop x55 1))+uy l48.length=wt l48:=Uj hx86 dT hqx55 dT (by simp [Row.drop]; omega); rw [hL3] at hWs
 have hz92:(l48.set (((l42.length:Int) - 1).toNat) (Row.drop x55 1)).length=l48.length:=List.length_set
 refine l3 rfl rfl (vB (H:=H49) (i:=3) (m:=((l42.length:Int) - 1).toNat) (o:=0) x55 (Row.drop x55 1) hS50 rfl hx86 hqx55 hea89 rfl ha88 rfl rfl rfl rfl) ?_
 rintro _ H90 ⟨rfl,hS91⟩
 simp only [List.set] at hS91
 refine rN ?_
 refine aH ?_
 refine rV ?_
 refine s7 4 hS91 ?_
 refine qV 4 hS91 ?_
 refine rL 4 hS91 v41 ?_
 refine ay ?_
 refine s7 4 hS91 ?_
 refine qV 4 hS91 ?_
 refine rL 4 hS91 v43 ?_
 refine cu ?_
 have hk93:((((l42.length:Int) - 1).toNat:Nat):Int)=(l42.length:Int) - 1:=Int.toNat_of_nonneg dP
 have hx94:((l42.length:Int) - 1).toNat<l42.length:=by first | omega | (simp<;>omega) | (simp_all; omega)
 obtain ⟨x95,hqx95⟩:∃ x,l42[((l42.length:Int) - 1).toNat]=x:=⟨_,rfl⟩
 refine pd rfl rfl (nd (H:=H90) (i:=0) (m:=((l42.length:Int) - 1).toNat) (cs:=iT.af x95) hS91 rfl rfl rfl rfl rfl rfl (congrArg (AV.int .i64) hk93.symm) (lO hx94 hqx95)) ?_
 rintro a96 ⟨ha97,hea98⟩
 refine iN rfl rfl (λ_=>EA.Rx hea98 rfl rfl rfl ha97) ?_
 have hSg:=TH (x2:=(⟨x95.elem,x95.nX,x78.out⟩:iT)) hSg hqx95 rfl
 have hz101:(l42.set (((l42.length:Int) - 1).toNat) (⟨x95.elem,x95.nX,x78.out⟩:iT)).length=l42.length:=List.length_set
 refine qN rfl rfl (vB (H:=H90) (i:=0) (m:=((l42.length:Int) - 1).toNat) (o:=2) x95 (⟨x95.elem,x95.nX,x78.out⟩:iT) hS91 rfl hx94 hqx95 hea98 rfl rfl rfl rfl rfl rfl) ?_
 rintro _ H99 ⟨rfl,hS100⟩
 refine ⟨λcall=>(wM (l8 rfl rfl rfl rfl rfl eU)),?_⟩
 have hk102:((((l42.length:Int) - 1).toNat:Nat):Int)=(l42.length:Int) - 1:=Int.toNat_of_nonneg dP
 have hx103:((l42.length:Int) - 1).toNat<l44.length:=by first | omega | (simp<;>omega) | (simp_all; omega)
 obtain ⟨x104,hqx104⟩:∃ x,l44[((l42.length:Int) - 1).toNat]=x:=⟨_,rfl⟩
 refine pd rfl rfl (nd (H:=H99) (i:=1) (m:=((l42.length:Int) - 1).toNat) (cs:=iP x104) hS100 rfl rfl rfl rfl rfl rfl (congrArg (AV.int .i64) hk102.symm) (lO hx103 hqx104)) ?_
 rintro a105 ⟨ha106,hea107⟩
 have hz110:(l44.set (((l42.length:Int) - 1).toNat) x78.pos).length=l44.length:=List.length_set
 refine l3 rfl rfl (vB (H:=H99) (i:=1) (m:=((l42.length:Int) - 1).toNat) (o:=0) x104 x78.pos hS100 rfl hx103 hqx104 hea107 rfl ha106 rfl rfl rfl rfl) ?_
 rintro _ H108 ⟨rfl,hS109⟩
 simp only [List.set] at hS109
 refine rN ?_
 refine aH ?_
 refine rV ?_
 refine s7 4 hS109 ?_
 refine qV 4 hS109 ?_
 refine rL 4 hS109 v41 ?_
 refine rV ?_
 have hk111:((((l42.length:Int) - 1).toNat:Nat):Int)=(l42.length:Int) - 1:=Int.toNat_of_nonneg dP
 have hx112:((l42.length:Int) - 1).toNat<((l42.set (((l42.length:Int) - 1).toNat) (⟨x95.elem,x95.nX,x78.out⟩:iT))).length:=by first | omega | (simp<;>omega) | (simp_all; omega)
 obtain ⟨x113,hqx113⟩:∃ x,((l42.set (((l42.length:Int) - 1).toNat) (⟨x95.elem,x95.nX,x78.out⟩:iT)))[((l42.length:Int) - 1).toNat]=x:=⟨_,rfl⟩
 refine pd rfl rfl (nd (H:=H108) (i:=0) (m:=((l42.length:Int) - 1).toNat) (cs:=iT.af x113) hS109 rfl rfl rfl rfl rfl rfl (congrArg (AV.int .i64) hk111.symm) (lO hx112 hqx113)) ?_
 rintro a114 ⟨ha115,hea116⟩
 refine iN rfl rfl (λ_=>EA.Rx hea116 rfl rfl rfl ha115) ?_
 refine iN rfl rfl (λ_=>o9 (H:=H108) (i:=0) (m:=((l42.length:Int) - 1).toNat) (o:=0) (r:=iv x113.elem) (cs:=iT.af x113) hS109 rfl (lO hx112 hqx113) hea116 rfl rfl rfl) ?_
 refine a7 ?_
 refine aI ?_
 refine aQ ?_
 refine oC (t146 a0 (⟨x113.elem,x78.out⟩:iu)) ?_
 rintro _ ⟨r118,hc117,rfl⟩
 have hR:=hc117
 refine cR ?_
 refine kL (λh119=>?_) (λh119=>?_)
 refine az ?_
 refine bp ?_
 refine nN hS109 0 λr120 hl121 hln124 hz123=>?_
 refine nN hS109 1 λr125 hl126 hln129 hz128=>?_
 refine nN hS109 3 λr130 hl131 hln134 hz133=>?_
 have hz135:∀ m,freeze true { H108 with iq:=[] } (m+4) (iX b7)=some (.ip [iv n27,jo.av iT.af r120,py r125,jo.av (kp jB.af) r130] 0 true):=λm=>uo (i:=4) hS109 rfl [] _ (by simp only [FZ,hz123,hz128,hz133]; try rfl)
 refine mS (args:=[(iX b7),iv a1,iv r118,iv 1]) (p:=[]) (r:=[]) (args':=[.ip [iv n27,jo.av iT.af r120,py r125,jo.av (kp jB.af) r130] 0 true,iv a1,iv r118,iv 1]) (R:=Hg (⟨n27,r120,r125,r130⟩:nw) a1 r118 1) rfl rfl rfl rfl rfl rfl rfl fw (kO (by show ju (freeze true { H108 with iq:=[] } 8) [(iX b7),iv a1,iv r118,iv 1] = _; simp only [FZ,hz123,hz128,hz133,hz135]) (iM rfl (iM rfl (iM rfl (iM rfl jP))))) (kO fg (iM rfl (iM rfl (iM rfl (iM rfl jP))))) (λh=>t312 (⟨n27,r120,r125,r130⟩:nw) a1 r118 1 dK dK h) ?_
 rintro _ ⟨r137,hc136,rfl⟩
 have hC158:=congrArg List.length hc136.1; have hD158:=hc136.2.1; dsimp only at hC158 hD158; have hG158:=zX hc136.1 dS hSg hc136.2.2
 refine iz rfl (λ_=>CU (xs:=[(iQ.af r137)]) rfl rfl rfl rfl (Qa (iM rfl (iM rfl (iM rfl (iM (ma _) (iM (ma _) (iM (ma _) (iM (ma _) (iM (ma _) (iM rfl jP))))))))) rfl)) ?_
 have hz141:(l46++[r137]).length=l46.length+1:=List.length_append
 refine jq rfl (jZ (H:=H108) (i:=2) (l:=l46) (enc:=iQ.af) [r137] hS109 rfl rfl rfl rfl rfl rfl rfl rfl rfl (λ_=>rfl) (.inl rfl) dW (λ_=>rfl)) ?_
 rintro v138 H139 hS140
 simp only [List.set] at hS140
 refine ab ?_
 refine qe ?_
 refine ⟨_,?_,v41,((l42.set (((l42.length:Int) - 1).toNat) (⟨x95.elem,x95.nX,x78.out⟩:iT))),v43,((l44.set (((l42.length:Int) - 1).toNat) x78.pos)),v138,((l46++[r137])),v47,((l48.set (((l42.length:Int) - 1).toNat) (Row.drop x55 1))),H139,rfl,dT,dT,dR,fS,hS140,(jd hS140 [(8,2)])⟩
 omega
 refine aC ?_
 refine wz [.ip (iR.af a0) 0 false,iv a1,.la 7 0,v45,(iX b7),.la 12 0] H108 [(7,[iv n25,iv n26]),(12,[iv x113.elem,iv x78.out])] ?_ (jd hS109 [(8,2)])
 refine ae ?_
 refine oC (t239 a0 (⟨x113.elem,x78.out⟩:iu)) ?_
 rintro _ ⟨r143,r144,hc142,rfl⟩
 have hN:=hc142
 cases r144
 refine ct ?_
 refine az ?_
 refine aP ?_
 refine nN hS109 0 λr145 hl146 hln149 hz148=>?_
 refine nN hS109 1 λr150 hl151 hln154 hz153=>?_
 refine nN hS109 3 λr155 hl156 hln159 hz158=>?_
 have hz160:∀ m,freeze true { H108 with iq:=[] } (m+4) (iX b7)=some (.ip [iv n27,jo.av iT.af r145,py r150,jo.av (kp jB.af) r155] 0 true):=λm=>uo (i:=4) hS109 rfl [] _ (by simp only [FZ,hz148,hz153,hz158]; try rfl)
 refine mS (args:=[(iX b7),iv a1,iv (-1),iv 3]) (p:=[]) (r:=[]) (args':=[.ip [iv n27,jo.av iT.af r145,py r150,jo.av (kp jB.af) r155] 0 true,iv a1,iv (-1),iv 3]) (R:=Hg (⟨n27,r145,r150,r155⟩:nw) a1 (-1) 3) rfl rfl rfl rfl rfl rfl rfl fw (kO (by show ju (freeze true { H108 with iq:=[] } 8) [(iX b7),iv a1,iv (-1),iv 3] = _; simp only [FZ,hz148,hz153,hz158,hz160]) (iM rfl (iM rfl (iM rfl (iM rfl jP))))) (kO fg (iM rfl (iM rfl (iM rfl (iM rfl jP))))) (λh=>t312 (⟨n27,r145,r150,r155⟩:nw) a1 (-1) 3 dK dK h) ?_
 rintro _ ⟨r162,hc161,rfl⟩
 have hC158:=congrArg List.length hc161.1; have hD158:=hc161.2.1; dsimp only at hC158 hD158; have hG158:=zX hc161.1 dS hSg hc161.2.2
 refine iz rfl (λ_=>CU (xs:=[(iQ.af r162)]) rfl rfl rfl rfl (Qa (iM rfl (iM rfl (iM rfl (iM (ma _) (iM (ma _) (iM (ma _) (iM (ma _) (iM (ma _) (iM rfl jP))))))))) rfl)) ?_
 have hz166:(l46++[r162]).length=l46.length+1:=List.length_append
 refine jq rfl (jZ (H:=H108) (i:=2) (l:=l46) (enc:=iQ.af) [r162] hS109 rfl rfl rfl rfl rfl rfl rfl rfl rfl (λ_=>rfl) (.inl rfl) dW (λ_=>rfl)) ?_
 rintro v163 H164 hS165
 simp only [List.set] at hS165
 refine ab ?_
 refine qe ?_
 refine ⟨_,?_,v41,((l42.set (((l42.length:Int) - 1).toNat) (⟨x95.elem,x95.nX,x78.out⟩:iT))),v43,((l44.set (((l42.length:Int) - 1).toNat) x78.pos)),v163,((l46++[r162])),v47,((l48.set (((l42.length:Int) - 1).toNat) (Row.drop x55 1))),H164,rfl,dT,dT,dR,fS,hS165,(jd hS165 [(8,2)])⟩
 omega
 refine ct ?_
 refine aC ?_
 refine wz [.ip (iR.af a0) 0 false,iv a1,.la 7 0,v45,(iX b7),.la 14 0] H108 [(7,[iv n25,iv n26]),(14,(iu.af r143))] ?_ (jd hS109 [(8,2)])
 refine bb ?_
 refine qe ?_
 refine ⟨_,?_,v41,((l42.set (((l42.length:Int) - 1).toNat) (⟨x95.elem,x95.nX,x78.out⟩:iT))),v43,((l44.set (((l42.length:Int) - 1).toNat) x78.pos)),v45,l46,v47,((l48.set (((l42.length:Int) - 1).toNat) (Row.drop x55 1))),r143.elem,r143.en,n27,H108,rfl,eH,dT,dR,fS,(by first | exact hxg | exact hJg _ (tP dS)),hS109,(jd hS109 [(8,2)])⟩
 (first | omega | (simp only [List.length_set]; omega))
 refine aJ ?_
 refine wz [v45] H49 [] ?_ (jd hS50 [(8,2)])
 refine qe ?_
 refine wz [v45] H49 [] ?_ (jd hS50 [(8,2)])
 refine bv ?_
 obtain ⟨r167,hl168,hf169⟩:=lS (H:=H49) (i:=2) (l:=l46) (enc:=iQ.af) hS50 rfl dQ
 have hlq:=hl168; have hln171:=congrArg List.length hl168
 have hz170:∀ m,freeze false { H49 with iq:=[] } (m+2) v45=some (js r167):=λm=>hf169 _ _ (λ_=>by simp only [iQ.af,ju,uj,tH,wi,tO,wb])
 exact ⟨v45,(kY (vs:=[v45]) rfl (iM (Sep.arg (i:=2) hS50 rfl) jP)),js r167,(show freeze false { H49 with iq:=[] } 8 v45=some (js r167) by simp only [FZ,hz170]),r167,fe,rfl⟩
 refine aP ?_
 refine nN hS29 0 λr172 hl173 hln176 hz175=>?_
 refine nN hS29 1 λr177 hl178 hln181 hz180=>?_
 refine nN hS29 3 λr182 hl183 hln186 hz185=>?_
 have hz187:∀ m,freeze true { H28 with iq:=[] } (m+4) (iX b7)=some (.ip [iv n27,jo.av iT.af r172,py r177,jo.av (kp jB.af) r182] 0 true):=λm=>uo (i:=4) hS29 rfl [] _ (by simp only [FZ,hz175,hz180,hz185]; try rfl)
 refine mS (args:=[(iX b7),iv n25]) (p:=[]) (r:=[]) (args':=[.ip [iv n27,jo.av iT.af r172,py r177,jo.av (kp jB.af) r182] 0 true,iv n25]) (R:=T3 (⟨n27,r172,r177,r182⟩:nw) n25) rfl rfl rfl rfl rfl rfl rfl fw (kO (by show ju (freeze true { H28 with iq:=[] } 8) [(iX b7),iv n25] = _; simp only [FZ,hz175,hz180,hz185,hz187]) (iM rfl (iM rfl jP))) (kO fg (iM rfl (iM rfl jP))) (λh=>t310 (⟨n27,r172,r177,r182⟩:nw) n25  h) ?_
 rintro _ ⟨r189,hc188,rfl⟩
 cases r189
 clear hc188
 refine aC ?_
 exact ⟨v17,l18,v19,l20,v21,l22,v23,l24,H28,dT,dT,dR,fS,hS29,(Ow hS29 [(8,2)]),rfl⟩
 have hc188t:=hc188 rfl
 dsimp only at hc188t
 refine az ?_
 refine aP ?_
 have hS190:=Sep.pick hS29 [4,0,1,3,2] 5 dX dX
 refine kj (H:=H28) (args:=[(iX b7),.ip (iR.af a0) 0 false,.agg [iv n25,iv n26]]) (p:=[]) (r:=[]) rfl rfl rfl rfl rfl rfl rfl (aef b7 n27 v17 l18 v19 l20 v23 l24 a0 ((⟨n25,n26⟩:iu)) (nH iQ.af 9 v21 l22::[]) hS190 dK dK dK) ?_
 rintro _ H191 ⟨vso194,stepso195,vpo196,poso197,vlo198,lefto199,hc193,hS192,rfl⟩
 obtain ⟨hp1,hp2,hpS,ww,hp3,hp4⟩:=hc193
 have hSg:=hpS hxg hSg
 have hWp:=SR (l:=l24) (w:=ww) dT hp3
 rw [<- hp4,hL3] at hWp
 have hp5:lefto199.length=l24.length+1:=by rw [hp4]; simp
 refine oN ?_
 refine aP ?_
 refine oC (t85 a0 n25) ?_
 rintro _ ⟨r201,hc200,rfl⟩
 have hK:=hc200
 refine iY (λh202=>?_) (λh202=>?_)
 refine ce ?_
 refine nN hS192 1 λr203 hl204 hln207 hz206=>?_
 refine nN hS192 2 λr208 hl209 hln212 hz211=>?_
 refine nN hS192 3 λr213 hl214 hln217 hz216=>?_
 have hz218:∀ m,freeze true { H191 with iq:=[] } (m+4) (iX b7)=some (.ip [iv n27,jo.av iT.af r203,py r208,jo.av (kp jB.af) r213] 0 true):=λm=>uo (i:=0) hS192 rfl [] _ (by simp only [FZ,hz206,hz211,hz216]; try rfl)
 refine mS (args:=[(iX b7),iv a1,iv (-1),iv 2]) (p:=[]) (r:=[]) (args':=[.ip [iv n27,jo.av iT.af r203,py r208,jo.av (kp jB.af) r213] 0 true,iv a1,iv (-1),iv 2]) (R:=Hg (⟨n27,r203,r208,r213⟩:nw) a1 (-1) 2) rfl rfl rfl rfl rfl rfl rfl fw (kO (by show ju (freeze true { H191 with iq:=[] } 8) [(iX b7),iv a1,iv (-1),iv 2] = _; simp only [FZ,hz206,hz211,hz216,hz218]) (iM rfl (iM rfl (iM rfl (iM rfl jP))))) (kO fg (iM rfl (iM rfl (iM rfl (iM rfl jP))))) (λh=>t312 (⟨n27,r203,r208,r213⟩:nw) a1 (-1) 2 dK dK h) ?_
 rintro _ ⟨r220,hc219,rfl⟩
 have hC158:=congrArg List.length hc219.1; have hD158:=hc219.2.1; dsimp only at hC158 hD158; have hG158:=zX hc219.1 dS hSg hc219.2.2
 refine iz rfl (λ_=>CU (xs:=[(iQ.af r220)]) rfl rfl rfl rfl (Qa (iM rfl (iM rfl (iM rfl (iM (ma _) (iM (ma _) (iM (ma _) (iM (ma _) (iM (ma _) (iM rfl jP))))))))) rfl)) ?_
 have hz224:(l22++[r220]).length=l22.length+1:=List.length_append
 refine jq rfl (jZ (H:=H191) (i:=4) (l:=l22) (enc:=iQ.af) [r220] hS192 rfl rfl rfl rfl rfl rfl rfl rfl rfl (λ_=>rfl) (.inl rfl) dW (λ_=>rfl)) ?_
 rintro v221 H222 hS223
 simp only [List.set] at hS223
 refine ab ?_
 have hS225:=Sep.pick hS223 [1,2,4,3,0] 5 dX dX
 exact ⟨vso194,stepso195,vpo196,poso197,v221,((l22++[r220])),vlo198,lefto199,H222,dT,dT,dR,fS,hS225,(Ow hS225 [(8,2)]),rfl⟩
 refine aC ?_
 have hS226:=Sep.pick hS192 [1,2,4,3,0] 5 dX dX
 exact ⟨vso194,stepso195,vpo196,poso197,v21,l22,vlo198,lefto199,H191,dT,dT,dR,fS,hS226,(Ow hS226 [(8,2)]),rfl⟩
def s52 {H:aT} (nn:iR) (F:List jL) (hS:Sep H F) (q1:nn.p.signals.l.length<=60) (hJg:∀ y∈univ nn,nk y.elem):∃ v H',jf cfg FT jA true 131 [.ip (iR.af nn) 0 false] { H with iq:=[] } v H'/\(∃ ov:AV,∃ ol:List iQ,∃ eo:Int,((∀ r∈(ol:List iQ),0<r.steps.l.length/\r.steps.l.length<=12/\r.lQ.l.length<=12/\nL r)/\ol.length<=64)/\Sep H' (nH iQ.af 9 ov ol::F)/\v=.je [ov,iv eo]):=by
 refine lW Il ?_
 refine bb ?_
 refine bN ?_
 refine oC (t212 nn) ?_
 rintro _ ⟨r2,hc1,rfl⟩
 have hC91:=hc1
 refine aL ?_
 have hS3:=Sep.mn hS 9
 refine iF ((r2).toNat) (λk4 e h=>∃ v5:AV,∃ l6:List iQ,∃ H7:aT,(l6.length<=8192*k4)/\((∀ r∈(l6:List iQ),0<r.steps.l.length/\r.steps.l.length<=12/\r.lQ.l.length<=12/\nL r))/\Sep H7 (nH iQ.af 9 v5 l6::F)/\At [0,4,7,8] [.ip (iR.af nn) 0 false,v5,iv r2,ir k4] H7 [] e h) ?_ (k0:=0) dT ⟨iE,(([]:List iQ)),H,fp,fp,hS3,atR⟩
 rintro k4 e h hkk4 ⟨v5,l6,H7,hI,hR,hS8,hA⟩
 refine aO ?_
 refine iV (λh9=>?_) (λh9=>?_)
 refine ap ?_
 refine wz [.ip (iR.af nn) 0 false,v5,iv r2,ir k4] H7 [] ?_ (jd hS8 [(4,0)])
 refine aD ?_
 refine bb ?_
 refine bl ?_
 refine oC (t235 nn ((k4:Int)) dK) ?_
 rintro _ ⟨r11,hc10,rfl⟩
 have hL12:=r11.lk
 refine jq rfl (jZ (i:=0) r11.l hS8 rfl rfl rfl rfl rfl rfl rfl rfl rfl (λ_=>rfl) (.inl rfl) dW (λ_=>rfl)) ?_
 rintro v13 H14 hS15
 refine ab ?_
 refine wz [.ip (iR.af nn) 0 false,v13,iv r2,ir k4] H14 [] ?_ (jd hS15 [(4,0)])
 refine qg ?_
 refine jc ?_
 refine ab ?_
 exact ⟨by omega,v13,((l6++r11.l)),H14,(by (simp<;>omega)),(by exact Sj hR (by simp_all)),hS15,(jd hS15 [(4,0)])⟩
 refine ao ?_
 refine wz [v5] H7 [] ?_ (jd hS8 [(4,0)])
 refine ah ?_
 refine iz rfl (λ_=>oJ (i:=0) hS8 rfl rfl rfl rfl rfl rfl rfl) ?_
 refine jI (λh16=>?_) (λh16=>?_)
 refine dy ?_
 have hS17:=Sep.mn hS8 9
 have hS18:=Sep.pick hS17 [0] 2 dX dX
 exact ⟨.je [iE,iv 3],rfl,iE,([]:List iQ),3,fV,Sep.iq hS18 _,rfl⟩
 refine aC ?_
 refine wz [v5] H7 [] ?_ (jd hS8 [(4,0)])
 refine bj ?_
 have hS19:=Sep.pick hS8 [0] 1 dX dX
 exact ⟨.je [v5,iv 0],(kY (vs:=[v5,iv 0]) rfl (iM (Sep.arg (i:=0) hS8 rfl) (iM rfl jP))),v5,l6,0,fV,Sep.iq hS19 _,rfl⟩
def acA (_a0:jo Int) (_a1:Int) (v:AV):Prop:=∃ r0:Int,(((0<=r0->_a1∈_a0.l)/\(r0<0->_a1∉_a0.l)))/\v=iv r0
def t148 (a0:jo Int) (a1:Int) :Ct 148 [py a0,iv a1] (acA a0 a1):=by
 refine ja GK ?_
 refine bN ?_
 have hL1:=a0.lk
 refine iz rfl (λ_=>pP (r:=a0) (enc:=iP) rfl rfl rfl rfl rfl rfl) ?_
 refine aL ?_
 have hNk2:=a0.lk
 refine iF a0.l.length (λk2 e h=>(∀ (i:Nat) (h:i<a0.l.length),i<k2->¬ a0.l[i]=a1)/\At [0,1,7,8] [py a0,iv a1,ir a0.l.length,ir k2] aT.empty [] e h) ?_ (k0:=0) dT ⟨eE,atR⟩
 rintro k2 e h hkk2 ⟨hU,hA⟩
 refine aO ?_
 refine iV (λh3=>?_) (λh3=>?_)
 refine b5 ?_
 refine bo ?_
 refine aP ?_
 have hx4:k2<a0.l.length:=by omega
 refine iz rfl (λ_=>pV (n:=k2) (r:=a0) (enc:=iP) rfl rfl rfl rfl rfl hx4 rfl) ?_
 generalize hqx5:a0.l[k2]=x5
 refine oV ?_
 refine iY (λh6=>?_) (λh6=>?_)
 refine dy ?_
 exact xB ⟨((k2:Int)),fK,rfl⟩
 refine cm ?_
 refine jc ?_
 refine ab ?_
 exact ⟨by omega,gb,atR⟩
 refine cG ?_
 exact xB ⟨(-1),fK,rfl⟩
def Tj (_a0:jo Int) (_a1:Int) (v:AV):Prop:=∃ r0:Bool,(((r0=true->_a1∈_a0.l)/\(r0=false->_a1∉_a0.l)))/\v=.bool r0
def t74 (a0:jo Int) (a1:Int) :Ct 74 [py a0,iv a1] (Tj a0 a1):=by
 refine ja M4 ?_
 refine aU ?_
 refine ae ?_
 refine oC (t148 a0 a1) ?_
 rintro _ ⟨r2,hc1,rfl⟩
 have hIx:=hc1
 refine kL (λh3=>?_) (λh3=>?_)
 refine ai ?_
 exact xB ⟨true,fE,rfl⟩
 refine ai ?_
 exact xB ⟨false,fE,rfl⟩
def aeB (_a0:iR) (v:AV):Prop:=∃ r0:bS,(r0.elems.l = _a0.p.elems.l/\r0.iO.l = _a0.p.iO.l/\r0.signals.l = _a0.p.signals.l/\r0.lines.l.length = _a0.p.lines.l.length/\(∀ x∈r0.lines.l,x.elems.l.length<=60)/\r0 = _a0.p.canon)/\v=.agg (bS.af r0)
def t133 (a0:iR) (q1:mu a0.p):Ct 133 [.ip (iR.af a0) 0 false] (aeB a0):=by
 refine ja IX ?_
 refine aU ?_
 refine bp ?_
 refine oC (t101 a0.p dK) ?_
 rintro _ ⟨r2,hc1,rfl⟩
 have hC90:=hc1
 refine ai ?_
 exact xG ⟨r2,dS,rfl⟩
def afF (_a0:jo jy) (v:AV):Prop:=∃ r0:Row jy,(r0.l = _a0.l)/\v=jM r0
def t237 (a0:jo jy) (q1:a0.l.length<=1000):Ct 237 [jo.av jy.af a0] (afF a0):=by
 refine ja HN ?_
 refine bN ?_
 refine kS (b:=a0.isNil) rfl (λ_=>qJ rfl rfl rfl rfl) (λh1=>?_) (λh1=>?_)
 refine bu ?_
 exact xG ⟨(kI:Row jy),e8,rfl⟩
 refine aC ?_
 refine ae ?_
 have hS2:=Sep.qZ j1 2
 refine jq rfl (jZ (i:=0) (l:=([]:List jy)) (enc:=jy.af) a0.l hS2 rfl rfl rfl rfl rfl rfl rfl rfl rfl (λ_=>rfl) (.inl rfl) dW (λ_=>rfl)) ?_
 rintro v3 H4 hS5
 refine ai ?_
 obtain ⟨r6,hl7,hf8⟩:=lS (H:=H4) (i:=0) (l:=(([]:List jy)++a0.l)) (enc:=jy.af) hS5 rfl dQ
 have hlq:=hl7; have hln10:=congrArg List.length hl7
 have hz9:∀ m,freeze false { H4 with iq:=[] } (m+2) v3=some (jM r6):=λm=>hf8 _ _ (λ_=>rfl)
 exact ⟨v3,(kY (vs:=[v3]) rfl (iM (Sep.arg (i:=0) hS5 rfl) jP)),jM r6,(show freeze false { H4 with iq:=[] } 8 v3=some (jM r6) by simp only [FZ,hz9]),r6,e8,rfl⟩
def aeL (_a0:iR) (_a1:iQ) (v:AV):Prop:=∃ r0:Row iu,(r0.l.length<=2 * _a1.steps.l.length)/\v=ld r0
def t238 (a0:iR) (a1:iQ) (q1:a1.steps.l.length<=12):Ct 238 [.ip (iR.af a0) 0 false,.agg (iQ.af a1)] (aeL a0 a1):=by
 refine ja HV ?_
 refine bb ?_
 refine aU ?_
 refine aQ ?_
 have hL1:=a1.steps.lk
 refine jb a1.steps ?_
 refine aL ?_
 have hS2:=Sep.mn j1 2
 have hNk3:=a1.steps.lk
 refine iF a1.steps.l.length (λk3 e h=>∃ v4:AV,∃ l5:List iu,∃ H6:aT,(l5.length<=2*k3)/\Sep H6 (nH iu.af 2 v4 l5::[])/\At [0,5,16,17,18] [.ip (iR.af a0) 0 false,v4,ji a1.steps,ir a1.steps.l.length,ir k3] H6 [] e h) ?_ (k0:=0) dT ⟨iE,(([]:List iu)),aT.empty,fp,hS2,atR⟩
 rintro k3 e h hkk3 ⟨v4,l5,H6,hI,hS7,hA⟩
 refine aO ?_
 refine iV (λh8=>?_) (λh8=>?_)
 refine ap ?_
 refine wz [.ip (iR.af a0) 0 false,v4,ji a1.steps,ir a1.steps.l.length,ir k3] H6 [] ?_ (jd hS7 [(5,0)])
 refine bi ?_
 have hx9:k3<a1.steps.l.length:=by omega
 refine kH k3 a1.steps hx9 ?_
 generalize hqx10:a1.steps.l[k3]=x10
 refine ba ?_
 refine aU ?_
 refine aW ?_
 refine oC (t85 a0 x10.elem) ?_
 rintro _ ⟨r12,hc11,rfl⟩
 have hK:=hc11
 refine cT ?_
 refine iY (λh13=>?_) (λh13=>?_)
 refine cw ?_
 refine aF ?_
 refine aM ?_
 refine iz rfl (λ_=>iZ rfl rfl rfl (jF .i64 3 ((if x10.out > x10.nX then x10.out else x10.nX)))) ?_
 refine bo ?_
 refine wz [.ip (iR.af a0) 0 false,v4,.la 7 0,.sl [[iv (IntKind.i64.wrap (3 - ((if x10.out > x10.nX then x10.out else x10.nX))))]] (.exact 1),ji a1.steps,ir a1.steps.l.length,ir k3] H6 [(7,(iT.af x10))] ?_ (jd hS7 [(5,0)])
 refine ae ?_
 refine aL ?_
 refine iF 1 (λou e h=>∃ v15:AV,∃ l16:List iu,∃ H17:aT,(l16.length<=l5.length+ou)/\Sep H17 (nH iu.af 2 v15 l16::[])/\At [0,5,7,16,17,18,43,44,45] [.ip (iR.af a0) 0 false,v15,.la 7 0,ji a1.steps,ir a1.steps.l.length,ir k3,.sl [[iv (IntKind.i64.wrap (3 - ((if x10.out > x10.nX then x10.out else x10.nX))))]] (.exact 1),iv 1,ir ou] H17 [(7,(iT.af x10))] e h) ?_ (k0:=0) dT ⟨v4,l5,H6,ew,hS7,(jd hS7 [(5,0)])⟩
 rintro ou e h hkk14 ⟨v15,l16,H17,hl19,hS18,hA⟩
 refine aO ?_
 refine iV (λh20=>?_) (λh20=>?_)
 refine ap ?_
 refine wz [.ip (iR.af a0) 0 false,v15,.la 7 0,ji a1.steps,ir a1.steps.l.length,ir k3,.sl [[iv (IntKind.i64.wrap (3 - ((if x10.out > x10.nX then x10.out else x10.nX))))]] (.exact 1),iv 1,ir ou] H17 [(7,(iT.af x10))] ?_ (jd hS18 [(5,0)])
 refine bi ?_
 have hx21:ou<(⟨[(IntKind.i64.wrap (3 - ((if x10.out > x10.nX then x10.out else x10.nX))))],.exact 1,nM,rfl,lN⟩:Row Int).l.length:=by show ou<1; omega
 refine iz rfl (λ_=>rF (n:=ou) (r:=(⟨[(IntKind.i64.wrap (3 - ((if x10.out > x10.nX then x10.out else x10.nX))))],.exact 1,nM,rfl,lN⟩:Row Int)) (enc:=iP) rfl rfl rfl rfl rfl hx21 rfl) ?_
 generalize hqx22:(⟨[(IntKind.i64.wrap (3 - ((if x10.out > x10.nX then x10.out else x10.nX))))],.exact 1,nM,rfl,lN⟩:Row Int).l[ou]=x22
 refine bo ?_
 refine aP ?_
 refine dh ?_
 refine oC (t239 a0 (⟨x10.elem,x22⟩:iu)) ?_
 rintro _ ⟨r24,r25,hc23,rfl⟩
 have hN:=hc23
 cases r25
 refine cW ?_
 refine aC ?_
 refine wz [.ip (iR.af a0) 0 false,v15,.la 7 0,ji a1.steps,ir a1.steps.l.length,ir k3,.sl [[iv (IntKind.i64.wrap (3 - ((if x10.out > x10.nX then x10.out else x10.nX))))]] (.exact 1),iv 1,ir ou] H17 [(7,(iT.af x10))] ?_ (jd hS18 [(5,0)])
 refine qg ?_
 refine jc ?_
 refine ab ?_
 exact ⟨by omega,v15,l16,H17,dP,hS18,(jd hS18 [(5,0)])⟩
 refine cW ?_
 refine ce ?_
 refine jq rfl (jZ (H:=H17) (i:=0) (l:=l16) (enc:=iu.af) [(⟨x10.elem,x22⟩:iu)] hS18 rfl rfl rfl rfl rfl rfl rfl rfl rfl (λ_=>rfl) (.inl rfl) dW (λ_=>rfl)) ?_
 rintro v26 H27 hS28
 refine ab ?_
 refine wz [.ip (iR.af a0) 0 false,v26,.la 7 0,ji a1.steps,ir a1.steps.l.length,ir k3,.sl [[iv (IntKind.i64.wrap (3 - ((if x10.out > x10.nX then x10.out else x10.nX))))]] (.exact 1),iv 1,ir ou] H27 [(7,(iT.af x10))] ?_ (jd hS28 [(5,0)])
 refine qg ?_
 refine jc ?_
 refine ab ?_
 exact ⟨by omega,v26,((l16++[(⟨x10.elem,x22⟩:iu)])),H27,dP,hS28,(jd hS28 [(5,0)])⟩
 refine ao ?_
 refine wz [.ip (iR.af a0) 0 false,v15,ji a1.steps,ir a1.steps.l.length,ir k3] H17 [] ?_ (jd hS18 [(5,0)])
 refine qg ?_
 refine jc ?_
 refine ab ?_
 exact ⟨by omega,v15,l16,H17,dU,hS18,(jd hS18 [(5,0)])⟩
 refine aS ?_
 refine iY (λh29=>?_) (λh29=>?_)
 refine aN ?_
 refine bb ?_
 refine ae ?_
 refine jI (λh30=>?_) (λh30=>?_)
 refine az ?_
 refine qg ?_
 refine bo ?_
 refine wz [.ip (iR.af a0) 0 false,v4,.la 7 0,.sl [[iv 0],[iv 1]] (.exact 2),ji a1.steps,ir a1.steps.l.length,ir k3] H6 [(7,(iT.af x10))] ?_ (jd hS7 [(5,0)])
 refine ae ?_
 refine aL ?_
 refine iF 2 (λnE e h=>∃ v32:AV,∃ l33:List iu,∃ H34:aT,(l33.length<=l5.length+nE)/\Sep H34 (nH iu.af 2 v32 l33::[])/\At [0,5,7,16,17,18,43,44,45] [.ip (iR.af a0) 0 false,v32,.la 7 0,ji a1.steps,ir a1.steps.l.length,ir k3,.sl [[iv 0],[iv 1]] (.exact 2),iv 2,ir nE] H34 [(7,(iT.af x10))] e h) ?_ (k0:=0) dT ⟨v4,l5,H6,ew,hS7,(jd hS7 [(5,0)])⟩
 rintro nE e h hkk31 ⟨v32,l33,H34,hl36,hS35,hA⟩
 refine aO ?_
 refine iV (λh37=>?_) (λh37=>?_)
 refine ap ?_
 refine wz [.ip (iR.af a0) 0 false,v32,.la 7 0,ji a1.steps,ir a1.steps.l.length,ir k3,.sl [[iv 0],[iv 1]] (.exact 2),iv 2,ir nE] H34 [(7,(iT.af x10))] ?_ (jd hS35 [(5,0)])
 refine bi ?_
 have hx38:nE<(⟨[0,1],.exact 2,nM,rfl,lN⟩:Row Int).l.length:=by show nE<2; omega
 refine iz rfl (λ_=>rF (n:=nE) (r:=(⟨[0,1],.exact 2,nM,rfl,lN⟩:Row Int)) (enc:=iP) rfl rfl rfl rfl rfl hx38 rfl) ?_
 generalize hqx39:(⟨[0,1],.exact 2,nM,rfl,lN⟩:Row Int).l[nE]=x39
 refine bo ?_
 refine aP ?_
 refine dh ?_
 refine oC (t239 a0 (⟨x10.elem,x39⟩:iu)) ?_
 rintro _ ⟨r41,r42,hc40,rfl⟩
 have hN:=hc40
 cases r42
 refine cW ?_
 refine aC ?_
 refine wz [.ip (iR.af a0) 0 false,v32,.la 7 0,ji a1.steps,ir a1.steps.l.length,ir k3,.sl [[iv 0],[iv 1]] (.exact 2),iv 2,ir nE] H34 [(7,(iT.af x10))] ?_ (jd hS35 [(5,0)])
 refine qg ?_
 refine jc ?_
 refine ab ?_
 exact ⟨by omega,v32,l33,H34,dP,hS35,(jd hS35 [(5,0)])⟩
 refine cW ?_
 refine ce ?_
 refine jq rfl (jZ (H:=H34) (i:=0) (l:=l33) (enc:=iu.af) [(⟨x10.elem,x39⟩:iu)] hS35 rfl rfl rfl rfl rfl rfl rfl rfl rfl (λ_=>rfl) (.inl rfl) dW (λ_=>rfl)) ?_
 rintro v43 H44 hS45
 refine ab ?_
 refine wz [.ip (iR.af a0) 0 false,v43,.la 7 0,ji a1.steps,ir a1.steps.l.length,ir k3,.sl [[iv 0],[iv 1]] (.exact 2),iv 2,ir nE] H44 [(7,(iT.af x10))] ?_ (jd hS45 [(5,0)])
 refine qg ?_
 refine jc ?_
 refine ab ?_
 exact ⟨by omega,v43,((l33++[(⟨x10.elem,x39⟩:iu)])),H44,dP,hS45,(jd hS45 [(5,0)])⟩
 refine ao ?_
 refine wz [.ip (iR.af a0) 0 false,v32,ji a1.steps,ir a1.steps.l.length,ir k3] H34 [] ?_ (jd hS35 [(5,0)])
 refine qg ?_
 refine jc ?_
 refine ab ?_
 exact ⟨by omega,v32,l33,H34,dU,hS35,(jd hS35 [(5,0)])⟩
 refine aC ?_
 refine wz [.ip (iR.af a0) 0 false,v4,.la 7 0,.sl [[iv 2],[iv 3]] (.exact 2),ji a1.steps,ir a1.steps.l.length,ir k3] H6 [(7,(iT.af x10))] ?_ (jd hS7 [(5,0)])
 refine ae ?_
 refine aL ?_
 refine iF 2 (λml e h=>∃ v47:AV,∃ l48:List iu,∃ H49:aT,(l48.length<=l5.length+ml)/\Sep H49 (nH iu.af 2 v47 l48::[])/\At [0,5,7,16,17,18,43,44,45] [.ip (iR.af a0) 0 false,v47,.la 7 0,ji a1.steps,ir a1.steps.l.length,ir k3,.sl [[iv 2],[iv 3]] (.exact 2),iv 2,ir ml] H49 [(7,(iT.af x10))] e h) ?_ (k0:=0) dT ⟨v4,l5,H6,ew,hS7,(jd hS7 [(5,0)])⟩
 rintro ml e h hkk46 ⟨v47,l48,H49,hl51,hS50,hA⟩
 refine aO ?_
 refine iV (λh52=>?_) (λh52=>?_)
 refine ap ?_
 refine wz [.ip (iR.af a0) 0 false,v47,.la 7 0,ji a1.steps,ir a1.steps.l.length,ir k3,.sl [[iv 2],[iv 3]] (.exact 2),iv 2,ir ml] H49 [(7,(iT.af x10))] ?_ (jd hS50 [(5,0)])
 refine bi ?_
 have hx53:ml<(⟨[2,3],.exact 2,nM,rfl,lN⟩:Row Int).l.length:=by show ml<2; omega
 refine iz rfl (λ_=>rF (n:=ml) (r:=(⟨[2,3],.exact 2,nM,rfl,lN⟩:Row Int)) (enc:=iP) rfl rfl rfl rfl rfl hx53 rfl) ?_
 generalize hqx54:(⟨[2,3],.exact 2,nM,rfl,lN⟩:Row Int).l[ml]=x54
 refine bo ?_
 refine aP ?_
 refine dh ?_
 refine oC (t239 a0 (⟨x10.elem,x54⟩:iu)) ?_
 rintro _ ⟨r56,r57,hc55,rfl⟩
 have hN:=hc55
 cases r57
 refine cW ?_
 refine aC ?_
 refine wz [.ip (iR.af a0) 0 false,v47,.la 7 0,ji a1.steps,ir a1.steps.l.length,ir k3,.sl [[iv 2],[iv 3]] (.exact 2),iv 2,ir ml] H49 [(7,(iT.af x10))] ?_ (jd hS50 [(5,0)])
 refine qg ?_
 refine jc ?_
 refine ab ?_
 exact ⟨by omega,v47,l48,H49,dP,hS50,(jd hS50 [(5,0)])⟩
 refine cW ?_
 refine ce ?_
 refine jq rfl (jZ (H:=H49) (i:=0) (l:=l48) (enc:=iu.af) [(⟨x10.elem,x54⟩:iu)] hS50 rfl rfl rfl rfl rfl rfl rfl rfl rfl (λ_=>rfl) (.inl rfl) dW (λ_=>rfl)) ?_
 rintro v58 H59 hS60
 refine ab ?_
 refine wz [.ip (iR.af a0) 0 false,v58,.la 7 0,ji a1.steps,ir a1.steps.l.length,ir k3,.sl [[iv 2],[iv 3]] (.exact 2),iv 2,ir ml] H59 [(7,(iT.af x10))] ?_ (jd hS60 [(5,0)])
 refine qg ?_
 refine jc ?_
 refine ab ?_
 exact ⟨by omega,v58,((l48++[(⟨x10.elem,x54⟩:iu)])),H59,dP,hS60,(jd hS60 [(5,0)])⟩
 refine ao ?_
 refine wz [.ip (iR.af a0) 0 false,v47,ji a1.steps,ir a1.steps.l.length,ir k3] H49 [] ?_ (jd hS50 [(5,0)])
 refine qg ?_
 refine jc ?_
 refine ab ?_
 exact ⟨by omega,v47,l48,H49,dU,hS50,(jd hS50 [(5,0)])⟩
 refine aA ?_
 refine wz [.ip (iR.af a0) 0 false,v4,.la 7 0,iE,ji a1.steps,ir a1.steps.l.length,ir k3] H6 [(7,(iT.af x10))] ?_ (jd hS7 [(5,0)])
 refine ae ?_
 refine aL ?_
 refine iF 0 (λra e h=>At [0,5,7,16,17,18,43,44,45] [.ip (iR.af a0) 0 false,v4,.la 7 0,ji a1.steps,ir a1.steps.l.length,ir k3,iE,iv 0,ir ra] H6 [(7,(iT.af x10))] e h) ?_ (k0:=0) dT (jd hS7 [(5,0)])
 rintro ra e h hkk61 hA
 refine aO ?_
 refine iV (λh62=>?_) (λh62=>?_)
 refine ap ?_
 refine wz [.ip (iR.af a0) 0 false,v4,.la 7 0,ji a1.steps,ir a1.steps.l.length,ir k3,iE,iv 0,ir ra] H6 [(7,(iT.af x10))] ?_ (jd hS7 [(5,0)])
 refine bi ?_
 exfalso; omega
 refine ao ?_
 refine wz [.ip (iR.af a0) 0 false,v4,ji a1.steps,ir a1.steps.l.length,ir k3] H6 [] ?_ (jd hS7 [(5,0)])
 refine qg ?_
 refine jc ?_
 refine ab ?_
 exact ⟨by omega,v4,l5,H6,dU,hS7,(jd hS7 [(5,0)])⟩
 refine ao ?_
 refine wz [v4] H6 [] ?_ (jd hS7 [(5,0)])
 refine bv ?_
 obtain ⟨r63,hl64,hf65⟩:=lS (H:=H6) (i:=0) (l:=l5) (enc:=iu.af) hS7 rfl dQ
 have hlq:=hl64; have hln67:=congrArg List.length hl64
 have hz66:∀ m,freeze false { H6 with iq:=[] } (m+2) v4=some (ld r63):=λm=>hf65 _ _ (λ_=>rfl)
 exact ⟨v4,(kY (vs:=[v4]) rfl (iM (Sep.arg (i:=0) hS7 rfl) jP)),ld r63,(show freeze false { H6 with iq:=[] } 8 v4=some (ld r63) by simp only [FZ,hz66]),r63,(by first | omega | (simp_all; omega)),rfl⟩
def JU {H:aT} (el:Int) (en:Int) (bn:Nat) (nn:iR) (bt:Nat) (vt:AV) (todo:List iu) (F:List jL) (hS:Sep H (kM bn [.ip (iR.af nn) 0 false]::kM bt [vt]::oa iu.af 2 vt todo::F)) (q1:todo.length<=2000):∃ v H',jf cfg FT jA true 240 [iv el,iv en,(iX bn),(iX bt)] { H with iq:=[] } v H'/\(∃ vto:AV,∃ todoo:List iu,(todoo.length<=todo.length+1/\∀ y∈todoo,y∈todo\/y∈univ nn)/\Sep H' (kM bn [.ip (iR.af nn) 0 false]::kM bt [vto]::oa iu.af 2 vto todoo::F)/\v=.je []):=by
 refine lW I7 ?_
 refine aa ?_
 refine mX 0 hS (.ip (iR.af nn) 0 false) ?_
 refine aK ?_
 refine oC (t239 nn (⟨el,en⟩:iu)) ?_
 rintro _ ⟨r2,r3,hc1,rfl⟩
 have hN:=hc1
 cases r3
 refine cW ?_
 refine aC ?_
 have hS4:=Sep.pick hS [0,1,2] 3 dX dX
 exact ⟨.je [],rfl,vt,todo,fo,Sep.iq hS4 _,rfl⟩
 refine cW ?_
 refine az ?_
 refine qg ?_
 refine mX 1 hS vt ?_
 refine aj ?_
 refine jq rfl (jZ (H:=H) (i:=2) (l:=todo) (enc:=iu.af) [r2] hS rfl rfl rfl rfl rfl rfl rfl rfl rfl (λ_=>rfl) (.inr rfl) dW (λ_=>rfl)) ?_
 rintro v5 H6 hS7
 refine jq rfl (mP (H:=H6) (i:=1) (o:=0) (r:=v5) hS7 rfl rfl rfl rfl (nG rfl rfl (Sep.cell (i:=2) hS7 rfl)) (iM (Sep.cell (i:=2) hS7 rfl) jP) rfl) ?_
 rintro _ H8 ⟨rfl,hS9⟩
 refine oN ?_
 have hS10:=Sep.pick hS9 [0,1,2] 3 dX dX
 exact ⟨.je [],rfl,v5,(todo++[r2]),fo,Sep.iq hS10 _,rfl⟩
def Vj (_a0:sL) (_a1:Int) (v:AV):Prop:=∃ r0:Bool,(True)/\v=.bool r0
def t241 (a0:sL) (a1:Int) :Ct 241 [.agg (sL.af a0),iv a1] (Vj a0 a1):=by
 refine ja Hq ?_
 refine aE ?_
 refine jq rfl (vZ j1 rfl rfl rfl rfl rfl) ?_
 rintro _ H2 ⟨b1,rfl,hS3⟩
 refine ab ?_
 refine ae ?_
 refine iz rfl (λ_=>yW rfl rfl (yS rfl rfl)) ?_
 have hS4:=Sep.pick hS3 [0] 1 dX dX
 refine kj (H:=H2) (args:=[jo.av iT.af a0.steps,.jN 315 [] [(iX b1)]]) (p:=[]) (r:=[]) rfl rfl rfl rfl rfl rfl rfl (L5 a0.steps b1 a1 ([]) hS4) ?_
 rintro _ H5 ⟨r8,hc7,hS6,rfl⟩
 cases r8
 refine ai ?_
 exact gl
 refine ai ?_
 exact gn
def Qn {H:aT} (b:Nat) (f0:Int) (f1:Int) (f2:Int) (steps:Row iT) (lQ:Row jy) (vg:AV) (guards:List jy) (vz:AV) (mA:List Int) (vh:AV) (holds:List Int) (bare:Bool) (el:Int) (F:List jL) (hS:Sep H (kM b [iv f0,iv f1,iv f2,ji steps,jM lQ,vg,vz,vh,.bool bare]::nH jy.af 2 vg guards::ot vz mA::ot vh holds::F)) (q1:mA.length<=12):∃ v H',jf cfg FT jA true 242 [(iX b),iv el] { H with iq:=[] } v H'/\(∃ r0:Bool,∃ vzo:AV,∃ zoneo:List Int,∃ bareo:Bool,(zoneo.length<=12/\∀ x∈zoneo,x∈mA\/x=el)/\Sep H' (kM b [iv f0,iv f1,iv f2,ji steps,jM lQ,vg,vzo,vh,.bool bareo]::nH jy.af 2 vg guards::ot vzo zoneo::ot vh holds::F)/\v=.bool r0):=by
 refine lW GI ?_
 refine bN ?_
 refine bA ?_
 refine iz rfl (λ_=>nT (i:=0) (o:=6) (r:=vz) hS rfl rfl rfl rfl) ?_
 refine oV ?_
 refine nN hS 2 λr1 hl2 hln5 hz4=>?_
 refine mS (args:=[vz,iv el]) (p:=[]) (r:=[]) (args':=[py r1,iv el]) (R:=Tj r1 el) rfl rfl rfl rfl rfl (iM (Sep.arg (i:=2) hS rfl) (iM rfl jP)) rfl fw (kO (by show ju (freeze true { H with iq:=[] } 8) [vz,iv el] = _; simp only [FZ,hz4]) (iM (Sep.oZ (i:=2) hS rfl) (iM rfl jP))) (kO fg (iM rfl (iM rfl jP))) (λh=>t74 r1 el  h) ?_
 rintro _ ⟨r7,hc6,rfl⟩
 have hIn:=hc6
 cases r7
 refine aC ?_
 refine wz [(iX b),iv el] H [] ?_
 refine ah ?_
 refine bA ?_
 refine iz rfl (λ_=>nT (i:=0) (o:=6) (r:=vz) hS rfl rfl rfl rfl) ?_
 refine iz rfl (λ_=>oJ (i:=2) (l:=mA) (enc:=iP) hS rfl rfl rfl rfl rfl rfl rfl) ?_
 refine kL (λh8=>?_) (λh8=>?_)
 refine az ?_
 refine aE ?_
 refine bA ?_
 refine jq rfl (mP (i:=0) (o:=8) (r:=.bool true) hS rfl rfl rfl rfl rfl rfl rfl) ?_
 rintro _ H9 ⟨rfl,hS10⟩
 refine oN ?_
 refine a6 ?_
 have hS11:=Sep.pick hS10 [0,1,2,3] 4 dX dX
 exact ⟨.bool false,rfl,false,vz,mA,true,eT,Sep.iq hS11 _,rfl⟩
 refine aC ?_
 refine wz [(iX b),iv el] H [] ?_
 refine ae ?_
 refine bA ?_
 refine iz rfl (λ_=>nT (i:=0) (o:=6) (r:=vz) hS rfl rfl rfl rfl) ?_
 refine aj ?_
 refine jq rfl (jZ (i:=2) (l:=mA) (enc:=iP) [el] hS rfl rfl rfl rfl rfl rfl rfl rfl rfl (λ_=>rfl) (.inl rfl) dW (λ_=>rfl)) ?_
 rintro v12 H13 hS14
 refine iz rfl (λ_=>qw (i:=0) hS14 rfl rfl) ?_
 refine iz rfl (λ_=>pM (i:=0) hS14 rfl rfl rfl rfl rfl) ?_
 refine jq rfl (mP (i:=0) (o:=6) (r:=v12) hS14 rfl rfl rfl rfl (nG rfl rfl (Sep.cell (i:=2) hS14 rfl)) (iM (Sep.cell (i:=2) hS14 rfl) jP) rfl) ?_
 rintro _ H15 ⟨rfl,hS16⟩
 refine oN ?_
 refine a6 ?_
 have hS17:=Sep.pick hS16 [0,1,2,3] 4 dX dX
 exact ⟨.bool true,rfl,true,v12,(mA++[el]),bare,eT,Sep.iq hS17 _,rfl⟩
 refine bu ?_
 have hS18:=Sep.pick hS [0,1,2,3] 4 dX dX
 exact ⟨.bool true,rfl,true,vz,mA,bare,eT,Sep.iq hS18 _,rfl⟩
def acI (_a0:jo jy) (_a1:jy) (v:AV):Prop:=∃ r0:Int,(True)/\v=iv r0
def t316 (a0:jo jy) (a1:jy) :Ct 316 [jo.av jy.af a0,.agg (jy.af a1)] (acI a0 a1):=by
 refine ja IZ ?_
 refine bb ?_
 refine ah ?_
 have hL1:=a0.lk
 refine iz rfl (λ_=>pP (r:=a0) (enc:=jy.af) rfl rfl rfl rfl rfl rfl) ?_
 refine aL ?_
 have hNk2:=a0.lk
 refine iF a0.l.length (λk2 e h=>At [0,3,7,8] [jo.av jy.af a0,.la 3 0,ir a0.l.length,ir k2] aT.empty [(3,(jy.af a1))] e h) ?_ (k0:=0) dT atR
 rintro k2 e h hkk2 hA
 refine aO ?_
 refine iV (λh3=>?_) (λh3=>?_)
 refine b5 ?_
 refine bo ?_
 refine cY ?_
 have hx4:k2<a0.l.length:=by omega
 refine iN rfl rfl (λ_=>pV (n:=k2) (r:=a0) (enc:=jy.af) rfl rfl rfl rfl rfl hx4 rfl) ?_
 generalize hqx5:a0.l[k2]=x5
 refine rV ?_
 refine nS rfl rfl (λ_=>wj rfl rfl rfl (λ_ _=>rfl)) (λh6=>?_) (λh6=>?_)
 refine rN ?_
 refine qT ?_
 refine bv ?_
 exact xB ⟨((k2:Int)),zt⟩
 refine cO ?_
 refine qg ?_
 refine jc ?_
 refine ab ?_
 exact gm
 refine cG ?_
 exact xB ⟨(-1),zt⟩
def M0 (_a0:jo jy) (_a1:jy) (v:AV):Prop:=∃ r0:Bool,(True)/\v=.bool r0
def t243 (a0:jo jy) (a1:jy) :Ct 243 [jo.av jy.af a0,.agg (jy.af a1)] (M0 a0 a1):=by
 refine ja GV ?_
 refine bb ?_
 refine ae ?_
 refine oC (t316 a0 a1) ?_
 rintro _ ⟨r2,hc1,rfl⟩
 refine kL (λh3=>?_) (λh3=>?_)
 refine ai ?_
 exact gn
 refine ai ?_
 exact gl
def afO (_a0:iR) (_a1:Int) (_a2:Int) (_a3:Int) (v:AV):Prop:=∃ r0:Int,∃ r1:Bool,(True)/\v=.je [iv r0,.bool r1]
def t317 (a0:iR) (a1:Int) (a2:Int) (a3:Int) :Ct 317 [.ip (iR.af a0) 0 false,iv a1,iv a2,iv a3] (afO a0 a1 a2 a3):=by
 refine ja IN ?_
 refine bb ?_
 refine aW ?_
 refine oC (t329 a0 a1 a2) ?_
 rintro _ ⟨r2,hc1,rfl⟩
 have hL3:=r2.lk
 refine jb r2 ?_
 refine aL ?_
 have hNk4:=r2.lk
 refine iF r2.l.length (λk4 e h=>At [3,15,16,17] [iv a3,p5 r2,ir r2.l.length,ir k4] aT.empty [] e h) ?_ (k0:=0) dT atR
 rintro k4 e h hkk4 hA
 refine aO ?_
 refine iV (λh5=>?_) (λh5=>?_)
 refine b5 ?_
 have hx6:k4<r2.l.length:=by omega
 refine kH k4 r2 hx6 ?_
 generalize hqx7:r2.l[k4]=x7
 refine dh ?_
 refine iY (λh8=>?_) (λh8=>?_)
 refine bF ?_
 refine cw ?_
 refine ck ?_
 exact xG ⟨x7.out,true,zt⟩
 refine bk ?_
 refine iY (λh9=>?_) (λh9=>?_)
 refine cw ?_
 refine ck ?_
 exact xG ⟨x7.out,true,zt⟩
 refine cD ?_
 refine jc ?_
 refine ab ?_
 exact gm
 refine ao ?_
 refine bv ?_
 exact xG ⟨0,false,zt⟩
def adX (_a0:iR) (_a1:Int) (_a2:Int) (_a3:Int) (v:AV):Prop:=∃ r0:Int,∃ r1:Bool,(True)/\v=.je [iv r0,.bool r1]
def t244 (a0:iR) (a1:Int) (a2:Int) (a3:Int) :Ct 244 [.ip (iR.af a0) 0 false,iv a1,iv a2,iv a3] (adX a0 a1 a2 a3):=by
 refine ja I6 ?_
 refine bb ?_
 refine bp ?_
 refine oC (t317 a0 a1 a2 a3) ?_
 rintro _ ⟨r2,r3,hc1,rfl⟩
 cases r3
 refine ck ?_
 exact xG ⟨r2,false,zt⟩
 refine ck ?_
 exact xG ⟨r2,true,zt⟩
end Go.Sx
