/- Proves what some functions of the program answer, by walking through them. -/
import Derived.Test.YtmnmenklbegmeaaGreatHag
import Derived.Test.YtmnmenklbegmeaaGreatHak
import Derived.Test.YtmnmenklbegmeaaGreatHam
import Derived.Test.YtmnmenklbegmeaaGreatHan
set_option linter.all false
set_option maxRecDepth 100000
set_option maxHeartbeats 0
namespace Go.Sx
open Go Go.Proofs
def ahr (_a0:bY) (v:AV):Prop:=(∃ r0:iD,(o9 r0 _a0)/\v=.je [.ip (iD.af r0) 0 false,iv 0])\/(∃ r1:Int,(r1≠0)/\v=.je [.jV,iv r1])
def ae0 (a0:bY) (q1:lD a0):Ct 37 [.agg (bY.af a0)] (ahr a0):=by
 refine iY MA ?_
 have q2:=q1.iQ; have q3:=q1.signals; have q4:=q1.lines
 refine bz ?_
 refine ao ?_
 refine oC (t81 a0) ?_
 rintro _ ⟨r2,hc1,rfl⟩
 have hC89:=hc1
 refine ab ?_
 refine aj ?_
 refine lg (λh3=>?_) (λh3=>?_)
 refine au ?_
 refine a6 ?_
 refine xG (.inr (⟨r2,fo,rfl⟩))
 refine aB ?_
 refine wy [.la 1 0] [(1,(bY.af a0))] ?_
 refine aj ?_
 refine oC (t82 a0 dj) ?_
 rintro _ ⟨r5,hc4,rfl⟩
 have hC90:=hc4
 refine jt rfl (oi jW) ?_
 rintro _ H7 ⟨b6,rfl,hS8⟩
 refine jt rfl (oi hS8) ?_
 rintro _ H10 ⟨b9,rfl,hS11⟩
 refine jt rfl (oi hS11) ?_
 rintro _ H13 ⟨b12,rfl,hS14⟩
 refine jt rfl (oi hS14) ?_
 rintro _ H16 ⟨b15,rfl,hS17⟩
 refine oV ?_
 refine jt rfl (wb hS17 rfl rfl rfl rfl rfl) ?_
 rintro _ H19 ⟨b18,rfl,hS20⟩
 refine ab ?_
 refine aH ?_
 have hL21:=a0.iQ.lk
 refine jy a0.iQ ?_
 refine aG ?_
 have hNk22:=a0.iQ.lk
 refine iL a0.iQ.l.length (λkp e h=>∃ l23:List (iz×iz),∃ H24:aT,(∀ x:iz,look x l23=lj (a0.iQ.l.take kp) x)/\(l23.length<=2*kp)/\(∀ y∈(l23:List (iz×iz)),pC a0 y.2)/\Sep H24 (j8 b18 [jw r5.elems,jA r5.iQ,jB r5.signals,jr r5.lines,iv r5.top,iv r5.jT,iv r5.jS,iv r5.j4,.bool r5.j9,(.hm b6),(.hm b9),(.hm b12),(.hm b15)]::lO b15 iK iK []::lO b12 iK sr []::lO b9 pK iK []::lO b6 pK pK l23::[])/\At [1,5,31,32,33] [.la 1 0,(iV b18),jA a0.iQ,cb a0.iQ.l.length,cb kp] H24 [(1,(bY.af a0))] e h) ?_ (k0:=0) du ⟨([]),H19,(by (intro x; rfl)),eH,eH,hS20,atR⟩
 rintro kp e h hkk22 ⟨l23,H24,hD,hN,hNg,hS25,hA⟩
 refine aF ?_
 refine iX (λh26=>?_) (λh26=>?_)
 refine ak ?_
 refine wz [.la 1 0,(iV b18),jA a0.iQ,cb a0.iQ.l.length,cb kp] H24 [(1,(bY.af a0))] ?_
 refine bc ?_
 have hx27:kp<a0.iQ.l.length:=by omega
 refine kM kp a0.iQ hx27 ?_
 generalize hqx28:a0.iQ.l[kp]=x28
 have hinx28:x28∈a0.iQ.l:=by rw [<- hqx28]; exact List.getElem_mem _
 obtain ⟨hgax28,hgbx28⟩:=Zx (hC89 du).2.2.2.2.2.2.jv (hC89 du).2.2.2.1 x28 hinx28
 refine aS ?_
 refine qd ?_
 refine rV ?_
 refine di ?_
 refine bw ?_
 refine di ?_
 refine cZ ?_
 refine ra rfl rfl (qZ (H:=H24) (i:=4) (ek:=pK) (ev:=pK) (l:=l23) x28.a x28.b hS25 rfl rfl rfl rfl rfl rfl rfl rfl rfl lq) ?_
 rintro _ H29 ⟨w30,n31,H32,rfl,hop33,hS34⟩
 refine ⟨λcall=>(AH (mc rfl rfl rfl rfl rfl eG) (AH (mc rfl rfl rfl rfl rfl eG) (xe (mc rfl rfl rfl rfl rfl eG)))),?_⟩
 refine rV ?_
 refine Fy rfl rfl ⟨0,λ_ _=>hop33 _ _ _ _ _ _ _ _ rfl rfl rfl⟩ (λcall=>(AH (mc rfl rfl rfl rfl rfl eG) (xe (mc rfl rfl rfl rfl rfl eG)))) ?_
 refine ra rfl rfl (qZ (H:=H32) (i:=4) (ek:=pK) (ev:=pK) (l:=(put x28.a x28.b l23)) x28.b x28.a hS34 rfl rfl rfl rfl rfl rfl rfl rfl rfl lq) ?_
 rintro _ H35 ⟨w36,n37,H38,rfl,hop39,hS40⟩
 refine ⟨λcall=>(xe (mc rfl rfl rfl rfl rfl eG)),?_⟩
 refine rV ?_
 refine iU rfl rfl (λ_=>hop39 _ _ _ _ _ _ _ _ rfl rfl rfl) ?_
 refine rN ?_
 refine wz [.la 1 0,(iV b18),jA a0.iQ,cb a0.iQ.l.length,cb kp] H38 [(1,(bY.af a0))] ?_
 refine qg ?_
 refine jd ?_
 refine ab ?_
 exact ⟨by omega,((put x28.b x28.a (put x28.a x28.b l23))),H38,(by exact M8 dl dl (hC89 du).1 hD),(by exact NL hN),(by exact rk (P:=λy:iz=>pC a0 y) (rk (P:=λy:iz=>pC a0 y) hNg dl) dl),hS40,atR⟩
 refine ai ?_
 refine wz [.la 1 0,(iV b18)] H24 [(1,(bY.af a0))] ?_
 refine aH ?_
 have hL41:=a0.signals.lk
 refine cT ?_
 have hNk42:=a0.signals.lk
 refine iL a0.signals.l.length (λwE e h=>∃ l43:List (iz×Int),∃ H44:aT,(∀ x:iz,look x l43=nK (a0.signals.l.take wE) x)/\Sep H44 (j8 b18 [jw r5.elems,jA r5.iQ,jB r5.signals,jr r5.lines,iv r5.top,iv r5.jT,iv r5.jS,iv r5.j4,.bool r5.j9,(.hm b6),(.hm b9),(.hm b12),(.hm b15)]::lO b15 iK iK []::lO b12 iK sr []::lO b9 pK iK l43::lO b6 pK pK l23::[])/\At [1,5,59,60,61] [.la 1 0,(iV b18),jB a0.signals,cb a0.signals.l.length,cb wE] H44 [(1,(bY.af a0))] e h) ?_ (k0:=0) du ⟨([]),H24,(by (intro x; rfl)),hS25,atR⟩
 rintro wE e h hkk42 ⟨l43,H44,hR,hS45,hA⟩
 refine aF ?_
 refine iX (λh46=>?_) (λh46=>?_)
 refine ak ?_
 refine wz [.la 1 0,(iV b18),jB a0.signals,cb a0.signals.l.length,cb wE] H44 [(1,(bY.af a0))] ?_
 refine bQ ?_
 have hx47:wE<a0.signals.l.length:=by omega
 refine kM wE a0.signals hx47 ?_
 generalize hqx48:a0.signals.l[wE]=x48
 refine bW ?_
 refine qd ?_
 refine rV ?_
 refine tv 0 hS45 ?_
 refine qS 0 hS45 ?_
 refine rE 0 hS45 ((.hm b9)) ?_
 refine bw ?_
 refine lR rfl rfl (nV (H:=H44) (i:=3) (ek:=pK) (ev:=iK) (l:=l43) x48.at_ ((wE:Int)) hS45 rfl rfl rfl rfl rfl rfl lq) ?_
 rintro _ H49 ⟨rfl,hS50⟩
 refine rN ?_
 refine wz [.la 1 0,(iV b18),jB a0.signals,cb a0.signals.l.length,cb wE] H49 [(1,(bY.af a0))] ?_
 refine qg ?_
 refine jd ?_
 refine ab ?_
 exact ⟨by omega,((put x48.at_ ((wE:Int)) l43)),H49,(by exact Ji dl dl (hC89 du).2.1 hR),hS50,atR⟩
 refine ai ?_
 refine wz [.la 1 0,(iV b18)] H44 [(1,(bY.af a0))] ?_
 refine aH ?_
 have hL51:=a0.lines.lk
 refine jy a0.lines ?_
 refine aG ?_
 have hNk52:=a0.lines.lk
 refine iL a0.lines.l.length (λmF e h=>∃ l53:List (Int×Int),∃ l54:List (Int×(Int×Int)),∃ H55:aT,(qM a0 mF 0 l54)/\(xE l54 l53)/\Sep H55 (j8 b18 [jw r5.elems,jA r5.iQ,jB r5.signals,jr r5.lines,iv r5.top,iv r5.jT,iv r5.jS,iv r5.j4,.bool r5.j9,(.hm b6),(.hm b9),(.hm b12),(.hm b15)]::lO b15 iK iK l53::lO b12 iK sr l54::lO b9 pK iK l43::lO b6 pK pK l23::[])/\At [5,75,76,77] [(iV b18),jr a0.lines,cb a0.lines.l.length,cb mF] H55 [] e h) ?_ (k0:=0) du ⟨([]),([]),H44,(by exact qM.zero),(by (intro e y h; simp [look] at h)),hS45,atR⟩
 rintro mF e h hkk52 ⟨l53,l54,H55,hLi,hLe,hS56,hA⟩
 refine aF ?_
 refine iX (λh57=>?_) (λh57=>?_)
 refine ak ?_
 refine wz [(iV b18),jr a0.lines,cb a0.lines.l.length,cb mF] H55 [] ?_
 refine bQ ?_
 have hx58:mF<a0.lines.l.length:=by omega
 refine kM mF a0.lines hx58 ?_
 generalize hqx59:a0.lines.l[mF]=x59
 have hinx59:x59∈a0.lines.l:=by rw [<- hqx59]; exact List.getElem_mem _
 have hsx59:=q1.line x59 hinx59
 refine bW ?_
 refine ah ?_
 refine Av (λE Z=>(E=[(5,(iV b18)),(10,cb mF),(11,.la 11 0),(12,iv 1),(75,jr a0.lines),(76,cb a0.lines.l.length),(77,cb mF)]/\Z = { H55 with iq:=[(11,(ju.af x59))] })\/(E=[(5,(iV b18)),(10,cb mF),(11,.la 11 0),(12,iv 0),(75,jr a0.lines),(76,cb a0.lines.l.length),(77,cb mF)]/\Z = { H55 with iq:=[(11,(ju.af x59))] })) ?_ ?_
 rintro _ _ (⟨rfl,rfl⟩ | ⟨rfl,rfl⟩)
 refine ae ?_
 have hL60:=x59.elems.lk
 refine jy x59.elems ?_
 refine aG ?_
 have hNk61:=x59.elems.lk
 refine iL x59.elems.l.length (λrD e h=>∃ l62:List (Int×Int),∃ l63:List (Int×(Int×Int)),∃ n64:Int,∃ H65:aT,(qM a0 mF rD l63)/\(xE l63 l62)/\Sep H65 (j8 b18 [jw r5.elems,jA r5.iQ,jB r5.signals,jr r5.lines,iv r5.top,iv r5.jT,iv r5.jS,iv r5.j4,.bool r5.j9,(.hm b6),(.hm b9),(.hm b12),(.hm b15)]::lO b15 iK iK l62::lO b12 iK sr l63::lO b9 pK iK l43::lO b6 pK pK l23::[])/\At [5,10,12,75,76,77,110,111,112] [(iV b18),cb mF,iv n64,jr a0.lines,cb a0.lines.l.length,cb mF,j3 x59.elems,cb x59.elems.l.length,cb rD] H65 [] e h) ?_ (k0:=0) du ⟨l53,l54,1,H55,(by exact hLi),(by exact hLe),hS56,atR⟩
 rintro rD e h hkk61 ⟨l62,l63,n64,H65,hLi2,hLe2,hS66,hA⟩
 refine aF ?_
 refine iX (λh67=>?_) (λh67=>?_)
 refine ak ?_
 refine wz [(iV b18),cb mF,iv n64,jr a0.lines,cb a0.lines.l.length,cb mF,j3 x59.elems,cb x59.elems.l.length,cb rD] H65 [] ?_
 refine bQ ?_
 have hx68:rD<x59.elems.l.length:=by omega
 refine kM rD x59.elems hx68 ?_
 generalize hqx69:x59.elems.l[rD]=x69
 refine aS ?_
 refine cM ?_
 refine tv 0 hS66 ?_
 refine qS 0 hS66 ?_
 refine rE 0 hS66 ((.hm b12)) ?_
 refine aJ ?_
 refine tv 0 hS66 ?_
 refine qS 0 hS66 ?_
 refine rE 0 hS66 ((.hm b15)) ?_
 refine br ?_
 refine lR rfl rfl (qZ (H:=H65) (i:=2) (ek:=iK) (ev:=sr) (l:=l63) x69 (((mF:Int),(rD:Int))) hS66 rfl rfl rfl rfl rfl rfl rfl rfl rfl qW) ?_
 rintro _ H70 ⟨w71,n72,H73,rfl,hop74,hS75⟩
 refine rV ?_
 refine iU rfl rfl (λ_=>hop74 _ _ _ _ _ _ _ _ rfl rfl rfl) ?_
 refine lR rfl rfl (qZ (H:=H73) (i:=1) (ek:=iK) (ev:=iK) (l:=l62) x69 n64 hS75 rfl rfl rfl rfl rfl rfl rfl rfl rfl qW) ?_
 rintro _ H76 ⟨w77,n78,H79,rfl,hop80,hS81⟩
 refine rV ?_
 refine iU rfl rfl (λ_=>hop80 _ _ _ _ _ _ _ _ rfl rfl rfl) ?_
 refine rN ?_
 refine aI ?_
 refine Hl 0 hS81 ?_
 refine pz 0 hS81 ?_
 refine mH 0 hS81 ((.hm b6)) ?_
 refine am ?_
 refine iI rfl (λ_=>kj rfl rfl rfl (pb .i64 1 n64)) ?_
 refine oV ?_
 refine mB (H:=H79) (i:=4) (ek:=pK) (ev:=pK) (l:=l23) ((⟨x69,(IntKind.i64.wrap (1 - n64))⟩:iz)) rfl rfl hS81 rfl rfl rfl rfl rfl rfl rfl rfl lq (λy82 h83=>?_) (λh84=>?_)
 refine bb ?_
 refine wz [(iV b18),cb mF,iv y82.en,jr a0.lines,cb a0.lines.l.length,cb mF,j3 x59.elems,cb x59.elems.l.length,cb rD] H79 [] ?_
 refine qg ?_
 refine jd ?_
 refine ab ?_
 exact ⟨by omega,((put x69 n64 l62)),((put x69 (((mF:Int),(rD:Int))) l63)),y82.en,H79,eZ,fP,hS81,atR⟩
 refine bb ?_
 refine wz [(iV b18),cb mF,iv 0,jr a0.lines,cb a0.lines.l.length,cb mF,j3 x59.elems,cb x59.elems.l.length,cb rD] H79 [] ?_
 refine qg ?_
 refine jd ?_
 refine ab ?_
 exact ⟨by omega,((put x69 n64 l62)),((put x69 (((mF:Int),(rD:Int))) l63)),0,H79,eZ,fP,hS81,atR⟩
 refine ai ?_
 refine wz [(iV b18),jr a0.lines,cb a0.lines.l.length,cb mF] H65 [] ?_
 refine qg ?_
 refine jd ?_
 refine ab ?_
 exact ⟨by omega,l62,l63,H65,(by exact hLi2.next dl du),(by exact hLe2),hS66,atR⟩
 refine ae ?_
 have hL85:=x59.elems.lk
 refine jy x59.elems ?_
 refine aG ?_
 have hNk86:=x59.elems.lk
 refine iL x59.elems.l.length (λuz e h=>∃ l87:List (Int×Int),∃ l88:List (Int×(Int×Int)),∃ n89:Int,∃ H90:aT,(qM a0 mF uz l88)/\(xE l88 l87)/\Sep H90 (j8 b18 [jw r5.elems,jA r5.iQ,jB r5.signals,jr r5.lines,iv r5.top,iv r5.jT,iv r5.jS,iv r5.j4,.bool r5.j9,(.hm b6),(.hm b9),(.hm b12),(.hm b15)]::lO b15 iK iK l87::lO b12 iK sr l88::lO b9 pK iK l43::lO b6 pK pK l23::[])/\At [5,10,12,75,76,77,110,111,112] [(iV b18),cb mF,iv n89,jr a0.lines,cb a0.lines.l.length,cb mF,j3 x59.elems,cb x59.elems.l.length,cb uz] H90 [] e h) ?_ (k0:=0) du ⟨l53,l54,0,H55,(by exact hLi),(by exact hLe),hS56,atR⟩
 rintro uz e h hkk86 ⟨l87,l88,n89,H90,hLi2,hLe2,hS91,hA⟩
 refine aF ?_
 refine iX (λh92=>?_) (λh92=>?_)
 refine ak ?_
 refine wz [(iV b18),cb mF,iv n89,jr a0.lines,cb a0.lines.l.length,cb mF,j3 x59.elems,cb x59.elems.l.length,cb uz] H90 [] ?_
 refine bQ ?_
 have hx93:uz<x59.elems.l.length:=by omega
 refine kM uz x59.elems hx93 ?_
 generalize hqx94:x59.elems.l[uz]=x94
 refine aS ?_
 refine cM ?_
 refine tv 0 hS91 ?_
 refine qS 0 hS91 ?_
 refine rE 0 hS91 ((.hm b12)) ?_
 refine aJ ?_
 refine tv 0 hS91 ?_
 refine qS 0 hS91 ?_
 refine rE 0 hS91 ((.hm b15)) ?_
 refine br ?_
 refine lR rfl rfl (qZ (H:=H90) (i:=2) (ek:=iK) (ev:=sr) (l:=l88) x94 (((mF:Int),(uz:Int))) hS91 rfl rfl rfl rfl rfl rfl rfl rfl rfl qW) ?_
 rintro _ H95 ⟨w96,n97,H98,rfl,hop99,hS100⟩
 refine rV ?_
 refine iU rfl rfl (λ_=>hop99 _ _ _ _ _ _ _ _ rfl rfl rfl) ?_
 refine lR rfl rfl (qZ (H:=H98) (i:=1) (ek:=iK) (ev:=iK) (l:=l87) x94 n89 hS100 rfl rfl rfl rfl rfl rfl rfl rfl rfl qW) ?_
 rintro _ H101 ⟨w102,n103,H104,rfl,hop105,hS106⟩
 refine rV ?_
 refine iU rfl rfl (λ_=>hop105 _ _ _ _ _ _ _ _ rfl rfl rfl) ?_
 refine rN ?_
 refine aI ?_
 refine Hl 0 hS106 ?_
 refine pz 0 hS106 ?_
 refine mH 0 hS106 ((.hm b6)) ?_
 refine am ?_
 refine iI rfl (λ_=>kj rfl rfl rfl (pb .i64 1 n89)) ?_
 refine oV ?_
 refine mB (H:=H104) (i:=4) (ek:=pK) (ev:=pK) (l:=l23) ((⟨x94,(IntKind.i64.wrap (1 - n89))⟩:iz)) rfl rfl hS106 rfl rfl rfl rfl rfl rfl rfl rfl lq (λy107 h108=>?_) (λh109=>?_)
 refine bb ?_
 refine wz [(iV b18),cb mF,iv y107.en,jr a0.lines,cb a0.lines.l.length,cb mF,j3 x59.elems,cb x59.elems.l.length,cb uz] H104 [] ?_
 refine qg ?_
 refine jd ?_
 refine ab ?_
 exact ⟨by omega,((put x94 n89 l87)),((put x94 (((mF:Int),(uz:Int))) l88)),y107.en,H104,eZ,fP,hS106,atR⟩
 refine bb ?_
 refine wz [(iV b18),cb mF,iv 0,jr a0.lines,cb a0.lines.l.length,cb mF,j3 x59.elems,cb x59.elems.l.length,cb uz] H104 [] ?_
 refine qg ?_
 refine jd ?_
 refine ab ?_
 exact ⟨by omega,((put x94 n89 l87)),((put x94 (((mF:Int),(uz:Int))) l88)),0,H104,eZ,fP,hS106,atR⟩
 refine ai ?_
 refine wz [(iV b18),jr a0.lines,cb a0.lines.l.length,cb mF] H90 [] ?_
 refine qg ?_
 refine jd ?_
 refine ab ?_
 exact ⟨by omega,l87,l88,H90,(by exact hLi2.next dl du),(by exact hLe2),hS91,atR⟩
 refine ae ?_
 have hL110:=x59.elems.lk
 refine jy x59.elems ?_
 refine ki (λh111=>?_) (λh111=>?_)
 refine au ?_
 refine cM ?_
 refine tv 0 hS56 ?_
 refine qS 0 hS56 ?_
 refine rE 0 hS56 ((.hm b6)) ?_
 refine aJ ?_
 have hx112:0<x59.elems.l.length:=by omega
 refine pM 0 x59.elems hx112 ?_
 generalize hqx113:x59.elems.l[0]=x113
 refine aJ ?_
 refine LR (H:=H55) (i:=4) (ek:=pK) (ev:=pK) (l:=l23) ((⟨x113,0⟩:iz)) rfl rfl rfl hS56 rfl rfl rfl rfl rfl rfl rfl rfl lq (λy114 h115=>?_) (λh116=>?_)
 refine bX ?_
 refine aL ?_
 refine cZ ?_
 have hx117:1<x59.elems.l.length:=by omega
 refine pM 1 x59.elems hx117 ?_
 generalize hqx118:x59.elems.l[1]=x118
 refine rV ?_
 refine CU (λh119=>?_) (λh119=>?_)
 refine bm ?_
 refine qg ?_
 refine ab ?_
 exact .inl ⟨rfl,rfl⟩
 refine bh ?_
 exact .inr (⟨rfl,rfl⟩)
 refine bX ?_
 refine bG ?_
 refine cR ?_
 refine bh ?_
 exact .inr (⟨rfl,rfl⟩)
 refine aB ?_
 exact .inr (⟨rfl,rfl⟩)
 refine ai ?_
 refine wz [(iV b18)] H55 [] ?_
 refine a6 ?_
 have hz120:∀ m,freeze false { H55 with iq:=[] } (m+3) (.hm b6)=some (.fm (jO pK pK l23) false):=λm=>uE (i:=4) hS56 rfl _ _ (wu λ_=>rfl)
 have hz121:∀ m,freeze false { H55 with iq:=[] } (m+3) (.hm b9)=some (.fm (jO pK iK l43) false):=λm=>uE (i:=3) hS56 rfl _ _ (wu λ_=>rfl)
 have hz122:∀ m,freeze false { H55 with iq:=[] } (m+3) (.hm b12)=some (.fm (jO iK sr l54) false):=λm=>uE (i:=2) hS56 rfl _ _ (wu λ_=>rfl)
 have hz123:∀ m,freeze false { H55 with iq:=[] } (m+3) (.hm b15)=some (.fm (jO iK iK l53) false):=λm=>uE (i:=1) hS56 rfl _ _ (wu λ_=>rfl)
 have hz124:∀ m,freeze false { H55 with iq:=[] } (m+4) (iV b18)=some (.ip [jw r5.elems,jA r5.iQ,jB r5.signals,jr r5.lines,iv r5.top,iv r5.jT,iv r5.jS,iv r5.j4,.bool r5.j9,.fm (jO pK pK l23) false,.fm (jO pK iK l43) false,.fm (jO iK sr l54) false,.fm (jO iK iK l53) false] 0 false):=λm=>uO (i:=0) hS56 rfl _ _ (by simp only [FZ,hz120,hz121,hz122,hz123])
 refine ⟨.je [(iV b18),iv 0],rfl,.je [.ip [jw r5.elems,jA r5.iQ,jB r5.signals,jr r5.lines,iv r5.top,iv r5.jT,iv r5.jS,iv r5.j4,.bool r5.j9,.fm (jO pK pK l23) false,.fm (jO pK iK l43) false,.fm (jO iK sr l54) false,.fm (jO iK iK l53) false] 0 false,iv 0],(show freeze false { H55 with iq:=[] } 8 (.je [(iV b18),iv 0])=some (.je [.ip [jw r5.elems,jA r5.iQ,jB r5.signals,jr r5.lines,iv r5.top,iv r5.jT,iv r5.jS,iv r5.j4,.bool r5.j9,.fm (jO pK pK l23) false,.fm (jO pK iK l43) false,.fm (jO iK sr l54) false,.fm (jO iK iK l53) false] 0 false,iv 0]) by simp only [FZ,hz120,hz121,hz122,hz123,hz124]),.inl ⟨(⟨r5,l23,l43,l54,l53⟩:iD),fo,rfl⟩⟩
def P37 (_a0:bY) (v:AV):Prop:=(∃ r0:iD,((o9 r0 _a0)/\rs 37 [.agg (bY.af _a0)]=.je [.ip (iD.af r0) 0 false,iv 0])/\v=.je [.ip (iD.af r0) 0 false,iv 0])\/(∃ r1:Int,((r1≠0)/\rs 37 [.agg (bY.af _a0)]=.je [.jV,iv r1])/\v=.je [.jV,iv r1])
def t37 (a0:bY) (q1:lD a0) (h:aT):∃ v,iZ cfg FT jx false 37 [.agg (bY.af a0)] h v h/\P37 a0 v:=by
 obtain ⟨v,hc,hP,hr⟩:=qG w9 (ae0 a0 q1) h
 rcases hP with ⟨r0,hp,rfl⟩ | ⟨r1,hp,rfl⟩
 ·exact ⟨_,hc,.inl ⟨r0,⟨hp,hr⟩,rfl⟩⟩
 ·exact ⟨_,hc,.inr (⟨r1,⟨hp,hr⟩,rfl⟩)⟩
def afm (_a0:iD) (v:AV):Prop:=∃ r0:Int,(r0=(_a0.p.signals.l.length:Int))/\v=iv r0
def t192 (a0:iD) :Ct 192 [.ip (iD.af a0) 0 false] (afm a0):=by
 refine iY JJ ?_
 refine cP ?_
 refine aC ?_
 have hL1:=a0.p.signals.lk
 refine jy a0.p.signals ?_
 refine ag ?_
 exact xB ⟨((a0.p.signals.l.length:Int)),fW,rfl⟩
def aen (_a0:iD) (_a1:Int) (v:AV):Prop:=∃ r0:jZ,((r0.kind=kn _a0.p _a1/\r0.len=rU _a0.p _a1))/\v=.agg (jZ.af r0)
def t237 (a0:iD) (a1:Int) :Ct 237 [.ip (iD.af a0) 0 false,iv a1] (aen a0 a1):=by
 refine iY HS ?_
 refine bo ?_
 refine iX (λh1=>?_) (λh1=>?_)
 refine oV ?_
 refine cr ?_
 refine bS ?_
 exact gu
 iterate 7 refine oV ?_
 have hL2:=a0.p.elems.lk
 refine jy a0.p.elems ?_
 refine lI (λh3=>?_) (λh3=>?_)
 refine bS ?_
 exact gu
 refine aq ?_
 refine cm ?_
 have hx4:(a1).toNat<a0.p.elems.l.length:=by omega
 refine iI rfl (λ_=>jo (n:=a1) (r:=a0.p.elems) (enc:=jZ.af) rfl rfl rfl rfl rfl du hx4 rfl) ?_
 generalize hqx5:a0.p.elems.l[(a1).toNat]=x5
 refine bk ?_
 exact xG ⟨x5,eD,rfl⟩
def aeh (_a0:iD) (_a1:Int) (v:AV):Prop:=∃ r0:Int,(r0=kn _a0.p _a1)/\v=iv r0
def t131 (a0:iD) (a1:Int) :Ct 131 [.ip (iD.af a0) 0 false,iv a1] (aeh a0 a1):=by
 refine iY Ii ?_
 refine cP ?_
 refine oC (t237 a0 a1) ?_
 rintro _ ⟨r2,hc1,rfl⟩
 obtain ⟨hEk,hEl⟩:=hc1
 refine bk ?_
 exact xB ⟨r2.kind,dl,rfl⟩
def agZ (_a0:iD) (_a1:iz) (v:AV):Prop:=∃ r0:Int,(r0=(look _a1 _a0.reads).getD (-1))/\v=iv r0
def t132 (a0:iD) (a1:iz) :Ct 132 [.ip (iD.af a0) 0 false,.agg (iz.af a1)] (agZ a0 a1):=by
 refine iY I9 ?_
 refine aN ?_
 refine qs ?_
 refine cU ?_
 refine EM (key:=a1) (l:=a0.reads) (ek:=pK) (ev:=iK) rfl rfl rfl rfl rfl rfl rfl rfl rfl rfl lq (λy1 h2=>?_) (λh3=>?_)
 refine cu ?_
 refine aM ?_
 refine aa ?_
 refine bS ?_
 exact xB ⟨y1,fk,rfl⟩
 refine cu ?_
 refine aM ?_
 refine aa ?_
 refine aq ?_
 refine aA ?_
 exact xB ⟨(-1),fk,rfl⟩
def agr (_a0:iD) (_a1:iz) (v:AV):Prop:=∃ r0:iz,∃ r1:Bool,(((r1=true->look _a1 _a0.next=some r0)/\(r1=false->look _a1 _a0.next=none)/\(r1=false->r0=⟨0,0⟩)))/\v=.je [.agg (iz.af r0),.bool r1]
def t197 (a0:iD) (a1:iz) :Ct 197 [.ip (iD.af a0) 0 false,.agg (iz.af a1)] (agr a0 a1):=by
 refine iY Kg ?_
 refine bz ?_
 refine cU ?_
 refine EM (key:=a1) (l:=a0.next) (ek:=pK) (ev:=pK) rfl rfl rfl rfl rfl rfl rfl rfl rfl rfl lq (λy1 h2=>?_) (λh3=>?_)
 refine bX ?_
 refine cw ?_
 exact xG ⟨y1,true,fz,rfl⟩
 refine bX ?_
 refine cw ?_
 exact xG ⟨(⟨0,0⟩:iz),false,fz,rfl⟩
def agy (_a0:iD) (_a1:Int) (v:AV):Prop:=∃ r0:iz,∃ r1:Bool,((((r1=true->nr _a0.p.signals.l _a1=some r0)/\(r1=false->nr _a0.p.signals.l _a1=none))/\(r1=false->r0=⟨0,0⟩)))/\v=.je [.agg (iz.af r0),.bool r1]
def t203 (a0:iD) (a1:Int) :Ct 203 [.ip (iD.af a0) 0 false,iv a1] (agy a0 a1):=by
 refine iY HY ?_
 refine aN ?_
 refine ao ?_
 refine iX (λh1=>?_) (λh1=>?_)
 refine oV ?_
 refine cr ?_
 refine cg ?_
 exact gt
 iterate 7 refine oV ?_
 have hL2:=a0.p.signals.lk
 refine jy a0.p.signals ?_
 refine lI (λh3=>?_) (λh3=>?_)
 refine cg ?_
 exact gt
 refine aq ?_
 refine cm ?_
 have hx4:(a1).toNat<a0.p.signals.l.length:=by omega
 refine iI rfl (λ_=>jo (n:=a1) (r:=a0.p.signals) (enc:=jY.af) rfl rfl rfl rfl rfl du hx4 rfl) ?_
 generalize hqx5:a0.p.signals.l[(a1).toNat]=x5
 refine bB ?_
 exact xG ⟨x5.at_,true,dU,rfl⟩
def adH {H:aT} (b:Nat) (x:iR) (en:Int) (F:List jH) (hS:Sep H (j8 b [iv en]::F)) :∃ v H',iZ cfg FT jx true 275 [.agg (iR.af x),(iV b)] { H with iq:=[] } v H'/\(∃ r0:Bool,(True)/\Sep H' (j8 b [iv en]::F)/\v=.bool r0):=by
 refine kP JR ?_
 refine aN ?_
 refine ae ?_
 refine mH 0 hS (iv en) ?_
 refine jG (λh1=>?_) (λh1=>?_)
 refine ag ?_
 have hS2:=Sep.pick hS [0] 1 dt dt
 exact gK
 refine ag ?_
 have hS3:=Sep.pick hS [0] 1 dt dt
 exact gL
def adJ {H:aT} (b:Nat) (x:iR) (en:Int) (F:List jH) (hS:Sep H (j8 b [iv en]::F)) :∃ v H',iZ cfg FT jx true 311 [.agg (iR.af x),(iV b)] { H with iq:=[] } v H'/\(∃ r0:Bool,(True)/\Sep H' (j8 b [iv en]::F)/\v=.bool r0):=by
 refine kP JO ?_
 refine aN ?_
 refine ae ?_
 refine mH 0 hS (iv en) ?_
 refine jG (λh1=>?_) (λh1=>?_)
 refine ag ?_
 have hS2:=Sep.pick hS [0] 1 dt dt
 exact gK
 refine ag ?_
 have hS3:=Sep.pick hS [0] 1 dt dt
 exact gL
def MX {H:aT} (l:jn iR) (b:Nat) (en:Int) (F:List jH) (hS:Sep H (j8 b [iv en]::F)) :∃ v H',iZ cfg FT jx true 312 [jn.av iR.af l,.jz 311 [] [(iV b)]] { H with iq:=[] } v H'/\(∃ r0:Int,(True)/\Sep H' (j8 b [iv en]::F)/\v=iv r0):=by
 refine kP DM ?_
 refine bo ?_
 have hL1:=l.lk
 refine iI rfl (λ_=>qE (r:=l) (enc:=iR.af) rfl rfl rfl rfl rfl rfl) ?_
 refine aG ?_
 have hNk2:=l.lk
 refine iL l.l.length (λk2 e h=>∃ H3:aT,Sep H3 (j8 b [iv en]::F)/\At [0,1,7,8] [jn.av iR.af l,.jz 311 [] [(iV b)],cb l.l.length,cb k2] H3 [] e h) ?_ (k0:=0) du ⟨H,hS,atR⟩
 rintro k2 e h hkk2 ⟨H3,hS4,hA⟩
 refine aF ?_
 refine iX (λh5=>?_) (λh5=>?_)
 refine ak ?_
 refine bH ?_
 refine ap ?_
 have hx6:k2<l.l.length:=by omega
 refine iI rfl (λ_=>qV (n:=k2) (r:=l) (enc:=iR.af) rfl rfl rfl rfl rfl hx6 rfl) ?_
 generalize hqx7:l.l[k2]=x7
 refine oV ?_
 have hS8:=Sep.pick hS4 [0] 1 dt dt
 refine jQ (H:=H3) (args:=[.agg (iR.af x7)]) (p:=[]) (r:=[(iV b)]) rfl rfl rfl rfl rfl rfl rfl (adJ b x7 en F hS8) ?_
 rintro _ H9 ⟨r12,hc11,hS10,rfl⟩
 cases r12
 refine cq ?_
 refine jd ?_
 refine ab ?_
 exact ⟨by omega,H9,hS10,atR⟩
 refine ci ?_
 have hS13:=Sep.pick hS10 [0] 1 dt dt
 exact gQ
 refine cQ ?_
 have hS14:=Sep.pick hS4 [0] 1 dt dt
 exact ⟨iv (-1),rfl,(-1),zT,Sep.iq hS14 _,rfl⟩
def Ob {H:aT} (l:jn iR) (b:Nat) (en:Int) (F:List jH) (hS:Sep H (j8 b [iv en]::F)) :∃ v H',iZ cfg FT jx true 312 [jn.av iR.af l,.jz 275 [] [(iV b)]] { H with iq:=[] } v H'/\(∃ r0:Int,(True)/\Sep H' (j8 b [iv en]::F)/\v=iv r0):=by
 refine kP DM ?_
 refine bo ?_
 have hL1:=l.lk
 refine iI rfl (λ_=>qE (r:=l) (enc:=iR.af) rfl rfl rfl rfl rfl rfl) ?_
 refine aG ?_
 have hNk2:=l.lk
 refine iL l.l.length (λk2 e h=>∃ H3:aT,Sep H3 (j8 b [iv en]::F)/\At [0,1,7,8] [jn.av iR.af l,.jz 275 [] [(iV b)],cb l.l.length,cb k2] H3 [] e h) ?_ (k0:=0) du ⟨H,hS,atR⟩
 rintro k2 e h hkk2 ⟨H3,hS4,hA⟩
 refine aF ?_
 refine iX (λh5=>?_) (λh5=>?_)
 refine ak ?_
 refine bH ?_
 refine ap ?_
 have hx6:k2<l.l.length:=by omega
 refine iI rfl (λ_=>qV (n:=k2) (r:=l) (enc:=iR.af) rfl rfl rfl rfl rfl hx6 rfl) ?_
 generalize hqx7:l.l[k2]=x7
 refine oV ?_
 have hS8:=Sep.pick hS4 [0] 1 dt dt
 refine jQ (H:=H3) (args:=[.agg (iR.af x7)]) (p:=[]) (r:=[(iV b)]) rfl rfl rfl rfl rfl rfl rfl (adH b x7 en F hS8) ?_
 rintro _ H9 ⟨r12,hc11,hS10,rfl⟩
 cases r12
 refine cq ?_
 refine jd ?_
 refine ab ?_
 exact ⟨by omega,H9,hS10,atR⟩
 refine ci ?_
 have hS13:=Sep.pick hS10 [0] 1 dt dt
 exact gQ
 refine cQ ?_
 have hS14:=Sep.pick hS4 [0] 1 dt dt
 exact ⟨iv (-1),rfl,(-1),zT,Sep.iq hS14 _,rfl⟩
def MS {H:aT} (l:jn iR) (b:Nat) (en:Int) (F:List jH) (hS:Sep H (j8 b [iv en]::F)) :∃ v H',iZ cfg FT jx true 274 [jn.av iR.af l,.jz 311 [] [(iV b)]] { H with iq:=[] } v H'/\(∃ r0:Bool,(True)/\Sep H' (j8 b [iv en]::F)/\v=.bool r0):=by
 refine kP D7 ?_
 refine cP ?_
 have hS1:=Sep.pick hS [0] 1 dt dt
 refine jQ (H:=H) (args:=[jn.av iR.af l,.jz 311 [] [(iV b)]]) (p:=[]) (r:=[]) rfl rfl rfl rfl rfl rfl rfl (MX l b en F hS1) ?_
 rintro _ H2 ⟨r5,hc4,hS3,rfl⟩
 refine lI (λh6=>?_) (λh6=>?_)
 refine ag ?_
 have hS7:=Sep.pick hS3 [0] 1 dt dt
 exact gI
 refine ag ?_
 have hS8:=Sep.pick hS3 [0] 1 dt dt
 exact gJ
def MV {H:aT} (l:jn iR) (b:Nat) (en:Int) (F:List jH) (hS:Sep H (j8 b [iv en]::F)) :∃ v H',iZ cfg FT jx true 274 [jn.av iR.af l,.jz 275 [] [(iV b)]] { H with iq:=[] } v H'/\(∃ r0:Bool,(True)/\Sep H' (j8 b [iv en]::F)/\v=.bool r0):=by
 refine kP D7 ?_
 refine cP ?_
 have hS1:=Sep.pick hS [0] 1 dt dt
 refine jQ (H:=H) (args:=[jn.av iR.af l,.jz 275 [] [(iV b)]]) (p:=[]) (r:=[]) rfl rfl rfl rfl rfl rfl rfl (Ob l b en F hS1) ?_
 rintro _ H2 ⟨r5,hc4,hS3,rfl⟩
 refine lI (λh6=>?_) (λh6=>?_)
 refine ag ?_
 have hS7:=Sep.pick hS3 [0] 1 dt dt
 exact gI
 refine ag ?_
 have hS8:=Sep.pick hS3 [0] 1 dt dt
 exact gJ
def Uk (_a0:nw) (_a1:Int) (v:AV):Prop:=∃ r0:Bool,((r0=true->_a0.steps.l.length<12))/\v=.bool r0
def t270 (a0:nw) (a1:Int) :Ct 270 [.ip (nw.af a0) 0 true,iv a1] (Uk a0 a1):=by
 refine iY IZ ?_
 refine b8 ?_
 rintro _ H2 ⟨b1,rfl,hS3⟩
 refine ab ?_
 refine aL ?_
 refine cu ?_
 have hL4:=a0.steps.lk
 refine iU rfl rfl (λ_=>qE (r:=a0.steps) (enc:=iR.af) rfl rfl rfl rfl rfl rfl) ?_
 refine rr (λh5=>?_) (λh5=>?_)
 refine rV ?_
 refine rE 0 hS3 (iv a1) ?_
 refine cu ?_
 refine Aw (λh6=>?_) (λh6=>?_)
 refine cZ ?_
 refine iU rfl rfl (λ_=>w4 rfl rfl (xI rfl rfl)) ?_
 have hS7:=Sep.pick hS3 [0] 1 dt dt
 refine TQ (H:=H2) (args:=[jn.av iR.af a0.steps,.jz 311 [] [(iV b1)]]) (p:=[]) (r:=[]) rfl rfl rfl rfl rfl rfl rfl rfl (MS a0.steps b1 a1 ([]) hS7) ?_
 rintro _ H8 ⟨r11,hc10,hS9,rfl⟩
 cases r11
 refine aJ ?_
 refine bP ?_
 exact gv
 refine aJ ?_
 refine bP ?_
 exact gw
 refine aJ ?_
 refine cR ?_
 refine rV ?_
 refine bP ?_
 exact gw
 refine c8 ?_
 refine aJ ?_
 refine cR ?_
 refine rV ?_
 refine bP ?_
 exact gw
def afq (_a0:iD) (_a1:Int) (_a2:Int) (v:AV):Prop:=∃ r0:Row jC,(r0.l.length<=2/\∀ y∈r0.l,nQ y.pos)/\v=uh r0
def t307 (a0:iD) (a1:Int) (a2:Int) :Ct 307 [.ip (iD.af a0) 0 false,iv a1,iv a2] (afq a0 a1 a2):=by
 refine iY J2 ?_
 refine bo ?_
 refine iX (λh1=>?_) (λh1=>?_)
 refine a8 ?_
 refine oS ?_
 refine ac ?_
 exact gO
 refine aQ ?_
 refine oC (t131 a0 a1) ?_
 rintro _ ⟨r3,hc2,rfl⟩
 have hK:=hc2
 refine oC (t255 r3) ?_
 rintro _ ⟨r5,hc4,rfl⟩
 have hEnd:=hc4.2
 refine lI (λh6=>?_) (λh6=>?_)
 refine ac ?_
 exact gO
 refine aq ?_
 refine aH ?_
 refine oC (t131 a0 a1) ?_
 rintro _ ⟨r8,hc7,rfl⟩
 have hK:=hc7
 refine cz ?_
 refine jG (λh9=>?_) (λh9=>?_)
 refine aE ?_
 refine aj ?_
 refine iI rfl (λ_=>kj rfl rfl rfl (pb .i64 1 a2)) ?_
 refine bN ?_
 exact xG ⟨(⟨[(⟨(IntKind.i64.wrap (1 - a2)),0⟩:jC)],.exact 1,qx,rfl,nd⟩:Row jC),dS,rfl⟩
 refine ba ?_
 refine jG (λh10=>?_) (λh10=>?_)
 refine aE ?_
 refine bz ?_
 refine aj ?_
 have hd11:a2=0\/a2=1\/a2=2\/a2=3:=by omega
 rcases hd11 with rfl | rfl | rfl | rfl
 refine oV ?_
 refine bB ?_
 exact xG ⟨(⟨[(⟨1,0⟩:jC)],.exact 1,qx,rfl,nd⟩:Row jC),dS,rfl⟩
 refine oV ?_
 refine bB ?_
 exact gP
 refine oV ?_
 refine bB ?_
 exact xG ⟨(⟨[(⟨3,0⟩:jC)],.exact 1,qx,rfl,nd⟩:Row jC),dS,rfl⟩
 refine oV ?_
 refine bB ?_
 exact xG ⟨(⟨[(⟨2,0⟩:jC)],.exact 1,qx,rfl,nd⟩:Row jC),dS,rfl⟩
 refine ba ?_
 refine jG (λh12=>?_) (λh12=>?_)
 refine aE ?_
 refine ao ?_
 refine jG (λh13=>?_) (λh13=>?_)
 refine au ?_
 refine cw ?_
 exact xG ⟨(⟨[(⟨1,1⟩:jC),(⟨2,2⟩:jC)],.exact 2,qx,rfl,nd⟩:Row jC),dS,rfl⟩
 refine aB ?_
 refine ae ?_
 have hd14:a2=0\/a2=1\/a2=2:=by omega
 rcases hd14 with rfl | rfl | rfl
 refine bB ?_
 exact gP
 refine bB ?_
 exact xG ⟨(⟨[(⟨0,1⟩:jC)],.exact 1,qx,rfl,nd⟩:Row jC),dS,rfl⟩
 refine bB ?_
 exact xG ⟨(⟨[(⟨0,2⟩:jC)],.exact 1,qx,rfl,nd⟩:Row jC),dS,rfl⟩
 refine aq ?_
 refine aA ?_
 exact gO
def aeU {H:aT} (p:Nat) (u2:Int) (vs:AV) (steps:List iR) (vp:AV) (pos:List Int) (vl:AV) (left:List (Row jC)) (nn:iD) (x:iz) (F:List jH) (hS:Sep H (j8 p [iv u2,vs,vp,vl]::lK iR.af 3 vs steps::lK jL 1 vp pos::lK (lh jC.af) 1 vl left::F)) (q1:steps.length<=11) (q2:pos.length=steps.length) (q3:left.length=steps.length):∃ v H',iZ cfg FT jx true 271 [(iV p),.ip (iD.af nn) 0 false,.agg (iz.af x)] { H with iq:=[] } v H'/\(∃ vso:AV,∃ stepso:List iR,∃ vpo:AV,∃ poso:List Int,∃ vlo:AV,∃ lefto:List (Row jC),(stepso.length=steps.length+1/\poso.length=stepso.length/\(pC nn.p x->(∀ s∈steps,pC nn.p ⟨s.elem,s.lN⟩)->∀ s∈stepso,pC nn.p ⟨s.elem,s.lN⟩)/\(∀ x∈poso,x∈pos\/x=0)/\∃ w:Row jC,(w.l.length<=2/\∀ y∈w.l,nQ y.pos)/\lefto=left++[w])/\Sep H' (j8 p [iv u2,vso,vpo,vlo]::lK iR.af 3 vso stepso::lK jL 1 vpo poso::lK (lh jC.af) 1 vlo lefto::F)/\v=.je []):=by
 refine kP JN ?_
 refine ah ?_
 refine bG ?_
 refine tv 0 hS ?_
 refine qS 0 hS ?_
 refine rE 0 hS vs ?_
 refine cZ ?_
 refine lR rfl rfl (kq (H:=H) (i:=1) (l:=steps) (enc:=iR.af) [(⟨x.elem,x.en,(-1)⟩:iR)] hS rfl rfl rfl rfl rfl rfl rfl rfl rfl (λ_=>rfl) (.inr rfl) dy (λ_=>rfl)) ?_
 rintro v1 H2 hS3
 refine tv 0 hS3 ?_
 refine qS 0 hS3 ?_
 refine lR rfl rfl (mP (H:=H2) (i:=0) (o:=1) (r:=v1) hS3 rfl rfl rfl rfl (nN rfl rfl (Sep.cell (i:=1) hS3 rfl)) (iN (Sep.cell (i:=1) hS3 rfl) jD) rfl) ?_
 rintro _ H4 ⟨rfl,hS5⟩
 refine rN ?_
 refine ae ?_
 refine Hl 0 hS5 ?_
 refine pz 0 hS5 ?_
 refine mH 0 hS5 vp ?_
 refine oV ?_
 refine jt rfl (kq (H:=H4) (i:=2) (l:=pos) (enc:=jL) [0] hS5 rfl rfl rfl rfl rfl rfl rfl rfl rfl (λ_=>rfl) (.inr rfl) dy (λ_=>rfl)) ?_
 rintro v6 H7 hS8
 refine Hl 0 hS8 ?_
 refine pz 0 hS8 ?_
 refine jt rfl (mP (H:=H7) (i:=0) (o:=2) (r:=v6) hS8 rfl rfl rfl rfl (nN rfl rfl (Sep.cell (i:=2) hS8 rfl)) (iN (Sep.cell (i:=2) hS8 rfl) jD) rfl) ?_
 rintro _ H9 ⟨rfl,hS10⟩
 refine oN ?_
 refine qd ?_
 refine aJ ?_
 refine tv 0 hS10 ?_
 refine qS 0 hS10 ?_
 refine rE 0 hS10 vl ?_
 refine br ?_
 refine rC (t307 nn x.elem x.en) ?_
 rintro _ ⟨r12,hc11,rfl⟩
 refine iU rfl rfl (λ_=>BI (xs:=[[uh r12]]) rfl rfl rfl rfl (Ln (iN (kZ _) jD) rfl)) ?_
 refine lR rfl rfl (kq (H:=H9) (i:=3) (l:=left) (enc:=(lh jC.af)) [r12] hS10 rfl rfl rfl rfl rfl rfl rfl rfl rfl (λ_=>rfl) (.inr rfl) dy (λ_=>rfl)) ?_
 rintro v13 H14 hS15
 refine tv 0 hS15 ?_
 refine qS 0 hS15 ?_
 refine lR rfl rfl (mP (H:=H14) (i:=0) (o:=3) (r:=v13) hS15 rfl rfl rfl rfl (nN rfl rfl (Sep.cell (i:=3) hS15 rfl)) (iN (Sep.cell (i:=3) hS15 rfl) jD) rfl) ?_
 rintro _ H16 ⟨rfl,hS17⟩
 refine rN ?_
 have hS18:=Sep.pick hS17 [0,1,2,3] 4 dt dt
 exact ⟨.je [],rfl,v1,((steps++[(⟨x.elem,x.en,(-1)⟩:iR)])),v6,(pos++[0]),v13,(left++[r12]),(by refine ⟨by simp,by simp; omega,λh1 h2=>oe (P:=λs:iR=>pC nn.p ⟨s.elem,s.lN⟩) h2 h1,λx hx=>by simpa using hx,_,?_,rfl⟩; assumption),Sep.iq hS18 _,rfl⟩
def aey (_a0:jn iR) (v:AV):Prop:=∃ r0:Row iR,(r0.l = _a0.l)/\v=jc r0
def t194 (a0:jn iR) (q1:a0.l.length<=1000):Ct 194 [jn.av iR.af a0] (aey a0):=by
 refine iY Jr ?_
 refine bo ?_
 refine kY (b:=a0.isNil) rfl (λ_=>qH rfl rfl rfl rfl) (λh1=>?_) (λh1=>?_)
 refine be ?_
 exact xG ⟨(kF:Row iR),eN,rfl⟩
 refine aB ?_
 refine wy [jn.av iR.af a0] [] ?_
 refine ae ?_
 have hS2:=Sep.s8 jW 3
 refine jt (H:=aT.empty) rfl (kq (H:=aT.empty) (i:=0) (l:=([]:List iR)) (enc:=iR.af) a0.l hS2 rfl rfl rfl rfl rfl rfl rfl rfl rfl (λ_=>rfl) (.inl rfl) dy (λ_=>rfl)) ?_
 rintro v3 H4 hS5
 refine ag ?_
 obtain ⟨r6,hl7,hf8⟩:=lA (H:=H4) (i:=0) (l:=(([]:List iR)++a0.l)) (enc:=iR.af) hS5 rfl dn
 have hlq:=hl7; have hln10:=congrArg List.length hl7
 have hz9:∀ m,freeze false { H4 with iq:=[] } (m+2) v3=some (jc r6):=λm=>hf8 _ _ (λ_=>rfl)
 exact ⟨v3,(kr (vs:=[v3]) rfl (iN (Sep.arg (i:=0) hS5 rfl) jD)),jc r6,(show freeze false { H4 with iq:=[] } 8 v3=some (jc r6) by simp only [FZ,hz9]),r6,eN,rfl⟩
def IE (_a0:nw) (_a1:Int) (_a2:Int) (_a3:Int) (v:AV):Prop:=∃ r0:iG,((r0.steps.l = _a0.steps.l/\r0.jK.l.length<=_a0.steps.l.length/\r0.guards.l=[]/\r0.my.l=[]/\r0.holds.l=[]/\∀ x∈r0.jK.l,(∃ s∈_a0.steps.l,x.elem=s.elem)/\x.pos∈_a0.pos.l/\¬ x.pos=0))/\v=.agg (iG.af r0)
def t272 (a0:nw) (a1:Int) (a2:Int) (a3:Int) (q1:a0.steps.l.length<=12) (q2:a0.pos.l.length=a0.steps.l.length):Ct 272 [.ip (nw.af a0) 0 true,iv a1,iv a2,iv a3] (IE a0 a1 a2 a3):=by
 refine iY HJ ?_
 refine cP ?_
 refine bU ?_
 refine oC (t194 a0.steps dj) ?_
 rintro _ ⟨r2,hc1,rfl⟩
 have hC93:=congrArg List.length hc1; try simp only [Row.oo] at hC93
 refine aS ?_
 refine qs ?_
 refine aR ?_
 have hL3:=a0.steps.lk
 refine iI rfl (λ_=>qE (r:=a0.steps) (enc:=iR.af) rfl rfl rfl rfl rfl rfl) ?_
 refine aG ?_
 have hS4:=Sep.lX jW 2
 have hNk5:=a0.steps.lk
 refine iL a0.steps.l.length (λk5 e h=>∃ v6:AV,∃ l7:List iu,∃ H8:aT,(l7.length<=0+k5)/\(∀ x∈(l7:List iu),(∃ s∈a0.steps.l,x.elem=s.elem)/\x.pos∈a0.pos.l/\¬ x.pos=0)/\Sep H8 (kW iu.af 2 v6 l7::[])/\At [0,8,9,24,25,26] [.ip (nw.af a0) 0 true,.la 8 0,.la 9 0,jn.av iR.af a0.steps,cb a0.steps.l.length,cb k5] H8 [(8,[iv 0,iv 0,iv 0,iJ,iJ,iJ,iJ,iJ,iF]),(9,[iv a1,iv a2,iv a3,jc r2,v6,iJ,iJ,iJ,iF])] e h) ?_ (k0:=0) du ⟨iJ,(([]:List iu)),aT.empty,d3,eH,hS4,atR⟩
 rintro k5 e h hkk5 ⟨v6,l7,H8,hl10,hNw,hS9,hA⟩
 refine aF ?_
 refine iX (λh11=>?_) (λh11=>?_)
 refine ak ?_
 refine bQ ?_
 have hx12:k5<a0.steps.l.length:=by omega
 refine iI rfl (λ_=>qV (n:=k5) (r:=a0.steps) (enc:=iR.af) rfl rfl rfl rfl rfl hx12 rfl) ?_
 generalize hqx13:a0.steps.l[k5]=x13
 have hinx13:x13∈a0.steps.l:=by rw [<- hqx13]; exact List.getElem_mem _
 have hmx13:=hinx13
 refine bW ?_
 refine aa ?_
 refine bU ?_
 have hx14:k5<a0.pos.l.length:=by omega
 refine iI rfl (λ_=>qV (n:=k5) (r:=a0.pos) (enc:=jL) rfl rfl rfl rfl rfl hx14 rfl) ?_
 generalize hqx15:a0.pos.l[k5]=x15
 have hinx15:x15∈a0.pos.l:=by rw [<- hqx15]; exact List.getElem_mem _
 have hmx15:=hinx15
 refine oV ?_
 refine lg (λh16=>?_) (λh16=>?_)
 refine au ?_
 refine qd ?_
 iterate 9 refine rV ?_
 have hx17:k5<a0.pos.l.length:=by omega
 refine iU rfl rfl (λ_=>qV (n:=k5) (r:=a0.pos) (enc:=jL) rfl rfl rfl rfl rfl hx17 rfl) ?_
 rw [hqx15]
 refine bw ?_
 refine lR rfl rfl (kq (H:=H8) (i:=0) (l:=l7) (enc:=iu.af) [(⟨x13.elem,x15⟩:iu)] hS9 rfl rfl rfl rfl rfl rfl rfl rfl rfl (λ_=>rfl) (.inl rfl) dy (λ_=>rfl)) ?_
 rintro v19 H20 hS21
 refine rV ?_
 refine iU rfl rfl (λ_=>BL rfl rfl rfl (nN rfl rfl (Sep.cell (i:=0) hS21 rfl)) (iN (Sep.cell (i:=0) hS21 rfl) jD) rfl rfl) ?_
 refine rN ?_
 refine qg ?_
 refine jd ?_
 refine ab ?_
 exact ⟨by omega,v19,((l7++[(⟨x13.elem,x15⟩:iu)])),H20,dm,fj,hS21,atR⟩
 refine cq ?_
 refine jd ?_
 refine ab ?_
 exact ⟨by omega,v6,l7,H8,dm,fj,hS9,atR⟩
 refine ai ?_
 refine aj ?_
 refine iI rfl (λ_=>BL rfl rfl rfl rfl (iN rfl (iN rfl (iN rfl (iN rfl (iN (Sep.cell (i:=0) hS9 rfl) (iN rfl (iN rfl (iN rfl (iN rfl jD))))))))) rfl rfl) ?_
 refine oN ?_
 refine qr ?_
 obtain ⟨r22,hl23,hf24⟩:=lA (H:=H8) (i:=0) (l:=l7) (enc:=iu.af) hS9 rfl dn
 have hlq:=hl23; have hln26:=congrArg List.length hl23
 have hz25:∀ m,freeze false { H8 with iq:=[(8,[iv a1,iv a2,iv a3,jc r2,v6,iJ,iJ,iJ,iF]),(9,[iv a1,iv a2,iv a3,jc r2,v6,iJ,iJ,iJ,iF])] } (m+2) v6=some (jf r22):=λm=>hf24 _ _ (λ_=>rfl)
 exact ⟨.agg [iv a1,iv a2,iv a3,jc r2,v6,iJ,iJ,iJ,iF],(kr (vs:=[.agg [iv a1,iv a2,iv a3,jc r2,v6,iJ,iJ,iJ,iF]]) rfl rfl),.agg [iv a1,iv a2,iv a3,jc r2,jf r22,iJ,iJ,iJ,iF],(show freeze false { H8 with iq:=[(8,[iv a1,iv a2,iv a3,jc r2,v6,iJ,iJ,iJ,iF]),(9,[iv a1,iv a2,iv a3,jc r2,v6,iJ,iJ,iJ,iF])] } 8 (.agg [iv a1,iv a2,iv a3,jc r2,v6,iJ,iJ,iJ,iF])=some (.agg [iv a1,iv a2,iv a3,jc r2,jf r22,iJ,iJ,iJ,iF]) by simp only [FZ,hz25]),(⟨a1,a2,a3,r2,r22,(kF:Row iu),(kF:Row Int),(kF:Row Int),false⟩:iG),(by first | exact ⟨by assumption,by dsimp only; omega,rfl,rfl,rfl,λx hx=>hNw x (hlq▸hx)⟩ | exact ⟨by assumption,by simp,rfl,rfl,rfl,by simp⟩),rfl⟩
def agJ {H:aT} (p:Nat) (u2:Int) (vs:AV) (steps:List iR) (vp:AV) (pos:List Int) (vl:AV) (left:List (Row jC)) (F:List jH) (hS:Sep H (j8 p [iv u2,vs,vp,vl]::lK iR.af 3 vs steps::lK jL 1 vp pos::lK (lh jC.af) 1 vl left::F)) (q1:steps.length<=12) (q2:pos.length=steps.length) (q3:left.length=steps.length) (q4:0<steps.length):∃ v H',iZ cfg FT jx true 273 [(iV p)] { H with iq:=[] } v H'/\(∃ vso:AV,∃ stepso:List iR,∃ vpo:AV,∃ poso:List Int,∃ vlo:AV,∃ lefto:List (Row jC),(stepso.length+1=steps.length/\poso.length=stepso.length/\(∀ s∈stepso,s∈steps)/\(∀ x∈poso,x∈pos)/\lefto=left.take (left.length - 1))/\Sep H' (j8 p [iv u2,vso,vpo,vlo]::lK iR.af 3 vso stepso::lK jL 1 vpo poso::lK (lh jC.af) 1 vlo lefto::F)/\v=.je []):=by
 refine kP Jc ?_
 refine aj ?_
 refine bg ?_
 refine iI rfl (λ_=>pj (i:=0) (o:=1) (r:=vs) hS rfl rfl rfl rfl) ?_
 refine iI rfl (λ_=>mZ (i:=1) hS rfl rfl rfl rfl rfl rfl rfl) ?_
 refine oP ?_
 refine ab ?_
 refine qd ?_
 refine cu ?_
 refine iU rfl rfl (λ_=>pN (i:=0) hS rfl rfl) ?_
 refine iU rfl rfl (λ_=>pe (i:=0) hS rfl rfl rfl rfl rfl) ?_
 refine iU rfl rfl (λ_=>pj (i:=0) (o:=1) (r:=vs) hS rfl rfl rfl rfl) ?_
 refine rV ?_
 have hk1:((((steps.length:Int) - 1).toNat:Nat):Int)=(steps.length:Int) - 1:=Int.toNat_of_nonneg dm
 have hx2:((steps.length:Int) - 1).toNat<=steps.length:=by first | omega | (simp<;>omega) | (simp_all; omega)
 refine lR rfl rfl (sm (i:=1) (k:=((steps.length:Int) - 1).toNat) hS rfl rfl rfl rfl rfl rfl (congrArg (AV.int .i64) hk1.symm) hx2) ?_
 rintro v3 H4 ⟨hc5,hS6⟩
 refine rV ?_
 refine iU rfl rfl (λ_=>pN (i:=0) hS6 rfl rfl) ?_
 refine iU rfl rfl (λ_=>pe (i:=0) hS6 rfl rfl rfl rfl rfl) ?_
 refine iU rfl rfl (λ_=>pj (i:=0) (o:=2) (r:=vp) hS6 rfl rfl rfl rfl) ?_
 refine rV ?_
 have hk7:((((steps.length:Int) - 1).toNat:Nat):Int)=(steps.length:Int) - 1:=Int.toNat_of_nonneg dm
 have hx8:((steps.length:Int) - 1).toNat<=pos.length:=by first | omega | (simp<;>omega) | (simp_all; omega)
 refine lR rfl rfl (sm (i:=2) (k:=((steps.length:Int) - 1).toNat) hS6 rfl rfl rfl rfl rfl rfl (congrArg (AV.int .i64) hk7.symm) hx8) ?_
 rintro v9 H10 ⟨hc11,hS12⟩
 refine rV ?_
 refine iU rfl rfl (λ_=>pN (i:=0) hS12 rfl rfl) ?_
 refine iU rfl rfl (λ_=>pe (i:=0) hS12 rfl rfl rfl rfl rfl) ?_
 refine iU rfl rfl (λ_=>pj (i:=0) (o:=3) (r:=vl) hS12 rfl rfl rfl rfl) ?_
 refine rV ?_
 have hk13:((((steps.length:Int) - 1).toNat:Nat):Int)=(steps.length:Int) - 1:=Int.toNat_of_nonneg dm
 have hx14:((steps.length:Int) - 1).toNat<=left.length:=by first | omega | (simp<;>omega) | (simp_all; omega)
 refine lR rfl rfl (sm (i:=3) (k:=((steps.length:Int) - 1).toNat) hS12 rfl rfl rfl rfl rfl rfl (congrArg (AV.int .i64) hk13.symm) hx14) ?_
 rintro v15 H16 ⟨hc17,hS18⟩
 refine iU rfl rfl (λ_=>pN (i:=0) hS18 rfl rfl) ?_
 refine iU rfl rfl (λ_=>pe (i:=0) hS18 rfl rfl rfl rfl rfl) ?_
 refine ra rfl rfl (mP (i:=0) (o:=1) (r:=v3) hS18 rfl rfl rfl rfl (nN rfl rfl (Sep.cell (i:=1) hS18 rfl)) (iN (Sep.cell (i:=1) hS18 rfl) jD) rfl) ?_
 rintro _ H19 ⟨rfl,hS20⟩
 refine ⟨λcall=>(AH (mc rfl rfl rfl (ta (i:=2) (k:=((steps.length:Int) - 1).toNat) hS20 rfl hc11 rfl rfl rfl rfl rfl (congrArg (AV.int .i64) hk7.symm)) rfl (CQ (i:=2) hS20 rfl)) (xe (mc rfl rfl rfl (ta (i:=3) (k:=((steps.length:Int) - 1).toNat) hS20 rfl hc17 rfl rfl rfl rfl rfl (congrArg (AV.int .i64) hk13.symm)) rfl (CQ (i:=3) hS20 rfl)))),?_⟩
 refine iU rfl rfl (λ_=>pN (i:=0) hS20 rfl rfl) ?_
 refine iU rfl rfl (λ_=>pe (i:=0) hS20 rfl rfl rfl rfl rfl) ?_
 refine ra rfl rfl (mP (i:=0) (o:=2) (r:=v9) hS20 rfl rfl rfl rfl (nN rfl rfl (Sep.cell (i:=2) hS20 rfl)) (iN (Sep.cell (i:=2) hS20 rfl) jD) rfl) ?_
 rintro _ H21 ⟨rfl,hS22⟩
 refine ⟨λcall=>(xe (mc rfl rfl rfl (ta (i:=3) (k:=((steps.length:Int) - 1).toNat) hS22 rfl hc17 rfl rfl rfl rfl rfl (congrArg (AV.int .i64) hk13.symm)) rfl (CQ (i:=3) hS22 rfl))),?_⟩
 refine iU rfl rfl (λ_=>pN (i:=0) hS22 rfl rfl) ?_
 refine iU rfl rfl (λ_=>pe (i:=0) hS22 rfl rfl rfl rfl rfl) ?_
 refine lR rfl rfl (mP (i:=0) (o:=3) (r:=v15) hS22 rfl rfl rfl rfl (nN rfl rfl (Sep.cell (i:=3) hS22 rfl)) (iN (Sep.cell (i:=3) hS22 rfl) jD) rfl) ?_
 rintro _ H23 ⟨rfl,hS24⟩
 refine rN ?_
 have hS25:=Sep.pick hS24 [0,1,2,3] 4 dt dt
 exact ⟨.je [],rfl,v3,(steps.take (((steps.length:Int) - 1).toNat)),v9,(pos.take (((steps.length:Int) - 1).toNat)),v15,(left.take (((steps.length:Int) - 1).toNat)),(by refine ⟨by simp only [List.length_take]; omega,by simp only [List.length_take]; omega,λs hs=>List.mem_of_mem_take hs,λs hs=>List.mem_of_mem_take hs,?_⟩; congr 1; omega),Sep.iq hS25 _,rfl⟩
def aeb (_a0:iD) (_a1:Int) (v:AV):Prop:=∃ r0:Row iG,(r0.l.length<=8192/\(∀ r∈(r0.l:List iG),0<r.steps.l.length/\r.steps.l.length<=12/\r.jK.l.length<=12/\lV _a0.p r))/\v=iT r0
def t193 (a0:iD) (a1:Int) (hJg:∀ y∈univ a0,pC a0.p y):Ct 193 [.ip (iD.af a0) 0 false,iv a1] (aeb a0 a1):=by
 refine iY Jg ?_
 refine ah ?_
 refine va ?_
 refine ae ?_
 refine oC (t203 a0 a1) ?_
 rintro _ ⟨r2,r3,hc1,rfl⟩
 have hA:=hc1.1; have hA0:=hc1.2
 cases r3
 refine ct ?_
 refine ac ?_
 exact xG ⟨(kF:Row iG),eP,rfl⟩
 refine ct ?_
 refine aq ?_
 refine wy [.ip (iD.af a0) 0 false,iv a1,.la 5 0] [(5,(iz.af r2))] ?_
 refine ae ?_
 refine oC (t197 a0 r2) ?_
 rintro _ ⟨r5,r6,hc4,rfl⟩
 have hN:=hc4
 cases r6
 refine ct ?_
 refine ac ?_
 exact xG ⟨(kF:Row iG),eP,rfl⟩
 refine ct ?_
 refine aq ?_
 refine wy [.ip (iD.af a0) 0 false,iv a1,.la 5 0,.la 7 0] [(5,(iz.af r2)),(7,(iz.af r5))] ?_
 refine ah ?_
 refine ap ?_
 refine jt (H:=aT.empty) rfl (wb jW rfl rfl rfl rfl rfl) ?_
 rintro _ H8 ⟨b7,rfl,hS9⟩
 refine ab ?_
 refine qq ?_
 refine ql ?_
 refine aw ?_
 have hS10:=Sep.lX hS9 1
 have hS11:=Sep.lX hS10 9
 have hS12:=Sep.lX hS11 1
 have hS13:=Sep.lX hS12 3
 have hS14:=Sep.tZ (i:=0) hS13 rfl
 have hS15:=Sep.tZ (i:=1) hS14 rfl
 have hS16:=Sep.tZ (i:=3) hS15 rfl
 refine mw (λm30 e h=>∃ v17:AV,∃ l18:List iR,∃ v19:AV,∃ l20:List Int,∃ v21:AV,∃ l22:List iG,∃ v23:AV,∃ l24:List (Row jC),∃ n25:Int,∃ n26:Int,∃ n27:Int,∃ H28:aT,m30=2*(wt l24+uX l18.length)+l18.length/\(l18.length<=12/\l20.length=l18.length/\l22.length+wt l24+uX l18.length<=8192)/\(l24.length=l18.length)/\((∀ r∈(l22:List iG),0<r.steps.l.length/\r.steps.l.length<=12/\r.jK.l.length<=12/\lV a0.p r))/\(∀ s∈(l18:List iR),pC a0.p ⟨s.elem,s.lN⟩)/\(∀ x∈(l20:List Int),nQ x)/\(∀ r∈(l24:List (Row jC)),∀ w∈r.l,nQ w.pos)/\(pC a0.p ⟨n25,n26⟩)/\Sep H28 (lK iR.af 3 v17 l18::lK jL 1 v19 l20::kW iG.af 9 v21 l22::lK (lh jC.af) 1 v23 l24::j8 b7 [iv n27,v17,v19,v23]::[])/\At [0,1,7,8,9] [.ip (iD.af a0) 0 false,iv a1,.la 7 0,v21,(iV b7)] H28 [(7,[iv n25,iv n26])] e h) ?_ _ _ _ ⟨iJ,(([]:List iR)),iJ,(([]:List Int)),iJ,(([]:List iG)),iJ,(([]:List (Row jC))),r5.elem,r5.en,r2.elem,H8,rfl,(by (simp [WG,Wd])),eH,eH,eH,eH,eH,(by exact hJg _ (uC dl)),hS16,atR⟩
 rintro m30 e h ⟨v17,l18,v19,l20,v21,l22,v23,l24,n25,n26,n27,H28,hmm30,hL,hL3,hRo,hSg,hPs,hLf,hxg,hS29,hA⟩
 refine rz hA ?_
 clear hA
 have hPp:l18.length<=12->1<=uX l18.length:=AR
 refine qb ?_
 refine va ?_
 refine Av (λE Z=>∃ v31:AV,∃ l32:List iR,∃ v33:AV,∃ l34:List Int,∃ v35:AV,∃ l36:List iG,∃ v37:AV,∃ l38:List (Row jC),∃ H39:aT,(l32.length<=12/\l34.length=l32.length/\l36.length+wt l38<=8192/\2*wt l38+l32.length<m30)/\(l38.length=l32.length)/\((∀ r∈(l36:List iG),0<r.steps.l.length/\r.steps.l.length<=12/\r.jK.l.length<=12/\lV a0.p r))/\(∀ s∈(l32:List iR),pC a0.p ⟨s.elem,s.lN⟩)/\(∀ x∈(l34:List Int),nQ x)/\(∀ r∈(l38:List (Row jC)),∀ w∈r.l,nQ w.pos)/\Sep H39 (lK iR.af 3 v31 l32::lK jL 1 v33 l34::kW iG.af 9 v35 l36::lK (lh jC.af) 1 v37 l38::j8 b7 [iv n27,v31,v33,v37]::[])/\E=[(0,.ip (iD.af a0) 0 false),(1,iv a1),(7,.la 7 0),(8,v35),(9,(iV b7))]/\Z = { H39 with iq:=[(7,[iv n25,iv n26])] }) ?_ ?_
 rintro _ _ ⟨v31,l32,v33,l34,v35,l36,v37,l38,H39,hL,hL3,hRo,hSg,hPs,hLf,hS40,rfl,rfl⟩
 have hPp:l32.length<=12->1<=uX l32.length:=AR
 refine qq ?_
 refine ql ?_
 refine aw ?_
 refine mw (λm51 e h=>∃ v41:AV,∃ l42:List iR,∃ v43:AV,∃ l44:List Int,∃ v45:AV,∃ l46:List iG,∃ v47:AV,∃ l48:List (Row jC),∃ H49:aT,m51=2*wt l48+l42.length/\(l42.length<=12/\l44.length=l42.length/\l46.length+wt l48<=8192/\2*wt l48+l42.length<m30)/\(l48.length=l42.length)/\((∀ r∈(l46:List iG),0<r.steps.l.length/\r.steps.l.length<=12/\r.jK.l.length<=12/\lV a0.p r))/\(∀ s∈(l42:List iR),pC a0.p ⟨s.elem,s.lN⟩)/\(∀ x∈(l44:List Int),nQ x)/\(∀ r∈(l48:List (Row jC)),∀ w∈r.l,nQ w.pos)/\Sep H49 (lK iR.af 3 v41 l42::lK jL 1 v43 l44::kW iG.af 9 v45 l46::lK (lh jC.af) 1 v47 l48::j8 b7 [iv n27,v41,v43,v47]::[])/\At [0,1,7,8,9] [.ip (iD.af a0) 0 false,iv a1,.la 7 0,v45,(iV b7)] H49 [(7,[iv n25,iv n26])] e h) ?_ _ _ _ ⟨v31,l32,v33,l34,v35,l36,v37,l38,H39,rfl,du,du,(by exact hRo),fC,fD,fE,hS40,(iO hS40 [(8,2)])⟩
 rintro m51 e h ⟨v41,l42,v43,l44,v45,l46,v47,l48,H49,hmm51,hL,hL3,hRo,hSg,hPs,hLf,hS50,hA⟩
 refine rz hA ?_
 clear hA
 have hPp:l42.length<=12->1<=uX l42.length:=AR
 refine ao ?_
 refine bT ?_
 refine ki (λh52=>?_) (λh52=>?_)
 refine aZ ?_
 refine wz [.ip (iD.af a0) 0 false,iv a1,.la 7 0,v45,(iV b7)] H49 [(7,[iv n25,iv n26])] ?_ (iO hS50 [(8,2)])
 refine qb ?_
 refine aj ?_
 refine bT ?_
 refine oP ?_
 refine ab ?_
 refine ao ?_
 refine c6 ?_
 have hk53:((((l42.length:Int) - 1).toNat:Nat):Int)=(l42.length:Int) - 1:=Int.toNat_of_nonneg dm
 have hx54:((l42.length:Int) - 1).toNat<l48.length:=by first | omega | (simp<;>omega) | (simp_all; omega)
 obtain ⟨x55,hqx55⟩:∃ x,l48[((l42.length:Int) - 1).toNat]=x:=⟨_,rfl⟩
 have hinx55:x55∈l48:=by rw [<- hqx55]; exact List.getElem_mem _
 have hLfw:=hLf x55 hinx55
 refine mX rfl (lS (H:=H49) (i:=3) (m:=((l42.length:Int) - 1).toNat) (cs:=(lh jC.af) x55) hS50 rfl rfl rfl rfl rfl rfl (congrArg (AV.int .i64) hk53.symm) (jU hx54 hqx55)) ?_
 rintro a56 ⟨ha57,hea58⟩
 refine iI rfl (λ_=>lZ (H:=H49) (i:=3) (m:=((l42.length:Int) - 1).toNat) (o:=0) (r:=uh x55) (cs:=(lh jC.af) x55) hS50 rfl (jU hx54 hqx55) hea58 rfl rfl ha57) ?_
 have hL59:=x55.lk
 refine jy x55 ?_
 refine jG (λh60=>?_) (λh60=>?_)
 refine au ?_
 refine aj ?_
 have hS61:Sep H49 (j8 b7 [iv n27,v41,v43,v47]::lK iR.af 3 v41 l42::lK jL 1 v43 l44::lK (lh jC.af) 1 v47 l48::kW iG.af 9 v45 l46::[]):=Sep.pick hS50 [4,0,1,3,2] 5 dt dt
 refine jQ (H:=H49) (args:=[(iV b7)]) (p:=[]) (r:=[]) rfl rfl rfl rfl rfl rfl rfl (agJ b7 n27 v41 l42 v43 l44 v47 l48 (kW iG.af 9 v45 l46::[]) hS61 dj dj dj dj) ?_
 rintro _ H62 ⟨vso65,stepso66,vpo67,poso68,vlo69,lefto70,hc64,hS63,rfl⟩
 obtain ⟨hp1,hp2,hpS,hpP,hp3⟩:=hc64
 have hPs:∀ z9∈poso68,nQ z9:=λz9 hx=>hPs z9 (hpP z9 hx)
 have hLf:∀ r∈lefto70,∀ w∈r.l,nQ w.pos:=λr hr=>hLf r (by rw [hp3] at hr; exact List.mem_of_mem_take hr)
 have hSg:∀ s∈stepso66,pC a0.p ⟨s.elem,s.lN⟩:=λs hs=>hSg s (hpS s hs)
 have hWt:wt lefto70=wt l48:=by rw [hp3]; exact Ox dl du dl du
 have hp5:lefto70.length+1=l48.length:=by rw [hp3,List.length_take]; omega
 refine oN ?_
 refine qe ?_
 have hS71:Sep H62 (lK iR.af 3 vso65 stepso66::lK jL 1 vpo67 poso68::kW iG.af 9 v45 l46::lK (lh jC.af) 1 vlo69 lefto70::j8 b7 [iv n27,vso65,vpo67,vlo69]::[]):=Sep.pick hS63 [1,2,4,3,0] 5 dt dt
 refine ⟨_,?_,vso65,stepso66,vpo67,poso68,v45,l46,vlo69,lefto70,H62,rfl,du,du,dp,fC,fD,fE,hS71,(iO hS71 [(8,2)])⟩
 omega
 refine aB ?_
 refine wz [.ip (iD.af a0) 0 false,iv a1,.la 7 0,v45,(iV b7),iv ((l42.length:Int) - 1)] H49 [(7,[iv n25,iv n26])] ?_ (iO hS50 [(8,2)])
 refine aj ?_
 refine c6 ?_
 have hk72:((((l42.length:Int) - 1).toNat:Nat):Int)=(l42.length:Int) - 1:=Int.toNat_of_nonneg dm
 have hx73:((l42.length:Int) - 1).toNat<l48.length:=by first | omega | (simp<;>omega) | (simp_all; omega)
 refine mX rfl (lS (H:=H49) (i:=3) (m:=((l42.length:Int) - 1).toNat) (cs:=(lh jC.af) x55) hS50 rfl rfl rfl rfl rfl rfl (congrArg (AV.int .i64) hk72.symm) (jU hx73 hqx55)) ?_
 rintro a74 ⟨ha75,hea76⟩
 refine iI rfl (λ_=>lZ (H:=H49) (i:=3) (m:=((l42.length:Int) - 1).toNat) (o:=0) (r:=uh x55) (cs:=(lh jC.af) x55) hS50 rfl (jU hx73 hqx55) hea76 rfl rfl ha75) ?_
 have hx77:0<x55.l.length:=by omega
 refine kM 0 x55 hx77 ?_
 generalize hqx78:x55.l[0]=x78
 have hinx78:x78∈x55.l:=by rw [<- hqx78]; exact List.getElem_mem _
 have hWp:=hLfw x78 hinx78
 refine aS ?_
 refine cM ?_
 refine tv 4 hS50 ?_
 refine qS 4 hS50 ?_
 refine rE 4 hS50 v47 ?_
 refine aJ ?_
 refine tv 4 hS50 ?_
 refine qS 4 hS50 ?_
 refine rE 4 hS50 v47 ?_
 refine rV ?_
 have hk79:((((l42.length:Int) - 1).toNat:Nat):Int)=(l42.length:Int) - 1:=Int.toNat_of_nonneg dm
 have hx80:((l42.length:Int) - 1).toNat<l48.length:=by first | omega | (simp<;>omega) | (simp_all; omega)
 refine mj rfl rfl (lS (H:=H49) (i:=3) (m:=((l42.length:Int) - 1).toNat) (cs:=(lh jC.af) x55) hS50 rfl rfl rfl rfl rfl rfl (congrArg (AV.int .i64) hk79.symm) (jU hx80 hqx55)) ?_
 rintro a81 ⟨ha82,hea83⟩
 refine iU rfl rfl (λ_=>lZ (H:=H49) (i:=3) (m:=((l42.length:Int) - 1).toNat) (o:=0) (r:=uh x55) (cs:=(lh jC.af) x55) hS50 rfl (jU hx80 hqx55) hea83 rfl rfl ha82) ?_
 have hx84:1<=x55.l.length:=by omega
 refine iU rfl rfl (λ_=>ML (k:=1) (r:=x55) (enc:=jC.af) (n:=2) rfl rfl rfl rfl rfl rfl hx84 (λ_=>rfl)) ?_
 have hk85:((((l42.length:Int) - 1).toNat:Nat):Int)=(l42.length:Int) - 1:=Int.toNat_of_nonneg dm
 have hx86:((l42.length:Int) - 1).toNat<l48.length:=by first | omega | (simp<;>omega) | (simp_all; omega)
 refine mj rfl rfl (lS (H:=H49) (i:=3) (m:=((l42.length:Int) - 1).toNat) (cs:=(lh jC.af) x55) hS50 rfl rfl rfl rfl rfl rfl (congrArg (AV.int .i64) hk85.symm) (jU hx86 hqx55)) ?_
 rintro a87 ⟨ha88,hea89⟩
 have hLf:=(λ(k:Nat) (_:k<l48.length)=>zv (k:=k) (P:=λr:Row jC=>∀ w∈r.l,nQ w.pos) hLf (show ∀ w∈((Row.drop x55 1)).l,nQ w.pos from λw hw=>hLfw w (List.mem_of_mem_drop hw))) _ hx86
 have hWs:wt (l48.set _ (Row.drop x55 1))+uX l48.length=wt l48:=Wi hx86 du hqx55 du (by simp [Row.drop]; omega); rw [hL3] at hWs
 have hz92:(l48.set (((l42.length:Int) - 1).toNat) (Row.drop x55 1)).length=l48.length:=List.length_set
 refine lR (H:=H49) rfl rfl (si (H:=H49) (i:=3) (m:=((l42.length:Int) - 1).toNat) (o:=0) x55 (Row.drop x55 1) hS50 rfl hx86 hqx55 hea89 rfl ha88 rfl rfl rfl rfl) ?_
 rintro _ H90 ⟨rfl,hS91⟩
 simp only [List.set] at hS91
 refine rN ?_
 refine cM ?_
 refine tv 4 hS91 ?_
 refine qS 4 hS91 ?_
 refine rE 4 hS91 v41 ?_
 refine aJ ?_
 refine tv 4 hS91 ?_
 refine qS 4 hS91 ?_
 refine rE 4 hS91 v43 ?_
 refine br ?_
 have hk93:((((l42.length:Int) - 1).toNat:Nat):Int)=(l42.length:Int) - 1:=Int.toNat_of_nonneg dm
 have hx94:((l42.length:Int) - 1).toNat<l42.length:=by first | omega | (simp<;>omega) | (simp_all; omega)
 obtain ⟨x95,hqx95⟩:∃ x,l42[((l42.length:Int) - 1).toNat]=x:=⟨_,rfl⟩
 refine mj rfl rfl (lS (H:=H90) (i:=0) (m:=((l42.length:Int) - 1).toNat) (cs:=iR.af x95) hS91 rfl rfl rfl rfl rfl rfl (congrArg (AV.int .i64) hk93.symm) (jU hx94 hqx95)) ?_
 rintro a96 ⟨ha97,hea98⟩
 refine iU rfl rfl (λ_=>EA.R0 hea98 rfl rfl rfl ha97) ?_
 have hSg:=US (x2:=(⟨x95.elem,x95.lN,x78.out⟩:iR)) hSg hqx95 rfl rfl
 have hz101:(l42.set (((l42.length:Int) - 1).toNat) (⟨x95.elem,x95.lN,x78.out⟩:iR)).length=l42.length:=List.length_set
 refine ra (H:=H90) rfl rfl (si (H:=H90) (i:=0) (m:=((l42.length:Int) - 1).toNat) (o:=2) x95 (⟨x95.elem,x95.lN,x78.out⟩:iR) hS91 rfl hx94 hqx95 hea98 rfl rfl rfl rfl rfl rfl) ?_
 rintro _ H99 ⟨rfl,hS100⟩
 refine ⟨λcall=>(xe (mc rfl rfl rfl rfl rfl eG)),?_⟩
 have hk102:((((l42.length:Int) - 1).toNat:Nat):Int)=(l42.length:Int) - 1:=Int.toNat_of_nonneg dm
 have hx103:((l42.length:Int) - 1).toNat<l44.length:=by first | omega | (simp<;>omega) | (simp_all; omega)
 obtain ⟨x104,hqx104⟩:∃ x,l44[((l42.length:Int) - 1).toNat]=x:=⟨_,rfl⟩
 refine mj rfl rfl (lS (H:=H99) (i:=1) (m:=((l42.length:Int) - 1).toNat) (cs:=jL x104) hS100 rfl rfl rfl rfl rfl rfl (congrArg (AV.int .i64) hk102.symm) (jU hx103 hqx104)) ?_
 rintro a105 ⟨ha106,hea107⟩
 have hPs:=(λ(k:Nat) (_:k<l44.length)=>zv (k:=k) (P:=nQ) hPs hWp) _ hx103
 have hz110:(l44.set (((l42.length:Int) - 1).toNat) x78.pos).length=l44.length:=List.length_set
 refine lR (H:=H99) rfl rfl (si (H:=H99) (i:=1) (m:=((l42.length:Int) - 1).toNat) (o:=0) x104 x78.pos hS100 rfl hx103 hqx104 hea107 rfl ha106 rfl rfl rfl rfl) ?_
 rintro _ H108 ⟨rfl,hS109⟩
 simp only [List.set] at hS109
 refine rN ?_
 refine cM ?_
 refine tv 4 hS109 ?_
 refine qS 4 hS109 ?_
 refine rE 4 hS109 v41 ?_
 refine rV ?_
 have hk111:((((l42.length:Int) - 1).toNat:Nat):Int)=(l42.length:Int) - 1:=Int.toNat_of_nonneg dm
 have hx112:((l42.length:Int) - 1).toNat<((l42.set (((l42.length:Int) - 1).toNat) (⟨x95.elem,x95.lN,x78.out⟩:iR))).length:=by first | omega | (simp<;>omega) | (simp_all; omega)
 obtain ⟨x113,hqx113⟩:∃ x,((l42.set (((l42.length:Int) - 1).toNat) (⟨x95.elem,x95.lN,x78.out⟩:iR)))[((l42.length:Int) - 1).toNat]=x:=⟨_,rfl⟩
 refine mj rfl rfl (lS (H:=H108) (i:=0) (m:=((l42.length:Int) - 1).toNat) (cs:=iR.af x113) hS109 rfl rfl rfl rfl rfl rfl (congrArg (AV.int .i64) hk111.symm) (jU hx112 hqx113)) ?_
 rintro a114 ⟨ha115,hea116⟩
 refine iU rfl rfl (λ_=>EA.R0 hea116 rfl rfl rfl ha115) ?_
 refine iU rfl rfl (λ_=>lZ (H:=H108) (i:=0) (m:=((l42.length:Int) - 1).toNat) (o:=0) (r:=iv x113.elem) (cs:=iR.af x113) hS109 rfl (jU hx112 hqx113) hea116 rfl rfl rfl) ?_
 refine cu ?_
 refine aM ?_
 refine aH ?_
 refine oC (t132 a0 (⟨x113.elem,x78.out⟩:iz)) ?_
 rintro _ ⟨r118,hc117,rfl⟩
 have hR:=hc117
 refine ab ?_
 refine aj ?_
 refine lI (λh119=>?_) (λh119=>?_)
 refine au ?_
 refine aR ?_
 refine nU hS109 0 λr120 hl121 hln124 hz123=>?_
 refine nU hS109 1 λr125 hl126 hln129 hz128=>?_
 refine nU hS109 3 λr130 hl131 hln134 hz133=>?_
 have hz135:∀ m,freeze true { H108 with iq:=[] } (m+4) (iV b7)=some (.ip [iv n27,jn.av iR.af r120,py r125,jn.av (lh jC.af) r130] 0 true):=λm=>uO (i:=4) hS109 rfl [] _ (by simp only [FZ,hz123,hz128,hz133]; try rfl)
 refine mR (args:=[(iV b7),iv a1,iv r118,iv 1]) (p:=[]) (r:=[]) (args':=[.ip [iv n27,jn.av iR.af r120,py r125,jn.av (lh jC.af) r130] 0 true,iv a1,iv r118,iv 1]) (R:=IE (⟨n27,r120,r125,r130⟩:nw) a1 r118 1) rfl rfl rfl rfl rfl rfl rfl e8 (kH (by show js (freeze true { H108 with iq:=[] } 8) [(iV b7),iv a1,iv r118,iv 1] = _; simp only [FZ,hz123,hz128,hz133,hz135]) (iN rfl (iN rfl (iN rfl (iN rfl jD))))) (kH eT (iN rfl (iN rfl (iN rfl (iN rfl jD))))) (λh=>t272 (⟨n27,r120,r125,r130⟩:nw) a1 r118 1 dj dj h) ?_
 rintro _ ⟨r137,hc136,rfl⟩
 have hC158:=congrArg List.length hc136.1; have hD158:=hc136.2.1; dsimp only at hC158 hD158; have hG158:=Au hc136.1 dl hSg dl hPs hc136.2.2.2.2.2 ⟨hc136.2.2.1,hc136.2.2.2.1,hc136.2.2.2.2.1⟩
 refine iI rfl (λ_=>BI (xs:=[(iG.af r137)]) rfl rfl rfl rfl (Ln (iN rfl (iN rfl (iN rfl (iN (kZ _) (iN (kZ _) (iN (kZ _) (iN (kZ _) (iN (kZ _) (iN rfl jD))))))))) rfl)) ?_
 have hz141:(l46++[r137]).length=l46.length+1:=List.length_append
 refine xP 2 [r137] hS109 λv138 H139 hS140=>?_
 simp only [List.set] at hS140
 refine ab ?_
 refine qe ?_
 refine ⟨_,?_,v41,((l42.set (((l42.length:Int) - 1).toNat) (⟨x95.elem,x95.lN,x78.out⟩:iR))),v43,((l44.set (((l42.length:Int) - 1).toNat) x78.pos)),v138,((l46++[r137])),v47,((l48.set (((l42.length:Int) - 1).toNat) (Row.drop x55 1))),H139,rfl,du,du,dp,fC,fD,fE,hS140,(iO hS140 [(8,2)])⟩
 omega
 refine aB ?_
 refine wz [.ip (iD.af a0) 0 false,iv a1,.la 7 0,v45,(iV b7),.la 12 0] H108 [(7,[iv n25,iv n26]),(12,[iv x113.elem,iv x78.out])] ?_ (iO hS109 [(8,2)])
 refine ae ?_
 refine oC (t197 a0 (⟨x113.elem,x78.out⟩:iz)) ?_
 rintro _ ⟨r143,r144,hc142,rfl⟩
 have hN:=hc142
 cases r144
 refine ct ?_
 refine aE ?_
 refine ap ?_
 refine nU hS109 0 λr145 hl146 hln149 hz148=>?_
 refine nU hS109 1 λr150 hl151 hln154 hz153=>?_
 refine nU hS109 3 λr155 hl156 hln159 hz158=>?_
 have hz160:∀ m,freeze true { H108 with iq:=[] } (m+4) (iV b7)=some (.ip [iv n27,jn.av iR.af r145,py r150,jn.av (lh jC.af) r155] 0 true):=λm=>uO (i:=4) hS109 rfl [] _ (by simp only [FZ,hz148,hz153,hz158]; try rfl)
 refine mR (args:=[(iV b7),iv a1,iv (-1),iv 3]) (p:=[]) (r:=[]) (args':=[.ip [iv n27,jn.av iR.af r145,py r150,jn.av (lh jC.af) r155] 0 true,iv a1,iv (-1),iv 3]) (R:=IE (⟨n27,r145,r150,r155⟩:nw) a1 (-1) 3) rfl rfl rfl rfl rfl rfl rfl e8 (kH (by show js (freeze true { H108 with iq:=[] } 8) [(iV b7),iv a1,iv (-1),iv 3] = _; simp only [FZ,hz148,hz153,hz158,hz160]) (iN rfl (iN rfl (iN rfl (iN rfl jD))))) (kH eT (iN rfl (iN rfl (iN rfl (iN rfl jD))))) (λh=>t272 (⟨n27,r145,r150,r155⟩:nw) a1 (-1) 3 dj dj h) ?_
 rintro _ ⟨r162,hc161,rfl⟩
 have hC158:=congrArg List.length hc161.1; have hD158:=hc161.2.1; dsimp only at hC158 hD158; have hG158:=Au hc161.1 dl hSg dl hPs hc161.2.2.2.2.2 ⟨hc161.2.2.1,hc161.2.2.2.1,hc161.2.2.2.2.1⟩
 refine iI rfl (λ_=>BI (xs:=[(iG.af r162)]) rfl rfl rfl rfl (Ln (iN rfl (iN rfl (iN rfl (iN (kZ _) (iN (kZ _) (iN (kZ _) (iN (kZ _) (iN (kZ _) (iN rfl jD))))))))) rfl)) ?_
 have hz166:(l46++[r162]).length=l46.length+1:=List.length_append
 refine xP 2 [r162] hS109 λv163 H164 hS165=>?_
 simp only [List.set] at hS165
 refine ab ?_
 refine qe ?_
 refine ⟨_,?_,v41,((l42.set (((l42.length:Int) - 1).toNat) (⟨x95.elem,x95.lN,x78.out⟩:iR))),v43,((l44.set (((l42.length:Int) - 1).toNat) x78.pos)),v163,((l46++[r162])),v47,((l48.set (((l42.length:Int) - 1).toNat) (Row.drop x55 1))),H164,rfl,du,du,dp,fC,fD,fE,hS165,(iO hS165 [(8,2)])⟩
 omega
 refine ct ?_
 refine aq ?_
 refine wz [.ip (iD.af a0) 0 false,iv a1,.la 7 0,v45,(iV b7),.la 14 0] H108 [(7,[iv n25,iv n26]),(14,(iz.af r143))] ?_ (iO hS109 [(8,2)])
 refine aN ?_
 refine qe ?_
 refine ⟨_,?_,v41,((l42.set (((l42.length:Int) - 1).toNat) (⟨x95.elem,x95.lN,x78.out⟩:iR))),v43,((l44.set (((l42.length:Int) - 1).toNat) x78.pos)),v45,l46,v47,((l48.set (((l42.length:Int) - 1).toNat) (Row.drop x55 1))),r143.elem,r143.en,n27,H108,rfl,fR,du,dp,fC,fD,fE,(by first | exact hxg | exact hJg _ (uC dl)),hS109,(iO hS109 [(8,2)])⟩
 (first | omega | (simp only [List.length_set]; omega))
 refine aD ?_
 refine wz [v45] H49 [] ?_ (iO hS50 [(8,2)])
 refine qe ?_
 refine wz [v45] H49 [] ?_ (iO hS50 [(8,2)])
 refine aO ?_
 obtain ⟨r167,hl168,hf169⟩:=lA (H:=H49) (i:=2) (l:=l46) (enc:=iG.af) hS50 rfl dn
 have hlq:=hl168; have hln171:=congrArg List.length hl168
 have hz170:∀ m,freeze false { H49 with iq:=[] } (m+2) v45=some (iT r167):=λm=>hf169 _ _ (λ_=>by simp only [iG.af,js,so,sB,tY,sg,tW])
 exact ⟨v45,(kr (vs:=[v45]) rfl (iN (Sep.arg (i:=2) hS50 rfl) jD)),iT r167,(show freeze false { H49 with iq:=[] } 8 v45=some (iT r167) by simp only [FZ,hz170]),r167,eP,rfl⟩
 refine ap ?_
 refine nU hS29 0 λr172 hl173 hln176 hz175=>?_
 refine nU hS29 1 λr177 hl178 hln181 hz180=>?_
 refine nU hS29 3 λr182 hl183 hln186 hz185=>?_
 have hz187:∀ m,freeze true { H28 with iq:=[] } (m+4) (iV b7)=some (.ip [iv n27,jn.av iR.af r172,py r177,jn.av (lh jC.af) r182] 0 true):=λm=>uO (i:=4) hS29 rfl [] _ (by simp only [FZ,hz175,hz180,hz185]; try rfl)
 refine mR (args:=[(iV b7),iv n25]) (p:=[]) (r:=[]) (args':=[.ip [iv n27,jn.av iR.af r172,py r177,jn.av (lh jC.af) r182] 0 true,iv n25]) (R:=Uk (⟨n27,r172,r177,r182⟩:nw) n25) rfl rfl rfl rfl rfl rfl rfl e8 (kH (by show js (freeze true { H28 with iq:=[] } 8) [(iV b7),iv n25] = _; simp only [FZ,hz175,hz180,hz185,hz187]) (iN rfl (iN rfl jD))) (kH eT (iN rfl (iN rfl jD))) (λh=>t270 (⟨n27,r172,r177,r182⟩:nw) n25  h) ?_
 rintro _ ⟨r189,hc188,rfl⟩
 cases r189
 clear hc188
 refine aB ?_
 exact ⟨v17,l18,v19,l20,v21,l22,v23,l24,H28,du,du,dp,fC,fD,fE,hS29,(RQ hS29 [(8,2)]),rfl⟩
 have hc188t:=hc188 rfl
 dsimp only at hc188t
 refine au ?_
 refine ap ?_
 have hS190:Sep H28 (j8 b7 [iv n27,v17,v19,v23]::lK iR.af 3 v17 l18::lK jL 1 v19 l20::lK (lh jC.af) 1 v23 l24::kW iG.af 9 v21 l22::[]):=Sep.pick hS29 [4,0,1,3,2] 5 dt dt
 refine jQ (H:=H28) (args:=[(iV b7),.ip (iD.af a0) 0 false,.agg [iv n25,iv n26]]) (p:=[]) (r:=[]) rfl rfl rfl rfl rfl rfl rfl (aeU b7 n27 v17 l18 v19 l20 v23 l24 a0 ((⟨n25,n26⟩:iz)) (kW iG.af 9 v21 l22::[]) hS190 dj dj dj) ?_
 rintro _ H191 ⟨vso194,stepso195,vpo196,poso197,vlo198,lefto199,hc193,hS192,rfl⟩
 obtain ⟨hp1,hp2,hpS,hpP,ww,⟨hp3,hpW⟩,hp4⟩:=hc193
 have hSg:=hpS hxg hSg
 have hPs:∀ z9∈poso197,nQ z9:=λz9 hx=>(hpP z9 hx).elim (hPs z9) (λe=>by rw [e]; exact ⟨by decide,by decide⟩)
 have hLf:∀ r∈lefto199,∀ w∈r.l,nQ w.pos:=by rw [hp4]; exact oe (P:=λr:Row jC=>∀ w∈r.l,nQ w.pos) hLf hpW
 have hWp:=TH (l:=l24) (w:=ww) du hp3
 rw [<- hp4,hL3] at hWp
 have hp5:lefto199.length=l24.length+1:=by rw [hp4]; simp
 refine oN ?_
 refine ap ?_
 refine oC (t131 a0 n25) ?_
 rintro _ ⟨r201,hc200,rfl⟩
 have hK:=hc200
 refine jG (λh202=>?_) (λh202=>?_)
 refine au ?_
 refine bv ?_
 refine nU hS192 1 λr203 hl204 hln207 hz206=>?_
 refine nU hS192 2 λr208 hl209 hln212 hz211=>?_
 refine nU hS192 3 λr213 hl214 hln217 hz216=>?_
 have hz218:∀ m,freeze true { H191 with iq:=[] } (m+4) (iV b7)=some (.ip [iv n27,jn.av iR.af r203,py r208,jn.av (lh jC.af) r213] 0 true):=λm=>uO (i:=0) hS192 rfl [] _ (by simp only [FZ,hz206,hz211,hz216]; try rfl)
 refine mR (args:=[(iV b7),iv a1,iv (-1),iv 2]) (p:=[]) (r:=[]) (args':=[.ip [iv n27,jn.av iR.af r203,py r208,jn.av (lh jC.af) r213] 0 true,iv a1,iv (-1),iv 2]) (R:=IE (⟨n27,r203,r208,r213⟩:nw) a1 (-1) 2) rfl rfl rfl rfl rfl rfl rfl e8 (kH (by show js (freeze true { H191 with iq:=[] } 8) [(iV b7),iv a1,iv (-1),iv 2] = _; simp only [FZ,hz206,hz211,hz216,hz218]) (iN rfl (iN rfl (iN rfl (iN rfl jD))))) (kH eT (iN rfl (iN rfl (iN rfl (iN rfl jD))))) (λh=>t272 (⟨n27,r203,r208,r213⟩:nw) a1 (-1) 2 dj dj h) ?_
 rintro _ ⟨r220,hc219,rfl⟩
 have hC158:=congrArg List.length hc219.1; have hD158:=hc219.2.1; dsimp only at hC158 hD158; have hG158:=Au hc219.1 dl hSg dl hPs hc219.2.2.2.2.2 ⟨hc219.2.2.1,hc219.2.2.2.1,hc219.2.2.2.2.1⟩
 refine iI rfl (λ_=>BI (xs:=[(iG.af r220)]) rfl rfl rfl rfl (Ln (iN rfl (iN rfl (iN rfl (iN (kZ _) (iN (kZ _) (iN (kZ _) (iN (kZ _) (iN (kZ _) (iN rfl jD))))))))) rfl)) ?_
 have hz224:(l22++[r220]).length=l22.length+1:=List.length_append
 refine xP 4 [r220] hS192 λv221 H222 hS223=>?_
 simp only [List.set] at hS223
 refine ab ?_
 have hS225:Sep H222 (lK iR.af 3 vso194 stepso195::lK jL 1 vpo196 poso197::kW iG.af 9 v221 (l22++[r220])::lK (lh jC.af) 1 vlo198 lefto199::j8 b7 [iv n27,vso194,vpo196,vlo198]::[]):=Sep.pick hS223 [1,2,4,3,0] 5 dt dt
 exact ⟨vso194,stepso195,vpo196,poso197,v221,((l22++[r220])),vlo198,lefto199,H222,du,du,dp,fC,fD,fE,hS225,(RQ hS225 [(8,2)]),rfl⟩
 refine aB ?_
 have hS226:Sep H191 (lK iR.af 3 vso194 stepso195::lK jL 1 vpo196 poso197::kW iG.af 9 v21 l22::lK (lh jC.af) 1 vlo198 lefto199::j8 b7 [iv n27,vso194,vpo196,vlo198]::[]):=Sep.pick hS192 [1,2,4,3,0] 5 dt dt
 exact ⟨vso194,stepso195,vpo196,poso197,v21,l22,vlo198,lefto199,H191,du,du,dp,fC,fD,fE,hS226,(RQ hS226 [(8,2)]),rfl⟩
def s52 {H:aT} (nn:iD) (F:List jH) (hS:Sep H F) (q1:nn.p.signals.l.length<=60) (hJg:∀ y∈univ nn,pC nn.p y):∃ v H',iZ cfg FT jx true 100 [.ip (iD.af nn) 0 false] { H with iq:=[] } v H'/\(∃ ov:AV,∃ ol:List iG,∃ eo:Int,((∀ r∈(ol:List iG),0<r.steps.l.length/\r.steps.l.length<=12/\r.jK.l.length<=12/\lV nn.p r)/\ol.length<=64)/\Sep H' (kW iG.af 9 ov ol::F)/\v=.je [ov,iv eo]):=by
 refine kP Jb ?_
 refine aN ?_
 refine bo ?_
 refine oC (t192 nn) ?_
 rintro _ ⟨r2,hc1,rfl⟩
 have hC91:=hc1
 refine aG ?_
 have hS3:=Sep.lX hS 9
 refine iL ((r2).toNat) (λk4 e h=>∃ v5:AV,∃ l6:List iG,∃ H7:aT,(l6.length<=8192*k4)/\((∀ r∈(l6:List iG),0<r.steps.l.length/\r.steps.l.length<=12/\r.jK.l.length<=12/\lV nn.p r))/\Sep H7 (kW iG.af 9 v5 l6::F)/\At [0,4,7,8] [.ip (iD.af nn) 0 false,v5,iv r2,cb k4] H7 [] e h) ?_ (k0:=0) du ⟨iJ,(([]:List iG)),H,eH,eH,hS3,atR⟩
 rintro k4 e h hkk4 ⟨v5,l6,H7,hI,hR,hS8,hA⟩
 refine aF ?_
 refine iX (λh9=>?_) (λh9=>?_)
 refine ak ?_
 refine wz [.ip (iD.af nn) 0 false,v5,iv r2,cb k4] H7 [] ?_ (iO hS8 [(4,0)])
 refine bH ?_
 refine bv ?_
 refine oC (t193 nn ((k4:Int)) dj) ?_
 rintro _ ⟨r11,hc10,rfl⟩
 have hL12:=r11.lk
 refine xP 0 r11.l hS8 λv13 H14 hS15=>?_
 refine ab ?_
 refine wz [.ip (iD.af nn) 0 false,v13,iv r2,cb k4] H14 [] ?_ (iO hS15 [(4,0)])
 refine qg ?_
 refine jd ?_
 refine ab ?_
 exact ⟨by omega,v13,((l6++r11.l)),H14,(by (simp<;>omega)),(by exact Tz hR (by simp_all)),hS15,(iO hS15 [(4,0)])⟩
 refine ai ?_
 refine wz [v5] H7 [] ?_ (iO hS8 [(4,0)])
 refine ao ?_
 refine iI rfl (λ_=>mZ (H:=H7) (i:=0) (l:=l6) (enc:=iG.af) hS8 rfl rfl rfl rfl rfl rfl rfl) ?_
 refine ki (λh16=>?_) (λh16=>?_)
 refine ci ?_
 have hS17:=Sep.lX hS8 9
 have hS18:=Sep.pick hS17 [0] 2 dt dt
 exact ⟨.je [iJ,iv 3],rfl,iJ,([]:List iG),3,fJ,Sep.iq hS18 _,rfl⟩
 refine aB ?_
 refine wz [v5] H7 [] ?_ (iO hS8 [(4,0)])
 refine a6 ?_
 have hS19:=Sep.pick hS8 [0] 1 dt dt
 exact ⟨.je [v5,iv 0],(kr (vs:=[v5,iv 0]) rfl (iN (Sep.arg (i:=0) hS8 rfl) (iN rfl jD))),v5,l6,0,fJ,Sep.iq hS19 _,rfl⟩
def afd (_a0:jn Int) (_a1:Int) (v:AV):Prop:=∃ r0:Int,(((0<=r0->_a1∈_a0.l)/\(r0<0->_a1∉_a0.l)))/\v=iv r0
def t134 (a0:jn Int) (a1:Int) :Ct 134 [py a0,iv a1] (afd a0 a1):=by
 refine iY JX ?_
 refine bo ?_
 have hL1:=a0.lk
 refine iI rfl (λ_=>qE (r:=a0) (enc:=jL) rfl rfl rfl rfl rfl rfl) ?_
 refine aG ?_
 have hNk2:=a0.lk
 refine iL a0.l.length (λk2 e h=>(∀ (i:Nat) (h:i<a0.l.length),i<k2->¬ a0.l[i]=a1)/\At [0,1,7,8] [py a0,iv a1,cb a0.l.length,cb k2] aT.empty [] e h) ?_ (k0:=0) du ⟨ee,atR⟩
 rintro k2 e h hkk2 ⟨hU,hA⟩
 refine aF ?_
 refine iX (λh3=>?_) (λh3=>?_)
 refine ak ?_
 refine bH ?_
 refine ap ?_
 have hx4:k2<a0.l.length:=by omega
 refine iI rfl (λ_=>qV (n:=k2) (r:=a0) (enc:=jL) rfl rfl rfl rfl rfl hx4 rfl) ?_
 generalize hqx5:a0.l[k2]=x5
 refine oV ?_
 refine jG (λh6=>?_) (λh6=>?_)
 refine ci ?_
 exact xB ⟨((k2:Int)),fw,rfl⟩
 refine cq ?_
 refine jd ?_
 refine ab ?_
 exact ⟨by omega,fU,atR⟩
 refine cQ ?_
 exact xB ⟨(-1),fw,rfl⟩
def VP (_a0:jn Int) (_a1:Int) (v:AV):Prop:=∃ r0:Bool,(((r0=true->_a1∈_a0.l)/\(r0=false->_a1∉_a0.l)))/\v=.bool r0
def t63 (a0:jn Int) (a1:Int) :Ct 63 [py a0,iv a1] (VP a0 a1):=by
 refine iY NF ?_
 refine cP ?_
 refine oC (t134 a0 a1) ?_
 rintro _ ⟨r2,hc1,rfl⟩
 have hIx:=hc1
 refine lI (λh3=>?_) (λh3=>?_)
 refine ag ?_
 exact xB ⟨true,fi,rfl⟩
 refine ag ?_
 exact xB ⟨false,fi,rfl⟩
def afG (_a0:iD) (v:AV):Prop:=∃ r0:bY,(r0.elems.l = _a0.p.elems.l/\r0.iQ.l = _a0.p.iQ.l/\r0.signals.l = _a0.p.signals.l/\r0.lines.l.length = _a0.p.lines.l.length/\(∀ x∈r0.lines.l,x.elems.l.length<=60)/\r0 = _a0.p.canon)/\v=.agg (bY.af r0)
def t102 (a0:iD) (q1:lD a0.p):Ct 102 [.ip (iD.af a0) 0 false] (afG a0):=by
 refine iY Jn ?_
 refine ah ?_
 refine aR ?_
 refine oC (t82 a0.p dj) ?_
 rintro _ ⟨r2,hc1,rfl⟩
 have hC90:=hc1
 refine ag ?_
 exact xG ⟨r2,dl,rfl⟩
def adR (_a0:jn iu) (v:AV):Prop:=∃ r0:Row iu,(r0.l = _a0.l)/\v=jf r0
def t195 (a0:jn iu) (q1:a0.l.length<=1000):Ct 195 [jn.av iu.af a0] (adR a0):=by
 refine iY JL ?_
 refine bo ?_
 refine kY (b:=a0.isNil) rfl (λ_=>qH rfl rfl rfl rfl) (λh1=>?_) (λh1=>?_)
 refine be ?_
 exact xG ⟨(kF:Row iu),eN,rfl⟩
 refine aB ?_
 refine ae ?_
 have hS2:=Sep.s8 jW 2
 refine jt rfl (kq (i:=0) (l:=([]:List iu)) (enc:=iu.af) a0.l hS2 rfl rfl rfl rfl rfl rfl rfl rfl rfl (λ_=>rfl) (.inl rfl) dy (λ_=>rfl)) ?_
 rintro v3 H4 hS5
 refine ag ?_
 obtain ⟨r6,hl7,hf8⟩:=lA (H:=H4) (i:=0) (l:=(([]:List iu)++a0.l)) (enc:=iu.af) hS5 rfl dn
 have hlq:=hl7; have hln10:=congrArg List.length hl7
 have hz9:∀ m,freeze false { H4 with iq:=[] } (m+2) v3=some (jf r6):=λm=>hf8 _ _ (λ_=>rfl)
 exact ⟨v3,(kr (vs:=[v3]) rfl (iN (Sep.arg (i:=0) hS5 rfl) jD)),jf r6,(show freeze false { H4 with iq:=[] } 8 v3=some (jf r6) by simp only [FZ,hz9]),r6,eN,rfl⟩
def afK (_a0:iD) (_a1:iG) (v:AV):Prop:=∃ r0:Row iz,(r0.l.length<=2 * _a1.steps.l.length)/\v=pT r0
def t196 (a0:iD) (a1:iG) (q1:a1.steps.l.length<=12):Ct 196 [.ip (iD.af a0) 0 false,.agg (iG.af a1)] (afK a0 a1):=by
 refine iY IF ?_
 refine aN ?_
 refine ah ?_
 refine aH ?_
 have hL1:=a1.steps.lk
 refine jy a1.steps ?_
 refine aG ?_
 have hS2:=Sep.lX jW 2
 have hNk3:=a1.steps.lk
 refine iL a1.steps.l.length (λk3 e h=>∃ v4:AV,∃ l5:List iz,∃ H6:aT,(l5.length<=2*k3)/\Sep H6 (kW iz.af 2 v4 l5::[])/\At [0,5,16,17,18] [.ip (iD.af a0) 0 false,v4,jc a1.steps,cb a1.steps.l.length,cb k3] H6 [] e h) ?_ (k0:=0) du ⟨iJ,(([]:List iz)),aT.empty,eH,hS2,atR⟩
 rintro k3 e h hkk3 ⟨v4,l5,H6,hI,hS7,hA⟩
 refine aF ?_
 refine iX (λh8=>?_) (λh8=>?_)
 refine ak ?_
 refine wz [.ip (iD.af a0) 0 false,v4,jc a1.steps,cb a1.steps.l.length,cb k3] H6 [] ?_ (iO hS7 [(5,0)])
 refine bc ?_
 have hx9:k3<a1.steps.l.length:=by omega
 refine kM k3 a1.steps hx9 ?_
 generalize hqx10:a1.steps.l[k3]=x10
 refine aS ?_
 refine ah ?_
 refine aV ?_
 refine oC (t131 a0 x10.elem) ?_
 rintro _ ⟨r12,hc11,rfl⟩
 have hK:=hc11
 refine cz ?_
 refine jG (λh13=>?_) (λh13=>?_)
 refine aE ?_
 refine aa ?_
 refine az ?_
 refine aI ?_
 refine iI rfl (λ_=>kj rfl rfl rfl (pb .i64 3 ((if x10.out > x10.lN then x10.out else x10.lN)))) ?_
 refine bb ?_
 refine wz [.ip (iD.af a0) 0 false,v4,.la 7 0,.sl [[iv (IntKind.i64.wrap (3 - ((if x10.out > x10.lN then x10.out else x10.lN))))]] (.exact 1),jc a1.steps,cb a1.steps.l.length,cb k3] H6 [(7,(iR.af x10))] ?_ (iO hS7 [(5,0)])
 refine ae ?_
 refine aG ?_
 refine iL 1 (λot e h=>∃ v15:AV,∃ l16:List iz,∃ H17:aT,(l16.length<=l5.length+ot)/\Sep H17 (kW iz.af 2 v15 l16::[])/\At [0,5,7,16,17,18,43,44,45] [.ip (iD.af a0) 0 false,v15,.la 7 0,jc a1.steps,cb a1.steps.l.length,cb k3,.sl [[iv (IntKind.i64.wrap (3 - ((if x10.out > x10.lN then x10.out else x10.lN))))]] (.exact 1),iv 1,cb ot] H17 [(7,(iR.af x10))] e h) ?_ (k0:=0) du ⟨v4,l5,H6,d3,hS7,(iO hS7 [(5,0)])⟩
 rintro ot e h hkk14 ⟨v15,l16,H17,hl19,hS18,hA⟩
 refine aF ?_
 refine iX (λh20=>?_) (λh20=>?_)
 refine ak ?_
 refine wz [.ip (iD.af a0) 0 false,v15,.la 7 0,jc a1.steps,cb a1.steps.l.length,cb k3,.sl [[iv (IntKind.i64.wrap (3 - ((if x10.out > x10.lN then x10.out else x10.lN))))]] (.exact 1),iv 1,cb ot] H17 [(7,(iR.af x10))] ?_ (iO hS18 [(5,0)])
 refine bc ?_
 have hx21:ot<(⟨[(IntKind.i64.wrap (3 - ((if x10.out > x10.lN then x10.out else x10.lN))))],.exact 1,qx,rfl,nd⟩:Row Int).l.length:=by show ot<1; omega
 refine iI rfl (λ_=>wh (n:=ot) (r:=(⟨[(IntKind.i64.wrap (3 - ((if x10.out > x10.lN then x10.out else x10.lN))))],.exact 1,qx,rfl,nd⟩:Row Int)) (enc:=jL) rfl rfl rfl rfl rfl hx21 rfl) ?_
 generalize hqx22:(⟨[(IntKind.i64.wrap (3 - ((if x10.out > x10.lN then x10.out else x10.lN))))],.exact 1,qx,rfl,nd⟩:Row Int).l[ot]=x22
 refine bb ?_
 refine ap ?_
 refine cN ?_
 refine oC (t197 a0 (⟨x10.elem,x22⟩:iz)) ?_
 rintro _ ⟨r24,r25,hc23,rfl⟩
 have hN:=hc23
 cases r25
 refine cG ?_
 refine aq ?_
 refine wz [.ip (iD.af a0) 0 false,v15,.la 7 0,jc a1.steps,cb a1.steps.l.length,cb k3,.sl [[iv (IntKind.i64.wrap (3 - ((if x10.out > x10.lN then x10.out else x10.lN))))]] (.exact 1),iv 1,cb ot] H17 [(7,(iR.af x10))] ?_ (iO hS18 [(5,0)])
 refine qg ?_
 refine jd ?_
 refine ab ?_
 exact ⟨by omega,v15,l16,H17,dm,hS18,(iO hS18 [(5,0)])⟩
 refine cG ?_
 refine aE ?_
 refine bv ?_
 refine xP 0 [(⟨x10.elem,x22⟩:iz)] hS18 λv26 H27 hS28=>?_
 refine ab ?_
 refine wz [.ip (iD.af a0) 0 false,v26,.la 7 0,jc a1.steps,cb a1.steps.l.length,cb k3,.sl [[iv (IntKind.i64.wrap (3 - ((if x10.out > x10.lN then x10.out else x10.lN))))]] (.exact 1),iv 1,cb ot] H27 [(7,(iR.af x10))] ?_ (iO hS28 [(5,0)])
 refine qg ?_
 refine jd ?_
 refine ab ?_
 exact ⟨by omega,v26,((l16++[(⟨x10.elem,x22⟩:iz)])),H27,dm,hS28,(iO hS28 [(5,0)])⟩
 refine ai ?_
 refine wz [.ip (iD.af a0) 0 false,v15,jc a1.steps,cb a1.steps.l.length,cb k3] H17 [] ?_ (iO hS18 [(5,0)])
 refine qg ?_
 refine jd ?_
 refine ab ?_
 exact ⟨by omega,v15,l16,H17,dq,hS18,(iO hS18 [(5,0)])⟩
 refine ba ?_
 refine jG (λh29=>?_) (λh29=>?_)
 refine aE ?_
 refine aN ?_
 refine ae ?_
 refine ki (λh30=>?_) (λh30=>?_)
 refine au ?_
 refine qg ?_
 refine bb ?_
 refine wz [.ip (iD.af a0) 0 false,v4,.la 7 0,.sl [[iv 0],[iv 1]] (.exact 2),jc a1.steps,cb a1.steps.l.length,cb k3] H6 [(7,(iR.af x10))] ?_ (iO hS7 [(5,0)])
 refine ae ?_
 refine aG ?_
 refine iL 2 (λmE e h=>∃ v32:AV,∃ l33:List iz,∃ H34:aT,(l33.length<=l5.length+mE)/\Sep H34 (kW iz.af 2 v32 l33::[])/\At [0,5,7,16,17,18,43,44,45] [.ip (iD.af a0) 0 false,v32,.la 7 0,jc a1.steps,cb a1.steps.l.length,cb k3,.sl [[iv 0],[iv 1]] (.exact 2),iv 2,cb mE] H34 [(7,(iR.af x10))] e h) ?_ (k0:=0) du ⟨v4,l5,H6,d3,hS7,(iO hS7 [(5,0)])⟩
 rintro mE e h hkk31 ⟨v32,l33,H34,hl36,hS35,hA⟩
 refine aF ?_
 refine iX (λh37=>?_) (λh37=>?_)
 refine ak ?_
 refine wz [.ip (iD.af a0) 0 false,v32,.la 7 0,jc a1.steps,cb a1.steps.l.length,cb k3,.sl [[iv 0],[iv 1]] (.exact 2),iv 2,cb mE] H34 [(7,(iR.af x10))] ?_ (iO hS35 [(5,0)])
 refine bc ?_
 have hx38:mE<(⟨[0,1],.exact 2,qx,rfl,nd⟩:Row Int).l.length:=by show mE<2; omega
 refine iI rfl (λ_=>wh (n:=mE) (r:=(⟨[0,1],.exact 2,qx,rfl,nd⟩:Row Int)) (enc:=jL) rfl rfl rfl rfl rfl hx38 rfl) ?_
 generalize hqx39:(⟨[0,1],.exact 2,qx,rfl,nd⟩:Row Int).l[mE]=x39
 refine bb ?_
 refine ap ?_
 refine cN ?_
 refine oC (t197 a0 (⟨x10.elem,x39⟩:iz)) ?_
 rintro _ ⟨r41,r42,hc40,rfl⟩
 have hN:=hc40
 cases r42
 refine cG ?_
 refine aq ?_
 refine wz [.ip (iD.af a0) 0 false,v32,.la 7 0,jc a1.steps,cb a1.steps.l.length,cb k3,.sl [[iv 0],[iv 1]] (.exact 2),iv 2,cb mE] H34 [(7,(iR.af x10))] ?_ (iO hS35 [(5,0)])
 refine qg ?_
 refine jd ?_
 refine ab ?_
 exact ⟨by omega,v32,l33,H34,dm,hS35,(iO hS35 [(5,0)])⟩
 refine cG ?_
 refine aE ?_
 refine bv ?_
 refine xP 0 [(⟨x10.elem,x39⟩:iz)] hS35 λv43 H44 hS45=>?_
 refine ab ?_
 refine wz [.ip (iD.af a0) 0 false,v43,.la 7 0,jc a1.steps,cb a1.steps.l.length,cb k3,.sl [[iv 0],[iv 1]] (.exact 2),iv 2,cb mE] H44 [(7,(iR.af x10))] ?_ (iO hS45 [(5,0)])
 refine qg ?_
 refine jd ?_
 refine ab ?_
 exact ⟨by omega,v43,((l33++[(⟨x10.elem,x39⟩:iz)])),H44,dm,hS45,(iO hS45 [(5,0)])⟩
 refine ai ?_
 refine wz [.ip (iD.af a0) 0 false,v32,jc a1.steps,cb a1.steps.l.length,cb k3] H34 [] ?_ (iO hS35 [(5,0)])
 refine qg ?_
 refine jd ?_
 refine ab ?_
 exact ⟨by omega,v32,l33,H34,dq,hS35,(iO hS35 [(5,0)])⟩
 refine aB ?_
 refine wz [.ip (iD.af a0) 0 false,v4,.la 7 0,.sl [[iv 2],[iv 3]] (.exact 2),jc a1.steps,cb a1.steps.l.length,cb k3] H6 [(7,(iR.af x10))] ?_ (iO hS7 [(5,0)])
 refine ae ?_
 refine aG ?_
 refine iL 2 (λmr e h=>∃ v47:AV,∃ l48:List iz,∃ H49:aT,(l48.length<=l5.length+mr)/\Sep H49 (kW iz.af 2 v47 l48::[])/\At [0,5,7,16,17,18,43,44,45] [.ip (iD.af a0) 0 false,v47,.la 7 0,jc a1.steps,cb a1.steps.l.length,cb k3,.sl [[iv 2],[iv 3]] (.exact 2),iv 2,cb mr] H49 [(7,(iR.af x10))] e h) ?_ (k0:=0) du ⟨v4,l5,H6,d3,hS7,(iO hS7 [(5,0)])⟩
 rintro mr e h hkk46 ⟨v47,l48,H49,hl51,hS50,hA⟩
 refine aF ?_
 refine iX (λh52=>?_) (λh52=>?_)
 refine ak ?_
 refine wz [.ip (iD.af a0) 0 false,v47,.la 7 0,jc a1.steps,cb a1.steps.l.length,cb k3,.sl [[iv 2],[iv 3]] (.exact 2),iv 2,cb mr] H49 [(7,(iR.af x10))] ?_ (iO hS50 [(5,0)])
 refine bc ?_
 have hx53:mr<(⟨[2,3],.exact 2,qx,rfl,nd⟩:Row Int).l.length:=by show mr<2; omega
 refine iI rfl (λ_=>wh (n:=mr) (r:=(⟨[2,3],.exact 2,qx,rfl,nd⟩:Row Int)) (enc:=jL) rfl rfl rfl rfl rfl hx53 rfl) ?_
 generalize hqx54:(⟨[2,3],.exact 2,qx,rfl,nd⟩:Row Int).l[mr]=x54
 refine bb ?_
 refine ap ?_
 refine cN ?_
 refine oC (t197 a0 (⟨x10.elem,x54⟩:iz)) ?_
 rintro _ ⟨r56,r57,hc55,rfl⟩
 have hN:=hc55
 cases r57
 refine cG ?_
 refine aq ?_
 refine wz [.ip (iD.af a0) 0 false,v47,.la 7 0,jc a1.steps,cb a1.steps.l.length,cb k3,.sl [[iv 2],[iv 3]] (.exact 2),iv 2,cb mr] H49 [(7,(iR.af x10))] ?_ (iO hS50 [(5,0)])
 refine qg ?_
 refine jd ?_
 refine ab ?_
 exact ⟨by omega,v47,l48,H49,dm,hS50,(iO hS50 [(5,0)])⟩
 refine cG ?_
 refine aE ?_
 refine bv ?_
 refine xP 0 [(⟨x10.elem,x54⟩:iz)] hS50 λv58 H59 hS60=>?_
 refine ab ?_
 refine wz [.ip (iD.af a0) 0 false,v58,.la 7 0,jc a1.steps,cb a1.steps.l.length,cb k3,.sl [[iv 2],[iv 3]] (.exact 2),iv 2,cb mr] H59 [(7,(iR.af x10))] ?_ (iO hS60 [(5,0)])
 refine qg ?_
 refine jd ?_
 refine ab ?_
 exact ⟨by omega,v58,((l48++[(⟨x10.elem,x54⟩:iz)])),H59,dm,hS60,(iO hS60 [(5,0)])⟩
 refine ai ?_
 refine wz [.ip (iD.af a0) 0 false,v47,jc a1.steps,cb a1.steps.l.length,cb k3] H49 [] ?_ (iO hS50 [(5,0)])
 refine qg ?_
 refine jd ?_
 refine ab ?_
 exact ⟨by omega,v47,l48,H49,dq,hS50,(iO hS50 [(5,0)])⟩
 refine aq ?_
 refine wz [.ip (iD.af a0) 0 false,v4,.la 7 0,iJ,jc a1.steps,cb a1.steps.l.length,cb k3] H6 [(7,(iR.af x10))] ?_ (iO hS7 [(5,0)])
 refine ae ?_
 refine aG ?_
 refine iL 0 (λrD e h=>At [0,5,7,16,17,18,43,44,45] [.ip (iD.af a0) 0 false,v4,.la 7 0,jc a1.steps,cb a1.steps.l.length,cb k3,iJ,iv 0,cb rD] H6 [(7,(iR.af x10))] e h) ?_ (k0:=0) du (iO hS7 [(5,0)])
 rintro rD e h hkk61 hA
 refine aF ?_
 refine iX (λh62=>?_) (λh62=>?_)
 refine ak ?_
 refine wz [.ip (iD.af a0) 0 false,v4,.la 7 0,jc a1.steps,cb a1.steps.l.length,cb k3,iJ,iv 0,cb rD] H6 [(7,(iR.af x10))] ?_ (iO hS7 [(5,0)])
 refine bc ?_
 exfalso; omega
 refine ai ?_
 refine wz [.ip (iD.af a0) 0 false,v4,jc a1.steps,cb a1.steps.l.length,cb k3] H6 [] ?_ (iO hS7 [(5,0)])
 refine qg ?_
 refine jd ?_
 refine ab ?_
 exact ⟨by omega,v4,l5,H6,dq,hS7,(iO hS7 [(5,0)])⟩
 refine ai ?_
 refine wz [v4] H6 [] ?_ (iO hS7 [(5,0)])
 refine aO ?_
 obtain ⟨r63,hl64,hf65⟩:=lA (H:=H6) (i:=0) (l:=l5) (enc:=iz.af) hS7 rfl dn
 have hlq:=hl64; have hln67:=congrArg List.length hl64
 have hz66:∀ m,freeze false { H6 with iq:=[] } (m+2) v4=some (pT r63):=λm=>hf65 _ _ (λ_=>rfl)
 exact ⟨v4,(kr (vs:=[v4]) rfl (iN (Sep.arg (i:=0) hS7 rfl) jD)),pT r63,(show freeze false { H6 with iq:=[] } 8 v4=some (pT r63) by simp only [FZ,hz66]),r63,(by first | omega | (simp_all; omega)),rfl⟩
def Lz {H:aT} (el:Int) (en:Int) (bn:Nat) (nn:iD) (bt:Nat) (vt:AV) (todo:List iz) (F:List jH) (hS:Sep H (j8 bn [.ip (iD.af nn) 0 false]::j8 bt [vt]::lK iz.af 2 vt todo::F)) (q1:todo.length<=2000):∃ v H',iZ cfg FT jx true 198 [iv el,iv en,(iV bn),(iV bt)] { H with iq:=[] } v H'/\(∃ vto:AV,∃ todoo:List iz,(todoo.length<=todo.length+1/\∀ y∈todoo,y∈todo\/y∈univ nn)/\Sep H' (j8 bn [.ip (iD.af nn) 0 false]::j8 bt [vto]::lK iz.af 2 vto todoo::F)/\v=.je []):=by
 refine kP J0 ?_
 refine aa ?_
 refine mH 0 hS (.ip (iD.af nn) 0 false) ?_
 refine aC ?_
 refine oC (t197 nn (⟨el,en⟩:iz)) ?_
 rintro _ ⟨r2,r3,hc1,rfl⟩
 have hN:=hc1
 cases r3
 refine cG ?_
 refine aq ?_
 have hS4:=Sep.pick hS [0,1,2] 3 dt dt
 exact ⟨.je [],rfl,vt,todo,eX,Sep.iq hS4 _,rfl⟩
 refine cG ?_
 refine aE ?_
 refine qg ?_
 refine mH 1 hS vt ?_
 refine am ?_
 refine jt rfl (kq (H:=H) (i:=2) (l:=todo) (enc:=iz.af) [r2] hS rfl rfl rfl rfl rfl rfl rfl rfl rfl (λ_=>rfl) (.inr rfl) dy (λ_=>rfl)) ?_
 rintro v5 H6 hS7
 refine jt rfl (mP (H:=H6) (i:=1) (o:=0) (r:=v5) hS7 rfl rfl rfl rfl (nN rfl rfl (Sep.cell (i:=2) hS7 rfl)) (iN (Sep.cell (i:=2) hS7 rfl) jD) rfl) ?_
 rintro _ H8 ⟨rfl,hS9⟩
 refine oN ?_
 have hS10:=Sep.pick hS9 [0,1,2] 3 dt dt
 exact ⟨.je [],rfl,v5,(todo++[r2]),eX,Sep.iq hS10 _,rfl⟩
def VT (_a0:sZ) (_a1:Int) (v:AV):Prop:=∃ r0:Bool,(True)/\v=.bool r0
def t199 (a0:sZ) (a1:Int) :Ct 199 [.agg (sZ.af a0),iv a1] (VT a0 a1):=by
 refine iY Iy ?_
 refine aj ?_
 refine jt (H:=aT.empty) rfl (wb jW rfl rfl rfl rfl rfl) ?_
 rintro _ H2 ⟨b1,rfl,hS3⟩
 refine ab ?_
 refine ae ?_
 refine iI rfl (λ_=>w4 rfl rfl (xI rfl rfl)) ?_
 have hS4:Sep H2 (j8 b1 [iv a1]::[]):=Sep.pick hS3 [0] 1 dt dt
 refine jQ (H:=H2) (args:=[jn.av iR.af a0.steps,.jz 275 [] [(iV b1)]]) (p:=[]) (r:=[]) rfl rfl rfl rfl rfl rfl rfl (MV a0.steps b1 a1 ([]) hS4) ?_
 rintro _ H5 ⟨r8,hc7,hS6,rfl⟩
 cases r8
 refine ag ?_
 exact ge
 refine ag ?_
 exact gh
def QD {H:aT} (b:Nat) (f0:Int) (f1:Int) (f2:Int) (steps:Row iR) (jK:Row iu) (vg:AV) (guards:List iu) (vz:AV) (my:List Int) (vh:AV) (holds:List Int) (bare:Bool) (el:Int) (F:List jH) (hS:Sep H (j8 b [iv f0,iv f1,iv f2,jc steps,jf jK,vg,vz,vh,.bool bare]::kW iu.af 2 vg guards::qt vz my::qt vh holds::F)) (q1:my.length<=12):∃ v H',iZ cfg FT jx true 200 [(iV b),iv el] { H with iq:=[] } v H'/\(∃ r0:Bool,∃ vzo:AV,∃ zoneo:List Int,∃ bareo:Bool,(zoneo.length<=12/\∀ x∈zoneo,x∈my\/x=el)/\Sep H' (j8 b [iv f0,iv f1,iv f2,jc steps,jf jK,vg,vzo,vh,.bool bareo]::kW iu.af 2 vg guards::qt vzo zoneo::qt vh holds::F)/\v=.bool r0):=by
 refine kP Jd ?_
 refine bo ?_
 refine bi ?_
 refine oV ?_
 refine nU hS 2 λr1 hl2 hln5 hz4=>?_
 refine mR (args:=[vz,iv el]) (p:=[]) (r:=[]) (args':=[py r1,iv el]) (R:=VP r1 el) rfl rfl rfl rfl rfl (iN (Sep.arg (i:=2) hS rfl) (iN rfl jD)) rfl e8 (kH (by show js (freeze true { H with iq:=[] } 8) [vz,iv el] = _; simp only [FZ,hz4]) (iN (Sep.oW (i:=2) hS rfl) (iN rfl jD))) (kH eT (iN rfl (iN rfl jD))) (λh=>t63 r1 el  h) ?_
 rintro _ ⟨r7,hc6,rfl⟩
 have hIn:=hc6
 cases r7
 refine aB ?_
 refine wz [(iV b),iv el] H [] ?_
 refine ao ?_
 refine bi ?_
 refine iI rfl (λ_=>mZ (i:=2) (l:=my) (enc:=jL) hS rfl rfl rfl rfl rfl rfl rfl) ?_
 refine lI (λh8=>?_) (λh8=>?_)
 refine au ?_
 refine aj ?_
 refine bg ?_
 refine jt rfl (mP (i:=0) (o:=8) (r:=.bool true) hS rfl rfl rfl rfl rfl rfl rfl) ?_
 rintro _ H9 ⟨rfl,hS10⟩
 refine oN ?_
 refine aA ?_
 have hS11:=Sep.pick hS10 [0,1,2,3] 4 dt dt
 exact ⟨.bool false,rfl,false,vz,my,true,eF,Sep.iq hS11 _,rfl⟩
 refine aB ?_
 refine wz [(iV b),iv el] H [] ?_
 refine ae ?_
 refine bi ?_
 refine am ?_
 refine jt rfl (kq (i:=2) (l:=my) (enc:=jL) [el] hS rfl rfl rfl rfl rfl rfl rfl rfl rfl (λ_=>rfl) (.inl rfl) dy (λ_=>rfl)) ?_
 rintro v12 H13 hS14
 refine iI rfl (λ_=>pN (i:=0) hS14 rfl rfl) ?_
 refine iI rfl (λ_=>pe (i:=0) hS14 rfl rfl rfl rfl rfl) ?_
 refine jt rfl (mP (i:=0) (o:=6) (r:=v12) hS14 rfl rfl rfl rfl (nN rfl rfl (Sep.cell (i:=2) hS14 rfl)) (iN (Sep.cell (i:=2) hS14 rfl) jD) rfl) ?_
 rintro _ H15 ⟨rfl,hS16⟩
 refine oN ?_
 refine aA ?_
 have hS17:=Sep.pick hS16 [0,1,2,3] 4 dt dt
 exact ⟨.bool true,rfl,true,v12,(my++[el]),bare,eF,Sep.iq hS17 _,rfl⟩
 refine be ?_
 have hS18:=Sep.pick hS [0,1,2,3] 4 dt dt
 exact ⟨.bool true,rfl,true,vz,my,bare,eF,Sep.iq hS18 _,rfl⟩
def aes (_a0:jn iu) (_a1:iu) (v:AV):Prop:=∃ r0:Int,(True)/\v=iv r0
def t276 (a0:jn iu) (a1:iu) :Ct 276 [jn.av iu.af a0,.agg (iu.af a1)] (aes a0 a1):=by
 refine iY I6 ?_
 refine aN ?_
 refine ao ?_
 have hL1:=a0.lk
 refine iI rfl (λ_=>qE (r:=a0) (enc:=iu.af) rfl rfl rfl rfl rfl rfl) ?_
 refine aG ?_
 have hNk2:=a0.lk
 refine iL a0.l.length (λk2 e h=>At [0,3,7,8] [jn.av iu.af a0,.la 3 0,cb a0.l.length,cb k2] aT.empty [(3,(iu.af a1))] e h) ?_ (k0:=0) du atR
 rintro k2 e h hkk2 hA
 refine aF ?_
 refine iX (λh3=>?_) (λh3=>?_)
 refine ak ?_
 refine bH ?_
 refine ck ?_
 have hx4:k2<a0.l.length:=by omega
 refine iU rfl rfl (λ_=>qV (n:=k2) (r:=a0) (enc:=iu.af) rfl rfl rfl rfl rfl hx4 rfl) ?_
 generalize hqx5:a0.l[k2]=x5
 refine rV ?_
 refine mC rfl rfl (λ_=>rG rfl rfl rfl (λ_ _=>rfl)) (λh6=>?_) (λh6=>?_)
 refine bL ?_
 refine aO ?_
 exact xB ⟨((k2:Int)),zt⟩
 refine bO ?_
 refine qg ?_
 refine jd ?_
 refine ab ?_
 exact gf
 refine cQ ?_
 exact xB ⟨(-1),zt⟩
def OB (_a0:jn iu) (_a1:iu) (v:AV):Prop:=∃ r0:Bool,(True)/\v=.bool r0
def t201 (a0:jn iu) (a1:iu) :Ct 201 [jn.av iu.af a0,.agg (iu.af a1)] (OB a0 a1):=by
 refine iY JU ?_
 refine aN ?_
 refine ae ?_
 refine oC (t276 a0 a1) ?_
 rintro _ ⟨r2,hc1,rfl⟩
 refine lI (λh3=>?_) (λh3=>?_)
 refine ag ?_
 exact gh
 refine ag ?_
 exact ge
def afe (_a0:iD) (_a1:Int) (_a2:Int) (_a3:Int) (v:AV):Prop:=∃ r0:Int,∃ r1:Bool,(True)/\v=.je [iv r0,.bool r1]
def t277 (a0:iD) (a1:Int) (a2:Int) (a3:Int) :Ct 277 [.ip (iD.af a0) 0 false,iv a1,iv a2,iv a3] (afe a0 a1 a2 a3):=by
 refine iY JS ?_
 refine aN ?_
 refine aV ?_
 refine oC (t307 a0 a1 a2) ?_
 rintro _ ⟨r2,hc1,rfl⟩
 have hL3:=r2.lk
 refine jy r2 ?_
 refine aG ?_
 have hNk4:=r2.lk
 refine iL r2.l.length (λk4 e h=>At [3,15,16,17] [iv a3,uh r2,cb r2.l.length,cb k4] aT.empty [] e h) ?_ (k0:=0) du atR
 rintro k4 e h hkk4 hA
 refine aF ?_
 refine iX (λh5=>?_) (λh5=>?_)
 refine ak ?_
 refine bc ?_
 have hx6:k4<r2.l.length:=by omega
 refine kM k4 r2 hx6 ?_
 generalize hqx7:r2.l[k4]=x7
 refine cN ?_
 refine jG (λh8=>?_) (λh8=>?_)
 refine bl ?_
 refine aE ?_
 refine cw ?_
 exact xG ⟨x7.out,true,zt⟩
 refine aQ ?_
 refine jG (λh9=>?_) (λh9=>?_)
 refine aE ?_
 refine cw ?_
 exact xG ⟨x7.out,true,zt⟩
 refine oV ?_
 refine cq ?_
 refine jd ?_
 refine ab ?_
 exact gf
 refine ai ?_
 refine aO ?_
 exact xG ⟨0,false,zt⟩
def ae5 (_a0:iD) (_a1:Int) (_a2:Int) (_a3:Int) (v:AV):Prop:=∃ r0:Int,∃ r1:Bool,(True)/\v=.je [iv r0,.bool r1]
def t202 (a0:iD) (a1:Int) (a2:Int) (a3:Int) :Ct 202 [.ip (iD.af a0) 0 false,iv a1,iv a2,iv a3] (ae5 a0 a1 a2 a3):=by
 refine iY JM ?_
 refine aN ?_
 refine aR ?_
 refine oC (t277 a0 a1 a2 a3) ?_
 rintro _ ⟨r2,r3,hc1,rfl⟩
 cases r3
 refine bB ?_
 exact xG ⟨r2,false,zt⟩
 refine bB ?_
 exact xG ⟨r2,true,zt⟩
end Go.Sx
