/- Proves what some functions of the program answer, by walking through them. -/
import Derived.Test.YtpelnddplemngaaGreatHag
import Derived.Test.YtpelnddplemngaaGreatHaj
import Derived.Test.YtpelnddplemngaaGreatHal
import Derived.Test.YtpelnddplemngaaGreatHam
set_option linter.all false
set_option maxRecDepth 100000
set_option maxHeartbeats 0
namespace Go.Sx
open Go Go.Proofs
def agR (_a0:bG) (v:AV):Prop:=(∃ r0:iX,(ou r0 _a0)/\v=.jl [.ip (iX.ag r0) 0 false,iv 0])\/(∃ r1:Int,(r1≠0)/\v=.jl [.ky,iv r1])
def Vr (a0:bG) (q1:lS a0):Ct 29 [.agg (bG.ag a0)] (agR a0):=by
 refine jf N9 ?_
 have q2:=q1.jd; have q3:=q1.signals; have q4:=q1.lines
 refine ae ?_
 refine az ?_
 refine oC (t62 a0) ?_
 rintro _ ⟨r2,hc1,rfl⟩
 have hC89:=hc1
 refine cV ?_
 refine lb (λh3=>?_) (λh3=>?_)
 refine aC ?_
 refine bu ?_
 refine xG (.inr (⟨r2,fP,rfl⟩))
 refine aG ?_
 refine wy [.la 1 0] [(1,(bG.ag a0))] ?_
 refine ao ?_
 refine oC (t63 a0 dw) ?_
 rintro _ ⟨r5,hc4,rfl⟩
 have hC90:=hc4
 refine jG rfl (mc kB) ?_
 rintro _ H7 ⟨b6,rfl,hS8⟩
 refine jG rfl (mc hS8) ?_
 rintro _ H10 ⟨b9,rfl,hS11⟩
 refine jG rfl (mc hS11) ?_
 rintro _ H13 ⟨b12,rfl,hS14⟩
 refine jG rfl (mc hS14) ?_
 rintro _ H16 ⟨b15,rfl,hS17⟩
 refine oV ?_
 refine jG rfl (sr hS17 rfl rfl rfl rfl rfl) ?_
 rintro _ H19 ⟨b18,rfl,hS20⟩
 refine ab ?_
 refine aZ ?_
 have hL21:=a0.jd.lk
 refine jK a0.jd ?_
 refine aL ?_
 have hNk22:=a0.jd.lk
 refine iW a0.jd.l.length (λot e h=>∃ l23:List (iM×iM),∃ H24:aT,(∀ x:iM,look x l23=lI (a0.jd.l.take ot) x)/\(l23.length<=2*ot)/\(∀ y∈(l23:List (iM×iM)),o7 a0.elems.l y.2.elem)/\Sep H24 (j7 b18 [jI r5.elems,jS r5.jd,jP r5.signals,jH r5.lines,iv r5.top,iv r5.jT,iv r5.kq,iv r5.jX,.bool r5.kI,(.hm b6),(.hm b9),(.hm b12),(.hm b15)]::lW b15 iK iK []::lW b12 iK tc []::lW b9 pK iK []::lW b6 pK pK l23::[])/\At [1,5,31,32,33] [.la 1 0,(je b18),jS a0.jd,iF a0.jd.l.length,iF ot] H24 [(1,(bG.ag a0))] e h) ?_ (k0:=0) dD ⟨([]),H19,(by (intro x; rfl)),fg,fg,hS20,atR⟩
 rintro ot e h hkk22 ⟨l23,H24,hD,hN,hNg,hS25,hA⟩
 refine aK ?_
 refine jk (λh26=>?_) (λh26=>?_)
 refine aq ?_
 refine wz [.la 1 0,(je b18),jS a0.jd,iF a0.jd.l.length,iF ot] H24 [(1,(bG.ag a0))] ?_
 refine bg ?_
 have hx27:ot<a0.jd.l.length:=by omega
 refine kQ ot a0.jd hx27 ?_
 generalize hqx28:a0.jd.l[ot]=x28
 have hinx28:x28∈a0.jd.l:=by rw [<- hqx28]; exact List.getElem_mem _
 obtain ⟨hgax28,hgbx28⟩:=acX (hC89 dD).2.2.2.2.2.2.jv (hC89 dD).2.2.2.1 x28 hinx28
 refine bd ?_
 refine qd ?_
 refine rV ?_
 refine du ?_
 refine bB ?_
 refine du ?_
 refine c8 ?_
 refine uj rfl rfl (rm (H:=H24) (i:=4) (ek:=pK) (ev:=pK) (l:=l23) x28.a x28.b hS25 rfl rfl rfl rfl rfl rfl rfl rfl rfl lF) ?_
 rintro _ H29 ⟨w30,n31,H32,rfl,hop33,hS34⟩
 refine ⟨λcall=>(Ez (nq rfl rfl rfl rfl rfl eP) (Ez (nq rfl rfl rfl rfl rfl eP) (AE (nq rfl rfl rfl rfl rfl eP)))),?_⟩
 refine rV ?_
 refine FP rfl rfl ⟨0,λ_ _=>hop33 _ _ _ _ _ _ _ _ rfl rfl rfl⟩ (λcall=>(Ez (nq rfl rfl rfl rfl rfl eP) (AE (nq rfl rfl rfl rfl rfl eP)))) ?_
 refine uj rfl rfl (rm (H:=H32) (i:=4) (ek:=pK) (ev:=pK) (l:=(put x28.a x28.b l23)) x28.b x28.a hS34 rfl rfl rfl rfl rfl rfl rfl rfl rfl lF) ?_
 rintro _ H35 ⟨w36,n37,H38,rfl,hop39,hS40⟩
 refine ⟨λcall=>(AE (nq rfl rfl rfl rfl rfl eP)),?_⟩
 refine rV ?_
 refine jh rfl rfl (λ_=>hop39 _ _ _ _ _ _ _ _ rfl rfl rfl) ?_
 refine rN ?_
 refine wz [.la 1 0,(je b18),jS a0.jd,iF a0.jd.l.length,iF ot] H38 [(1,(bG.ag a0))] ?_
 refine qg ?_
 refine jq ?_
 refine ab ?_
 exact ⟨by omega,((put x28.b x28.a (put x28.a x28.b l23))),H38,(by exact Ot dv dv (hC89 dD).1 hD),(by exact No hN),(by exact ri (P:=λy:iM=>o7 a0.elems.l y.elem) (ri (P:=λy:iM=>o7 a0.elems.l y.elem) hNg dv) dv),hS40,atR⟩
 refine ap ?_
 refine wz [.la 1 0,(je b18)] H24 [(1,(bG.ag a0))] ?_
 refine aZ ?_
 have hL41:=a0.signals.lk
 refine db ?_
 have hNk42:=a0.signals.lk
 refine iW a0.signals.l.length (λwg e h=>∃ l43:List (iM×Int),∃ H44:aT,(∀ x:iM,look x l43=nP (a0.signals.l.take wg) x)/\Sep H44 (j7 b18 [jI r5.elems,jS r5.jd,jP r5.signals,jH r5.lines,iv r5.top,iv r5.jT,iv r5.kq,iv r5.jX,.bool r5.kI,(.hm b6),(.hm b9),(.hm b12),(.hm b15)]::lW b15 iK iK []::lW b12 iK tc []::lW b9 pK iK l43::lW b6 pK pK l23::[])/\At [1,5,59,60,61] [.la 1 0,(je b18),jP a0.signals,iF a0.signals.l.length,iF wg] H44 [(1,(bG.ag a0))] e h) ?_ (k0:=0) dD ⟨([]),H24,(by (intro x; rfl)),hS25,atR⟩
 rintro wg e h hkk42 ⟨l43,H44,hR,hS45,hA⟩
 refine aK ?_
 refine jk (λh46=>?_) (λh46=>?_)
 refine aq ?_
 refine wz [.la 1 0,(je b18),jP a0.signals,iF a0.signals.l.length,iF wg] H44 [(1,(bG.ag a0))] ?_
 refine bE ?_
 have hx47:wg<a0.signals.l.length:=by omega
 refine kQ wg a0.signals hx47 ?_
 generalize hqx48:a0.signals.l[wg]=x48
 refine bW ?_
 refine qd ?_
 refine rV ?_
 refine tn 0 hS45 ?_
 refine rq 0 hS45 ?_
 refine sb 0 hS45 ((.hm b9)) ?_
 refine bB ?_
 refine mF rfl rfl (nj (H:=H44) (i:=3) (ek:=pK) (ev:=iK) (l:=l43) x48.at_ ((wg:Int)) hS45 rfl rfl rfl rfl rfl rfl lF) ?_
 rintro _ H49 ⟨rfl,hS50⟩
 refine rN ?_
 refine wz [.la 1 0,(je b18),jP a0.signals,iF a0.signals.l.length,iF wg] H49 [(1,(bG.ag a0))] ?_
 refine qg ?_
 refine jq ?_
 refine ab ?_
 exact ⟨by omega,((put x48.at_ ((wg:Int)) l43)),H49,(by exact Jq dv dv (hC89 dD).2.1 hR),hS50,atR⟩
 refine ap ?_
 refine wz [.la 1 0,(je b18)] H44 [(1,(bG.ag a0))] ?_
 refine aZ ?_
 have hL51:=a0.lines.lk
 refine jK a0.lines ?_
 refine aL ?_
 have hNk52:=a0.lines.lk
 refine iW a0.lines.l.length (λlg e h=>∃ l53:List (Int×Int),∃ l54:List (Int×(Int×Int)),∃ H55:aT,(qV a0 lg 0 l54)/\Sep H55 (j7 b18 [jI r5.elems,jS r5.jd,jP r5.signals,jH r5.lines,iv r5.top,iv r5.jT,iv r5.kq,iv r5.jX,.bool r5.kI,(.hm b6),(.hm b9),(.hm b12),(.hm b15)]::lW b15 iK iK l53::lW b12 iK tc l54::lW b9 pK iK l43::lW b6 pK pK l23::[])/\At [5,75,76,77] [(je b18),jH a0.lines,iF a0.lines.l.length,iF lg] H55 [] e h) ?_ (k0:=0) dD ⟨([]),([]),H44,(by exact qV.zero),hS45,atR⟩
 rintro lg e h hkk52 ⟨l53,l54,H55,hLi,hS56,hA⟩
 refine aK ?_
 refine jk (λh57=>?_) (λh57=>?_)
 refine aq ?_
 refine wz [(je b18),jH a0.lines,iF a0.lines.l.length,iF lg] H55 [] ?_
 refine bE ?_
 have hx58:lg<a0.lines.l.length:=by omega
 refine kQ lg a0.lines hx58 ?_
 generalize hqx59:a0.lines.l[lg]=x59
 have hinx59:x59∈a0.lines.l:=by rw [<- hqx59]; exact List.getElem_mem _
 have hsx59:=q1.line x59 hinx59
 refine bW ?_
 refine br ?_
 refine AR (λE Z=>(E=[(5,(je b18)),(10,iF lg),(11,.la 11 0),(12,iv 1),(75,jH a0.lines),(76,iF a0.lines.l.length),(77,iF lg)]/\Z = { H55 with iI:=[(11,(jN.ag x59))] })\/(E=[(5,(je b18)),(10,iF lg),(11,.la 11 0),(12,iv 0),(75,jH a0.lines),(76,iF a0.lines.l.length),(77,iF lg)]/\Z = { H55 with iI:=[(11,(jN.ag x59))] })) ?_ ?_
 rintro _ _ (⟨rfl,rfl⟩ | ⟨rfl,rfl⟩)
 refine ae ?_
 have hL60:=x59.elems.lk
 refine jK x59.elems ?_
 refine aL ?_
 have hNk61:=x59.elems.lk
 refine iW x59.elems.l.length (λnt e h=>∃ l62:List (Int×Int),∃ l63:List (Int×(Int×Int)),∃ n64:Int,∃ H65:aT,(qV a0 lg nt l63)/\Sep H65 (j7 b18 [jI r5.elems,jS r5.jd,jP r5.signals,jH r5.lines,iv r5.top,iv r5.jT,iv r5.kq,iv r5.jX,.bool r5.kI,(.hm b6),(.hm b9),(.hm b12),(.hm b15)]::lW b15 iK iK l62::lW b12 iK tc l63::lW b9 pK iK l43::lW b6 pK pK l23::[])/\At [5,10,12,75,76,77,110,111,112] [(je b18),iF lg,iv n64,jH a0.lines,iF a0.lines.l.length,iF lg,kr x59.elems,iF x59.elems.l.length,iF nt] H65 [] e h) ?_ (k0:=0) dD ⟨l53,l54,1,H55,(by exact hLi),hS56,atR⟩
 rintro nt e h hkk61 ⟨l62,l63,n64,H65,hLi2,hS66,hA⟩
 refine aK ?_
 refine jk (λh67=>?_) (λh67=>?_)
 refine aq ?_
 refine wz [(je b18),iF lg,iv n64,jH a0.lines,iF a0.lines.l.length,iF lg,kr x59.elems,iF x59.elems.l.length,iF nt] H65 [] ?_
 refine bE ?_
 have hx68:nt<x59.elems.l.length:=by omega
 refine kQ nt x59.elems hx68 ?_
 generalize hqx69:x59.elems.l[nt]=x69
 refine bd ?_
 refine cZ ?_
 refine tn 0 hS66 ?_
 refine rq 0 hS66 ?_
 refine sb 0 hS66 ((.hm b12)) ?_
 refine aP ?_
 refine tn 0 hS66 ?_
 refine rq 0 hS66 ?_
 refine sb 0 hS66 ((.hm b15)) ?_
 refine co ?_
 refine mF rfl rfl (rm (H:=H65) (i:=2) (ek:=iK) (ev:=tc) (l:=l63) x69 (((lg:Int),(nt:Int))) hS66 rfl rfl rfl rfl rfl rfl rfl rfl rfl pE) ?_
 rintro _ H70 ⟨w71,n72,H73,rfl,hop74,hS75⟩
 refine rV ?_
 refine jh rfl rfl (λ_=>hop74 _ _ _ _ _ _ _ _ rfl rfl rfl) ?_
 refine mF rfl rfl (rm (H:=H73) (i:=1) (ek:=iK) (ev:=iK) (l:=l62) x69 n64 hS75 rfl rfl rfl rfl rfl rfl rfl rfl rfl pE) ?_
 rintro _ H76 ⟨w77,n78,H79,rfl,hop80,hS81⟩
 refine rV ?_
 refine jh rfl rfl (λ_=>hop80 _ _ _ _ _ _ _ _ rfl rfl rfl) ?_
 refine rN ?_
 refine aS ?_
 refine Hb 0 hS81 ?_
 refine nh 0 hS81 ?_
 refine lU 0 hS81 ((.hm b6)) ?_
 refine aw ?_
 refine iT rfl (λ_=>j9 rfl rfl rfl (pW .i64 1 n64)) ?_
 refine oV ?_
 refine ma (H:=H79) (i:=4) (ek:=pK) (ev:=pK) (l:=l23) ((⟨x69,(IntKind.i64.wrap (1 - n64))⟩:iM)) rfl rfl hS81 rfl rfl rfl rfl rfl rfl rfl rfl lF (λy82 h83=>?_) (λh84=>?_)
 refine cq ?_
 refine wz [(je b18),iF lg,iv y82.en,jH a0.lines,iF a0.lines.l.length,iF lg,kr x59.elems,iF x59.elems.l.length,iF nt] H79 [] ?_
 refine qg ?_
 refine jq ?_
 refine ab ?_
 exact ⟨by omega,((put x69 n64 l62)),((put x69 (((lg:Int),(nt:Int))) l63)),y82.en,H79,fo,hS81,atR⟩
 refine cq ?_
 refine wz [(je b18),iF lg,iv 0,jH a0.lines,iF a0.lines.l.length,iF lg,kr x59.elems,iF x59.elems.l.length,iF nt] H79 [] ?_
 refine qg ?_
 refine jq ?_
 refine ab ?_
 exact ⟨by omega,((put x69 n64 l62)),((put x69 (((lg:Int),(nt:Int))) l63)),0,H79,fo,hS81,atR⟩
 refine ap ?_
 refine wz [(je b18),jH a0.lines,iF a0.lines.l.length,iF lg] H65 [] ?_
 refine qg ?_
 refine jq ?_
 refine ab ?_
 exact ⟨by omega,l62,l63,H65,(by exact hLi2.next dv dD),hS66,atR⟩
 refine ae ?_
 have hL85:=x59.elems.lk
 refine jK x59.elems ?_
 refine aL ?_
 have hNk86:=x59.elems.lk
 refine iW x59.elems.l.length (λpN e h=>∃ l87:List (Int×Int),∃ l88:List (Int×(Int×Int)),∃ n89:Int,∃ H90:aT,(qV a0 lg pN l88)/\Sep H90 (j7 b18 [jI r5.elems,jS r5.jd,jP r5.signals,jH r5.lines,iv r5.top,iv r5.jT,iv r5.kq,iv r5.jX,.bool r5.kI,(.hm b6),(.hm b9),(.hm b12),(.hm b15)]::lW b15 iK iK l87::lW b12 iK tc l88::lW b9 pK iK l43::lW b6 pK pK l23::[])/\At [5,10,12,75,76,77,110,111,112] [(je b18),iF lg,iv n89,jH a0.lines,iF a0.lines.l.length,iF lg,kr x59.elems,iF x59.elems.l.length,iF pN] H90 [] e h) ?_ (k0:=0) dD ⟨l53,l54,0,H55,(by exact hLi),hS56,atR⟩
 rintro pN e h hkk86 ⟨l87,l88,n89,H90,hLi2,hS91,hA⟩
 refine aK ?_
 refine jk (λh92=>?_) (λh92=>?_)
 refine aq ?_
 refine wz [(je b18),iF lg,iv n89,jH a0.lines,iF a0.lines.l.length,iF lg,kr x59.elems,iF x59.elems.l.length,iF pN] H90 [] ?_
 refine bE ?_
 have hx93:pN<x59.elems.l.length:=by omega
 refine kQ pN x59.elems hx93 ?_
 generalize hqx94:x59.elems.l[pN]=x94
 refine bd ?_
 refine cZ ?_
 refine tn 0 hS91 ?_
 refine rq 0 hS91 ?_
 refine sb 0 hS91 ((.hm b12)) ?_
 refine aP ?_
 refine tn 0 hS91 ?_
 refine rq 0 hS91 ?_
 refine sb 0 hS91 ((.hm b15)) ?_
 refine co ?_
 refine mF rfl rfl (rm (H:=H90) (i:=2) (ek:=iK) (ev:=tc) (l:=l88) x94 (((lg:Int),(pN:Int))) hS91 rfl rfl rfl rfl rfl rfl rfl rfl rfl pE) ?_
 rintro _ H95 ⟨w96,n97,H98,rfl,hop99,hS100⟩
 refine rV ?_
 refine jh rfl rfl (λ_=>hop99 _ _ _ _ _ _ _ _ rfl rfl rfl) ?_
 refine mF rfl rfl (rm (H:=H98) (i:=1) (ek:=iK) (ev:=iK) (l:=l87) x94 n89 hS100 rfl rfl rfl rfl rfl rfl rfl rfl rfl pE) ?_
 rintro _ H101 ⟨w102,n103,H104,rfl,hop105,hS106⟩
 refine rV ?_
 refine jh rfl rfl (λ_=>hop105 _ _ _ _ _ _ _ _ rfl rfl rfl) ?_
 refine rN ?_
 refine aS ?_
 refine Hb 0 hS106 ?_
 refine nh 0 hS106 ?_
 refine lU 0 hS106 ((.hm b6)) ?_
 refine aw ?_
 refine iT rfl (λ_=>j9 rfl rfl rfl (pW .i64 1 n89)) ?_
 refine oV ?_
 refine ma (H:=H104) (i:=4) (ek:=pK) (ev:=pK) (l:=l23) ((⟨x94,(IntKind.i64.wrap (1 - n89))⟩:iM)) rfl rfl hS106 rfl rfl rfl rfl rfl rfl rfl rfl lF (λy107 h108=>?_) (λh109=>?_)
 refine cq ?_
 refine wz [(je b18),iF lg,iv y107.en,jH a0.lines,iF a0.lines.l.length,iF lg,kr x59.elems,iF x59.elems.l.length,iF pN] H104 [] ?_
 refine qg ?_
 refine jq ?_
 refine ab ?_
 exact ⟨by omega,((put x94 n89 l87)),((put x94 (((lg:Int),(pN:Int))) l88)),y107.en,H104,fo,hS106,atR⟩
 refine cq ?_
 refine wz [(je b18),iF lg,iv 0,jH a0.lines,iF a0.lines.l.length,iF lg,kr x59.elems,iF x59.elems.l.length,iF pN] H104 [] ?_
 refine qg ?_
 refine jq ?_
 refine ab ?_
 exact ⟨by omega,((put x94 n89 l87)),((put x94 (((lg:Int),(pN:Int))) l88)),0,H104,fo,hS106,atR⟩
 refine ap ?_
 refine wz [(je b18),jH a0.lines,iF a0.lines.l.length,iF lg] H90 [] ?_
 refine qg ?_
 refine jq ?_
 refine ab ?_
 exact ⟨by omega,l87,l88,H90,(by exact hLi2.next dv dD),hS91,atR⟩
 refine ae ?_
 have hL110:=x59.elems.lk
 refine jK x59.elems ?_
 refine kn (λh111=>?_) (λh111=>?_)
 refine aC ?_
 refine cZ ?_
 refine tn 0 hS56 ?_
 refine rq 0 hS56 ?_
 refine sb 0 hS56 ((.hm b6)) ?_
 refine aP ?_
 have hx112:0<x59.elems.l.length:=by omega
 refine rP 0 x59.elems hx112 ?_
 generalize hqx113:x59.elems.l[0]=x113
 refine aP ?_
 refine LF (H:=H55) (i:=4) (ek:=pK) (ev:=pK) (l:=l23) ((⟨x113,0⟩:iM)) rfl rfl rfl hS56 rfl rfl rfl rfl rfl rfl rfl rfl lF (λy114 h115=>?_) (λh116=>?_)
 refine bw ?_
 refine aV ?_
 refine c8 ?_
 have hx117:1<x59.elems.l.length:=by omega
 refine rP 1 x59.elems hx117 ?_
 generalize hqx118:x59.elems.l[1]=x118
 refine rV ?_
 refine Cx (λh119=>?_) (λh119=>?_)
 refine bz ?_
 refine qg ?_
 refine ab ?_
 exact .inl ⟨rfl,rfl⟩
 refine bo ?_
 exact .inr (⟨rfl,rfl⟩)
 refine bw ?_
 refine cD ?_
 iterate 7 refine rS ?_
 refine bo ?_
 exact .inr (⟨rfl,rfl⟩)
 refine aG ?_
 exact .inr (⟨rfl,rfl⟩)
 refine ap ?_
 refine wz [(je b18)] H55 [] ?_
 refine bu ?_
 have hz120:∀ m,freeze false { H55 with iI:=[] } (m+3) (.hm b6)=some (.fm (j1 pK pK l23) false):=λm=>uD (i:=4) hS56 rfl _ _ (v7 λ_=>rfl)
 have hz121:∀ m,freeze false { H55 with iI:=[] } (m+3) (.hm b9)=some (.fm (j1 pK iK l43) false):=λm=>uD (i:=3) hS56 rfl _ _ (v7 λ_=>rfl)
 have hz122:∀ m,freeze false { H55 with iI:=[] } (m+3) (.hm b12)=some (.fm (j1 iK tc l54) false):=λm=>uD (i:=2) hS56 rfl _ _ (v7 λ_=>rfl)
 have hz123:∀ m,freeze false { H55 with iI:=[] } (m+3) (.hm b15)=some (.fm (j1 iK iK l53) false):=λm=>uD (i:=1) hS56 rfl _ _ (v7 λ_=>rfl)
 have hz124:∀ m,freeze false { H55 with iI:=[] } (m+4) (je b18)=some (.ip [jI r5.elems,jS r5.jd,jP r5.signals,jH r5.lines,iv r5.top,iv r5.jT,iv r5.kq,iv r5.jX,.bool r5.kI,.fm (j1 pK pK l23) false,.fm (j1 pK iK l43) false,.fm (j1 iK tc l54) false,.fm (j1 iK iK l53) false] 0 false):=λm=>uI (i:=0) hS56 rfl _ _ (by simp only [FZ,hz120,hz121,hz122,hz123])
 refine ⟨.jl [(je b18),iv 0],rfl,.jl [.ip [jI r5.elems,jS r5.jd,jP r5.signals,jH r5.lines,iv r5.top,iv r5.jT,iv r5.kq,iv r5.jX,.bool r5.kI,.fm (j1 pK pK l23) false,.fm (j1 pK iK l43) false,.fm (j1 iK tc l54) false,.fm (j1 iK iK l53) false] 0 false,iv 0],(show freeze false { H55 with iI:=[] } 8 (.jl [(je b18),iv 0])=some (.jl [.ip [jI r5.elems,jS r5.jd,jP r5.signals,jH r5.lines,iv r5.top,iv r5.jT,iv r5.kq,iv r5.jX,.bool r5.kI,.fm (j1 pK pK l23) false,.fm (j1 pK iK l43) false,.fm (j1 iK tc l54) false,.fm (j1 iK iK l53) false] 0 false,iv 0]) by simp only [FZ,hz120,hz121,hz122,hz123,hz124]),.inl ⟨(⟨r5,l23,l43,l54,l53⟩:iX),fP,rfl⟩⟩
def P29 (_a0:bG) (v:AV):Prop:=(∃ r0:iX,((ou r0 _a0)/\rs 29 [.agg (bG.ag _a0)]=.jl [.ip (iX.ag r0) 0 false,iv 0])/\v=.jl [.ip (iX.ag r0) 0 false,iv 0])\/(∃ r1:Int,((r1≠0)/\rs 29 [.agg (bG.ag _a0)]=.jl [.ky,iv r1])/\v=.jl [.ky,iv r1])
def t29 (a0:bG) (q1:lS a0) (h:aT):∃ v,ji cfg FT js false 29 [.agg (bG.ag a0)] h v h/\P29 a0 v:=by
 obtain ⟨v,hc,hP,hr⟩:=nX rD (Vr a0 q1) h
 rcases hP with ⟨r0,hp,rfl⟩ | ⟨r1,hp,rfl⟩
 ·exact ⟨_,hc,.inl ⟨r0,⟨hp,hr⟩,rfl⟩⟩
 ·exact ⟨_,hc,.inr (⟨r1,⟨hp,hr⟩,rfl⟩)⟩
def V6 (a0:bG) (q1:lS a0) {V:AV} (hV:rs 29 [.agg (bG.ag a0)]=V) (h:aT):∃ v,ji cfg FT js false 29 [.agg (bG.ag a0)] h v h/\v=V:=by
 obtain ⟨v,hc,hP,hr⟩:=nX rD (Vr a0 q1) h
 exact ⟨v,hc,hr.symm.trans hV⟩
def aeS (_a0:iX) (v:AV):Prop:=∃ r0:Int,(r0=(_a0.p.signals.l.length:Int))/\v=iv r0
def t141 (a0:iX) :Ct 141 [.ip (iX.ag a0) 0 false] (aeS a0):=by
 refine jf HU ?_
 refine cC ?_
 refine aH ?_
 have hL1:=a0.p.signals.lk
 refine jK a0.p.signals ?_
 refine af ?_
 exact xB ⟨((a0.p.signals.l.length:Int)),fT,rfl⟩
def P64 (_a0:iX) (_a1:Int) (v:AV):Prop:=∃ r0:ko,((r0.kind=kN _a0.p _a1/\r0.len=nV _a0.p _a1))/\v=.agg (ko.ag r0)
def t64 (a0:iX) (a1:Int) :Ct 64 [.ip (iX.ag a0) 0 false,iv a1] (P64 a0 a1):=by
 refine jf LW ?_
 refine bC ?_
 refine jk (λh1=>?_) (λh1=>?_)
 refine oV ?_
 refine cz ?_
 refine cY ?_
 exact iC
 iterate 7 refine oV ?_
 have hL2:=a0.p.elems.lk
 refine jK a0.p.elems ?_
 refine lP (λh3=>?_) (λh3=>?_)
 refine cY ?_
 exact iC
 refine ah ?_
 refine aa ?_
 refine cM ?_
 have hx4:(a1).toNat<a0.p.elems.l.length:=by omega
 refine iT rfl (λ_=>jA (n:=a1) (r:=a0.p.elems) (enc:=ko.ag) rfl rfl rfl rfl rfl dD hx4 rfl) ?_
 generalize hqx5:a0.p.elems.l[(a1).toNat]=x5
 refine a8 ?_
 exact xG ⟨x5,eN,rfl⟩
def ae1 (_a0:iX) (_a1:Int) (v:AV):Prop:=∃ r0:Int,(r0=kN _a0.p _a1)/\v=iv r0
def t138 (a0:iX) (a1:Int) :Ct 138 [.ip (iX.ag a0) 0 false,iv a1] (ae1 a0 a1):=by
 refine jf HY ?_
 refine cC ?_
 refine oC (t64 a0 a1) ?_
 rintro _ ⟨r2,hc1,rfl⟩
 obtain ⟨hEk,hEl⟩:=hc1
 refine a8 ?_
 exact xB ⟨r2.kind,dv,rfl⟩
def agb (_a0:iX) (_a1:iM) (v:AV):Prop:=∃ r0:Int,(r0=(look _a1 _a0.reads).getD (-1))/\v=iv r0
def t139 (a0:iX) (a1:iM) :Ct 139 [.ip (iX.ag a0) 0 false,.agg (iM.ag a1)] (agb a0 a1):=by
 refine jf JR ?_
 refine ao ?_
 refine aA ?_
 refine dt ?_
 refine Ev (key:=a1) (l:=a0.reads) (ek:=pK) (ev:=iK) rfl rfl rfl rfl rfl rfl rfl rfl rfl rfl lF (λy1 h2=>?_) (λh3=>?_)
 refine bT ?_
 refine aR ?_
 refine aa ?_
 refine cY ?_
 exact xB ⟨y1,fE,rfl⟩
 refine bT ?_
 refine aR ?_
 refine aa ?_
 refine ah ?_
 refine aI ?_
 exact xB ⟨(-1),fE,rfl⟩
def aiy (_a0:iX) (_a1:iM) (v:AV):Prop:=∃ r0:iM,∃ r1:Bool,(((r1=true->look _a1 _a0.next=some r0)/\(r1=false->look _a1 _a0.next=none)/\(r1=false->r0=⟨0,0⟩)))/\v=.jl [.agg (iM.ag r0),.bool r1]
def t146 (a0:iX) (a1:iM) :Ct 146 [.ip (iX.ag a0) 0 false,.agg (iM.ag a1)] (aiy a0 a1):=by
 refine jf I3 ?_
 refine cg ?_
 refine dt ?_
 refine Ev (key:=a1) (l:=a0.next) (ek:=pK) (ev:=pK) rfl rfl rfl rfl rfl rfl rfl rfl rfl rfl lF (λy1 h2=>?_) (λh3=>?_)
 refine bw ?_
 refine da ?_
 exact xG ⟨y1,true,fQ,rfl⟩
 refine bw ?_
 refine da ?_
 exact xG ⟨(⟨0,0⟩:iM),false,fQ,rfl⟩
def af5 (_a0:iX) (_a1:Int) (v:AV):Prop:=∃ r0:iM,∃ r1:Bool,((((r1=true->nk _a0.p.signals.l _a1=some r0)/\(r1=false->nk _a0.p.signals.l _a1=none))/\(r1=false->r0=⟨0,0⟩)))/\v=.jl [.agg (iM.ag r0),.bool r1]
def t173 (a0:iX) (a1:Int) :Ct 173 [.ip (iX.ag a0) 0 false,iv a1] (af5 a0 a1):=by
 refine jf Jh ?_
 refine ao ?_
 refine az ?_
 refine jk (λh1=>?_) (λh1=>?_)
 refine oV ?_
 refine cz ?_
 refine aE ?_
 exact gN
 iterate 7 refine oV ?_
 have hL2:=a0.p.signals.lk
 refine jK a0.p.signals ?_
 refine lP (λh3=>?_) (λh3=>?_)
 refine aE ?_
 exact gN
 refine ah ?_
 refine aa ?_
 refine cM ?_
 have hx4:(a1).toNat<a0.p.signals.l.length:=by omega
 refine iT rfl (λ_=>jA (n:=a1) (r:=a0.p.signals) (enc:=kb.ag) rfl rfl rfl rfl rfl dD hx4 rfl) ?_
 generalize hqx5:a0.p.signals.l[(a1).toNat]=x5
 refine bI ?_
 exact xG ⟨x5.at_,true,d9,rfl⟩
def agJ {H:aT} (b:Nat) (x:jg) (en:Int) (F:List jW) (hS:Sep H (j7 b [iv en]::F)) :∃ v H',ji cfg FT js true 229 [.agg (jg.ag x),(je b)] { H with iI:=[] } v H'/\(∃ r0:Bool,(True)/\Sep H' (j7 b [iv en]::F)/\v=.bool r0):=by
 refine kh HV ?_
 refine aX ?_
 refine ae ?_
 refine lU 0 hS (iv en) ?_
 refine jz (λh1=>?_) (λh1=>?_)
 refine af ?_
 have hS2:=Sep.pick hS [0] 1 dA dA
 exact g8
 refine af ?_
 have hS3:=Sep.pick hS [0] 1 dA dA
 exact g9
def aiG {H:aT} (b:Nat) (x:jg) (en:Int) (F:List jW) (hS:Sep H (j7 b [iv en]::F)) :∃ v H',ji cfg FT js true 290 [.agg (jg.ag x),(je b)] { H with iI:=[] } v H'/\(∃ r0:Bool,(True)/\Sep H' (j7 b [iv en]::F)/\v=.bool r0):=by
 refine kh JD ?_
 refine aX ?_
 refine ae ?_
 refine lU 0 hS (iv en) ?_
 refine jz (λh1=>?_) (λh1=>?_)
 refine af ?_
 have hS2:=Sep.pick hS [0] 1 dA dA
 exact g8
 refine af ?_
 have hS3:=Sep.pick hS [0] 1 dA dA
 exact g9
def Mz {H:aT} (l:jm jg) (b:Nat) (en:Int) (F:List jW) (hS:Sep H (j7 b [iv en]::F)) :∃ v H',ji cfg FT js true 292 [jm.av jg.ag l,.jQ 290 [] [(je b)]] { H with iI:=[] } v H'/\(∃ r0:Int,(True)/\Sep H' (j7 b [iv en]::F)/\v=iv r0):=by
 refine kh Dm ?_
 refine bC ?_
 have hL1:=l.lk
 refine iT rfl (λ_=>oH (r:=l) (enc:=jg.ag) rfl rfl rfl rfl rfl rfl) ?_
 refine aL ?_
 have hNk2:=l.lk
 refine iW l.l.length (λk2 e h=>∃ H3:aT,Sep H3 (j7 b [iv en]::F)/\At [0,1,7,8] [jm.av jg.ag l,.jQ 290 [] [(je b)],iF l.l.length,iF k2] H3 [] e h) ?_ (k0:=0) dD ⟨H,hS,atR⟩
 rintro k2 e h hkk2 ⟨H3,hS4,hA⟩
 refine aK ?_
 refine jk (λh5=>?_) (λh5=>?_)
 refine bP ?_
 refine aJ ?_
 have hx6:k2<l.l.length:=by omega
 refine iT rfl (λ_=>nQ (n:=k2) (r:=l) (enc:=jg.ag) rfl rfl rfl rfl rfl hx6 rfl) ?_
 generalize hqx7:l.l[k2]=x7
 refine oV ?_
 have hS8:=Sep.pick hS4 [0] 1 dA dA
 refine jV (H:=H3) (args:=[.agg (jg.ag x7)]) (p:=[]) (r:=[(je b)]) rfl rfl rfl rfl rfl rfl rfl (aiG b x7 en F hS8) ?_
 rintro _ H9 ⟨r12,hc11,hS10,rfl⟩
 cases r12
 refine bZ ?_
 refine jq ?_
 refine ab ?_
 exact ⟨by omega,H9,hS10,atR⟩
 refine aN ?_
 have hS13:=Sep.pick hS10 [0] 1 dA dA
 exact ik
 refine cy ?_
 have hS14:=Sep.pick hS4 [0] 1 dA dA
 exact ⟨iv (-1),rfl,(-1),zT,Sep.iI hS14 _,rfl⟩
def Nu {H:aT} (l:jm jg) (b:Nat) (en:Int) (F:List jW) (hS:Sep H (j7 b [iv en]::F)) :∃ v H',ji cfg FT js true 292 [jm.av jg.ag l,.jQ 229 [] [(je b)]] { H with iI:=[] } v H'/\(∃ r0:Int,(True)/\Sep H' (j7 b [iv en]::F)/\v=iv r0):=by
 refine kh Dm ?_
 refine bC ?_
 have hL1:=l.lk
 refine iT rfl (λ_=>oH (r:=l) (enc:=jg.ag) rfl rfl rfl rfl rfl rfl) ?_
 refine aL ?_
 have hNk2:=l.lk
 refine iW l.l.length (λk2 e h=>∃ H3:aT,Sep H3 (j7 b [iv en]::F)/\At [0,1,7,8] [jm.av jg.ag l,.jQ 229 [] [(je b)],iF l.l.length,iF k2] H3 [] e h) ?_ (k0:=0) dD ⟨H,hS,atR⟩
 rintro k2 e h hkk2 ⟨H3,hS4,hA⟩
 refine aK ?_
 refine jk (λh5=>?_) (λh5=>?_)
 refine bP ?_
 refine aJ ?_
 have hx6:k2<l.l.length:=by omega
 refine iT rfl (λ_=>nQ (n:=k2) (r:=l) (enc:=jg.ag) rfl rfl rfl rfl rfl hx6 rfl) ?_
 generalize hqx7:l.l[k2]=x7
 refine oV ?_
 have hS8:=Sep.pick hS4 [0] 1 dA dA
 refine jV (H:=H3) (args:=[.agg (jg.ag x7)]) (p:=[]) (r:=[(je b)]) rfl rfl rfl rfl rfl rfl rfl (agJ b x7 en F hS8) ?_
 rintro _ H9 ⟨r12,hc11,hS10,rfl⟩
 cases r12
 refine bZ ?_
 refine jq ?_
 refine ab ?_
 exact ⟨by omega,H9,hS10,atR⟩
 refine aN ?_
 have hS13:=Sep.pick hS10 [0] 1 dA dA
 exact ik
 refine cy ?_
 have hS14:=Sep.pick hS4 [0] 1 dA dA
 exact ⟨iv (-1),rfl,(-1),zT,Sep.iI hS14 _,rfl⟩
def Ol {H:aT} (l:jm jg) (b:Nat) (en:Int) (F:List jW) (hS:Sep H (j7 b [iv en]::F)) :∃ v H',ji cfg FT js true 228 [jm.av jg.ag l,.jQ 290 [] [(je b)]] { H with iI:=[] } v H'/\(∃ r0:Bool,(True)/\Sep H' (j7 b [iv en]::F)/\v=.bool r0):=by
 refine kh Dp ?_
 refine cC ?_
 have hS1:=Sep.pick hS [0] 1 dA dA
 refine jV (H:=H) (args:=[jm.av jg.ag l,.jQ 290 [] [(je b)]]) (p:=[]) (r:=[]) rfl rfl rfl rfl rfl rfl rfl (Mz l b en F hS1) ?_
 rintro _ H2 ⟨r5,hc4,hS3,rfl⟩
 refine lP (λh6=>?_) (λh6=>?_)
 refine af ?_
 have hS7:=Sep.pick hS3 [0] 1 dA dA
 exact g6
 refine af ?_
 have hS8:=Sep.pick hS3 [0] 1 dA dA
 exact g7
def Me {H:aT} (l:jm jg) (b:Nat) (en:Int) (F:List jW) (hS:Sep H (j7 b [iv en]::F)) :∃ v H',ji cfg FT js true 228 [jm.av jg.ag l,.jQ 229 [] [(je b)]] { H with iI:=[] } v H'/\(∃ r0:Bool,(True)/\Sep H' (j7 b [iv en]::F)/\v=.bool r0):=by
 refine kh Dp ?_
 refine cC ?_
 have hS1:=Sep.pick hS [0] 1 dA dA
 refine jV (H:=H) (args:=[jm.av jg.ag l,.jQ 229 [] [(je b)]]) (p:=[]) (r:=[]) rfl rfl rfl rfl rfl rfl rfl (Nu l b en F hS1) ?_
 rintro _ H2 ⟨r5,hc4,hS3,rfl⟩
 refine lP (λh6=>?_) (λh6=>?_)
 refine af ?_
 have hS7:=Sep.pick hS3 [0] 1 dA dA
 exact g6
 refine af ?_
 have hS8:=Sep.pick hS3 [0] 1 dA dA
 exact g7
def UY (_a0:nC) (_a1:Int) (v:AV):Prop:=∃ r0:Bool,((r0=true->_a0.steps.l.length<12))/\v=.bool r0
def t224 (a0:nC) (a1:Int) :Ct 224 [.ip (nC.ag a0) 0 true,iv a1] (UY a0 a1):=by
 refine jf Jj ?_
 refine bS ?_
 rintro _ H2 ⟨b1,rfl,hS3⟩
 refine ab ?_
 refine aV ?_
 refine bT ?_
 have hL4:=a0.steps.lk
 refine jh rfl rfl (λ_=>oH (r:=a0.steps) (enc:=jg.ag) rfl rfl rfl rfl rfl rfl) ?_
 refine qY (λh5=>?_) (λh5=>?_)
 refine rV ?_
 refine sb 0 hS3 (iv a1) ?_
 refine bT ?_
 refine AB (λh6=>?_) (λh6=>?_)
 refine c8 ?_
 refine jh rfl rfl (λ_=>ua rfl rfl (tP rfl rfl)) ?_
 have hS7:=Sep.pick hS3 [0] 1 dA dA
 refine TU (H:=H2) (args:=[jm.av jg.ag a0.steps,.jQ 290 [] [(je b1)]]) (p:=[]) (r:=[]) rfl rfl rfl rfl rfl rfl rfl rfl (Ol a0.steps b1 a1 ([]) hS7) ?_
 rintro _ H8 ⟨r11,hc10,hS9,rfl⟩
 cases r11
 refine rV ?_
 refine bm ?_
 exact gP
 refine rV ?_
 refine bm ?_
 exact gQ
 refine b8 ?_
 refine rS ?_
 refine bm ?_
 exact gQ
 refine dk ?_
 refine b8 ?_
 refine rS ?_
 refine bm ?_
 exact gQ
def ah2 (_a0:iX) (_a1:Int) (_a2:Int) (v:AV):Prop:=∃ r0:Row j8,(r0.l.length<=2)/\v=uk r0
def t291 (a0:iX) (a1:Int) (a2:Int) :Ct 291 [.ip (iX.ag a0) 0 false,iv a1,iv a2] (ah2 a0 a1 a2):=by
 refine jf Hu ?_
 refine bC ?_
 refine jk (λh1=>?_) (λh1=>?_)
 refine cL ?_
 refine ac ?_
 exact ig
 refine aO ?_
 refine oC (t138 a0 a1) ?_
 rintro _ ⟨r3,hc2,rfl⟩
 have hK:=hc2
 refine oC (t220 r3) ?_
 rintro _ ⟨r5,hc4,rfl⟩
 refine lP (λh6=>?_) (λh6=>?_)
 refine ac ?_
 exact ig
 refine ah ?_
 refine aZ ?_
 refine oC (t138 a0 a1) ?_
 rintro _ ⟨r8,hc7,rfl⟩
 have hK:=hc7
 refine cN ?_
 refine jz (λh9=>?_) (λh9=>?_)
 refine bc ?_
 refine ao ?_
 refine iT rfl (λ_=>j9 rfl rfl rfl (pW .i64 1 a2)) ?_
 refine bU ?_
 exact xG ⟨(⟨[(⟨(IntKind.i64.wrap (1 - a2)),0⟩:j8)],.exact 1,qt,rfl,mZ⟩:Row j8),eE,rfl⟩
 refine bf ?_
 refine jz (λh10=>?_) (λh10=>?_)
 refine bc ?_
 refine ae ?_
 refine cV ?_
 have hd11:a2=0\/a2=1\/a2=2\/a2=3:=by omega
 rcases hd11 with rfl | rfl | rfl | rfl
 refine oV ?_
 refine bI ?_
 exact xG ⟨(⟨[(⟨1,0⟩:j8)],.exact 1,qt,rfl,mZ⟩:Row j8),eE,rfl⟩
 refine oV ?_
 refine bI ?_
 exact ij
 refine oV ?_
 refine bI ?_
 exact xG ⟨(⟨[(⟨3,0⟩:j8)],.exact 1,qt,rfl,mZ⟩:Row j8),eE,rfl⟩
 refine oV ?_
 refine bI ?_
 exact xG ⟨(⟨[(⟨2,0⟩:j8)],.exact 1,qt,rfl,mZ⟩:Row j8),eE,rfl⟩
 refine bf ?_
 refine jz (λh12=>?_) (λh12=>?_)
 refine bc ?_
 refine aB ?_
 refine jz (λh13=>?_) (λh13=>?_)
 refine aC ?_
 refine da ?_
 exact xG ⟨(⟨[(⟨1,1⟩:j8),(⟨2,2⟩:j8)],.exact 2,qt,rfl,mZ⟩:Row j8),eE,rfl⟩
 refine aG ?_
 refine ae ?_
 have hd14:a2=0\/a2=1\/a2=2:=by omega
 rcases hd14 with rfl | rfl | rfl
 refine bI ?_
 exact ij
 refine bI ?_
 exact xG ⟨(⟨[(⟨0,1⟩:j8)],.exact 1,qt,rfl,mZ⟩:Row j8),eE,rfl⟩
 refine bI ?_
 exact xG ⟨(⟨[(⟨0,2⟩:j8)],.exact 1,qt,rfl,mZ⟩:Row j8),eE,rfl⟩
 refine ah ?_
 refine aI ?_
 exact ig
def ahC {H:aT} (p:Nat) (vC:Int) (vs:AV) (steps:List jg) (vp:AV) (pos:List Int) (vl:AV) (left:List (Row j8)) (nn:iX) (x:iM) (F:List jW) (hS:Sep H (j7 p [iv vC,vs,vp,vl]::mT jg.ag 3 vs steps::mT j4 1 vp pos::mT (mj j8.ag) 1 vl left::F)) (q1:steps.length<=11) (q2:pos.length=steps.length) (q3:left.length=steps.length):∃ v H',ji cfg FT js true 225 [(je p),.ip (iX.ag nn) 0 false,.agg (iM.ag x)] { H with iI:=[] } v H'/\(∃ vso:AV,∃ stepso:List jg,∃ vpo:AV,∃ poso:List Int,∃ vlo:AV,∃ lefto:List (Row j8),(stepso.length=steps.length+1/\poso.length=stepso.length/\(o7 nn.p.elems.l x.elem->(∀ s∈steps,o7 nn.p.elems.l s.elem)->∀ s∈stepso,o7 nn.p.elems.l s.elem)/\∃ w:Row j8,w.l.length<=2/\lefto=left++[w])/\Sep H' (j7 p [iv vC,vso,vpo,vlo]::mT jg.ag 3 vso stepso::mT j4 1 vpo poso::mT (mj j8.ag) 1 vlo lefto::F)/\v=.jl []):=by
 refine kh JM ?_
 refine br ?_
 refine cD ?_
 refine tn 0 hS ?_
 refine rq 0 hS ?_
 refine sb 0 hS vs ?_
 refine c8 ?_
 refine mF rfl rfl (lf (H:=H) (i:=1) (l:=steps) (enc:=jg.ag) [(⟨x.elem,x.en,(-1)⟩:jg)] hS rfl rfl rfl rfl rfl rfl rfl rfl rfl (λ_=>rfl) (.inr rfl) dJ (λ_=>rfl)) ?_
 rintro v1 H2 hS3
 refine tn 0 hS3 ?_
 refine rq 0 hS3 ?_
 refine mF rfl rfl (mN (H:=H2) (i:=0) (o:=1) (r:=v1) hS3 rfl rfl rfl rfl (nW rfl rfl (Sep.cell (i:=1) hS3 rfl)) (jb (Sep.cell (i:=1) hS3 rfl) kg) rfl) ?_
 rintro _ H4 ⟨rfl,hS5⟩
 refine rN ?_
 refine ae ?_
 refine Hb 0 hS5 ?_
 refine nh 0 hS5 ?_
 refine lU 0 hS5 vp ?_
 refine oV ?_
 refine jG rfl (lf (H:=H4) (i:=2) (l:=pos) (enc:=j4) [0] hS5 rfl rfl rfl rfl rfl rfl rfl rfl rfl (λ_=>rfl) (.inr rfl) dJ (λ_=>rfl)) ?_
 rintro v6 H7 hS8
 refine Hb 0 hS8 ?_
 refine nh 0 hS8 ?_
 refine jG rfl (mN (H:=H7) (i:=0) (o:=2) (r:=v6) hS8 rfl rfl rfl rfl (nW rfl rfl (Sep.cell (i:=2) hS8 rfl)) (jb (Sep.cell (i:=2) hS8 rfl) kg) rfl) ?_
 rintro _ H9 ⟨rfl,hS10⟩
 refine oN ?_
 refine qd ?_
 refine aP ?_
 refine tn 0 hS10 ?_
 refine rq 0 hS10 ?_
 refine sb 0 hS10 vl ?_
 refine co ?_
 refine rC (t291 nn x.elem x.en) ?_
 rintro _ ⟨r12,hc11,rfl⟩
 refine jh rfl rfl (λ_=>DF (xs:=[[uk r12]]) rfl rfl rfl rfl (PM (jb (mg _) kg) rfl)) ?_
 refine mF rfl rfl (lf (H:=H9) (i:=3) (l:=left) (enc:=(mj j8.ag)) [r12] hS10 rfl rfl rfl rfl rfl rfl rfl rfl rfl (λ_=>rfl) (.inr rfl) dJ (λ_=>rfl)) ?_
 rintro v13 H14 hS15
 refine tn 0 hS15 ?_
 refine rq 0 hS15 ?_
 refine mF rfl rfl (mN (H:=H14) (i:=0) (o:=3) (r:=v13) hS15 rfl rfl rfl rfl (nW rfl rfl (Sep.cell (i:=3) hS15 rfl)) (jb (Sep.cell (i:=3) hS15 rfl) kg) rfl) ?_
 rintro _ H16 ⟨rfl,hS17⟩
 refine rN ?_
 have hS18:=Sep.pick hS17 [0,1,2,3] 4 dA dA
 exact ⟨.jl [],rfl,v1,((steps++[(⟨x.elem,x.en,(-1)⟩:jg)])),v6,(pos++[0]),v13,(left++[r12]),(by refine ⟨by simp,by simp; omega,λh1 h2=>qU (P:=λs:jg=>o7 nn.p.elems.l s.elem) h2 h1,_,?_,rfl⟩; assumption),Sep.iI hS18 _,rfl⟩
def af0 (_a0:jm jg) (v:AV):Prop:=∃ r0:Row jg,(r0.l = _a0.l)/\v=jo r0
def t143 (a0:jm jg) (q1:a0.l.length<=1000):Ct 143 [jm.av jg.ag a0] (af0 a0):=by
 refine jf IJ ?_
 refine bC ?_
 refine lY (b:=a0.isNil) rfl (λ_=>qW rfl rfl rfl rfl) (λh1=>?_) (λh1=>?_)
 refine bh ?_
 exact xG ⟨(lD:Row jg),eV,rfl⟩
 refine aG ?_
 refine wy [jm.av jg.ag a0] [] ?_
 refine ae ?_
 have hS2:=Sep.uJ kB 3
 refine jG (H:=aT.empty) rfl (lf (H:=aT.empty) (i:=0) (l:=([]:List jg)) (enc:=jg.ag) a0.l hS2 rfl rfl rfl rfl rfl rfl rfl rfl rfl (λ_=>rfl) (.inl rfl) dJ (λ_=>rfl)) ?_
 rintro v3 H4 hS5
 refine af ?_
 obtain ⟨r6,hl7,hf8⟩:=mE (H:=H4) (i:=0) (l:=(([]:List jg)++a0.l)) (enc:=jg.ag) hS5 rfl dz
 have hlq:=hl7; have hln10:=congrArg List.length hl7
 have hz9:∀ m,freeze false { H4 with iI:=[] } (m+2) v3=some (jo r6):=λm=>hf8 _ _ (λ_=>rfl)
 exact ⟨v3,(lN (vs:=[v3]) rfl (jb (Sep.arg (i:=0) hS5 rfl) kg)),jo r6,(show freeze false { H4 with iI:=[] } 8 v3=some (jo r6) by simp only [FZ,hz9]),r6,eV,rfl⟩
def HD (_a0:nC) (_a1:Int) (_a2:Int) (_a3:Int) (v:AV):Prop:=∃ r0:ja,((r0.steps.l = _a0.steps.l/\r0.l8.l.length<=_a0.steps.l.length/\r0.guards.l=[]/\r0.mB.l=[]/\r0.holds.l=[]))/\v=.agg (ja.ag r0)
def t226 (a0:nC) (a1:Int) (a2:Int) (a3:Int) (q1:a0.steps.l.length<=12) (q2:a0.pos.l.length=a0.steps.l.length):Ct 226 [.ip (nC.ag a0) 0 true,iv a1,iv a2,iv a3] (HD a0 a1 a2 a3):=by
 refine jf Jy ?_
 refine cC ?_
 refine bR ?_
 refine oC (t143 a0.steps dw) ?_
 rintro _ ⟨r2,hc1,rfl⟩
 have hC93:=congrArg List.length hc1; try simp only [Row.ny] at hC93
 refine aw ?_
 refine aA ?_
 refine bD ?_
 have hL3:=a0.steps.lk
 refine iT rfl (λ_=>oH (r:=a0.steps) (enc:=jg.ag) rfl rfl rfl rfl rfl rfl) ?_
 refine aL ?_
 have hS4:=Sep.mX kB 2
 have hNk5:=a0.steps.lk
 refine iW a0.steps.l.length (λk5 e h=>∃ v6:AV,∃ l7:List jO,∃ H8:aT,(l7.length<=0+k5)/\Sep H8 (nZ jO.ag 2 v6 l7::[])/\At [0,8,9,24,25,26] [.ip (nC.ag a0) 0 true,.la 8 0,.la 9 0,jm.av jg.ag a0.steps,iF a0.steps.l.length,iF k5] H8 [(8,[iv 0,iv 0,iv 0,iS,iS,iS,iS,iS,iR]),(9,[iv a1,iv a2,iv a3,jo r2,v6,iS,iS,iS,iR])] e h) ?_ (k0:=0) dD ⟨iS,(([]:List jO)),aT.empty,ew,hS4,atR⟩
 rintro k5 e h hkk5 ⟨v6,l7,H8,hl10,hS9,hA⟩
 refine aK ?_
 refine jk (λh11=>?_) (λh11=>?_)
 refine aq ?_
 refine bE ?_
 have hx12:k5<a0.steps.l.length:=by omega
 refine iT rfl (λ_=>nQ (n:=k5) (r:=a0.steps) (enc:=jg.ag) rfl rfl rfl rfl rfl hx12 rfl) ?_
 generalize hqx13:a0.steps.l[k5]=x13
 refine aH ?_
 refine aW ?_
 refine bR ?_
 have hx14:k5<a0.pos.l.length:=by omega
 refine iT rfl (λ_=>nQ (n:=k5) (r:=a0.pos) (enc:=j4) rfl rfl rfl rfl rfl hx14 rfl) ?_
 generalize hqx15:a0.pos.l[k5]=x15
 refine oV ?_
 refine lb (λh16=>?_) (λh16=>?_)
 refine aC ?_
 refine qd ?_
 iterate 9 refine rV ?_
 have hx17:k5<a0.pos.l.length:=by omega
 refine jh rfl rfl (λ_=>nQ (n:=k5) (r:=a0.pos) (enc:=j4) rfl rfl rfl rfl rfl hx17 rfl) ?_
 rw [hqx15]
 refine bB ?_
 refine mF rfl rfl (lf (H:=H8) (i:=0) (l:=l7) (enc:=jO.ag) [(⟨x13.elem,x15⟩:jO)] hS9 rfl rfl rfl rfl rfl rfl rfl rfl rfl (λ_=>rfl) (.inl rfl) dJ (λ_=>rfl)) ?_
 rintro v19 H20 hS21
 refine rV ?_
 refine jh rfl rfl (λ_=>BS rfl rfl rfl (nW rfl rfl (Sep.cell (i:=0) hS21 rfl)) (jb (Sep.cell (i:=0) hS21 rfl) kg) rfl rfl) ?_
 refine rN ?_
 refine qg ?_
 refine jq ?_
 refine ab ?_
 exact ⟨by omega,v19,((l7++[(⟨x13.elem,x15⟩:jO)])),H20,dB,hS21,atR⟩
 refine bZ ?_
 refine jq ?_
 refine ab ?_
 exact ⟨by omega,v6,l7,H8,dB,hS9,atR⟩
 refine ap ?_
 refine ao ?_
 refine iT rfl (λ_=>BS rfl rfl rfl rfl (jb rfl (jb rfl (jb rfl (jb rfl (jb (Sep.cell (i:=0) hS9 rfl) (jb rfl (jb rfl (jb rfl (jb rfl kg))))))))) rfl rfl) ?_
 refine oN ?_
 refine qr ?_
 obtain ⟨r22,hl23,hf24⟩:=mE (H:=H8) (i:=0) (l:=l7) (enc:=jO.ag) hS9 rfl dz
 have hlq:=hl23; have hln26:=congrArg List.length hl23
 have hz25:∀ m,freeze false { H8 with iI:=[(8,[iv a1,iv a2,iv a3,jo r2,v6,iS,iS,iS,iR]),(9,[iv a1,iv a2,iv a3,jo r2,v6,iS,iS,iS,iR])] } (m+2) v6=some (ke r22):=λm=>hf24 _ _ (λ_=>rfl)
 exact ⟨.agg [iv a1,iv a2,iv a3,jo r2,v6,iS,iS,iS,iR],(lN (vs:=[.agg [iv a1,iv a2,iv a3,jo r2,v6,iS,iS,iS,iR]]) rfl rfl),.agg [iv a1,iv a2,iv a3,jo r2,ke r22,iS,iS,iS,iR],(show freeze false { H8 with iI:=[(8,[iv a1,iv a2,iv a3,jo r2,v6,iS,iS,iS,iR]),(9,[iv a1,iv a2,iv a3,jo r2,v6,iS,iS,iS,iR])] } 8 (.agg [iv a1,iv a2,iv a3,jo r2,v6,iS,iS,iS,iR])=some (.agg [iv a1,iv a2,iv a3,jo r2,ke r22,iS,iS,iS,iR]) by simp only [FZ,hz25]),(⟨a1,a2,a3,r2,r22,(lD:Row jO),(lD:Row Int),(lD:Row Int),false⟩:ja),(by first | exact ⟨by assumption,by dsimp only; omega,rfl,rfl,rfl⟩ | exact ⟨by assumption,by simp,rfl,rfl,rfl⟩),rfl⟩
def agh {H:aT} (p:Nat) (vC:Int) (vs:AV) (steps:List jg) (vp:AV) (pos:List Int) (vl:AV) (left:List (Row j8)) (F:List jW) (hS:Sep H (j7 p [iv vC,vs,vp,vl]::mT jg.ag 3 vs steps::mT j4 1 vp pos::mT (mj j8.ag) 1 vl left::F)) (q1:steps.length<=12) (q2:pos.length=steps.length) (q3:left.length=steps.length) (q4:0<steps.length):∃ v H',ji cfg FT js true 227 [(je p)] { H with iI:=[] } v H'/\(∃ vso:AV,∃ stepso:List jg,∃ vpo:AV,∃ poso:List Int,∃ vlo:AV,∃ lefto:List (Row j8),(stepso.length+1=steps.length/\poso.length=stepso.length/\(∀ s∈stepso,s∈steps)/\lefto=left.take (left.length - 1))/\Sep H' (j7 p [iv vC,vso,vpo,vlo]::mT jg.ag 3 vso stepso::mT j4 1 vpo poso::mT (mj j8.ag) 1 vlo lefto::F)/\v=.jl []):=by
 refine kh Hs ?_
 refine ao ?_
 refine bi ?_
 refine iT rfl (λ_=>oY (i:=0) (o:=1) (r:=vs) hS rfl rfl rfl rfl) ?_
 refine iT rfl (λ_=>oT (i:=1) hS rfl rfl rfl rfl rfl rfl rfl) ?_
 refine nI ?_
 refine ab ?_
 refine qd ?_
 refine bT ?_
 refine jh rfl rfl (λ_=>qI (i:=0) hS rfl rfl) ?_
 refine jh rfl rfl (λ_=>pB (i:=0) hS rfl rfl rfl rfl rfl) ?_
 refine jh rfl rfl (λ_=>oY (i:=0) (o:=1) (r:=vs) hS rfl rfl rfl rfl) ?_
 refine rV ?_
 have hk1:((((steps.length:Int) - 1).toNat:Nat):Int)=(steps.length:Int) - 1:=Int.toNat_of_nonneg dB
 have hx2:((steps.length:Int) - 1).toNat<=steps.length:=by first | omega | (simp<;>omega) | (simp_all; omega)
 refine mF rfl rfl (w9 (i:=1) (k:=((steps.length:Int) - 1).toNat) hS rfl rfl rfl rfl rfl rfl (congrArg (AV.int .i64) hk1.symm) hx2) ?_
 rintro v3 H4 ⟨hc5,hS6⟩
 refine rV ?_
 refine jh rfl rfl (λ_=>qI (i:=0) hS6 rfl rfl) ?_
 refine jh rfl rfl (λ_=>pB (i:=0) hS6 rfl rfl rfl rfl rfl) ?_
 refine jh rfl rfl (λ_=>oY (i:=0) (o:=2) (r:=vp) hS6 rfl rfl rfl rfl) ?_
 refine rV ?_
 have hk7:((((steps.length:Int) - 1).toNat:Nat):Int)=(steps.length:Int) - 1:=Int.toNat_of_nonneg dB
 have hx8:((steps.length:Int) - 1).toNat<=pos.length:=by first | omega | (simp<;>omega) | (simp_all; omega)
 refine mF rfl rfl (w9 (i:=2) (k:=((steps.length:Int) - 1).toNat) hS6 rfl rfl rfl rfl rfl rfl (congrArg (AV.int .i64) hk7.symm) hx8) ?_
 rintro v9 H10 ⟨hc11,hS12⟩
 refine rV ?_
 refine jh rfl rfl (λ_=>qI (i:=0) hS12 rfl rfl) ?_
 refine jh rfl rfl (λ_=>pB (i:=0) hS12 rfl rfl rfl rfl rfl) ?_
 refine jh rfl rfl (λ_=>oY (i:=0) (o:=3) (r:=vl) hS12 rfl rfl rfl rfl) ?_
 refine rV ?_
 have hk13:((((steps.length:Int) - 1).toNat:Nat):Int)=(steps.length:Int) - 1:=Int.toNat_of_nonneg dB
 have hx14:((steps.length:Int) - 1).toNat<=left.length:=by first | omega | (simp<;>omega) | (simp_all; omega)
 refine mF rfl rfl (w9 (i:=3) (k:=((steps.length:Int) - 1).toNat) hS12 rfl rfl rfl rfl rfl rfl (congrArg (AV.int .i64) hk13.symm) hx14) ?_
 rintro v15 H16 ⟨hc17,hS18⟩
 refine jh rfl rfl (λ_=>qI (i:=0) hS18 rfl rfl) ?_
 refine jh rfl rfl (λ_=>pB (i:=0) hS18 rfl rfl rfl rfl rfl) ?_
 refine uj rfl rfl (mN (i:=0) (o:=1) (r:=v3) hS18 rfl rfl rfl rfl (nW rfl rfl (Sep.cell (i:=1) hS18 rfl)) (jb (Sep.cell (i:=1) hS18 rfl) kg) rfl) ?_
 rintro _ H19 ⟨rfl,hS20⟩
 refine ⟨λcall=>(Ez (nq rfl rfl rfl (tg (i:=2) (k:=((steps.length:Int) - 1).toNat) hS20 rfl hc11 rfl rfl rfl rfl rfl (congrArg (AV.int .i64) hk7.symm)) rfl (CE (i:=2) hS20 rfl)) (AE (nq rfl rfl rfl (tg (i:=3) (k:=((steps.length:Int) - 1).toNat) hS20 rfl hc17 rfl rfl rfl rfl rfl (congrArg (AV.int .i64) hk13.symm)) rfl (CE (i:=3) hS20 rfl)))),?_⟩
 refine jh rfl rfl (λ_=>qI (i:=0) hS20 rfl rfl) ?_
 refine jh rfl rfl (λ_=>pB (i:=0) hS20 rfl rfl rfl rfl rfl) ?_
 refine uj rfl rfl (mN (i:=0) (o:=2) (r:=v9) hS20 rfl rfl rfl rfl (nW rfl rfl (Sep.cell (i:=2) hS20 rfl)) (jb (Sep.cell (i:=2) hS20 rfl) kg) rfl) ?_
 rintro _ H21 ⟨rfl,hS22⟩
 refine ⟨λcall=>(AE (nq rfl rfl rfl (tg (i:=3) (k:=((steps.length:Int) - 1).toNat) hS22 rfl hc17 rfl rfl rfl rfl rfl (congrArg (AV.int .i64) hk13.symm)) rfl (CE (i:=3) hS22 rfl))),?_⟩
 refine jh rfl rfl (λ_=>qI (i:=0) hS22 rfl rfl) ?_
 refine jh rfl rfl (λ_=>pB (i:=0) hS22 rfl rfl rfl rfl rfl) ?_
 refine mF rfl rfl (mN (i:=0) (o:=3) (r:=v15) hS22 rfl rfl rfl rfl (nW rfl rfl (Sep.cell (i:=3) hS22 rfl)) (jb (Sep.cell (i:=3) hS22 rfl) kg) rfl) ?_
 rintro _ H23 ⟨rfl,hS24⟩
 refine rN ?_
 have hS25:=Sep.pick hS24 [0,1,2,3] 4 dA dA
 exact ⟨.jl [],rfl,v3,(steps.take (((steps.length:Int) - 1).toNat)),v9,(pos.take (((steps.length:Int) - 1).toNat)),v15,(left.take (((steps.length:Int) - 1).toNat)),(by refine ⟨by simp only [List.length_take]; omega,by simp only [List.length_take]; omega,λs hs=>List.mem_of_mem_take hs,?_⟩; congr 1; omega),Sep.iI hS25 _,rfl⟩
def ah6 (_a0:iX) (_a1:Int) (v:AV):Prop:=∃ r0:Row ja,(r0.l.length<=8192/\(∀ r∈(r0.l:List ja),0<r.steps.l.length/\r.steps.l.length<=12/\r.l8.l.length<=12/\ow _a0.p.elems.l r))/\v=ju r0
def t142 (a0:iX) (a1:Int) (hJg:∀ y∈univ a0,o7 a0.p.elems.l y.elem):Ct 142 [.ip (iX.ag a0) 0 false,iv a1] (ah6 a0 a1):=by
 refine jf J1 ?_
 refine br ?_
 refine sT ?_
 refine ae ?_
 refine oC (t173 a0 a1) ?_
 rintro _ ⟨r2,r3,hc1,rfl⟩
 have hA:=hc1.1; have hA0:=hc1.2
 cases r3
 refine cJ ?_
 refine ac ?_
 exact xG ⟨(lD:Row ja),eZ,rfl⟩
 refine cJ ?_
 refine ah ?_
 refine wy [.ip (iX.ag a0) 0 false,iv a1,.la 5 0] [(5,(iM.ag r2))] ?_
 refine ae ?_
 refine oC (t146 a0 r2) ?_
 rintro _ ⟨r5,r6,hc4,rfl⟩
 have hN:=hc4
 cases r6
 refine cJ ?_
 refine ac ?_
 exact xG ⟨(lD:Row ja),eZ,rfl⟩
 refine cJ ?_
 refine ah ?_
 refine wy [.ip (iX.ag a0) 0 false,iv a1,.la 5 0,.la 7 0] [(5,(iM.ag r2)),(7,(iM.ag r5))] ?_
 refine br ?_
 refine aJ ?_
 refine jG rfl (sr kB rfl rfl rfl rfl rfl) ?_
 rintro _ H8 ⟨b7,rfl,hS9⟩
 refine ab ?_
 refine qq ?_
 refine ql ?_
 refine aF ?_
 have hS10:=Sep.mX hS9 1
 have hS11:=Sep.mX hS10 9
 have hS12:=Sep.mX hS11 1
 have hS13:=Sep.mX hS12 3
 have hS14:=Sep.wZ (i:=0) hS13 rfl
 have hS15:=Sep.wZ (i:=1) hS14 rfl
 have hS16:=Sep.wZ (i:=3) hS15 rfl
 refine nS (λm30 e h=>∃ v17:AV,∃ l18:List jg,∃ v19:AV,∃ l20:List Int,∃ v21:AV,∃ l22:List ja,∃ v23:AV,∃ l24:List (Row j8),∃ n25:Int,∃ n26:Int,∃ n27:Int,∃ H28:aT,m30=2*(wt l24+uw l18.length)+l18.length/\(l18.length<=12/\l20.length=l18.length/\l22.length+wt l24+uw l18.length<=8192)/\(l24.length=l18.length)/\((∀ r∈(l22:List ja),0<r.steps.l.length/\r.steps.l.length<=12/\r.l8.l.length<=12/\ow a0.p.elems.l r))/\(∀ s∈(l18:List jg),o7 a0.p.elems.l s.elem)/\(o7 a0.p.elems.l n25)/\Sep H28 (mT jg.ag 3 v17 l18::mT j4 1 v19 l20::nZ ja.ag 9 v21 l22::mT (mj j8.ag) 1 v23 l24::j7 b7 [iv n27,v17,v19,v23]::[])/\At [0,1,7,8,9] [.ip (iX.ag a0) 0 false,iv a1,.la 7 0,v21,(je b7)] H28 [(7,[iv n25,iv n26])] e h) ?_ _ _ _ ⟨iS,(([]:List jg)),iS,(([]:List Int)),iS,(([]:List ja)),iS,(([]:List (Row j8))),r5.elem,r5.en,r2.elem,H8,rfl,(by (simp [Vw,V3])),fg,fg,fg,(by exact hJg _ (uy dv)),hS16,atR⟩
 rintro m30 e h ⟨v17,l18,v19,l20,v21,l22,v23,l24,n25,n26,n27,H28,hmm30,hL,hL3,hRo,hSg,hxg,hS29,hA⟩
 refine rA hA ?_
 clear hA
 have hPp:l18.length<=12->1<=uw l18.length:=AD
 refine qb ?_
 refine sT ?_
 refine AR (λE Z=>∃ v31:AV,∃ l32:List jg,∃ v33:AV,∃ l34:List Int,∃ v35:AV,∃ l36:List ja,∃ v37:AV,∃ l38:List (Row j8),∃ H39:aT,(l32.length<=12/\l34.length=l32.length/\l36.length+wt l38<=8192/\2*wt l38+l32.length<m30)/\(l38.length=l32.length)/\((∀ r∈(l36:List ja),0<r.steps.l.length/\r.steps.l.length<=12/\r.l8.l.length<=12/\ow a0.p.elems.l r))/\(∀ s∈(l32:List jg),o7 a0.p.elems.l s.elem)/\Sep H39 (mT jg.ag 3 v31 l32::mT j4 1 v33 l34::nZ ja.ag 9 v35 l36::mT (mj j8.ag) 1 v37 l38::j7 b7 [iv n27,v31,v33,v37]::[])/\E=[(0,.ip (iX.ag a0) 0 false),(1,iv a1),(7,.la 7 0),(8,v35),(9,(je b7))]/\Z = { H39 with iI:=[(7,[iv n25,iv n26])] }) ?_ ?_
 rintro _ _ ⟨v31,l32,v33,l34,v35,l36,v37,l38,H39,hL,hL3,hRo,hSg,hS40,rfl,rfl⟩
 have hPp:l32.length<=12->1<=uw l32.length:=AD
 refine qq ?_
 refine ql ?_
 refine aF ?_
 refine nS (λm51 e h=>∃ v41:AV,∃ l42:List jg,∃ v43:AV,∃ l44:List Int,∃ v45:AV,∃ l46:List ja,∃ v47:AV,∃ l48:List (Row j8),∃ H49:aT,m51=2*wt l48+l42.length/\(l42.length<=12/\l44.length=l42.length/\l46.length+wt l48<=8192/\2*wt l48+l42.length<m30)/\(l48.length=l42.length)/\((∀ r∈(l46:List ja),0<r.steps.l.length/\r.steps.l.length<=12/\r.l8.l.length<=12/\ow a0.p.elems.l r))/\(∀ s∈(l42:List jg),o7 a0.p.elems.l s.elem)/\Sep H49 (mT jg.ag 3 v41 l42::mT j4 1 v43 l44::nZ ja.ag 9 v45 l46::mT (mj j8.ag) 1 v47 l48::j7 b7 [iv n27,v41,v43,v47]::[])/\At [0,1,7,8,9] [.ip (iX.ag a0) 0 false,iv a1,.la 7 0,v45,(je b7)] H49 [(7,[iv n25,iv n26])] e h) ?_ _ _ _ ⟨v31,l32,v33,l34,v35,l36,v37,l38,H39,rfl,dD,dD,(by exact hRo),fS,hS40,(jD hS40 [(8,2)])⟩
 rintro m51 e h ⟨v41,l42,v43,l44,v45,l46,v47,l48,H49,hmm51,hL,hL3,hRo,hSg,hS50,hA⟩
 refine rA hA ?_
 clear hA
 have hPp:l42.length<=12->1<=uw l42.length:=AD
 refine aB ?_
 refine ce ?_
 refine kn (λh52=>?_) (λh52=>?_)
 refine bX ?_
 refine wz [.ip (iX.ag a0) 0 false,iv a1,.la 7 0,v45,(je b7)] H49 [(7,[iv n25,iv n26])] ?_ (jD hS50 [(8,2)])
 refine qb ?_
 refine ao ?_
 refine ce ?_
 refine nI ?_
 refine az ?_
 refine dh ?_
 have hk53:((((l42.length:Int) - 1).toNat:Nat):Int)=(l42.length:Int) - 1:=Int.toNat_of_nonneg dB
 have hx54:((l42.length:Int) - 1).toNat<l48.length:=by first | omega | (simp<;>omega) | (simp_all; omega)
 obtain ⟨x55,hqx55⟩:∃ x,l48[((l42.length:Int) - 1).toNat]=x:=⟨_,rfl⟩
 refine v8 rfl (nY (H:=H49) (i:=3) (m:=((l42.length:Int) - 1).toNat) (cs:=(mj j8.ag) x55) hS50 rfl rfl rfl rfl rfl rfl (congrArg (AV.int .i64) hk53.symm) (mn hx54 hqx55)) ?_
 rintro a56 ⟨ha57,hea58⟩
 refine iT rfl (λ_=>qJ (H:=H49) (i:=3) (m:=((l42.length:Int) - 1).toNat) (o:=0) (r:=uk x55) (cs:=(mj j8.ag) x55) hS50 rfl (mn hx54 hqx55) hea58 rfl rfl ha57) ?_
 have hL59:=x55.lk
 refine jK x55 ?_
 refine jz (λh60=>?_) (λh60=>?_)
 refine aC ?_
 refine ao ?_
 have hS61:=Sep.pick hS50 [4,0,1,3,2] 5 dA dA
 refine jV (H:=H49) (args:=[(je b7)]) (p:=[]) (r:=[]) rfl rfl rfl rfl rfl rfl rfl (agh b7 n27 v41 l42 v43 l44 v47 l48 (nZ ja.ag 9 v45 l46::[]) hS61 dw dw dw dw) ?_
 rintro _ H62 ⟨vso65,stepso66,vpo67,poso68,vlo69,lefto70,hc64,hS63,rfl⟩
 obtain ⟨hp1,hp2,hpS,hp3⟩:=hc64
 have hSg:∀ s∈stepso66,o7 a0.p.elems.l s.elem:=λs hs=>hSg s (hpS s hs)
 have hWt:wt lefto70=wt l48:=by rw [hp3]; exact M1 dv dD dv dD
 have hp5:lefto70.length+1=l48.length:=by rw [hp3,List.length_take]; omega
 refine oN ?_
 refine qe ?_
 have hS71:=Sep.pick hS63 [1,2,4,3,0] 5 dA dA
 refine ⟨_,?_,vso65,stepso66,vpo67,poso68,v45,l46,vlo69,lefto70,H62,rfl,dD,dD,dy,fS,hS71,(jD hS71 [(8,2)])⟩
 omega
 refine aG ?_
 refine wz [.ip (iX.ag a0) 0 false,iv a1,.la 7 0,v45,(je b7),iv ((l42.length:Int) - 1)] H49 [(7,[iv n25,iv n26])] ?_ (jD hS50 [(8,2)])
 refine ao ?_
 refine dh ?_
 have hk72:((((l42.length:Int) - 1).toNat:Nat):Int)=(l42.length:Int) - 1:=Int.toNat_of_nonneg dB
 have hx73:((l42.length:Int) - 1).toNat<l48.length:=by first | omega | (simp<;>omega) | (simp_all; omega)
 refine v8 rfl (nY (H:=H49) (i:=3) (m:=((l42.length:Int) - 1).toNat) (cs:=(mj j8.ag) x55) hS50 rfl rfl rfl rfl rfl rfl (congrArg (AV.int .i64) hk72.symm) (mn hx73 hqx55)) ?_
 rintro a74 ⟨ha75,hea76⟩
 refine iT rfl (λ_=>qJ (H:=H49) (i:=3) (m:=((l42.length:Int) - 1).toNat) (o:=0) (r:=uk x55) (cs:=(mj j8.ag) x55) hS50 rfl (mn hx73 hqx55) hea76 rfl rfl ha75) ?_
 have hx77:0<x55.l.length:=by omega
 refine kQ 0 x55 hx77 ?_
 generalize hqx78:x55.l[0]=x78
 refine bd ?_
 refine cZ ?_
 refine tn 4 hS50 ?_
 refine rq 4 hS50 ?_
 refine sb 4 hS50 v47 ?_
 refine aP ?_
 refine tn 4 hS50 ?_
 refine rq 4 hS50 ?_
 refine sb 4 hS50 v47 ?_
 refine rV ?_
 have hk79:((((l42.length:Int) - 1).toNat:Nat):Int)=(l42.length:Int) - 1:=Int.toNat_of_nonneg dB
 have hx80:((l42.length:Int) - 1).toNat<l48.length:=by first | omega | (simp<;>omega) | (simp_all; omega)
 refine pC rfl rfl (nY (H:=H49) (i:=3) (m:=((l42.length:Int) - 1).toNat) (cs:=(mj j8.ag) x55) hS50 rfl rfl rfl rfl rfl rfl (congrArg (AV.int .i64) hk79.symm) (mn hx80 hqx55)) ?_
 rintro a81 ⟨ha82,hea83⟩
 refine jh rfl rfl (λ_=>qJ (H:=H49) (i:=3) (m:=((l42.length:Int) - 1).toNat) (o:=0) (r:=uk x55) (cs:=(mj j8.ag) x55) hS50 rfl (mn hx80 hqx55) hea83 rfl rfl ha82) ?_
 have hx84:1<=x55.l.length:=by omega
 refine jh rfl rfl (λ_=>Ma (k:=1) (r:=x55) (enc:=j8.ag) (n:=2) rfl rfl rfl rfl rfl rfl hx84 (λ_=>rfl)) ?_
 have hk85:((((l42.length:Int) - 1).toNat:Nat):Int)=(l42.length:Int) - 1:=Int.toNat_of_nonneg dB
 have hx86:((l42.length:Int) - 1).toNat<l48.length:=by first | omega | (simp<;>omega) | (simp_all; omega)
 refine pC rfl rfl (nY (H:=H49) (i:=3) (m:=((l42.length:Int) - 1).toNat) (cs:=(mj j8.ag) x55) hS50 rfl rfl rfl rfl rfl rfl (congrArg (AV.int .i64) hk85.symm) (mn hx86 hqx55)) ?_
 rintro a87 ⟨ha88,hea89⟩
 have hWs:wt (l48.set _ (Row.drop x55 1))+uw l48.length=wt l48:=Vs hx86 dD hqx55 dD (by simp [Row.drop]; omega); rw [hL3] at hWs
 have hz92:(l48.set (((l42.length:Int) - 1).toNat) (Row.drop x55 1)).length=l48.length:=List.length_set
 refine mF rfl rfl (wA (H:=H49) (i:=3) (m:=((l42.length:Int) - 1).toNat) (o:=0) x55 (Row.drop x55 1) hS50 rfl hx86 hqx55 hea89 rfl ha88 rfl rfl rfl rfl) ?_
 rintro _ H90 ⟨rfl,hS91⟩
 simp only [List.set] at hS91
 refine rN ?_
 refine cZ ?_
 refine tn 4 hS91 ?_
 refine rq 4 hS91 ?_
 refine sb 4 hS91 v41 ?_
 refine aP ?_
 refine tn 4 hS91 ?_
 refine rq 4 hS91 ?_
 refine sb 4 hS91 v43 ?_
 refine co ?_
 have hk93:((((l42.length:Int) - 1).toNat:Nat):Int)=(l42.length:Int) - 1:=Int.toNat_of_nonneg dB
 have hx94:((l42.length:Int) - 1).toNat<l42.length:=by first | omega | (simp<;>omega) | (simp_all; omega)
 obtain ⟨x95,hqx95⟩:∃ x,l42[((l42.length:Int) - 1).toNat]=x:=⟨_,rfl⟩
 refine pC rfl rfl (nY (H:=H90) (i:=0) (m:=((l42.length:Int) - 1).toNat) (cs:=jg.ag x95) hS91 rfl rfl rfl rfl rfl rfl (congrArg (AV.int .i64) hk93.symm) (mn hx94 hqx95)) ?_
 rintro a96 ⟨ha97,hea98⟩
 refine jh rfl rfl (λ_=>EA.Tg hea98 rfl rfl rfl ha97) ?_
 have hSg:=Ve (x2:=(⟨x95.elem,x95.oB,x78.out⟩:jg)) hSg hqx95 rfl
 have hz101:(l42.set (((l42.length:Int) - 1).toNat) (⟨x95.elem,x95.oB,x78.out⟩:jg)).length=l42.length:=List.length_set
 refine uj rfl rfl (wA (H:=H90) (i:=0) (m:=((l42.length:Int) - 1).toNat) (o:=2) x95 (⟨x95.elem,x95.oB,x78.out⟩:jg) hS91 rfl hx94 hqx95 hea98 rfl rfl rfl rfl rfl rfl) ?_
 rintro _ H99 ⟨rfl,hS100⟩
 refine ⟨λcall=>(AE (nq rfl rfl rfl rfl rfl eP)),?_⟩
 have hk102:((((l42.length:Int) - 1).toNat:Nat):Int)=(l42.length:Int) - 1:=Int.toNat_of_nonneg dB
 have hx103:((l42.length:Int) - 1).toNat<l44.length:=by first | omega | (simp<;>omega) | (simp_all; omega)
 obtain ⟨x104,hqx104⟩:∃ x,l44[((l42.length:Int) - 1).toNat]=x:=⟨_,rfl⟩
 refine pC rfl rfl (nY (H:=H99) (i:=1) (m:=((l42.length:Int) - 1).toNat) (cs:=j4 x104) hS100 rfl rfl rfl rfl rfl rfl (congrArg (AV.int .i64) hk102.symm) (mn hx103 hqx104)) ?_
 rintro a105 ⟨ha106,hea107⟩
 have hz110:(l44.set (((l42.length:Int) - 1).toNat) x78.pos).length=l44.length:=List.length_set
 refine mF rfl rfl (wA (H:=H99) (i:=1) (m:=((l42.length:Int) - 1).toNat) (o:=0) x104 x78.pos hS100 rfl hx103 hqx104 hea107 rfl ha106 rfl rfl rfl rfl) ?_
 rintro _ H108 ⟨rfl,hS109⟩
 simp only [List.set] at hS109
 refine rN ?_
 refine cZ ?_
 refine tn 4 hS109 ?_
 refine rq 4 hS109 ?_
 refine sb 4 hS109 v41 ?_
 refine rV ?_
 have hk111:((((l42.length:Int) - 1).toNat:Nat):Int)=(l42.length:Int) - 1:=Int.toNat_of_nonneg dB
 have hx112:((l42.length:Int) - 1).toNat<((l42.set (((l42.length:Int) - 1).toNat) (⟨x95.elem,x95.oB,x78.out⟩:jg))).length:=by first | omega | (simp<;>omega) | (simp_all; omega)
 obtain ⟨x113,hqx113⟩:∃ x,((l42.set (((l42.length:Int) - 1).toNat) (⟨x95.elem,x95.oB,x78.out⟩:jg)))[((l42.length:Int) - 1).toNat]=x:=⟨_,rfl⟩
 refine pC rfl rfl (nY (H:=H108) (i:=0) (m:=((l42.length:Int) - 1).toNat) (cs:=jg.ag x113) hS109 rfl rfl rfl rfl rfl rfl (congrArg (AV.int .i64) hk111.symm) (mn hx112 hqx113)) ?_
 rintro a114 ⟨ha115,hea116⟩
 refine jh rfl rfl (λ_=>EA.Tg hea116 rfl rfl rfl ha115) ?_
 refine jh rfl rfl (λ_=>qJ (H:=H108) (i:=0) (m:=((l42.length:Int) - 1).toNat) (o:=0) (r:=iv x113.elem) (cs:=jg.ag x113) hS109 rfl (mn hx112 hqx113) hea116 rfl rfl rfl) ?_
 refine bT ?_
 refine aR ?_
 refine aZ ?_
 refine oC (t139 a0 (⟨x113.elem,x78.out⟩:iM)) ?_
 rintro _ ⟨r118,hc117,rfl⟩
 have hR:=hc117
 refine cV ?_
 refine lP (λh119=>?_) (λh119=>?_)
 refine aC ?_
 refine bD ?_
 refine oh hS109 0 λr120 hl121 hln124 hz123=>?_
 refine oh hS109 1 λr125 hl126 hln129 hz128=>?_
 refine oh hS109 3 λr130 hl131 hln134 hz133=>?_
 have hz135:∀ m,freeze true { H108 with iI:=[] } (m+4) (je b7)=some (.ip [iv n27,jm.av jg.ag r120,qj r125,jm.av (mj j8.ag) r130] 0 true):=λm=>uI (i:=4) hS109 rfl [] _ (by simp only [FZ,hz123,hz128,hz133]; try rfl)
 refine mV (args:=[(je b7),iv a1,iv r118,iv 1]) (p:=[]) (r:=[]) (args':=[.ip [iv n27,jm.av jg.ag r120,qj r125,jm.av (mj j8.ag) r130] 0 true,iv a1,iv r118,iv 1]) (R:=HD (⟨n27,r120,r125,r130⟩:nC) a1 r118 1) rfl rfl rfl rfl rfl rfl rfl fp (lj (by show jJ (freeze true { H108 with iI:=[] } 8) [(je b7),iv a1,iv r118,iv 1] = _; simp only [FZ,hz123,hz128,hz133,hz135]) (jb rfl (jb rfl (jb rfl (jb rfl kg))))) (lj fe (jb rfl (jb rfl (jb rfl (jb rfl kg))))) (λh=>t226 (⟨n27,r120,r125,r130⟩:nC) a1 r118 1 dw dw h) ?_
 rintro _ ⟨r137,hc136,rfl⟩
 have hC158:=congrArg List.length hc136.1; have hD158:=hc136.2.1; dsimp only at hC158 hD158; have hG158:=Az hc136.1 dv hSg hc136.2.2
 refine iT rfl (λ_=>DF (xs:=[(ja.ag r137)]) rfl rfl rfl rfl (PM (jb rfl (jb rfl (jb rfl (jb (mg _) (jb (mg _) (jb (mg _) (jb (mg _) (jb (mg _) (jb rfl kg))))))))) rfl)) ?_
 have hz141:(l46++[r137]).length=l46.length+1:=List.length_append
 refine jG rfl (lf (H:=H108) (i:=2) (l:=l46) (enc:=ja.ag) [r137] hS109 rfl rfl rfl rfl rfl rfl rfl rfl rfl (λ_=>rfl) (.inl rfl) dJ (λ_=>rfl)) ?_
 rintro v138 H139 hS140
 simp only [List.set] at hS140
 refine ab ?_
 refine qe ?_
 refine ⟨_,?_,v41,((l42.set (((l42.length:Int) - 1).toNat) (⟨x95.elem,x95.oB,x78.out⟩:jg))),v43,((l44.set (((l42.length:Int) - 1).toNat) x78.pos)),v138,((l46++[r137])),v47,((l48.set (((l42.length:Int) - 1).toNat) (Row.drop x55 1))),H139,rfl,dD,dD,dy,fS,hS140,(jD hS140 [(8,2)])⟩
 omega
 refine aG ?_
 refine wz [.ip (iX.ag a0) 0 false,iv a1,.la 7 0,v45,(je b7),.la 12 0] H108 [(7,[iv n25,iv n26]),(12,[iv x113.elem,iv x78.out])] ?_ (jD hS109 [(8,2)])
 refine ae ?_
 refine oC (t146 a0 (⟨x113.elem,x78.out⟩:iM)) ?_
 rintro _ ⟨r143,r144,hc142,rfl⟩
 have hN:=hc142
 cases r144
 refine cJ ?_
 refine bc ?_
 refine aJ ?_
 refine oh hS109 0 λr145 hl146 hln149 hz148=>?_
 refine oh hS109 1 λr150 hl151 hln154 hz153=>?_
 refine oh hS109 3 λr155 hl156 hln159 hz158=>?_
 have hz160:∀ m,freeze true { H108 with iI:=[] } (m+4) (je b7)=some (.ip [iv n27,jm.av jg.ag r145,qj r150,jm.av (mj j8.ag) r155] 0 true):=λm=>uI (i:=4) hS109 rfl [] _ (by simp only [FZ,hz148,hz153,hz158]; try rfl)
 refine mV (args:=[(je b7),iv a1,iv (-1),iv 3]) (p:=[]) (r:=[]) (args':=[.ip [iv n27,jm.av jg.ag r145,qj r150,jm.av (mj j8.ag) r155] 0 true,iv a1,iv (-1),iv 3]) (R:=HD (⟨n27,r145,r150,r155⟩:nC) a1 (-1) 3) rfl rfl rfl rfl rfl rfl rfl fp (lj (by show jJ (freeze true { H108 with iI:=[] } 8) [(je b7),iv a1,iv (-1),iv 3] = _; simp only [FZ,hz148,hz153,hz158,hz160]) (jb rfl (jb rfl (jb rfl (jb rfl kg))))) (lj fe (jb rfl (jb rfl (jb rfl (jb rfl kg))))) (λh=>t226 (⟨n27,r145,r150,r155⟩:nC) a1 (-1) 3 dw dw h) ?_
 rintro _ ⟨r162,hc161,rfl⟩
 have hC158:=congrArg List.length hc161.1; have hD158:=hc161.2.1; dsimp only at hC158 hD158; have hG158:=Az hc161.1 dv hSg hc161.2.2
 refine iT rfl (λ_=>DF (xs:=[(ja.ag r162)]) rfl rfl rfl rfl (PM (jb rfl (jb rfl (jb rfl (jb (mg _) (jb (mg _) (jb (mg _) (jb (mg _) (jb (mg _) (jb rfl kg))))))))) rfl)) ?_
 have hz166:(l46++[r162]).length=l46.length+1:=List.length_append
 refine jG rfl (lf (H:=H108) (i:=2) (l:=l46) (enc:=ja.ag) [r162] hS109 rfl rfl rfl rfl rfl rfl rfl rfl rfl (λ_=>rfl) (.inl rfl) dJ (λ_=>rfl)) ?_
 rintro v163 H164 hS165
 simp only [List.set] at hS165
 refine ab ?_
 refine qe ?_
 refine ⟨_,?_,v41,((l42.set (((l42.length:Int) - 1).toNat) (⟨x95.elem,x95.oB,x78.out⟩:jg))),v43,((l44.set (((l42.length:Int) - 1).toNat) x78.pos)),v163,((l46++[r162])),v47,((l48.set (((l42.length:Int) - 1).toNat) (Row.drop x55 1))),H164,rfl,dD,dD,dy,fS,hS165,(jD hS165 [(8,2)])⟩
 omega
 refine cJ ?_
 refine ah ?_
 refine wz [.ip (iX.ag a0) 0 false,iv a1,.la 7 0,v45,(je b7),.la 14 0] H108 [(7,[iv n25,iv n26]),(14,(iM.ag r143))] ?_ (jD hS109 [(8,2)])
 refine aX ?_
 refine qe ?_
 refine ⟨_,?_,v41,((l42.set (((l42.length:Int) - 1).toNat) (⟨x95.elem,x95.oB,x78.out⟩:jg))),v43,((l44.set (((l42.length:Int) - 1).toNat) x78.pos)),v45,l46,v47,((l48.set (((l42.length:Int) - 1).toNat) (Row.drop x55 1))),r143.elem,r143.en,n27,H108,rfl,gd,dD,dy,fS,(by first | exact hxg | exact hJg _ (uy dv)),hS109,(jD hS109 [(8,2)])⟩
 (first | omega | (simp only [List.length_set]; omega))
 refine aM ?_
 refine wz [v45] H49 [] ?_ (jD hS50 [(8,2)])
 refine qe ?_
 refine wz [v45] H49 [] ?_ (jD hS50 [(8,2)])
 refine bJ ?_
 obtain ⟨r167,hl168,hf169⟩:=mE (H:=H49) (i:=2) (l:=l46) (enc:=ja.ag) hS50 rfl dz
 have hlq:=hl168; have hln171:=congrArg List.length hl168
 have hz170:∀ m,freeze false { H49 with iI:=[] } (m+2) v45=some (ju r167):=λm=>hf169 _ _ (λ_=>by simp only [ja.ag,jJ,uO,ug,wR,uG,wQ])
 exact ⟨v45,(lN (vs:=[v45]) rfl (jb (Sep.arg (i:=2) hS50 rfl) kg)),ju r167,(show freeze false { H49 with iI:=[] } 8 v45=some (ju r167) by simp only [FZ,hz170]),r167,eZ,rfl⟩
 refine aJ ?_
 refine oh hS29 0 λr172 hl173 hln176 hz175=>?_
 refine oh hS29 1 λr177 hl178 hln181 hz180=>?_
 refine oh hS29 3 λr182 hl183 hln186 hz185=>?_
 have hz187:∀ m,freeze true { H28 with iI:=[] } (m+4) (je b7)=some (.ip [iv n27,jm.av jg.ag r172,qj r177,jm.av (mj j8.ag) r182] 0 true):=λm=>uI (i:=4) hS29 rfl [] _ (by simp only [FZ,hz175,hz180,hz185]; try rfl)
 refine mV (args:=[(je b7),iv n25]) (p:=[]) (r:=[]) (args':=[.ip [iv n27,jm.av jg.ag r172,qj r177,jm.av (mj j8.ag) r182] 0 true,iv n25]) (R:=UY (⟨n27,r172,r177,r182⟩:nC) n25) rfl rfl rfl rfl rfl rfl rfl fp (lj (by show jJ (freeze true { H28 with iI:=[] } 8) [(je b7),iv n25] = _; simp only [FZ,hz175,hz180,hz185,hz187]) (jb rfl (jb rfl kg))) (lj fe (jb rfl (jb rfl kg))) (λh=>t224 (⟨n27,r172,r177,r182⟩:nC) n25  h) ?_
 rintro _ ⟨r189,hc188,rfl⟩
 cases r189
 clear hc188
 refine aG ?_
 exact ⟨v17,l18,v19,l20,v21,l22,v23,l24,H28,dD,dD,dy,fS,hS29,(Rf hS29 [(8,2)]),rfl⟩
 have hc188t:=hc188 rfl
 dsimp only at hc188t
 refine aC ?_
 refine aJ ?_
 have hS190:=Sep.pick hS29 [4,0,1,3,2] 5 dA dA
 refine jV (H:=H28) (args:=[(je b7),.ip (iX.ag a0) 0 false,.agg [iv n25,iv n26]]) (p:=[]) (r:=[]) rfl rfl rfl rfl rfl rfl rfl (ahC b7 n27 v17 l18 v19 l20 v23 l24 a0 ((⟨n25,n26⟩:iM)) (nZ ja.ag 9 v21 l22::[]) hS190 dw dw dw) ?_
 rintro _ H191 ⟨vso194,stepso195,vpo196,poso197,vlo198,lefto199,hc193,hS192,rfl⟩
 obtain ⟨hp1,hp2,hpS,ww,hp3,hp4⟩:=hc193
 have hSg:=hpS hxg hSg
 have hWp:=T8 (l:=l24) (w:=ww) dD hp3
 rw [<- hp4,hL3] at hWp
 have hp5:lefto199.length=l24.length+1:=by rw [hp4]; simp
 refine oN ?_
 refine aJ ?_
 refine oC (t138 a0 n25) ?_
 rintro _ ⟨r201,hc200,rfl⟩
 have hK:=hc200
 refine jz (λh202=>?_) (λh202=>?_)
 refine aC ?_
 refine bv ?_
 refine oh hS192 1 λr203 hl204 hln207 hz206=>?_
 refine oh hS192 2 λr208 hl209 hln212 hz211=>?_
 refine oh hS192 3 λr213 hl214 hln217 hz216=>?_
 have hz218:∀ m,freeze true { H191 with iI:=[] } (m+4) (je b7)=some (.ip [iv n27,jm.av jg.ag r203,qj r208,jm.av (mj j8.ag) r213] 0 true):=λm=>uI (i:=0) hS192 rfl [] _ (by simp only [FZ,hz206,hz211,hz216]; try rfl)
 refine mV (args:=[(je b7),iv a1,iv (-1),iv 2]) (p:=[]) (r:=[]) (args':=[.ip [iv n27,jm.av jg.ag r203,qj r208,jm.av (mj j8.ag) r213] 0 true,iv a1,iv (-1),iv 2]) (R:=HD (⟨n27,r203,r208,r213⟩:nC) a1 (-1) 2) rfl rfl rfl rfl rfl rfl rfl fp (lj (by show jJ (freeze true { H191 with iI:=[] } 8) [(je b7),iv a1,iv (-1),iv 2] = _; simp only [FZ,hz206,hz211,hz216,hz218]) (jb rfl (jb rfl (jb rfl (jb rfl kg))))) (lj fe (jb rfl (jb rfl (jb rfl (jb rfl kg))))) (λh=>t226 (⟨n27,r203,r208,r213⟩:nC) a1 (-1) 2 dw dw h) ?_
 rintro _ ⟨r220,hc219,rfl⟩
 have hC158:=congrArg List.length hc219.1; have hD158:=hc219.2.1; dsimp only at hC158 hD158; have hG158:=Az hc219.1 dv hSg hc219.2.2
 refine iT rfl (λ_=>DF (xs:=[(ja.ag r220)]) rfl rfl rfl rfl (PM (jb rfl (jb rfl (jb rfl (jb (mg _) (jb (mg _) (jb (mg _) (jb (mg _) (jb (mg _) (jb rfl kg))))))))) rfl)) ?_
 have hz224:(l22++[r220]).length=l22.length+1:=List.length_append
 refine jG rfl (lf (H:=H191) (i:=4) (l:=l22) (enc:=ja.ag) [r220] hS192 rfl rfl rfl rfl rfl rfl rfl rfl rfl (λ_=>rfl) (.inl rfl) dJ (λ_=>rfl)) ?_
 rintro v221 H222 hS223
 simp only [List.set] at hS223
 refine ab ?_
 have hS225:=Sep.pick hS223 [1,2,4,3,0] 5 dA dA
 exact ⟨vso194,stepso195,vpo196,poso197,v221,((l22++[r220])),vlo198,lefto199,H222,dD,dD,dy,fS,hS225,(Rf hS225 [(8,2)]),rfl⟩
 refine aG ?_
 have hS226:=Sep.pick hS192 [1,2,4,3,0] 5 dA dA
 exact ⟨vso194,stepso195,vpo196,poso197,v21,l22,vlo198,lefto199,H191,dD,dD,dy,fS,hS226,(Rf hS226 [(8,2)]),rfl⟩
def s52 {H:aT} (nn:iX) (F:List jW) (hS:Sep H F) (q1:nn.p.signals.l.length<=60) (hJg:∀ y∈univ nn,o7 nn.p.elems.l y.elem):∃ v H',ji cfg FT js true 71 [.ip (iX.ag nn) 0 false] { H with iI:=[] } v H'/\(∃ ov:AV,∃ ol:List ja,∃ eo:Int,((∀ r∈(ol:List ja),0<r.steps.l.length/\r.steps.l.length<=12/\r.l8.l.length<=12/\ow nn.p.elems.l r)/\ol.length<=64)/\Sep H' (nZ ja.ag 9 ov ol::F)/\v=.jl [ov,iv eo]):=by
 refine kh NM ?_
 refine aX ?_
 refine bC ?_
 refine oC (t141 nn) ?_
 rintro _ ⟨r2,hc1,rfl⟩
 have hC91:=hc1
 refine aL ?_
 have hS3:=Sep.mX hS 9
 refine iW ((r2).toNat) (λk4 e h=>∃ v5:AV,∃ l6:List ja,∃ H7:aT,(l6.length<=8192*k4)/\((∀ r∈(l6:List ja),0<r.steps.l.length/\r.steps.l.length<=12/\r.l8.l.length<=12/\ow nn.p.elems.l r))/\Sep H7 (nZ ja.ag 9 v5 l6::F)/\At [0,4,7,8] [.ip (iX.ag nn) 0 false,v5,iv r2,iF k4] H7 [] e h) ?_ (k0:=0) dD ⟨iS,(([]:List ja)),H,fg,fg,hS3,atR⟩
 rintro k4 e h hkk4 ⟨v5,l6,H7,hI,hR,hS8,hA⟩
 refine aK ?_
 refine jk (λh9=>?_) (λh9=>?_)
 refine aq ?_
 refine wz [.ip (iX.ag nn) 0 false,v5,iv r2,iF k4] H7 [] ?_ (jD hS8 [(4,0)])
 refine aF ?_
 refine aX ?_
 refine bv ?_
 refine oC (t142 nn ((k4:Int)) dw) ?_
 rintro _ ⟨r11,hc10,rfl⟩
 have hL12:=r11.lk
 refine jG rfl (lf (i:=0) r11.l hS8 rfl rfl rfl rfl rfl rfl rfl rfl rfl (λ_=>rfl) (.inl rfl) dJ (λ_=>rfl)) ?_
 rintro v13 H14 hS15
 refine ab ?_
 refine wz [.ip (iX.ag nn) 0 false,v13,iv r2,iF k4] H14 [] ?_ (jD hS15 [(4,0)])
 refine qg ?_
 refine jq ?_
 refine ab ?_
 exact ⟨by omega,v13,((l6++r11.l)),H14,(by (simp<;>omega)),(by exact Uv hR (by simp_all)),hS15,(jD hS15 [(4,0)])⟩
 refine ap ?_
 refine wz [v5] H7 [] ?_ (jD hS8 [(4,0)])
 refine aB ?_
 refine iT rfl (λ_=>oT (i:=0) hS8 rfl rfl rfl rfl rfl rfl rfl) ?_
 refine kn (λh16=>?_) (λh16=>?_)
 refine aN ?_
 have hS17:=Sep.mX hS8 9
 have hS18:=Sep.pick hS17 [0] 2 dA dA
 exact ⟨.jl [iS,iv 3],rfl,iS,([]:List ja),3,fV,Sep.iI hS18 _,rfl⟩
 refine aG ?_
 refine wz [v5] H7 [] ?_ (jD hS8 [(4,0)])
 refine bu ?_
 have hS19:=Sep.pick hS8 [0] 1 dA dA
 exact ⟨.jl [v5,iv 0],(lN (vs:=[v5,iv 0]) rfl (jb (Sep.arg (i:=0) hS8 rfl) (jb rfl kg))),v5,l6,0,fV,Sep.iI hS19 _,rfl⟩
def afz (_a0:jm Int) (_a1:Int) (v:AV):Prop:=∃ r0:Int,(((0<=r0->_a1∈_a0.l)/\(r0<0->_a1∉_a0.l)))/\v=iv r0
def t140 (a0:jm Int) (a1:Int) :Ct 140 [qj a0,iv a1] (afz a0 a1):=by
 refine jf Jd ?_
 refine bC ?_
 have hL1:=a0.lk
 refine iT rfl (λ_=>oH (r:=a0) (enc:=j4) rfl rfl rfl rfl rfl rfl) ?_
 refine aL ?_
 have hNk2:=a0.lk
 refine iW a0.l.length (λk2 e h=>(∀ (i:Nat) (h:i<a0.l.length),i<k2->¬ a0.l[i]=a1)/\At [0,1,7,8] [qj a0,iv a1,iF a0.l.length,iF k2] aT.empty [] e h) ?_ (k0:=0) dD ⟨eA,atR⟩
 rintro k2 e h hkk2 ⟨hU,hA⟩
 refine aK ?_
 refine jk (λh3=>?_) (λh3=>?_)
 refine bP ?_
 refine aJ ?_
 have hx4:k2<a0.l.length:=by omega
 refine iT rfl (λ_=>nQ (n:=k2) (r:=a0) (enc:=j4) rfl rfl rfl rfl rfl hx4 rfl) ?_
 generalize hqx5:a0.l[k2]=x5
 refine oV ?_
 refine jz (λh6=>?_) (λh6=>?_)
 refine aN ?_
 exact xB ⟨((k2:Int)),fJ,rfl⟩
 refine bZ ?_
 refine jq ?_
 refine ab ?_
 exact ⟨by omega,gf,atR⟩
 refine cy ?_
 exact xB ⟨(-1),fJ,rfl⟩
def Vx (_a0:jm Int) (_a1:Int) (v:AV):Prop:=∃ r0:Bool,(((r0=true->_a1∈_a0.l)/\(r0=false->_a1∉_a0.l)))/\v=.bool r0
def t69 (a0:jm Int) (a1:Int) :Ct 69 [qj a0,iv a1] (Vx a0 a1):=by
 refine jf NK ?_
 refine cC ?_
 refine oC (t140 a0 a1) ?_
 rintro _ ⟨r2,hc1,rfl⟩
 have hIx:=hc1
 refine lP (λh3=>?_) (λh3=>?_)
 refine af ?_
 exact xB ⟨true,fC,rfl⟩
 refine af ?_
 exact xB ⟨false,fC,rfl⟩
def P73 (_a0:iX) (v:AV):Prop:=∃ r0:bG,(r0.elems.l = _a0.p.elems.l/\r0.jd.l = _a0.p.jd.l/\r0.signals.l = _a0.p.signals.l/\r0.lines.l.length = _a0.p.lines.l.length/\(∀ x∈r0.lines.l,x.elems.l.length<=60)/\r0 = _a0.p.canon)/\v=.agg (bG.ag r0)
def t73 (a0:iX) (q1:lS a0.p):Ct 73 [.ip (iX.ag a0) 0 false] (P73 a0):=by
 refine jf MX ?_
 refine br ?_
 refine bD ?_
 refine oC (t63 a0.p dw) ?_
 rintro _ ⟨r2,hc1,rfl⟩
 have hC90:=hc1
 refine af ?_
 exact xG ⟨r2,dv,rfl⟩
def ahu (_a0:jm jO) (v:AV):Prop:=∃ r0:Row jO,(r0.l = _a0.l)/\v=ke r0
def t144 (a0:jm jO) (q1:a0.l.length<=1000):Ct 144 [jm.av jO.ag a0] (ahu a0):=by
 refine jf I1 ?_
 refine bC ?_
 refine lY (b:=a0.isNil) rfl (λ_=>qW rfl rfl rfl rfl) (λh1=>?_) (λh1=>?_)
 refine bh ?_
 exact xG ⟨(lD:Row jO),eV,rfl⟩
 refine aG ?_
 refine ae ?_
 have hS2:=Sep.uJ kB 2
 refine jG rfl (lf (H:=aT.empty) (i:=0) (l:=([]:List jO)) (enc:=jO.ag) a0.l hS2 rfl rfl rfl rfl rfl rfl rfl rfl rfl (λ_=>rfl) (.inl rfl) dJ (λ_=>rfl)) ?_
 rintro v3 H4 hS5
 refine af ?_
 obtain ⟨r6,hl7,hf8⟩:=mE (H:=H4) (i:=0) (l:=(([]:List jO)++a0.l)) (enc:=jO.ag) hS5 rfl dz
 have hlq:=hl7; have hln10:=congrArg List.length hl7
 have hz9:∀ m,freeze false { H4 with iI:=[] } (m+2) v3=some (ke r6):=λm=>hf8 _ _ (λ_=>rfl)
 exact ⟨v3,(lN (vs:=[v3]) rfl (jb (Sep.arg (i:=0) hS5 rfl) kg)),ke r6,(show freeze false { H4 with iI:=[] } 8 v3=some (ke r6) by simp only [FZ,hz9]),r6,eV,rfl⟩
def afE (_a0:iX) (_a1:ja) (v:AV):Prop:=∃ r0:Row iM,(r0.l.length<=2 * _a1.steps.l.length)/\v=nm r0
def t145 (a0:iX) (a1:ja) (q1:a1.steps.l.length<=12):Ct 145 [.ip (iX.ag a0) 0 false,.agg (ja.ag a1)] (afE a0 a1):=by
 refine jf Hy ?_
 refine aX ?_
 refine br ?_
 refine aZ ?_
 have hL1:=a1.steps.lk
 refine jK a1.steps ?_
 refine aL ?_
 have hS2:=Sep.mX kB 2
 have hNk3:=a1.steps.lk
 refine iW a1.steps.l.length (λk3 e h=>∃ v4:AV,∃ l5:List iM,∃ H6:aT,(l5.length<=2*k3)/\Sep H6 (nZ iM.ag 2 v4 l5::[])/\At [0,5,16,17,18] [.ip (iX.ag a0) 0 false,v4,jo a1.steps,iF a1.steps.l.length,iF k3] H6 [] e h) ?_ (k0:=0) dD ⟨iS,(([]:List iM)),aT.empty,fg,hS2,atR⟩
 rintro k3 e h hkk3 ⟨v4,l5,H6,hI,hS7,hA⟩
 refine aK ?_
 refine jk (λh8=>?_) (λh8=>?_)
 refine aq ?_
 refine wz [.ip (iX.ag a0) 0 false,v4,jo a1.steps,iF a1.steps.l.length,iF k3] H6 [] ?_ (jD hS7 [(5,0)])
 refine bg ?_
 have hx9:k3<a1.steps.l.length:=by omega
 refine kQ k3 a1.steps hx9 ?_
 generalize hqx10:a1.steps.l[k3]=x10
 refine bd ?_
 refine br ?_
 refine bM ?_
 refine oC (t138 a0 x10.elem) ?_
 rintro _ ⟨r12,hc11,rfl⟩
 have hK:=hc11
 refine cN ?_
 refine jz (λh13=>?_) (λh13=>?_)
 refine bc ?_
 refine aa ?_
 refine aQ ?_
 refine aS ?_
 refine iT rfl (λ_=>j9 rfl rfl rfl (pW .i64 3 ((if x10.out > x10.oB then x10.out else x10.oB)))) ?_
 refine cq ?_
 refine wz [.ip (iX.ag a0) 0 false,v4,.la 7 0,.sl [[iv (IntKind.i64.wrap (3 - ((if x10.out > x10.oB then x10.out else x10.oB))))]] (.exact 1),jo a1.steps,iF a1.steps.l.length,iF k3] H6 [(7,(jg.ag x10))] ?_ (jD hS7 [(5,0)])
 refine ae ?_
 refine aL ?_
 refine iW 1 (λkz e h=>∃ v15:AV,∃ l16:List iM,∃ H17:aT,(l16.length<=l5.length+kz)/\Sep H17 (nZ iM.ag 2 v15 l16::[])/\At [0,5,7,16,17,18,43,44,45] [.ip (iX.ag a0) 0 false,v15,.la 7 0,jo a1.steps,iF a1.steps.l.length,iF k3,.sl [[iv (IntKind.i64.wrap (3 - ((if x10.out > x10.oB then x10.out else x10.oB))))]] (.exact 1),iv 1,iF kz] H17 [(7,(jg.ag x10))] e h) ?_ (k0:=0) dD ⟨v4,l5,H6,ew,hS7,(jD hS7 [(5,0)])⟩
 rintro kz e h hkk14 ⟨v15,l16,H17,hl19,hS18,hA⟩
 refine aK ?_
 refine jk (λh20=>?_) (λh20=>?_)
 refine aq ?_
 refine wz [.ip (iX.ag a0) 0 false,v15,.la 7 0,jo a1.steps,iF a1.steps.l.length,iF k3,.sl [[iv (IntKind.i64.wrap (3 - ((if x10.out > x10.oB then x10.out else x10.oB))))]] (.exact 1),iv 1,iF kz] H17 [(7,(jg.ag x10))] ?_ (jD hS18 [(5,0)])
 refine bg ?_
 have hx21:kz<(⟨[(IntKind.i64.wrap (3 - ((if x10.out > x10.oB then x10.out else x10.oB))))],.exact 1,qt,rfl,mZ⟩:Row Int).l.length:=by show kz<1; omega
 refine iT rfl (λ_=>wY (n:=kz) (r:=(⟨[(IntKind.i64.wrap (3 - ((if x10.out > x10.oB then x10.out else x10.oB))))],.exact 1,qt,rfl,mZ⟩:Row Int)) (enc:=j4) rfl rfl rfl rfl rfl hx21 rfl) ?_
 generalize hqx22:(⟨[(IntKind.i64.wrap (3 - ((if x10.out > x10.oB then x10.out else x10.oB))))],.exact 1,qt,rfl,mZ⟩:Row Int).l[kz]=x22
 refine cq ?_
 refine aJ ?_
 refine cP ?_
 refine oC (t146 a0 (⟨x10.elem,x22⟩:iM)) ?_
 rintro _ ⟨r24,r25,hc23,rfl⟩
 have hN:=hc23
 cases r25
 refine cQ ?_
 refine ah ?_
 refine wz [.ip (iX.ag a0) 0 false,v15,.la 7 0,jo a1.steps,iF a1.steps.l.length,iF k3,.sl [[iv (IntKind.i64.wrap (3 - ((if x10.out > x10.oB then x10.out else x10.oB))))]] (.exact 1),iv 1,iF kz] H17 [(7,(jg.ag x10))] ?_ (jD hS18 [(5,0)])
 refine qg ?_
 refine jq ?_
 refine ab ?_
 exact ⟨by omega,v15,l16,H17,dB,hS18,(jD hS18 [(5,0)])⟩
 refine cQ ?_
 refine bc ?_
 refine bv ?_
 refine jG rfl (lf (H:=H17) (i:=0) (l:=l16) (enc:=iM.ag) [(⟨x10.elem,x22⟩:iM)] hS18 rfl rfl rfl rfl rfl rfl rfl rfl rfl (λ_=>rfl) (.inl rfl) dJ (λ_=>rfl)) ?_
 rintro v26 H27 hS28
 refine ab ?_
 refine wz [.ip (iX.ag a0) 0 false,v26,.la 7 0,jo a1.steps,iF a1.steps.l.length,iF k3,.sl [[iv (IntKind.i64.wrap (3 - ((if x10.out > x10.oB then x10.out else x10.oB))))]] (.exact 1),iv 1,iF kz] H27 [(7,(jg.ag x10))] ?_ (jD hS28 [(5,0)])
 refine qg ?_
 refine jq ?_
 refine ab ?_
 exact ⟨by omega,v26,((l16++[(⟨x10.elem,x22⟩:iM)])),H27,dB,hS28,(jD hS28 [(5,0)])⟩
 refine ap ?_
 refine wz [.ip (iX.ag a0) 0 false,v15,jo a1.steps,iF a1.steps.l.length,iF k3] H17 [] ?_ (jD hS18 [(5,0)])
 refine qg ?_
 refine jq ?_
 refine ab ?_
 exact ⟨by omega,v15,l16,H17,dC,hS18,(jD hS18 [(5,0)])⟩
 refine bf ?_
 refine jz (λh29=>?_) (λh29=>?_)
 refine bc ?_
 refine aX ?_
 refine ae ?_
 refine kn (λh30=>?_) (λh30=>?_)
 refine aC ?_
 refine qg ?_
 refine cq ?_
 refine wz [.ip (iX.ag a0) 0 false,v4,.la 7 0,.sl [[iv 0],[iv 1]] (.exact 2),jo a1.steps,iF a1.steps.l.length,iF k3] H6 [(7,(jg.ag x10))] ?_ (jD hS7 [(5,0)])
 refine ae ?_
 refine aL ?_
 refine iW 2 (λo5 e h=>∃ v32:AV,∃ l33:List iM,∃ H34:aT,(l33.length<=l5.length+o5)/\Sep H34 (nZ iM.ag 2 v32 l33::[])/\At [0,5,7,16,17,18,43,44,45] [.ip (iX.ag a0) 0 false,v32,.la 7 0,jo a1.steps,iF a1.steps.l.length,iF k3,.sl [[iv 0],[iv 1]] (.exact 2),iv 2,iF o5] H34 [(7,(jg.ag x10))] e h) ?_ (k0:=0) dD ⟨v4,l5,H6,ew,hS7,(jD hS7 [(5,0)])⟩
 rintro o5 e h hkk31 ⟨v32,l33,H34,hl36,hS35,hA⟩
 refine aK ?_
 refine jk (λh37=>?_) (λh37=>?_)
 refine aq ?_
 refine wz [.ip (iX.ag a0) 0 false,v32,.la 7 0,jo a1.steps,iF a1.steps.l.length,iF k3,.sl [[iv 0],[iv 1]] (.exact 2),iv 2,iF o5] H34 [(7,(jg.ag x10))] ?_ (jD hS35 [(5,0)])
 refine bg ?_
 have hx38:o5<(⟨[0,1],.exact 2,qt,rfl,mZ⟩:Row Int).l.length:=by show o5<2; omega
 refine iT rfl (λ_=>wY (n:=o5) (r:=(⟨[0,1],.exact 2,qt,rfl,mZ⟩:Row Int)) (enc:=j4) rfl rfl rfl rfl rfl hx38 rfl) ?_
 generalize hqx39:(⟨[0,1],.exact 2,qt,rfl,mZ⟩:Row Int).l[o5]=x39
 refine cq ?_
 refine aJ ?_
 refine cP ?_
 refine oC (t146 a0 (⟨x10.elem,x39⟩:iM)) ?_
 rintro _ ⟨r41,r42,hc40,rfl⟩
 have hN:=hc40
 cases r42
 refine cQ ?_
 refine ah ?_
 refine wz [.ip (iX.ag a0) 0 false,v32,.la 7 0,jo a1.steps,iF a1.steps.l.length,iF k3,.sl [[iv 0],[iv 1]] (.exact 2),iv 2,iF o5] H34 [(7,(jg.ag x10))] ?_ (jD hS35 [(5,0)])
 refine qg ?_
 refine jq ?_
 refine ab ?_
 exact ⟨by omega,v32,l33,H34,dB,hS35,(jD hS35 [(5,0)])⟩
 refine cQ ?_
 refine bc ?_
 refine bv ?_
 refine jG rfl (lf (H:=H34) (i:=0) (l:=l33) (enc:=iM.ag) [(⟨x10.elem,x39⟩:iM)] hS35 rfl rfl rfl rfl rfl rfl rfl rfl rfl (λ_=>rfl) (.inl rfl) dJ (λ_=>rfl)) ?_
 rintro v43 H44 hS45
 refine ab ?_
 refine wz [.ip (iX.ag a0) 0 false,v43,.la 7 0,jo a1.steps,iF a1.steps.l.length,iF k3,.sl [[iv 0],[iv 1]] (.exact 2),iv 2,iF o5] H44 [(7,(jg.ag x10))] ?_ (jD hS45 [(5,0)])
 refine qg ?_
 refine jq ?_
 refine ab ?_
 exact ⟨by omega,v43,((l33++[(⟨x10.elem,x39⟩:iM)])),H44,dB,hS45,(jD hS45 [(5,0)])⟩
 refine ap ?_
 refine wz [.ip (iX.ag a0) 0 false,v32,jo a1.steps,iF a1.steps.l.length,iF k3] H34 [] ?_ (jD hS35 [(5,0)])
 refine qg ?_
 refine jq ?_
 refine ab ?_
 exact ⟨by omega,v32,l33,H34,dC,hS35,(jD hS35 [(5,0)])⟩
 refine aG ?_
 refine wz [.ip (iX.ag a0) 0 false,v4,.la 7 0,.sl [[iv 2],[iv 3]] (.exact 2),jo a1.steps,iF a1.steps.l.length,iF k3] H6 [(7,(jg.ag x10))] ?_ (jD hS7 [(5,0)])
 refine ae ?_
 refine aL ?_
 refine iW 2 (λjB e h=>∃ v47:AV,∃ l48:List iM,∃ H49:aT,(l48.length<=l5.length+jB)/\Sep H49 (nZ iM.ag 2 v47 l48::[])/\At [0,5,7,16,17,18,43,44,45] [.ip (iX.ag a0) 0 false,v47,.la 7 0,jo a1.steps,iF a1.steps.l.length,iF k3,.sl [[iv 2],[iv 3]] (.exact 2),iv 2,iF jB] H49 [(7,(jg.ag x10))] e h) ?_ (k0:=0) dD ⟨v4,l5,H6,ew,hS7,(jD hS7 [(5,0)])⟩
 rintro jB e h hkk46 ⟨v47,l48,H49,hl51,hS50,hA⟩
 refine aK ?_
 refine jk (λh52=>?_) (λh52=>?_)
 refine aq ?_
 refine wz [.ip (iX.ag a0) 0 false,v47,.la 7 0,jo a1.steps,iF a1.steps.l.length,iF k3,.sl [[iv 2],[iv 3]] (.exact 2),iv 2,iF jB] H49 [(7,(jg.ag x10))] ?_ (jD hS50 [(5,0)])
 refine bg ?_
 have hx53:jB<(⟨[2,3],.exact 2,qt,rfl,mZ⟩:Row Int).l.length:=by show jB<2; omega
 refine iT rfl (λ_=>wY (n:=jB) (r:=(⟨[2,3],.exact 2,qt,rfl,mZ⟩:Row Int)) (enc:=j4) rfl rfl rfl rfl rfl hx53 rfl) ?_
 generalize hqx54:(⟨[2,3],.exact 2,qt,rfl,mZ⟩:Row Int).l[jB]=x54
 refine cq ?_
 refine aJ ?_
 refine cP ?_
 refine oC (t146 a0 (⟨x10.elem,x54⟩:iM)) ?_
 rintro _ ⟨r56,r57,hc55,rfl⟩
 have hN:=hc55
 cases r57
 refine cQ ?_
 refine ah ?_
 refine wz [.ip (iX.ag a0) 0 false,v47,.la 7 0,jo a1.steps,iF a1.steps.l.length,iF k3,.sl [[iv 2],[iv 3]] (.exact 2),iv 2,iF jB] H49 [(7,(jg.ag x10))] ?_ (jD hS50 [(5,0)])
 refine qg ?_
 refine jq ?_
 refine ab ?_
 exact ⟨by omega,v47,l48,H49,dB,hS50,(jD hS50 [(5,0)])⟩
 refine cQ ?_
 refine bc ?_
 refine bv ?_
 refine jG rfl (lf (H:=H49) (i:=0) (l:=l48) (enc:=iM.ag) [(⟨x10.elem,x54⟩:iM)] hS50 rfl rfl rfl rfl rfl rfl rfl rfl rfl (λ_=>rfl) (.inl rfl) dJ (λ_=>rfl)) ?_
 rintro v58 H59 hS60
 refine ab ?_
 refine wz [.ip (iX.ag a0) 0 false,v58,.la 7 0,jo a1.steps,iF a1.steps.l.length,iF k3,.sl [[iv 2],[iv 3]] (.exact 2),iv 2,iF jB] H59 [(7,(jg.ag x10))] ?_ (jD hS60 [(5,0)])
 refine qg ?_
 refine jq ?_
 refine ab ?_
 exact ⟨by omega,v58,((l48++[(⟨x10.elem,x54⟩:iM)])),H59,dB,hS60,(jD hS60 [(5,0)])⟩
 refine ap ?_
 refine wz [.ip (iX.ag a0) 0 false,v47,jo a1.steps,iF a1.steps.l.length,iF k3] H49 [] ?_ (jD hS50 [(5,0)])
 refine qg ?_
 refine jq ?_
 refine ab ?_
 exact ⟨by omega,v47,l48,H49,dC,hS50,(jD hS50 [(5,0)])⟩
 refine ah ?_
 refine wz [.ip (iX.ag a0) 0 false,v4,.la 7 0,iS,jo a1.steps,iF a1.steps.l.length,iF k3] H6 [(7,(jg.ag x10))] ?_ (jD hS7 [(5,0)])
 refine ae ?_
 refine aL ?_
 refine iW 0 (λnt e h=>At [0,5,7,16,17,18,43,44,45] [.ip (iX.ag a0) 0 false,v4,.la 7 0,jo a1.steps,iF a1.steps.l.length,iF k3,iS,iv 0,iF nt] H6 [(7,(jg.ag x10))] e h) ?_ (k0:=0) dD (jD hS7 [(5,0)])
 rintro nt e h hkk61 hA
 refine aK ?_
 refine jk (λh62=>?_) (λh62=>?_)
 refine aq ?_
 refine wz [.ip (iX.ag a0) 0 false,v4,.la 7 0,jo a1.steps,iF a1.steps.l.length,iF k3,iS,iv 0,iF nt] H6 [(7,(jg.ag x10))] ?_ (jD hS7 [(5,0)])
 refine bg ?_
 exfalso; omega
 refine ap ?_
 refine wz [.ip (iX.ag a0) 0 false,v4,jo a1.steps,iF a1.steps.l.length,iF k3] H6 [] ?_ (jD hS7 [(5,0)])
 refine qg ?_
 refine jq ?_
 refine ab ?_
 exact ⟨by omega,v4,l5,H6,dC,hS7,(jD hS7 [(5,0)])⟩
 refine ap ?_
 refine wz [v4] H6 [] ?_ (jD hS7 [(5,0)])
 refine bJ ?_
 obtain ⟨r63,hl64,hf65⟩:=mE (H:=H6) (i:=0) (l:=l5) (enc:=iM.ag) hS7 rfl dz
 have hlq:=hl64; have hln67:=congrArg List.length hl64
 have hz66:∀ m,freeze false { H6 with iI:=[] } (m+2) v4=some (nm r63):=λm=>hf65 _ _ (λ_=>rfl)
 exact ⟨v4,(lN (vs:=[v4]) rfl (jb (Sep.arg (i:=0) hS7 rfl) kg)),nm r63,(show freeze false { H6 with iI:=[] } 8 v4=some (nm r63) by simp only [FZ,hz66]),r63,(by first | omega | (simp_all; omega)),rfl⟩
def Ks {H:aT} (el:Int) (en:Int) (bn:Nat) (nn:iX) (bt:Nat) (vt:AV) (todo:List iM) (F:List jW) (hS:Sep H (j7 bn [.ip (iX.ag nn) 0 false]::j7 bt [vt]::mT iM.ag 2 vt todo::F)) (q1:todo.length<=2000):∃ v H',ji cfg FT js true 147 [iv el,iv en,(je bn),(je bt)] { H with iI:=[] } v H'/\(∃ vto:AV,∃ todoo:List iM,(todoo.length<=todo.length+1/\∀ y∈todoo,y∈todo\/y∈univ nn)/\Sep H' (j7 bn [.ip (iX.ag nn) 0 false]::j7 bt [vto]::mT iM.ag 2 vto todoo::F)/\v=.jl []):=by
 refine kh JZ ?_
 refine aa ?_
 refine lU 0 hS (.ip (iX.ag nn) 0 false) ?_
 refine aH ?_
 refine oC (t146 nn (⟨el,en⟩:iM)) ?_
 rintro _ ⟨r2,r3,hc1,rfl⟩
 have hN:=hc1
 cases r3
 refine cQ ?_
 refine ah ?_
 have hS4:=Sep.pick hS [0,1,2] 3 dA dA
 exact ⟨.jl [],rfl,vt,todo,fj,Sep.iI hS4 _,rfl⟩
 refine cQ ?_
 refine bc ?_
 refine qg ?_
 refine lU 1 hS vt ?_
 refine aw ?_
 refine jG rfl (lf (H:=H) (i:=2) (l:=todo) (enc:=iM.ag) [r2] hS rfl rfl rfl rfl rfl rfl rfl rfl rfl (λ_=>rfl) (.inr rfl) dJ (λ_=>rfl)) ?_
 rintro v5 H6 hS7
 refine jG rfl (mN (H:=H6) (i:=1) (o:=0) (r:=v5) hS7 rfl rfl rfl rfl (nW rfl rfl (Sep.cell (i:=2) hS7 rfl)) (jb (Sep.cell (i:=2) hS7 rfl) kg) rfl) ?_
 rintro _ H8 ⟨rfl,hS9⟩
 refine oN ?_
 have hS10:=Sep.pick hS9 [0,1,2] 3 dA dA
 exact ⟨.jl [],rfl,v5,(todo++[r2]),fj,Sep.iI hS10 _,rfl⟩
def Vo (_a0:sN) (_a1:Int) (v:AV):Prop:=∃ r0:Bool,(True)/\v=.bool r0
def t148 (a0:sN) (a1:Int) :Ct 148 [.agg (sN.ag a0),iv a1] (Vo a0 a1):=by
 refine jf Hr ?_
 refine ao ?_
 refine jG rfl (sr kB rfl rfl rfl rfl rfl) ?_
 rintro _ H2 ⟨b1,rfl,hS3⟩
 refine ab ?_
 refine ae ?_
 refine iT rfl (λ_=>ua rfl rfl (tP rfl rfl)) ?_
 have hS4:=Sep.pick hS3 [0] 1 dA dA
 refine jV (H:=H2) (args:=[jm.av jg.ag a0.steps,.jQ 229 [] [(je b1)]]) (p:=[]) (r:=[]) rfl rfl rfl rfl rfl rfl rfl (Me a0.steps b1 a1 ([]) hS4) ?_
 rintro _ H5 ⟨r8,hc7,hS6,rfl⟩
 cases r8
 refine af ?_
 exact gm
 refine af ?_
 exact gp
def Th {H:aT} (b:Nat) (f0:Int) (f1:Int) (f2:Int) (steps:Row jg) (l8:Row jO) (vg:AV) (guards:List jO) (vz:AV) (mB:List Int) (vh:AV) (holds:List Int) (bare:Bool) (el:Int) (F:List jW) (hS:Sep H (j7 b [iv f0,iv f1,iv f2,jo steps,ke l8,vg,vz,vh,.bool bare]::nZ jO.ag 2 vg guards::qo vz mB::qo vh holds::F)) (q1:mB.length<=12):∃ v H',ji cfg FT js true 149 [(je b),iv el] { H with iI:=[] } v H'/\(∃ r0:Bool,∃ vzo:AV,∃ zoneo:List Int,∃ bareo:Bool,(zoneo.length<=12/\∀ x∈zoneo,x∈mB\/x=el)/\Sep H' (j7 b [iv f0,iv f1,iv f2,jo steps,ke l8,vg,vzo,vh,.bool bareo]::nZ jO.ag 2 vg guards::qo vzo zoneo::qo vh holds::F)/\v=.bool r0):=by
 refine kh JN ?_
 refine bC ?_
 refine bi ?_
 refine iT rfl (λ_=>oY (i:=0) (o:=6) (r:=vz) hS rfl rfl rfl rfl) ?_
 refine oV ?_
 refine oh hS 2 λr1 hl2 hln5 hz4=>?_
 refine mV (args:=[vz,iv el]) (p:=[]) (r:=[]) (args':=[qj r1,iv el]) (R:=Vx r1 el) rfl rfl rfl rfl rfl (jb (Sep.arg (i:=2) hS rfl) (jb rfl kg)) rfl fp (lj (by show jJ (freeze true { H with iI:=[] } 8) [vz,iv el] = _; simp only [FZ,hz4]) (jb (Sep.oX (i:=2) hS rfl) (jb rfl kg))) (lj fe (jb rfl (jb rfl kg))) (λh=>t69 r1 el  h) ?_
 rintro _ ⟨r7,hc6,rfl⟩
 have hIn:=hc6
 cases r7
 refine aG ?_
 refine wz [(je b),iv el] H [] ?_
 refine aB ?_
 refine bi ?_
 refine iT rfl (λ_=>oY (i:=0) (o:=6) (r:=vz) hS rfl rfl rfl rfl) ?_
 refine iT rfl (λ_=>oT (i:=2) (l:=mB) (enc:=j4) hS rfl rfl rfl rfl rfl rfl rfl) ?_
 refine lP (λh8=>?_) (λh8=>?_)
 refine aC ?_
 refine ao ?_
 refine bi ?_
 refine jG rfl (mN (i:=0) (o:=8) (r:=.bool true) hS rfl rfl rfl rfl rfl rfl rfl) ?_
 rintro _ H9 ⟨rfl,hS10⟩
 refine oN ?_
 refine aI ?_
 have hS11:=Sep.pick hS10 [0,1,2,3] 4 dA dA
 exact ⟨.bool false,rfl,false,vz,mB,true,eO,Sep.iI hS11 _,rfl⟩
 refine aG ?_
 refine wz [(je b),iv el] H [] ?_
 refine ae ?_
 refine bi ?_
 refine iT rfl (λ_=>oY (i:=0) (o:=6) (r:=vz) hS rfl rfl rfl rfl) ?_
 refine aw ?_
 refine jG rfl (lf (i:=2) (l:=mB) (enc:=j4) [el] hS rfl rfl rfl rfl rfl rfl rfl rfl rfl (λ_=>rfl) (.inl rfl) dJ (λ_=>rfl)) ?_
 rintro v12 H13 hS14
 refine iT rfl (λ_=>qI (i:=0) hS14 rfl rfl) ?_
 refine iT rfl (λ_=>pB (i:=0) hS14 rfl rfl rfl rfl rfl) ?_
 refine jG rfl (mN (i:=0) (o:=6) (r:=v12) hS14 rfl rfl rfl rfl (nW rfl rfl (Sep.cell (i:=2) hS14 rfl)) (jb (Sep.cell (i:=2) hS14 rfl) kg) rfl) ?_
 rintro _ H15 ⟨rfl,hS16⟩
 refine oN ?_
 refine aI ?_
 have hS17:=Sep.pick hS16 [0,1,2,3] 4 dA dA
 exact ⟨.bool true,rfl,true,v12,(mB++[el]),bare,eO,Sep.iI hS17 _,rfl⟩
 refine bh ?_
 have hS18:=Sep.pick hS [0,1,2,3] 4 dA dA
 exact ⟨.bool true,rfl,true,vz,mB,bare,eO,Sep.iI hS18 _,rfl⟩
def ahh (_a0:jm jO) (_a1:jO) (v:AV):Prop:=∃ r0:Int,(True)/\v=iv r0
def t230 (a0:jm jO) (a1:jO) :Ct 230 [jm.av jO.ag a0,.agg (jO.ag a1)] (ahh a0 a1):=by
 refine jf JU ?_
 refine ao ?_
 refine az ?_
 have hL1:=a0.lk
 refine iT rfl (λ_=>oH (r:=a0) (enc:=jO.ag) rfl rfl rfl rfl rfl rfl) ?_
 refine aL ?_
 have hNk2:=a0.lk
 refine iW a0.l.length (λk2 e h=>At [0,3,7,8] [jm.av jO.ag a0,.la 3 0,iF a0.l.length,iF k2] aT.empty [(3,(jO.ag a1))] e h) ?_ (k0:=0) dD atR
 rintro k2 e h hkk2 hA
 refine aK ?_
 refine jk (λh3=>?_) (λh3=>?_)
 refine bP ?_
 refine cE ?_
 have hx4:k2<a0.l.length:=by omega
 refine jh rfl rfl (λ_=>nQ (n:=k2) (r:=a0) (enc:=jO.ag) rfl rfl rfl rfl rfl hx4 rfl) ?_
 generalize hqx5:a0.l[k2]=x5
 refine rV ?_
 refine o3 rfl rfl (λ_=>wO rfl rfl rfl (λ_ _=>rfl)) (λh6=>?_) (λh6=>?_)
 refine cH ?_
 refine bJ ?_
 exact xB ⟨((k2:Int)),zt⟩
 refine cT ?_
 refine qg ?_
 refine jq ?_
 refine ab ?_
 exact gn
 refine cy ?_
 exact xB ⟨(-1),zt⟩
def Mk (_a0:jm jO) (_a1:jO) (v:AV):Prop:=∃ r0:Bool,(True)/\v=.bool r0
def t150 (a0:jm jO) (a1:jO) :Ct 150 [jm.av jO.ag a0,.agg (jO.ag a1)] (Mk a0 a1):=by
 refine jf J4 ?_
 refine aX ?_
 refine ae ?_
 refine oC (t230 a0 a1) ?_
 rintro _ ⟨r2,hc1,rfl⟩
 refine lP (λh3=>?_) (λh3=>?_)
 refine af ?_
 exact gp
 refine af ?_
 exact gm
def agp (_a0:iX) (_a1:Int) (_a2:Int) (_a3:Int) (v:AV):Prop:=∃ r0:Int,∃ r1:Bool,(True)/\v=.jl [iv r0,.bool r1]
def t231 (a0:iX) (a1:Int) (a2:Int) (a3:Int) :Ct 231 [.ip (iX.ag a0) 0 false,iv a1,iv a2,iv a3] (agp a0 a1 a2 a3):=by
 refine jf Jo ?_
 refine aX ?_
 refine bM ?_
 refine oC (t291 a0 a1 a2) ?_
 rintro _ ⟨r2,hc1,rfl⟩
 have hL3:=r2.lk
 refine jK r2 ?_
 refine aL ?_
 have hNk4:=r2.lk
 refine iW r2.l.length (λk4 e h=>At [3,15,16,17] [iv a3,uk r2,iF r2.l.length,iF k4] aT.empty [] e h) ?_ (k0:=0) dD atR
 rintro k4 e h hkk4 hA
 refine aK ?_
 refine jk (λh5=>?_) (λh5=>?_)
 refine c9 ?_
 have hx6:k4<r2.l.length:=by omega
 refine kQ k4 r2 hx6 ?_
 generalize hqx7:r2.l[k4]=x7
 refine cP ?_
 refine jz (λh8=>?_) (λh8=>?_)
 refine bl ?_
 refine bc ?_
 refine da ?_
 exact xG ⟨x7.out,true,zt⟩
 refine aO ?_
 refine jz (λh9=>?_) (λh9=>?_)
 refine bc ?_
 refine da ?_
 exact xG ⟨x7.out,true,zt⟩
 refine oV ?_
 refine bZ ?_
 refine jq ?_
 refine ab ?_
 exact gn
 refine ap ?_
 refine bJ ?_
 exact xG ⟨0,false,zt⟩
def ah1 (_a0:iX) (_a1:Int) (_a2:Int) (_a3:Int) (v:AV):Prop:=∃ r0:Int,∃ r1:Bool,(True)/\v=.jl [iv r0,.bool r1]
def t151 (a0:iX) (a1:Int) (a2:Int) (a3:Int) :Ct 151 [.ip (iX.ag a0) 0 false,iv a1,iv a2,iv a3] (ah1 a0 a1 a2 a3):=by
 refine jf HZ ?_
 refine aX ?_
 refine bD ?_
 refine oC (t231 a0 a1 a2 a3) ?_
 rintro _ ⟨r2,r3,hc1,rfl⟩
 cases r3
 refine bI ?_
 exact xG ⟨r2,false,zt⟩
 refine bI ?_
 exact xG ⟨r2,true,zt⟩
end Go.Sx
