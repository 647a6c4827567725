/- Proves what some functions of the program answer, by walking through them. -/
import Derived.Test.YtihofefpkjfmnaaGreatNag
import Derived.Test.YtihofefpkjfmnaaGreatNaj
import Derived.Test.YtihofefpkjfmnaaGreatNal
import Derived.Test.YtihofefpkjfmnaaGreatNam
set_option linter.all false
set_option maxRecDepth 100000
set_option maxHeartbeats 0
namespace Go.Sx
open Go Go.Proofs
def aaS (_a0:bY) (v:AV):Prop:=(∃ r0:kb,(qo r0 _a0)/\v=.kO [.ip (kb.af r0) 0 false,iv 0])\/(∃ r1:Int,(r1≠0)/\v=.kO [.l3,iv r1])
def TU (a0:bY) (q1:mU a0):Ct 31 [.agg (bY.af a0)] (aaS a0):=by
 refine kA Ot ?_
 have q2:=q1.kB; have q3:=q1.signals; have q4:=q1.lines
 refine ae ?_
 refine ak ?_
 refine oC (t75 a0) ?_
 rintro _ ⟨r2,hc1,rfl⟩
 have hC89:=hc1
 refine aN ?_
 refine mg (λh3=>?_) (λh3=>?_)
 refine aG ?_
 refine xG (.inr (⟨r2,gY,rfl⟩))
 refine au ?_
 refine wy [.la 1 0] [(1,(bY.af a0))] ?_
 refine aj ?_
 refine oC (t76 a0 dS) ?_
 rintro _ ⟨r5,hc4,rfl⟩
 have hC90:=hc4
 refine kM rfl (pX lJ) ?_
 rintro _ H7 ⟨b6,rfl,hS8⟩
 refine kM rfl (pX hS8) ?_
 rintro _ H10 ⟨b9,rfl,hS11⟩
 refine kM rfl (pX hS11) ?_
 rintro _ H13 ⟨b12,rfl,hS14⟩
 refine kM rfl (pX hS14) ?_
 rintro _ H16 ⟨b15,rfl,hS17⟩
 refine oV ?_
 refine kM rfl (sa hS17 rfl rfl rfl rfl rfl) ?_
 rintro _ H19 ⟨b18,rfl,hS20⟩
 refine ab ?_
 refine aR ?_
 have hL21:=a0.kB.lk
 refine lx a0.kB ?_
 refine aC ?_
 have hNk22:=a0.kB.lk
 refine ke a0.kB.l.length (λk22 e h=>∃ l23:List (j7×j7),∃ H24:bV,(∀ x:j7,look x l23=np (a0.kB.l.take k22) x)/\(l23.length<=2*k22)/\(∀ y∈(l23:List (j7×j7)),pN y.2.elem)/\Sep H24 (lE b18 [ld r5.elems,lv r5.kB,lz r5.signals,kD r5.lines,iv r5.top,iv r5.lC,iv r5.lN,iv r5.lU,.bool r5.lZ,(.hm b6),(.hm b9),(.hm b12),(.hm b15)]::m5 b15 iK iK []::m5 b12 iK tP []::m5 b9 pK iK []::m5 b6 pK pK l23::[])/\At [1,5,31,32,33] [.la 1 0,(ki b18),lv a0.kB,ck a0.kB.l.length,ck k22] H24 [(1,(bY.af a0))] e h) ?_ (k0:=0) d4 ⟨([]),H19,(by (intro x; rfl)),fQ,fQ,hS20,atR⟩
 rintro k22 e h hkk22 ⟨l23,H24,hD,hN,hNg,hS25,hA⟩
 refine aE ?_
 refine kE (λh26=>?_) (λh26=>?_)
 refine ai ?_
 refine wz [.la 1 0,(ki b18),lv a0.kB,ck a0.kB.l.length,ck k22] H24 [(1,(bY.af a0))] ?_
 refine bQ ?_
 have hx27:k22<a0.kB.l.length:=by omega
 refine mB k22 a0.kB hx27 ?_
 generalize hqx28:a0.kB.l[k22]=x28
 have hinx28:x28∈a0.kB.l:=by rw [<- hqx28]; exact List.getElem_mem _
 obtain ⟨hgax28,hgbx28⟩:=Vg (hC89 d4).2.2.2.2.2.2.jv (hC89 d4).2.2.2.1 x28 hinx28
 refine bM ?_
 refine qd ?_
 refine rV ?_
 refine dR ?_
 refine bA ?_
 refine dR ?_
 refine cH ?_
 refine vd rfl rfl (sU (H:=H24) (i:=4) (ek:=pK) (ev:=pK) (l:=l23) x28.a x28.b hS25 rfl rfl rfl rfl rfl rfl rfl rfl rfl nk) ?_
 rintro _ H29 ⟨w30,n31,H32,rfl,hop33,hS34⟩
 refine ⟨λcall=>(EO (pI rfl rfl rfl rfl rfl fM) (EO (pI rfl rfl rfl rfl rfl fM) (A9 (pI rfl rfl rfl rfl rfl fM)))),?_⟩
 refine rV ?_
 refine Ei rfl rfl ⟨0,λ_ _=>hop33 _ _ _ _ _ _ _ _ rfl rfl rfl⟩ (λcall=>(EO (pI rfl rfl rfl rfl rfl fM) (A9 (pI rfl rfl rfl rfl rfl fM)))) ?_
 refine vd rfl rfl (sU (H:=H32) (i:=4) (ek:=pK) (ev:=pK) (l:=(put x28.a x28.b l23)) x28.b x28.a hS34 rfl rfl rfl rfl rfl rfl rfl rfl rfl nk) ?_
 rintro _ H35 ⟨w36,n37,H38,rfl,hop39,hS40⟩
 refine ⟨λcall=>(A9 (pI rfl rfl rfl rfl rfl fM)),?_⟩
 refine rV ?_
 refine kG rfl rfl (λ_=>hop39 _ _ _ _ _ _ _ _ rfl rfl rfl) ?_
 refine rN ?_
 refine wz [.la 1 0,(ki b18),lv a0.kB,ck a0.kB.l.length,ck k22] H38 [(1,(bY.af a0))] ?_
 refine qg ?_
 refine kI ?_
 refine ab ?_
 exact ⟨by omega,((put x28.b x28.a (put x28.a x28.b l23))),H38,(by exact M1 dT dT (hC89 d4).1 hD),(by exact Pa hN),(by exact sW (P:=λy:j7=>pN y.elem) (sW (P:=λy:j7=>pN y.elem) hNg dT) dT),hS40,atR⟩
 refine ah ?_
 refine wz [.la 1 0,(ki b18)] H24 [(1,(bY.af a0))] ?_
 refine aR ?_
 have hL41:=a0.signals.lk
 refine dx ?_
 have hNk42:=a0.signals.lk
 refine ke a0.signals.l.length (λk42 e h=>∃ l43:List (j7×Int),∃ H44:bV,(∀ x:j7,look x l43=pZ (a0.signals.l.take k42) x)/\Sep H44 (lE b18 [ld r5.elems,lv r5.kB,lz r5.signals,kD r5.lines,iv r5.top,iv r5.lC,iv r5.lN,iv r5.lU,.bool r5.lZ,(.hm b6),(.hm b9),(.hm b12),(.hm b15)]::m5 b15 iK iK []::m5 b12 iK tP []::m5 b9 pK iK l43::m5 b6 pK pK l23::[])/\At [1,5,59,60,61] [.la 1 0,(ki b18),lz a0.signals,ck a0.signals.l.length,ck k42] H44 [(1,(bY.af a0))] e h) ?_ (k0:=0) d4 ⟨([]),H24,(by (intro x; rfl)),hS25,atR⟩
 rintro k42 e h hkk42 ⟨l43,H44,hR,hS45,hA⟩
 refine aE ?_
 refine kE (λh46=>?_) (λh46=>?_)
 refine ai ?_
 refine wz [.la 1 0,(ki b18),lz a0.signals,ck a0.signals.l.length,ck k42] H44 [(1,(bY.af a0))] ?_
 refine cw ?_
 have hx47:k42<a0.signals.l.length:=by omega
 refine mB k42 a0.signals hx47 ?_
 generalize hqx48:a0.signals.l[k42]=x48
 refine cG ?_
 refine qd ?_
 refine rV ?_
 refine uN 0 hS45 ?_
 refine sV 0 hS45 ?_
 refine sZ 0 hS45 ((.hm b9)) ?_
 refine bA ?_
 refine mP rfl rfl (oK (H:=H44) (i:=3) (ek:=pK) (ev:=iK) (l:=l43) x48.at_ ((k42:Int)) hS45 rfl rfl rfl rfl rfl rfl nk) ?_
 rintro _ H49 ⟨rfl,hS50⟩
 refine rN ?_
 refine wz [.la 1 0,(ki b18),lz a0.signals,ck a0.signals.l.length,ck k42] H49 [(1,(bY.af a0))] ?_
 refine qg ?_
 refine kI ?_
 refine ab ?_
 exact ⟨by omega,((put x48.at_ ((k42:Int)) l43)),H49,(by exact Il dT dT (hC89 d4).2.1 hR),hS50,atR⟩
 refine ah ?_
 refine wz [.la 1 0,(ki b18)] H44 [(1,(bY.af a0))] ?_
 refine aR ?_
 have hL51:=a0.lines.lk
 refine lx a0.lines ?_
 refine aC ?_
 have hNk52:=a0.lines.lk
 refine ke a0.lines.l.length (λk52 e h=>∃ l53:List (Int×Int),∃ l54:List (Int×(Int×Int)),∃ H55:bV,(sR a0 k52 0 l54)/\Sep H55 (lE b18 [ld r5.elems,lv r5.kB,lz r5.signals,kD r5.lines,iv r5.top,iv r5.lC,iv r5.lN,iv r5.lU,.bool r5.lZ,(.hm b6),(.hm b9),(.hm b12),(.hm b15)]::m5 b15 iK iK l53::m5 b12 iK tP l54::m5 b9 pK iK l43::m5 b6 pK pK l23::[])/\At [5,75,76,77] [(ki b18),kD a0.lines,ck a0.lines.l.length,ck k52] H55 [] e h) ?_ (k0:=0) d4 ⟨([]),([]),H44,(by exact sR.zero),hS45,atR⟩
 rintro k52 e h hkk52 ⟨l53,l54,H55,hLi,hS56,hA⟩
 refine aE ?_
 refine kE (λh57=>?_) (λh57=>?_)
 refine ai ?_
 refine wz [(ki b18),kD a0.lines,ck a0.lines.l.length,ck k52] H55 [] ?_
 refine cw ?_
 have hx58:k52<a0.lines.l.length:=by omega
 refine mB k52 a0.lines hx58 ?_
 generalize hqx59:a0.lines.l[k52]=x59
 have hinx59:x59∈a0.lines.l:=by rw [<- hqx59]; exact List.getElem_mem _
 have hsx59:=q1.line x59 hinx59
 refine cG ?_
 refine bC ?_
 refine A7 (λE Z=>(E=[(5,(ki b18)),(10,ck k52),(11,.la 11 0),(12,iv 1),(75,kD a0.lines),(76,ck a0.lines.l.length),(77,ck k52)]/\Z = { H55 with cT:=[(11,(lq.af x59))] })\/(E=[(5,(ki b18)),(10,ck k52),(11,.la 11 0),(12,iv 0),(75,kD a0.lines),(76,ck a0.lines.l.length),(77,ck k52)]/\Z = { H55 with cT:=[(11,(lq.af x59))] })) ?_ ?_
 rintro _ _ (⟨rfl,rfl⟩ | ⟨rfl,rfl⟩)
 refine ae ?_
 have hL60:=x59.elems.lk
 refine lx x59.elems ?_
 refine aC ?_
 have hNk61:=x59.elems.lk
 refine ke x59.elems.l.length (λk61 e h=>∃ l62:List (Int×Int),∃ l63:List (Int×(Int×Int)),∃ n64:Int,∃ H65:bV,(sR a0 k52 k61 l63)/\Sep H65 (lE b18 [ld r5.elems,lv r5.kB,lz r5.signals,kD r5.lines,iv r5.top,iv r5.lC,iv r5.lN,iv r5.lU,.bool r5.lZ,(.hm b6),(.hm b9),(.hm b12),(.hm b15)]::m5 b15 iK iK l62::m5 b12 iK tP l63::m5 b9 pK iK l43::m5 b6 pK pK l23::[])/\At [5,10,12,75,76,77,110,111,112] [(ki b18),ck k52,iv n64,kD a0.lines,ck a0.lines.l.length,ck k52,kU x59.elems,ck x59.elems.l.length,ck k61] H65 [] e h) ?_ (k0:=0) d4 ⟨l53,l54,1,H55,(by exact hLi),hS56,atR⟩
 rintro k61 e h hkk61 ⟨l62,l63,n64,H65,hLi2,hS66,hA⟩
 refine aE ?_
 refine kE (λh67=>?_) (λh67=>?_)
 refine ai ?_
 refine wz [(ki b18),ck k52,iv n64,kD a0.lines,ck a0.lines.l.length,ck k52,kU x59.elems,ck x59.elems.l.length,ck k61] H65 [] ?_
 refine cw ?_
 have hx68:k61<x59.elems.l.length:=by omega
 refine mB k61 x59.elems hx68 ?_
 generalize hqx69:x59.elems.l[k61]=x69
 refine bM ?_
 refine cM ?_
 refine uN 0 hS66 ?_
 refine sV 0 hS66 ?_
 refine sZ 0 hS66 ((.hm b12)) ?_
 refine aK ?_
 refine uN 0 hS66 ?_
 refine sV 0 hS66 ?_
 refine sZ 0 hS66 ((.hm b15)) ?_
 refine bH ?_
 refine mP rfl rfl (sU (H:=H65) (i:=2) (ek:=iK) (ev:=tP) (l:=l63) x69 (((k52:Int),(k61:Int))) hS66 rfl rfl rfl rfl rfl rfl rfl rfl rfl pD) ?_
 rintro _ H70 ⟨w71,n72,H73,rfl,hop74,hS75⟩
 refine rV ?_
 refine kG rfl rfl (λ_=>hop74 _ _ _ _ _ _ _ _ rfl rfl rfl) ?_
 refine mP rfl rfl (sU (H:=H73) (i:=1) (ek:=iK) (ev:=iK) (l:=l62) x69 n64 hS75 rfl rfl rfl rfl rfl rfl rfl rfl rfl pD) ?_
 rintro _ H76 ⟨w77,n78,H79,rfl,hop80,hS81⟩
 refine rV ?_
 refine kG rfl rfl (λ_=>hop80 _ _ _ _ _ _ _ _ rfl rfl rfl) ?_
 refine rN ?_
 refine aJ ?_
 refine Hd 0 hS81 ?_
 refine pC 0 hS81 ?_
 refine nB 0 hS81 ((.hm b6)) ?_
 refine ao ?_
 refine iS rfl (λ_=>ml rfl rfl rfl (rW .i64 1 n64)) ?_
 refine oV ?_
 refine nK (H:=H79) (i:=4) (ek:=pK) (ev:=pK) (l:=l23) ((⟨x69,(IntKind.i64.wrap (1 - n64))⟩:j7)) rfl rfl hS81 rfl rfl rfl rfl rfl rfl rfl rfl nk (λy82 h83=>?_) (λh84=>?_)
 refine bF ?_
 refine wz [(ki b18),ck k52,iv y82.en,kD a0.lines,ck a0.lines.l.length,ck k52,kU x59.elems,ck x59.elems.l.length,ck k61] H79 [] ?_
 refine qg ?_
 refine kI ?_
 refine ab ?_
 exact ⟨by omega,((put x69 n64 l62)),((put x69 (((k52:Int),(k61:Int))) l63)),y82.en,H79,gq,hS81,atR⟩
 refine bF ?_
 refine wz [(ki b18),ck k52,iv 0,kD a0.lines,ck a0.lines.l.length,ck k52,kU x59.elems,ck x59.elems.l.length,ck k61] H79 [] ?_
 refine qg ?_
 refine kI ?_
 refine ab ?_
 exact ⟨by omega,((put x69 n64 l62)),((put x69 (((k52:Int),(k61:Int))) l63)),0,H79,gq,hS81,atR⟩
 refine ah ?_
 refine wz [(ki b18),kD a0.lines,ck a0.lines.l.length,ck k52] H65 [] ?_
 refine qg ?_
 refine kI ?_
 refine ab ?_
 exact ⟨by omega,l62,l63,H65,(by exact hLi2.next dT d4),hS66,atR⟩
 refine ae ?_
 have hL85:=x59.elems.lk
 refine lx x59.elems ?_
 refine aC ?_
 have hNk86:=x59.elems.lk
 refine ke x59.elems.l.length (λk86 e h=>∃ l87:List (Int×Int),∃ l88:List (Int×(Int×Int)),∃ n89:Int,∃ H90:bV,(sR a0 k52 k86 l88)/\Sep H90 (lE b18 [ld r5.elems,lv r5.kB,lz r5.signals,kD r5.lines,iv r5.top,iv r5.lC,iv r5.lN,iv r5.lU,.bool r5.lZ,(.hm b6),(.hm b9),(.hm b12),(.hm b15)]::m5 b15 iK iK l87::m5 b12 iK tP l88::m5 b9 pK iK l43::m5 b6 pK pK l23::[])/\At [5,10,12,75,76,77,110,111,112] [(ki b18),ck k52,iv n89,kD a0.lines,ck a0.lines.l.length,ck k52,kU x59.elems,ck x59.elems.l.length,ck k86] H90 [] e h) ?_ (k0:=0) d4 ⟨l53,l54,0,H55,(by exact hLi),hS56,atR⟩
 rintro k86 e h hkk86 ⟨l87,l88,n89,H90,hLi2,hS91,hA⟩
 refine aE ?_
 refine kE (λh92=>?_) (λh92=>?_)
 refine ai ?_
 refine wz [(ki b18),ck k52,iv n89,kD a0.lines,ck a0.lines.l.length,ck k52,kU x59.elems,ck x59.elems.l.length,ck k86] H90 [] ?_
 refine cw ?_
 have hx93:k86<x59.elems.l.length:=by omega
 refine mB k86 x59.elems hx93 ?_
 generalize hqx94:x59.elems.l[k86]=x94
 refine bM ?_
 refine cM ?_
 refine uN 0 hS91 ?_
 refine sV 0 hS91 ?_
 refine sZ 0 hS91 ((.hm b12)) ?_
 refine aK ?_
 refine uN 0 hS91 ?_
 refine sV 0 hS91 ?_
 refine sZ 0 hS91 ((.hm b15)) ?_
 refine bH ?_
 refine mP rfl rfl (sU (H:=H90) (i:=2) (ek:=iK) (ev:=tP) (l:=l88) x94 (((k52:Int),(k86:Int))) hS91 rfl rfl rfl rfl rfl rfl rfl rfl rfl pD) ?_
 rintro _ H95 ⟨w96,n97,H98,rfl,hop99,hS100⟩
 refine rV ?_
 refine kG rfl rfl (λ_=>hop99 _ _ _ _ _ _ _ _ rfl rfl rfl) ?_
 refine mP rfl rfl (sU (H:=H98) (i:=1) (ek:=iK) (ev:=iK) (l:=l87) x94 n89 hS100 rfl rfl rfl rfl rfl rfl rfl rfl rfl pD) ?_
 rintro _ H101 ⟨w102,n103,H104,rfl,hop105,hS106⟩
 refine rV ?_
 refine kG rfl rfl (λ_=>hop105 _ _ _ _ _ _ _ _ rfl rfl rfl) ?_
 refine rN ?_
 refine aJ ?_
 refine Hd 0 hS106 ?_
 refine pC 0 hS106 ?_
 refine nB 0 hS106 ((.hm b6)) ?_
 refine ao ?_
 refine iS rfl (λ_=>ml rfl rfl rfl (rW .i64 1 n89)) ?_
 refine oV ?_
 refine nK (H:=H104) (i:=4) (ek:=pK) (ev:=pK) (l:=l23) ((⟨x94,(IntKind.i64.wrap (1 - n89))⟩:j7)) rfl rfl hS106 rfl rfl rfl rfl rfl rfl rfl rfl nk (λy107 h108=>?_) (λh109=>?_)
 refine bF ?_
 refine wz [(ki b18),ck k52,iv y107.en,kD a0.lines,ck a0.lines.l.length,ck k52,kU x59.elems,ck x59.elems.l.length,ck k86] H104 [] ?_
 refine qg ?_
 refine kI ?_
 refine ab ?_
 exact ⟨by omega,((put x94 n89 l87)),((put x94 (((k52:Int),(k86:Int))) l88)),y107.en,H104,gq,hS106,atR⟩
 refine bF ?_
 refine wz [(ki b18),ck k52,iv 0,kD a0.lines,ck a0.lines.l.length,ck k52,kU x59.elems,ck x59.elems.l.length,ck k86] H104 [] ?_
 refine qg ?_
 refine kI ?_
 refine ab ?_
 exact ⟨by omega,((put x94 n89 l87)),((put x94 (((k52:Int),(k86:Int))) l88)),0,H104,gq,hS106,atR⟩
 refine ah ?_
 refine wz [(ki b18),kD a0.lines,ck a0.lines.l.length,ck k52] H90 [] ?_
 refine qg ?_
 refine kI ?_
 refine ab ?_
 exact ⟨by omega,l87,l88,H90,(by exact hLi2.next dT d4),hS91,atR⟩
 refine ae ?_
 have hL110:=x59.elems.lk
 refine lx x59.elems ?_
 refine mc (λh111=>?_) (λh111=>?_)
 refine ay ?_
 refine cM ?_
 refine uN 0 hS56 ?_
 refine sV 0 hS56 ?_
 refine sZ 0 hS56 ((.hm b6)) ?_
 refine aK ?_
 have hx112:0<x59.elems.l.length:=by omega
 refine qV 0 x59.elems hx112 ?_
 generalize hqx113:x59.elems.l[0]=x113
 refine aK ?_
 refine Lm (H:=H55) (i:=4) (ek:=pK) (ev:=pK) (l:=l23) ((⟨x113,0⟩:j7)) rfl rfl rfl hS56 rfl rfl rfl rfl rfl rfl rfl rfl nk (λy114 h115=>?_) (λh116=>?_)
 refine bG ?_
 refine aO ?_
 refine cH ?_
 have hx117:1<x59.elems.l.length:=by omega
 refine qV 1 x59.elems hx117 ?_
 generalize hqx118:x59.elems.l[1]=x118
 refine rV ?_
 refine w9 (λh119=>?_) (λh119=>?_)
 refine ce ?_
 refine qg ?_
 refine ab ?_
 exact .inl ⟨rfl,rfl⟩
 refine bz ?_
 exact .inr (⟨rfl,rfl⟩)
 refine bG ?_
 refine bZ ?_
 iterate 7 refine rS ?_
 refine bz ?_
 exact .inr (⟨rfl,rfl⟩)
 refine au ?_
 exact .inr (⟨rfl,rfl⟩)
 refine ah ?_
 refine wz [(ki b18)] H55 [] ?_
 refine aF ?_
 have hz120:∀ m,freeze false { H55 with cT:=[] } (m+3) (.hm b6)=some (.fm (lP pK pK l23) false):=λm=>vO (i:=4) hS56 rfl _ _ (xY λ_=>rfl)
 have hz121:∀ m,freeze false { H55 with cT:=[] } (m+3) (.hm b9)=some (.fm (lP pK iK l43) false):=λm=>vO (i:=3) hS56 rfl _ _ (xY λ_=>rfl)
 have hz122:∀ m,freeze false { H55 with cT:=[] } (m+3) (.hm b12)=some (.fm (lP iK tP l54) false):=λm=>vO (i:=2) hS56 rfl _ _ (xY λ_=>rfl)
 have hz123:∀ m,freeze false { H55 with cT:=[] } (m+3) (.hm b15)=some (.fm (lP iK iK l53) false):=λm=>vO (i:=1) hS56 rfl _ _ (xY λ_=>rfl)
 have hz124:∀ m,freeze false { H55 with cT:=[] } (m+4) (ki b18)=some (.ip [ld r5.elems,lv r5.kB,lz r5.signals,kD r5.lines,iv r5.top,iv r5.lC,iv r5.lN,iv r5.lU,.bool r5.lZ,.fm (lP pK pK l23) false,.fm (lP pK iK l43) false,.fm (lP iK tP l54) false,.fm (lP iK iK l53) false] 0 false):=λm=>oA (i:=0) hS56 rfl _ _ (by simp only [FZ,hz120,hz121,hz122,hz123])
 refine ⟨.kO [(ki b18),iv 0],rfl,.kO [.ip [ld r5.elems,lv r5.kB,lz r5.signals,kD r5.lines,iv r5.top,iv r5.lC,iv r5.lN,iv r5.lU,.bool r5.lZ,.fm (lP pK pK l23) false,.fm (lP pK iK l43) false,.fm (lP iK tP l54) false,.fm (lP iK iK l53) false] 0 false,iv 0],(show freeze false { H55 with cT:=[] } 8 (.kO [(ki b18),iv 0])=some (.kO [.ip [ld r5.elems,lv r5.kB,lz r5.signals,kD r5.lines,iv r5.top,iv r5.lC,iv r5.lN,iv r5.lU,.bool r5.lZ,.fm (lP pK pK l23) false,.fm (lP pK iK l43) false,.fm (lP iK tP l54) false,.fm (lP iK iK l53) false] 0 false,iv 0]) by simp only [FZ,hz120,hz121,hz122,hz123,hz124]),.inl ⟨(⟨r5,l23,l43,l54,l53⟩:kb),gY,rfl⟩⟩
def P31 (_a0:bY) (v:AV):Prop:=(∃ r0:kb,((qo r0 _a0)/\rs 31 [.agg (bY.af _a0)]=.kO [.ip (kb.af r0) 0 false,iv 0])/\v=.kO [.ip (kb.af r0) 0 false,iv 0])\/(∃ r1:Int,((r1≠0)/\rs 31 [.agg (bY.af _a0)]=.kO [.l3,iv r1])/\v=.kO [.l3,iv r1])
def t31 (a0:bY) (q1:mU a0) (h:bV):∃ v,kC cfg FT kJ false 31 [.agg (bY.af a0)] h v h/\P31 a0 v:=by
 obtain ⟨v,hc,hP,hr⟩:=pa rY (TU a0 q1) h
 rcases hP with ⟨r0,hp,rfl⟩ | ⟨r1,hp,rfl⟩
 ·exact ⟨_,hc,.inl ⟨r0,⟨hp,hr⟩,rfl⟩⟩
 ·exact ⟨_,hc,.inr (⟨r1,⟨hp,hr⟩,rfl⟩)⟩
def SE (a0:bY) (q1:mU a0) {V:AV} (hV:rs 31 [.agg (bY.af a0)]=V) (h:bV):∃ v,kC cfg FT kJ false 31 [.agg (bY.af a0)] h v h/\v=V:=by
 obtain ⟨v,hc,hP,hr⟩:=pa rY (TU a0 q1) h
 exact ⟨v,hc,hr.symm.trans hV⟩
def P99 (_a0:kb) (v:AV):Prop:=∃ r0:bY,(r0.elems.l = _a0.p.elems.l/\r0.kB.l = _a0.p.kB.l/\r0.signals.l = _a0.p.signals.l/\r0.lines.l.length = _a0.p.lines.l.length/\(∀ x∈r0.lines.l,x.elems.l.length<=60)/\r0 = _a0.p.canon)/\v=.agg (bY.af r0)
def t99 (a0:kb) (q1:mU a0.p):Ct 99 [.ip (kb.af a0) 0 false] (P99 a0):=by
 refine kA Oc ?_
 refine bC ?_
 refine bJ ?_
 refine oC (t76 a0.p dS) ?_
 rintro _ ⟨r2,hc1,rfl⟩
 have hC90:=hc1
 refine ag ?_
 exact xG ⟨r2,dT,rfl⟩
def P63 (_a0:kb) (v:AV):Prop:=∃ r0:Int,(r0=(_a0.p.signals.l.length:Int))/\v=iv r0
def t63 (a0:kb) :Ct 63 [.ip (kb.af a0) 0 false] (P63 a0):=by
 refine kA Od ?_
 refine bC ?_
 refine db ?_
 have hL1:=a0.p.signals.lk
 refine lx a0.p.signals ?_
 refine ag ?_
 exact xB ⟨((a0.p.signals.l.length:Int)),iy,rfl⟩
def aab (_a0:kb) (_a1:Int) (v:AV):Prop:=∃ r0:j7,∃ r1:Bool,((((r1=true->pe _a0.p.signals.l _a1=some r0)/\(r1=false->pe _a0.p.signals.l _a1=none))/\(r1=false->r0=⟨0,0⟩)))/\v=.kO [.agg (j7.af r0),.bool r1]
def t101 (a0:kb) (a1:Int) :Ct 101 [.ip (kb.af a0) 0 false,iv a1] (aab a0 a1):=by
 refine kA IG ?_
 refine aj ?_
 refine ak ?_
 refine kE (λh1=>?_) (λh1=>?_)
 refine oV ?_
 iterate 8 refine oS ?_
 refine cB ?_
 exact iH
 iterate 7 refine oV ?_
 have hL2:=a0.p.signals.lk
 refine lx a0.p.signals ?_
 refine mW (λh3=>?_) (λh3=>?_)
 refine cB ?_
 exact iH
 refine ap ?_
 refine aa ?_
 refine c7 ?_
 have hx4:(a1).toNat<a0.p.signals.l.length:=by omega
 refine iS rfl (λ_=>kW (n:=a1) (r:=a0.p.signals) (enc:=lY.af) rfl rfl rfl rfl rfl d4 hx4 rfl) ?_
 generalize hqx5:a0.p.signals.l[(a1).toNat]=x5
 refine bU ?_
 exact xG ⟨x5.at_,true,eN,rfl⟩
def abH (_a0:kb) (_a1:Int) (v:AV):Prop:=∃ r0:my,((r0.kind=lR _a0.p _a1/\r0.len=tu _a0.p _a1))/\v=.agg (my.af r0)
def t174 (a0:kb) (a1:Int) :Ct 174 [.ip (kb.af a0) 0 false,iv a1] (abH a0 a1):=by
 refine kA JH ?_
 refine aY ?_
 refine kE (λh1=>?_) (λh1=>?_)
 refine oV ?_
 iterate 8 refine oS ?_
 refine cA ?_
 exact jk
 iterate 7 refine oV ?_
 have hL2:=a0.p.elems.lk
 refine lx a0.p.elems ?_
 refine mW (λh3=>?_) (λh3=>?_)
 refine cA ?_
 exact jk
 refine ap ?_
 refine aa ?_
 refine c7 ?_
 have hx4:(a1).toNat<a0.p.elems.l.length:=by omega
 refine iS rfl (λ_=>kW (n:=a1) (r:=a0.p.elems) (enc:=my.af) rfl rfl rfl rfl rfl d4 hx4 rfl) ?_
 generalize hqx5:a0.p.elems.l[(a1).toNat]=x5
 refine bd ?_
 exact xG ⟨x5,fG,rfl⟩
def aaZ (_a0:kb) (_a1:Int) (v:AV):Prop:=∃ r0:Int,(r0=lR _a0.p _a1)/\v=iv r0
def t102 (a0:kb) (a1:Int) :Ct 102 [.ip (kb.af a0) 0 false,iv a1] (aaZ a0 a1):=by
 refine kA J7 ?_
 refine cO ?_
 refine oC (t174 a0 a1) ?_
 rintro _ ⟨r2,hc1,rfl⟩
 obtain ⟨hEk,hEl⟩:=hc1
 refine bd ?_
 exact xB ⟨r2.kind,dT,rfl⟩
def ac8 (_a0:kb) (_a1:j7) (v:AV):Prop:=∃ r0:Int,(r0=(look _a1 _a0.reads).getD (-1))/\v=iv r0
def t181 (a0:kb) (a1:j7) :Ct 181 [.ip (kb.af a0) 0 false,.agg (j7.af a1)] (ac8 a0 a1):=by
 refine kA HH ?_
 refine aV ?_
 refine qs ?_
 refine aO ?_
 refine bH ?_
 refine Eu (key:=a1) (l:=a0.reads) (ek:=pK) (ev:=iK) rfl rfl rfl rfl rfl rfl rfl rfl rfl rfl nk (λy1 h2=>?_) (λh3=>?_)
 refine cW ?_
 refine aP ?_
 refine aa ?_
 refine cA ?_
 exact xB ⟨y1,gQ,rfl⟩
 refine cW ?_
 refine aP ?_
 refine aa ?_
 refine ap ?_
 refine aU ?_
 exact xB ⟨(-1),gQ,rfl⟩
def adz (_a0:kb) (_a1:j7) (v:AV):Prop:=∃ r0:j7,∃ r1:Bool,(((r1=true->look _a1 _a0.next=some r0)/\(r1=false->look _a1 _a0.next=none)/\(r1=false->r0=⟨0,0⟩)))/\v=.kO [.agg (j7.af r0),.bool r1]
def t188 (a0:kb) (a1:j7) :Ct 188 [.ip (kb.af a0) 0 false,.agg (j7.af a1)] (adz a0 a1):=by
 refine kA Jm ?_
 refine cy ?_
 refine aO ?_
 refine bH ?_
 refine Eu (key:=a1) (l:=a0.next) (ek:=pK) (ev:=pK) rfl rfl rfl rfl rfl rfl rfl rfl rfl rfl nk (λy1 h2=>?_) (λh3=>?_)
 refine bG ?_
 refine dw ?_
 exact xG ⟨y1,true,gZ,rfl⟩
 refine bG ?_
 refine dw ?_
 exact xG ⟨(⟨0,0⟩:j7),false,gZ,rfl⟩
def ZN {H:bV} (b:Nat) (x:kL) (en:Int) (F:List lF) (hS:Sep H (lE b [iv en]::F)) :∃ v H',kC cfg FT kJ true 228 [.agg (kL.af x),(ki b)] { H with cT:=[] } v H'/\(∃ r0:Bool,(True)/\Sep H' (lE b [iv en]::F)/\v=.bool r0):=by
 refine lK IV ?_
 refine dl ?_
 refine nB 0 hS (iv en) ?_
 refine kZ (λh1=>?_) (λh1=>?_)
 refine ag ?_
 have hS2:=Sep.pick hS [0] 1 dW dW
 exact jw
 refine ag ?_
 have hS3:=Sep.pick hS [0] 1 dW dW
 exact jx
def abn {H:bV} (b:Nat) (x:kL) (en:Int) (F:List lF) (hS:Sep H (lE b [iv en]::F)) :∃ v H',kC cfg FT kJ true 248 [.agg (kL.af x),(ki b)] { H with cT:=[] } v H'/\(∃ r0:Bool,(True)/\Sep H' (lE b [iv en]::F)/\v=.bool r0):=by
 refine lK Kl ?_
 refine dl ?_
 refine nB 0 hS (iv en) ?_
 refine kZ (λh1=>?_) (λh1=>?_)
 refine ag ?_
 have hS2:=Sep.pick hS [0] 1 dW dW
 exact jw
 refine ag ?_
 have hS3:=Sep.pick hS [0] 1 dW dW
 exact jx
def NM {H:bV} (l:ka kL) (b:Nat) (en:Int) (F:List lF) (hS:Sep H (lE b [iv en]::F)) :∃ v H',kC cfg FT kJ true 250 [ka.av kL.af l,.ly 248 [] [(ki b)]] { H with cT:=[] } v H'/\(∃ r0:Int,(True)/\Sep H' (lE b [iv en]::F)/\v=iv r0):=by
 refine lK DQ ?_
 refine aY ?_
 have hL1:=l.lk
 refine iS rfl (λ_=>nA (r:=l) (enc:=kL.af) rfl rfl rfl rfl rfl rfl) ?_
 refine aC ?_
 have hNk2:=l.lk
 refine ke l.l.length (λk2 e h=>∃ H3:bV,Sep H3 (lE b [iv en]::F)/\At [0,1,7,8] [ka.av kL.af l,.ly 248 [] [(ki b)],ck l.l.length,ck k2] H3 [] e h) ?_ (k0:=0) d4 ⟨H,hS,atR⟩
 rintro k2 e h hkk2 ⟨H3,hS4,hA⟩
 refine aE ?_
 refine kE (λh5=>?_) (λh5=>?_)
 refine c8 ?_
 refine aI ?_
 have hx6:k2<l.l.length:=by omega
 refine iS rfl (λ_=>m8 (n:=k2) (r:=l) (enc:=kL.af) rfl rfl rfl rfl rfl hx6 rfl) ?_
 generalize hqx7:l.l[k2]=x7
 refine oV ?_
 have hS8:=Sep.pick hS4 [0] 1 dW dW
 refine lB (H:=H3) (args:=[.agg (kL.af x7)]) (p:=[]) (r:=[(ki b)]) rfl rfl rfl rfl rfl rfl rfl (abn b x7 en F hS8) ?_
 rintro _ H9 ⟨r12,hc11,hS10,rfl⟩
 cases r12
 refine bv ?_
 refine kI ?_
 refine ab ?_
 exact ⟨by omega,H9,hS10,atR⟩
 refine aH ?_
 have hS13:=Sep.pick hS10 [0] 1 dW dW
 exact jA
 refine bE ?_
 have hS14:=Sep.pick hS4 [0] 1 dW dW
 exact ⟨iv (-1),rfl,(-1),zT,Sep.cT hS14 _,rfl⟩
def Om {H:bV} (l:ka kL) (b:Nat) (en:Int) (F:List lF) (hS:Sep H (lE b [iv en]::F)) :∃ v H',kC cfg FT kJ true 250 [ka.av kL.af l,.ly 228 [] [(ki b)]] { H with cT:=[] } v H'/\(∃ r0:Int,(True)/\Sep H' (lE b [iv en]::F)/\v=iv r0):=by
 refine lK DQ ?_
 refine aY ?_
 have hL1:=l.lk
 refine iS rfl (λ_=>nA (r:=l) (enc:=kL.af) rfl rfl rfl rfl rfl rfl) ?_
 refine aC ?_
 have hNk2:=l.lk
 refine ke l.l.length (λk2 e h=>∃ H3:bV,Sep H3 (lE b [iv en]::F)/\At [0,1,7,8] [ka.av kL.af l,.ly 228 [] [(ki b)],ck l.l.length,ck k2] H3 [] e h) ?_ (k0:=0) d4 ⟨H,hS,atR⟩
 rintro k2 e h hkk2 ⟨H3,hS4,hA⟩
 refine aE ?_
 refine kE (λh5=>?_) (λh5=>?_)
 refine c8 ?_
 refine aI ?_
 have hx6:k2<l.l.length:=by omega
 refine iS rfl (λ_=>m8 (n:=k2) (r:=l) (enc:=kL.af) rfl rfl rfl rfl rfl hx6 rfl) ?_
 generalize hqx7:l.l[k2]=x7
 refine oV ?_
 have hS8:=Sep.pick hS4 [0] 1 dW dW
 refine lB (H:=H3) (args:=[.agg (kL.af x7)]) (p:=[]) (r:=[(ki b)]) rfl rfl rfl rfl rfl rfl rfl (ZN b x7 en F hS8) ?_
 rintro _ H9 ⟨r12,hc11,hS10,rfl⟩
 cases r12
 refine bv ?_
 refine kI ?_
 refine ab ?_
 exact ⟨by omega,H9,hS10,atR⟩
 refine aH ?_
 have hS13:=Sep.pick hS10 [0] 1 dW dW
 exact jA
 refine bE ?_
 have hS14:=Sep.pick hS4 [0] 1 dW dW
 exact ⟨iv (-1),rfl,(-1),zT,Sep.cT hS14 _,rfl⟩
def NV {H:bV} (l:ka kL) (b:Nat) (en:Int) (F:List lF) (hS:Sep H (lE b [iv en]::F)) :∃ v H',kC cfg FT kJ true 227 [ka.av kL.af l,.ly 248 [] [(ki b)]] { H with cT:=[] } v H'/\(∃ r0:Bool,(True)/\Sep H' (lE b [iv en]::F)/\v=.bool r0):=by
 refine lK D7 ?_
 refine cO ?_
 have hS1:=Sep.pick hS [0] 1 dW dW
 refine lB (H:=H) (args:=[ka.av kL.af l,.ly 248 [] [(ki b)]]) (p:=[]) (r:=[]) rfl rfl rfl rfl rfl rfl rfl (NM l b en F hS1) ?_
 rintro _ H2 ⟨r5,hc4,hS3,rfl⟩
 refine mW (λh6=>?_) (λh6=>?_)
 refine ag ?_
 have hS7:=Sep.pick hS3 [0] 1 dW dW
 exact jt
 refine ag ?_
 have hS8:=Sep.pick hS3 [0] 1 dW dW
 exact ju
def O0 {H:bV} (l:ka kL) (b:Nat) (en:Int) (F:List lF) (hS:Sep H (lE b [iv en]::F)) :∃ v H',kC cfg FT kJ true 227 [ka.av kL.af l,.ly 228 [] [(ki b)]] { H with cT:=[] } v H'/\(∃ r0:Bool,(True)/\Sep H' (lE b [iv en]::F)/\v=.bool r0):=by
 refine lK D7 ?_
 refine cO ?_
 have hS1:=Sep.pick hS [0] 1 dW dW
 refine lB (H:=H) (args:=[ka.av kL.af l,.ly 228 [] [(ki b)]]) (p:=[]) (r:=[]) rfl rfl rfl rfl rfl rfl rfl (Om l b en F hS1) ?_
 rintro _ H2 ⟨r5,hc4,hS3,rfl⟩
 refine mW (λh6=>?_) (λh6=>?_)
 refine ag ?_
 have hS7:=Sep.pick hS3 [0] 1 dW dW
 exact jt
 refine ag ?_
 have hS8:=Sep.pick hS3 [0] 1 dW dW
 exact ju
def Tb (_a0:pQ) (_a1:Int) (v:AV):Prop:=∃ r0:Bool,((r0=true->_a0.steps.l.length<12))/\v=.bool r0
def t223 (a0:pQ) (a1:Int) :Ct 223 [.ip (pQ.af a0) 0 true,iv a1] (Tb a0 a1):=by
 refine kA HT ?_
 refine bR ?_
 rintro _ H2 ⟨b1,rfl,hS3⟩
 refine ab ?_
 refine aO ?_
 refine cW ?_
 have hL4:=a0.steps.lk
 refine kG rfl rfl (λ_=>nA (r:=a0.steps) (enc:=kL.af) rfl rfl rfl rfl rfl rfl) ?_
 refine si (λh5=>?_) (λh5=>?_)
 refine rV ?_
 refine sZ 0 hS3 (iv a1) ?_
 refine cW ?_
 refine w5 (λh6=>?_) (λh6=>?_)
 refine cH ?_
 refine kG rfl rfl (λ_=>tn rfl rfl (tv rfl rfl)) ?_
 have hS7:=Sep.pick hS3 [0] 1 dW dW
 refine HA (H:=H2) (args:=[ka.av kL.af a0.steps,.ly 248 [] [(ki b1)]]) (p:=[]) (r:=[]) rfl rfl rfl rfl rfl rfl rfl rfl (NV a0.steps b1 a1 ([]) hS7) ?_
 rintro _ H8 ⟨r11,hc10,hS9,rfl⟩
 cases r11
 refine dc ?_
 exact jn
 refine dc ?_
 exact jo
 refine co ?_
 exact jo
 refine dD ?_
 refine co ?_
 exact jo
def aaG (_a0:kb) (_a1:Int) (_a2:Int) (v:AV):Prop:=∃ r0:Row lV,(r0.l.length<=2)/\v=vm r0
def t249 (a0:kb) (a1:Int) (a2:Int) :Ct 249 [.ip (kb.af a0) 0 false,iv a1,iv a2] (aaG a0 a1 a2):=by
 refine kA HR ?_
 refine aY ?_
 refine kE (λh1=>?_) (λh1=>?_)
 refine de ?_
 refine aq ?_
 exact jy
 refine aM ?_
 refine oC (t102 a0 a1) ?_
 rintro _ ⟨r3,hc2,rfl⟩
 have hK:=hc2
 refine oC (t213 r3) ?_
 rintro _ ⟨r5,hc4,rfl⟩
 refine mW (λh6=>?_) (λh6=>?_)
 refine aq ?_
 exact jy
 refine ap ?_
 refine aR ?_
 refine oC (t102 a0 a1) ?_
 rintro _ ⟨r8,hc7,rfl⟩
 have hK:=hc7
 refine dh ?_
 refine kZ (λh9=>?_) (λh9=>?_)
 refine ba ?_
 refine aj ?_
 refine iS rfl (λ_=>ml rfl rfl rfl (rW .i64 1 a2)) ?_
 refine cr ?_
 exact xG ⟨(⟨[(⟨(IntKind.i64.wrap (1 - a2)),0⟩:lV)],.exact 1,rD,rfl,oq⟩:Row lV),fi,rfl⟩
 refine be ?_
 refine kZ (λh10=>?_) (λh10=>?_)
 refine ba ?_
 refine ae ?_
 refine aN ?_
 have hd11:a2=0\/a2=1\/a2=2\/a2=3:=by omega
 rcases hd11 with rfl | rfl | rfl | rfl
 refine oV ?_
 refine bU ?_
 exact xG ⟨(⟨[(⟨1,0⟩:lV)],.exact 1,rD,rfl,oq⟩:Row lV),fi,rfl⟩
 refine oV ?_
 refine bU ?_
 exact jz
 refine oV ?_
 refine bU ?_
 exact xG ⟨(⟨[(⟨3,0⟩:lV)],.exact 1,rD,rfl,oq⟩:Row lV),fi,rfl⟩
 refine oV ?_
 refine bU ?_
 exact xG ⟨(⟨[(⟨2,0⟩:lV)],.exact 1,rD,rfl,oq⟩:Row lV),fi,rfl⟩
 refine be ?_
 refine kZ (λh12=>?_) (λh12=>?_)
 refine ba ?_
 refine am ?_
 refine kZ (λh13=>?_) (λh13=>?_)
 refine ay ?_
 refine dw ?_
 exact xG ⟨(⟨[(⟨1,1⟩:lV),(⟨2,2⟩:lV)],.exact 2,rD,rfl,oq⟩:Row lV),fi,rfl⟩
 refine dG ?_
 have hd14:a2=0\/a2=1\/a2=2:=by omega
 rcases hd14 with rfl | rfl | rfl
 refine bU ?_
 exact jz
 refine bU ?_
 exact xG ⟨(⟨[(⟨0,1⟩:lV)],.exact 1,rD,rfl,oq⟩:Row lV),fi,rfl⟩
 refine bU ?_
 exact xG ⟨(⟨[(⟨0,2⟩:lV)],.exact 1,rD,rfl,oq⟩:Row lV),fi,rfl⟩
 refine ap ?_
 refine aU ?_
 exact jy
def abu {H:bV} (p:Nat) (wO:Int) (vs:AV) (steps:List kL) (vp:AV) (pos:List Int) (vl:AV) (left:List (Row lV)) (nn:kb) (x:j7) (F:List lF) (hS:Sep H (lE p [iv wO,vs,vp,vl]::oT kL.af 3 vs steps::oT kX 1 vp pos::oT (nW lV.af) 1 vl left::F)) (q1:steps.length<=11) (q2:pos.length=steps.length) (q3:left.length=steps.length):∃ v H',kC cfg FT kJ true 224 [(ki p),.ip (kb.af nn) 0 false,.agg (j7.af x)] { H with cT:=[] } v H'/\(∃ vso:AV,∃ stepso:List kL,∃ vpo:AV,∃ poso:List Int,∃ vlo:AV,∃ lefto:List (Row lV),(stepso.length=steps.length+1/\poso.length=stepso.length/\(pN x.elem->(∀ s∈steps,pN s.elem)->∀ s∈stepso,pN s.elem)/\∃ w:Row lV,w.l.length<=2/\lefto=left++[w])/\Sep H' (lE p [iv wO,vso,vpo,vlo]::oT kL.af 3 vso stepso::oT kX 1 vpo poso::oT (nW lV.af) 1 vlo lefto::F)/\v=.kO []):=by
 refine lK J9 ?_
 refine bC ?_
 refine bZ ?_
 refine uN 0 hS ?_
 refine sV 0 hS ?_
 refine sZ 0 hS vs ?_
 refine cH ?_
 refine mP rfl rfl (lO (H:=H) (i:=1) (l:=steps) (enc:=kL.af) [(⟨x.elem,x.en,(-1)⟩:kL)] hS rfl rfl rfl rfl rfl rfl rfl rfl rfl (λ_=>rfl) (.inr rfl) dZ (λ_=>rfl)) ?_
 rintro v1 H2 hS3
 refine uN 0 hS3 ?_
 refine sV 0 hS3 ?_
 refine mP rfl rfl (nZ (H:=H2) (i:=0) (o:=1) (r:=v1) hS3 rfl rfl rfl rfl (nG rfl rfl (Sep.cell (i:=1) hS3 rfl)) (j8 (Sep.cell (i:=1) hS3 rfl) kK) rfl) ?_
 rintro _ H4 ⟨rfl,hS5⟩
 refine rN ?_
 refine ae ?_
 refine Hd 0 hS5 ?_
 refine pC 0 hS5 ?_
 refine nB 0 hS5 vp ?_
 refine oV ?_
 refine kM rfl (lO (H:=H4) (i:=2) (l:=pos) (enc:=kX) [0] hS5 rfl rfl rfl rfl rfl rfl rfl rfl rfl (λ_=>rfl) (.inr rfl) dZ (λ_=>rfl)) ?_
 rintro v6 H7 hS8
 refine Hd 0 hS8 ?_
 refine pC 0 hS8 ?_
 refine kM rfl (nZ (H:=H7) (i:=0) (o:=2) (r:=v6) hS8 rfl rfl rfl rfl (nG rfl rfl (Sep.cell (i:=2) hS8 rfl)) (j8 (Sep.cell (i:=2) hS8 rfl) kK) rfl) ?_
 rintro _ H9 ⟨rfl,hS10⟩
 refine oN ?_
 refine qd ?_
 refine aK ?_
 refine uN 0 hS10 ?_
 refine sV 0 hS10 ?_
 refine sZ 0 hS10 vl ?_
 refine bH ?_
 refine rC (t249 nn x.elem x.en) ?_
 rintro _ ⟨r12,hc11,rfl⟩
 refine kG rfl rfl (λ_=>sJ (xs:=[[vm r12]]) rfl rfl rfl rfl (yU (j8 (mH _) kK) rfl)) ?_
 refine mP rfl rfl (lO (H:=H9) (i:=3) (l:=left) (enc:=(nW lV.af)) [r12] hS10 rfl rfl rfl rfl rfl rfl rfl rfl rfl (λ_=>rfl) (.inr rfl) dZ (λ_=>rfl)) ?_
 rintro v13 H14 hS15
 refine uN 0 hS15 ?_
 refine sV 0 hS15 ?_
 refine mP rfl rfl (nZ (H:=H14) (i:=0) (o:=3) (r:=v13) hS15 rfl rfl rfl rfl (nG rfl rfl (Sep.cell (i:=3) hS15 rfl)) (j8 (Sep.cell (i:=3) hS15 rfl) kK) rfl) ?_
 rintro _ H16 ⟨rfl,hS17⟩
 refine rN ?_
 have hS18:=Sep.pick hS17 [0,1,2,3] 4 dW dW
 exact ⟨.kO [],rfl,v1,((steps++[(⟨x.elem,x.en,(-1)⟩:kL)])),v6,(pos++[0]),v13,(left++[r12]),(by refine ⟨by simp,by simp; omega,λh1 h2=>qx (P:=λs:kL=>pN s.elem) h2 h1,_,?_,rfl⟩; assumption),Sep.cT hS18 _,rfl⟩
def P78 (_a0:ka kL) (v:AV):Prop:=∃ r0:Row kL,(r0.l = _a0.l)/\v=kQ r0
def t78 (a0:ka kL) (q1:a0.l.length<=1000):Ct 78 [ka.av kL.af a0] (P78 a0):=by
 refine kA Pd ?_
 refine aY ?_
 refine mh (b:=a0.isNil) rfl (λ_=>oX rfl rfl rfl rfl) (λh1=>?_) (λh1=>?_)
 refine aZ ?_
 exact xG ⟨(mu:Row kL),eV,rfl⟩
 refine dG ?_
 have hS2:=Sep.qj lJ 3
 refine kM rfl (lO (i:=0) (l:=([]:List kL)) (enc:=kL.af) a0.l hS2 rfl rfl rfl rfl rfl rfl rfl rfl rfl (λ_=>rfl) (.inl rfl) dZ (λ_=>rfl)) ?_
 rintro v3 H4 hS5
 refine ag ?_
 obtain ⟨r6,hl7,hf8⟩:=mz (H:=H4) (i:=0) (l:=(([]:List kL)++a0.l)) (enc:=kL.af) hS5 rfl dV
 have hlq:=hl7; have hln10:=congrArg List.length hl7
 have hz9:∀ m,freeze false { H4 with cT:=[] } (m+2) v3=some (kQ r6):=λm=>hf8 _ _ (λ_=>rfl)
 exact ⟨v3,(lQ (vs:=[v3]) rfl (j8 (Sep.arg (i:=0) hS5 rfl) kK)),kQ r6,(show freeze false { H4 with cT:=[] } 8 v3=some (kQ r6) by simp only [FZ,hz9]),r6,eV,rfl⟩
def HQ (_a0:pQ) (_a1:Int) (_a2:Int) (_a3:Int) (v:AV):Prop:=∃ r0:kq,((r0.steps.l = _a0.steps.l/\r0.nq.l.length<=_a0.steps.l.length/\r0.guards.l=[]/\r0.mf.l=[]/\r0.holds.l=[]))/\v=.agg (kq.af r0)
def t225 (a0:pQ) (a1:Int) (a2:Int) (a3:Int) (q1:a0.steps.l.length<=12) (q2:a0.pos.l.length=a0.steps.l.length):Ct 225 [.ip (pQ.af a0) 0 true,iv a1,iv a2,iv a3] (HQ a0 a1 a2 a3):=by
 refine kA HW ?_
 refine cO ?_
 refine aQ ?_
 refine oC (t78 a0.steps dS) ?_
 rintro _ ⟨r2,hc1,rfl⟩
 have hC93:=congrArg List.length hc1; try simp only [Row.mi] at hC93
 refine bM ?_
 refine qs ?_
 refine bJ ?_
 have hL3:=a0.steps.lk
 refine iS rfl (λ_=>nA (r:=a0.steps) (enc:=kL.af) rfl rfl rfl rfl rfl rfl) ?_
 refine aC ?_
 have hS4:=Sep.m3 lJ 2
 have hNk5:=a0.steps.lk
 refine ke a0.steps.l.length (λk5 e h=>∃ v6:AV,∃ l7:List lI,∃ H8:bV,(l7.length<=0+k5)/\Sep H8 (nu lI.af 2 v6 l7::[])/\At [0,8,9,24,25,26] [.ip (pQ.af a0) 0 true,.la 8 0,.la 9 0,ka.av kL.af a0.steps,ck a0.steps.l.length,ck k5] H8 [(8,[iv 0,iv 0,iv 0,iN,iN,iN,iN,iN,kh]),(9,[iv a1,iv a2,iv a3,kQ r2,v6,iN,iN,iN,kh])] e h) ?_ (k0:=0) d4 ⟨iN,(([]:List lI)),bV.empty,eR,hS4,atR⟩
 rintro k5 e h hkk5 ⟨v6,l7,H8,hl10,hS9,hA⟩
 refine aE ?_
 refine kE (λh11=>?_) (λh11=>?_)
 refine ai ?_
 refine cw ?_
 have hx12:k5<a0.steps.l.length:=by omega
 refine iS rfl (λ_=>m8 (n:=k5) (r:=a0.steps) (enc:=kL.af) rfl rfl rfl rfl rfl hx12 rfl) ?_
 generalize hqx13:a0.steps.l[k5]=x13
 refine cG ?_
 refine db ?_
 have hx14:k5<a0.pos.l.length:=by omega
 refine iS rfl (λ_=>m8 (n:=k5) (r:=a0.pos) (enc:=kX) rfl rfl rfl rfl rfl hx14 rfl) ?_
 generalize hqx15:a0.pos.l[k5]=x15
 refine oV ?_
 refine mg (λh16=>?_) (λh16=>?_)
 refine ay ?_
 refine qd ?_
 iterate 9 refine rV ?_
 have hx17:k5<a0.pos.l.length:=by omega
 refine kG rfl rfl (λ_=>m8 (n:=k5) (r:=a0.pos) (enc:=kX) rfl rfl rfl rfl rfl hx17 rfl) ?_
 rw [hqx15]
 refine bA ?_
 refine mP rfl rfl (lO (H:=H8) (i:=0) (l:=l7) (enc:=lI.af) [(⟨x13.elem,x15⟩:lI)] hS9 rfl rfl rfl rfl rfl rfl rfl rfl rfl (λ_=>rfl) (.inl rfl) dZ (λ_=>rfl)) ?_
 rintro v19 H20 hS21
 refine rV ?_
 refine kG rfl rfl (λ_=>pd rfl rfl rfl (nG rfl rfl (Sep.cell (i:=0) hS21 rfl)) (j8 (Sep.cell (i:=0) hS21 rfl) kK) rfl rfl) ?_
 refine rN ?_
 refine qg ?_
 refine kI ?_
 refine ab ?_
 exact ⟨by omega,v19,((l7++[(⟨x13.elem,x15⟩:lI)])),H20,dX,hS21,atR⟩
 refine bv ?_
 refine kI ?_
 refine ab ?_
 exact ⟨by omega,v6,l7,H8,dX,hS9,atR⟩
 refine ah ?_
 refine aj ?_
 refine iS rfl (λ_=>pd rfl rfl rfl rfl (j8 rfl (j8 rfl (j8 rfl (j8 rfl (j8 (Sep.cell (i:=0) hS9 rfl) (j8 rfl (j8 rfl (j8 rfl (j8 rfl kK))))))))) rfl rfl) ?_
 refine cN ?_
 obtain ⟨r22,hl23,hf24⟩:=mz (H:=H8) (i:=0) (l:=l7) (enc:=lI.af) hS9 rfl dV
 have hlq:=hl23; have hln26:=congrArg List.length hl23
 have hz25:∀ m,freeze false { H8 with cT:=[(8,[iv a1,iv a2,iv a3,kQ r2,v6,iN,iN,iN,kh]),(9,[iv a1,iv a2,iv a3,kQ r2,v6,iN,iN,iN,kh])] } (m+2) v6=some (lX r22):=λm=>hf24 _ _ (λ_=>rfl)
 exact ⟨.agg [iv a1,iv a2,iv a3,kQ r2,v6,iN,iN,iN,kh],(lQ (vs:=[.agg [iv a1,iv a2,iv a3,kQ r2,v6,iN,iN,iN,kh]]) rfl rfl),.agg [iv a1,iv a2,iv a3,kQ r2,lX r22,iN,iN,iN,kh],(show freeze false { H8 with cT:=[(8,[iv a1,iv a2,iv a3,kQ r2,v6,iN,iN,iN,kh]),(9,[iv a1,iv a2,iv a3,kQ r2,v6,iN,iN,iN,kh])] } 8 (.agg [iv a1,iv a2,iv a3,kQ r2,v6,iN,iN,iN,kh])=some (.agg [iv a1,iv a2,iv a3,kQ r2,lX r22,iN,iN,iN,kh]) by simp only [FZ,hz25]),(⟨a1,a2,a3,r2,r22,(mu:Row lI),(mu:Row Int),(mu:Row Int),false⟩:kq),(by first | exact ⟨by assumption,by dsimp only; omega,rfl,rfl,rfl⟩ | exact ⟨by assumption,by simp,rfl,rfl,rfl⟩),rfl⟩
def acG {H:bV} (p:Nat) (wO:Int) (vs:AV) (steps:List kL) (vp:AV) (pos:List Int) (vl:AV) (left:List (Row lV)) (F:List lF) (hS:Sep H (lE p [iv wO,vs,vp,vl]::oT kL.af 3 vs steps::oT kX 1 vp pos::oT (nW lV.af) 1 vl left::F)) (q1:steps.length<=12) (q2:pos.length=steps.length) (q3:left.length=steps.length) (q4:0<steps.length):∃ v H',kC cfg FT kJ true 226 [(ki p)] { H with cT:=[] } v H'/\(∃ vso:AV,∃ stepso:List kL,∃ vpo:AV,∃ poso:List Int,∃ vlo:AV,∃ lefto:List (Row lV),(stepso.length+1=steps.length/\poso.length=stepso.length/\(∀ s∈stepso,s∈steps)/\lefto=left.take (left.length - 1))/\Sep H' (lE p [iv wO,vso,vpo,vlo]::oT kL.af 3 vso stepso::oT kX 1 vpo poso::oT (nW lV.af) 1 vlo lefto::F)/\v=.kO []):=by
 refine lK Kk ?_
 refine aj ?_
 refine br ?_
 refine iS rfl (λ_=>nY (i:=0) (o:=1) (r:=vs) hS rfl rfl rfl rfl) ?_
 refine iS rfl (λ_=>nO (i:=1) hS rfl rfl rfl rfl rfl rfl rfl) ?_
 refine pW ?_
 refine ab ?_
 refine qd ?_
 refine cW ?_
 refine kG rfl rfl (λ_=>rl (i:=0) hS rfl rfl) ?_
 refine kG rfl rfl (λ_=>qH (i:=0) hS rfl rfl rfl rfl rfl) ?_
 refine kG rfl rfl (λ_=>nY (i:=0) (o:=1) (r:=vs) hS rfl rfl rfl rfl) ?_
 refine rV ?_
 have hk1:((((steps.length:Int) - 1).toNat:Nat):Int)=(steps.length:Int) - 1:=Int.toNat_of_nonneg dX
 have hx2:((steps.length:Int) - 1).toNat<=steps.length:=by first | omega | (simp<;>omega) | (simp_all; omega)
 refine mP rfl rfl (vG (i:=1) (k:=((steps.length:Int) - 1).toNat) hS rfl rfl rfl rfl rfl rfl (congrArg (AV.int .i64) hk1.symm) hx2) ?_
 rintro v3 H4 ⟨hc5,hS6⟩
 refine rV ?_
 refine kG rfl rfl (λ_=>rl (i:=0) hS6 rfl rfl) ?_
 refine kG rfl rfl (λ_=>qH (i:=0) hS6 rfl rfl rfl rfl rfl) ?_
 refine kG rfl rfl (λ_=>nY (i:=0) (o:=2) (r:=vp) hS6 rfl rfl rfl rfl) ?_
 refine rV ?_
 have hk7:((((steps.length:Int) - 1).toNat:Nat):Int)=(steps.length:Int) - 1:=Int.toNat_of_nonneg dX
 have hx8:((steps.length:Int) - 1).toNat<=pos.length:=by first | omega | (simp<;>omega) | (simp_all; omega)
 refine mP rfl rfl (vG (i:=2) (k:=((steps.length:Int) - 1).toNat) hS6 rfl rfl rfl rfl rfl rfl (congrArg (AV.int .i64) hk7.symm) hx8) ?_
 rintro v9 H10 ⟨hc11,hS12⟩
 refine rV ?_
 refine kG rfl rfl (λ_=>rl (i:=0) hS12 rfl rfl) ?_
 refine kG rfl rfl (λ_=>qH (i:=0) hS12 rfl rfl rfl rfl rfl) ?_
 refine kG rfl rfl (λ_=>nY (i:=0) (o:=3) (r:=vl) hS12 rfl rfl rfl rfl) ?_
 refine rV ?_
 have hk13:((((steps.length:Int) - 1).toNat:Nat):Int)=(steps.length:Int) - 1:=Int.toNat_of_nonneg dX
 have hx14:((steps.length:Int) - 1).toNat<=left.length:=by first | omega | (simp<;>omega) | (simp_all; omega)
 refine mP rfl rfl (vG (i:=3) (k:=((steps.length:Int) - 1).toNat) hS12 rfl rfl rfl rfl rfl rfl (congrArg (AV.int .i64) hk13.symm) hx14) ?_
 rintro v15 H16 ⟨hc17,hS18⟩
 refine kG rfl rfl (λ_=>rl (i:=0) hS18 rfl rfl) ?_
 refine kG rfl rfl (λ_=>qH (i:=0) hS18 rfl rfl rfl rfl rfl) ?_
 refine vd rfl rfl (nZ (i:=0) (o:=1) (r:=v3) hS18 rfl rfl rfl rfl (nG rfl rfl (Sep.cell (i:=1) hS18 rfl)) (j8 (Sep.cell (i:=1) hS18 rfl) kK) rfl) ?_
 rintro _ H19 ⟨rfl,hS20⟩
 refine ⟨λcall=>(EO (pI rfl rfl rfl (uE (i:=2) (k:=((steps.length:Int) - 1).toNat) hS20 rfl hc11 rfl rfl rfl rfl rfl (congrArg (AV.int .i64) hk7.symm)) rfl (C2 (i:=2) hS20 rfl)) (A9 (pI rfl rfl rfl (uE (i:=3) (k:=((steps.length:Int) - 1).toNat) hS20 rfl hc17 rfl rfl rfl rfl rfl (congrArg (AV.int .i64) hk13.symm)) rfl (C2 (i:=3) hS20 rfl)))),?_⟩
 refine kG rfl rfl (λ_=>rl (i:=0) hS20 rfl rfl) ?_
 refine kG rfl rfl (λ_=>qH (i:=0) hS20 rfl rfl rfl rfl rfl) ?_
 refine vd rfl rfl (nZ (i:=0) (o:=2) (r:=v9) hS20 rfl rfl rfl rfl (nG rfl rfl (Sep.cell (i:=2) hS20 rfl)) (j8 (Sep.cell (i:=2) hS20 rfl) kK) rfl) ?_
 rintro _ H21 ⟨rfl,hS22⟩
 refine ⟨λcall=>(A9 (pI rfl rfl rfl (uE (i:=3) (k:=((steps.length:Int) - 1).toNat) hS22 rfl hc17 rfl rfl rfl rfl rfl (congrArg (AV.int .i64) hk13.symm)) rfl (C2 (i:=3) hS22 rfl))),?_⟩
 refine kG rfl rfl (λ_=>rl (i:=0) hS22 rfl rfl) ?_
 refine kG rfl rfl (λ_=>qH (i:=0) hS22 rfl rfl rfl rfl rfl) ?_
 refine mP rfl rfl (nZ (i:=0) (o:=3) (r:=v15) hS22 rfl rfl rfl rfl (nG rfl rfl (Sep.cell (i:=3) hS22 rfl)) (j8 (Sep.cell (i:=3) hS22 rfl) kK) rfl) ?_
 rintro _ H23 ⟨rfl,hS24⟩
 refine rN ?_
 have hS25:=Sep.pick hS24 [0,1,2,3] 4 dW dW
 exact ⟨.kO [],rfl,v3,(steps.take (((steps.length:Int) - 1).toNat)),v9,(pos.take (((steps.length:Int) - 1).toNat)),v15,(left.take (((steps.length:Int) - 1).toNat)),(by refine ⟨by simp only [List.length_take]; omega,by simp only [List.length_take]; omega,λs hs=>List.mem_of_mem_take hs,?_⟩; congr 1; omega),Sep.cT hS25 _,rfl⟩
def aaz (_a0:kb) (_a1:Int) (v:AV):Prop:=∃ r0:Row kq,(r0.l.length<=8192/\(∀ r∈(r0.l:List kq),0<r.steps.l.length/\r.steps.l.length<=12/\r.nq.l.length<=12/\pT r))/\v=kx r0
def t186 (a0:kb) (a1:Int) (hJg:∀ y∈univ a0,pN y.elem):Ct 186 [.ip (kb.af a0) 0 false,iv a1] (aaz a0 a1):=by
 refine kA J2 ?_
 refine bC ?_
 refine ur ?_
 refine ae ?_
 refine oC (t101 a0 a1) ?_
 rintro _ ⟨r2,r3,hc1,rfl⟩
 have hA:=hc1.1; have hA0:=hc1.2
 cases r3
 refine bO ?_
 refine aq ?_
 exact xG ⟨(mu:Row kq),gb,rfl⟩
 refine bO ?_
 refine ap ?_
 refine wy [.ip (kb.af a0) 0 false,iv a1,.la 5 0] [(5,(j7.af r2))] ?_
 refine ae ?_
 refine oC (t188 a0 r2) ?_
 rintro _ ⟨r5,r6,hc4,rfl⟩
 have hN:=hc4
 cases r6
 refine bO ?_
 refine aq ?_
 exact xG ⟨(mu:Row kq),gb,rfl⟩
 refine bO ?_
 refine ap ?_
 refine wy [.ip (kb.af a0) 0 false,iv a1,.la 5 0,.la 7 0] [(5,(j7.af r2)),(7,(j7.af r5))] ?_
 refine bC ?_
 refine aI ?_
 refine kM rfl (sa lJ rfl rfl rfl rfl rfl) ?_
 rintro _ H8 ⟨b7,rfl,hS9⟩
 refine ab ?_
 refine qq ?_
 refine ql ?_
 refine aw ?_
 have hS10:=Sep.m3 hS9 9
 have hS11:=Sep.m3 hS10 1
 have hS12:=Sep.m3 hS11 3
 have hS13:=Sep.m3 hS12 1
 have hS14:=Sep.vn (i:=0) hS13 rfl
 have hS15:=Sep.vn (i:=1) hS14 rfl
 have hS16:=Sep.vn (i:=2) hS15 rfl
 refine nw (λm30 e h=>∃ v17:AV,∃ l18:List Int,∃ v19:AV,∃ l20:List kL,∃ v21:AV,∃ l22:List (Row lV),∃ v23:AV,∃ l24:List kq,∃ n25:Int,∃ n26:Int,∃ n27:Int,∃ H28:bV,m30=2*(wt l22+vM l20.length)+l20.length/\(l20.length<=12/\l18.length=l20.length/\l24.length+wt l22+vM l20.length<=8192)/\(l22.length=l20.length)/\((∀ r∈(l24:List kq),0<r.steps.l.length/\r.steps.l.length<=12/\r.nq.l.length<=12/\pT r))/\(∀ s∈(l20:List kL),pN s.elem)/\(pN n25)/\Sep H28 (oT kX 1 v17 l18::oT kL.af 3 v19 l20::oT (nW lV.af) 1 v21 l22::nu kq.af 9 v23 l24::lE b7 [iv n27,v19,v17,v21]::[])/\At [0,1,7,8,9] [.ip (kb.af a0) 0 false,iv a1,.la 7 0,v23,(ki b7)] H28 [(7,[iv n25,iv n26])] e h) ?_ _ _ _ ⟨iN,(([]:List Int)),iN,(([]:List kL)),iN,(([]:List (Row lV))),iN,(([]:List kq)),r5.elem,r5.en,r2.elem,H8,rfl,(by (simp [Uf,Sn])),fQ,fQ,fQ,(by exact hJg _ (vI dT)),hS16,atR⟩
 rintro m30 e h ⟨v17,l18,v19,l20,v21,l22,v23,l24,n25,n26,n27,H28,hmm30,hL,hL3,hRo,hSg,hxg,hS29,hA⟩
 refine rR hA ?_
 clear hA
 have hPp:l20.length<=12->1<=vM l20.length:=A5
 refine qb ?_
 refine ur ?_
 refine A7 (λE Z=>∃ v31:AV,∃ l32:List Int,∃ v33:AV,∃ l34:List kL,∃ v35:AV,∃ l36:List (Row lV),∃ v37:AV,∃ l38:List kq,∃ H39:bV,(l34.length<=12/\l32.length=l34.length/\l38.length+wt l36<=8192/\2*wt l36+l34.length<m30)/\(l36.length=l34.length)/\((∀ r∈(l38:List kq),0<r.steps.l.length/\r.steps.l.length<=12/\r.nq.l.length<=12/\pT r))/\(∀ s∈(l34:List kL),pN s.elem)/\Sep H39 (oT kX 1 v31 l32::oT kL.af 3 v33 l34::oT (nW lV.af) 1 v35 l36::nu kq.af 9 v37 l38::lE b7 [iv n27,v33,v31,v35]::[])/\E=[(0,.ip (kb.af a0) 0 false),(1,iv a1),(7,.la 7 0),(8,v37),(9,(ki b7))]/\Z = { H39 with cT:=[(7,[iv n25,iv n26])] }) ?_ ?_
 rintro _ _ ⟨v31,l32,v33,l34,v35,l36,v37,l38,H39,hL,hL3,hRo,hSg,hS40,rfl,rfl⟩
 have hPp:l34.length<=12->1<=vM l34.length:=A5
 refine qq ?_
 refine ql ?_
 refine aw ?_
 refine nw (λm51 e h=>∃ v41:AV,∃ l42:List Int,∃ v43:AV,∃ l44:List kL,∃ v45:AV,∃ l46:List (Row lV),∃ v47:AV,∃ l48:List kq,∃ H49:bV,m51=2*wt l46+l44.length/\(l44.length<=12/\l42.length=l44.length/\l48.length+wt l46<=8192/\2*wt l46+l44.length<m30)/\(l46.length=l44.length)/\((∀ r∈(l48:List kq),0<r.steps.l.length/\r.steps.l.length<=12/\r.nq.l.length<=12/\pT r))/\(∀ s∈(l44:List kL),pN s.elem)/\Sep H49 (oT kX 1 v41 l42::oT kL.af 3 v43 l44::oT (nW lV.af) 1 v45 l46::nu kq.af 9 v47 l48::lE b7 [iv n27,v43,v41,v45]::[])/\At [0,1,7,8,9] [.ip (kb.af a0) 0 false,iv a1,.la 7 0,v47,(ki b7)] H49 [(7,[iv n25,iv n26])] e h) ?_ _ _ _ ⟨v31,l32,v33,l34,v35,l36,v37,l38,H39,rfl,d4,d4,(by exact hRo),g8,hS40,(kF hS40 [(8,3)])⟩
 rintro m51 e h ⟨v41,l42,v43,l44,v45,l46,v47,l48,H49,hmm51,hL,hL3,hRo,hSg,hS50,hA⟩
 refine rR hA ?_
 clear hA
 have hPp:l44.length<=12->1<=vM l44.length:=A5
 refine am ?_
 refine cF ?_
 refine mc (λh52=>?_) (λh52=>?_)
 refine cb ?_
 refine wz [.ip (kb.af a0) 0 false,iv a1,.la 7 0,v47,(ki b7)] H49 [(7,[iv n25,iv n26])] ?_ (kF hS50 [(8,3)])
 refine qb ?_
 refine aj ?_
 refine cF ?_
 refine pW ?_
 refine ak ?_
 refine dB ?_
 have hk53:((((l44.length:Int) - 1).toNat:Nat):Int)=(l44.length:Int) - 1:=Int.toNat_of_nonneg dX
 have hx54:((l44.length:Int) - 1).toNat<l46.length:=by first | omega | (simp<;>omega) | (simp_all; omega)
 obtain ⟨x55,hqx55⟩:∃ x,l46[((l44.length:Int) - 1).toNat]=x:=⟨_,rfl⟩
 refine nM rfl (mS (H:=H49) (i:=2) (m:=((l44.length:Int) - 1).toNat) (cs:=(nW lV.af) x55) hS50 rfl rfl rfl rfl rfl rfl (congrArg (AV.int .i64) hk53.symm) (mq hx54 hqx55)) ?_
 rintro a56 ⟨ha57,hea58⟩
 refine iS rfl (λ_=>pr (H:=H49) (i:=2) (m:=((l44.length:Int) - 1).toNat) (o:=0) (r:=vm x55) (cs:=(nW lV.af) x55) hS50 rfl (mq hx54 hqx55) hea58 rfl rfl ha57) ?_
 have hL59:=x55.lk
 refine lx x55 ?_
 refine kZ (λh60=>?_) (λh60=>?_)
 refine ay ?_
 refine aj ?_
 have hS61:=Sep.pick hS50 [4,1,0,2,3] 5 dW dW
 refine lB (H:=H49) (args:=[(ki b7)]) (p:=[]) (r:=[]) rfl rfl rfl rfl rfl rfl rfl (acG b7 n27 v43 l44 v41 l42 v45 l46 (nu kq.af 9 v47 l48::[]) hS61 dS dS dS dS) ?_
 rintro _ H62 ⟨vso65,stepso66,vpo67,poso68,vlo69,lefto70,hc64,hS63,rfl⟩
 obtain ⟨hp1,hp2,hpS,hp3⟩:=hc64
 have hSg:∀ s∈stepso66,pN s.elem:=λs hs=>hSg s (hpS s hs)
 have hWt:wt lefto70=wt l46:=by rw [hp3]; exact Pm dT d4 dT d4
 have hp5:lefto70.length+1=l46.length:=by rw [hp3,List.length_take]; omega
 refine oN ?_
 refine qe ?_
 have hS71:=Sep.pick hS63 [2,1,3,4,0] 5 dW dW
 refine ⟨_,?_,vpo67,poso68,vso65,stepso66,vlo69,lefto70,v47,l48,H62,rfl,d4,d4,dY,g8,hS71,(kF hS71 [(8,3)])⟩
 omega
 refine au ?_
 refine wz [.ip (kb.af a0) 0 false,iv a1,.la 7 0,v47,(ki b7),iv ((l44.length:Int) - 1)] H49 [(7,[iv n25,iv n26])] ?_ (kF hS50 [(8,3)])
 refine aj ?_
 refine dB ?_
 have hk72:((((l44.length:Int) - 1).toNat:Nat):Int)=(l44.length:Int) - 1:=Int.toNat_of_nonneg dX
 have hx73:((l44.length:Int) - 1).toNat<l46.length:=by first | omega | (simp<;>omega) | (simp_all; omega)
 refine nM rfl (mS (H:=H49) (i:=2) (m:=((l44.length:Int) - 1).toNat) (cs:=(nW lV.af) x55) hS50 rfl rfl rfl rfl rfl rfl (congrArg (AV.int .i64) hk72.symm) (mq hx73 hqx55)) ?_
 rintro a74 ⟨ha75,hea76⟩
 refine iS rfl (λ_=>pr (H:=H49) (i:=2) (m:=((l44.length:Int) - 1).toNat) (o:=0) (r:=vm x55) (cs:=(nW lV.af) x55) hS50 rfl (mq hx73 hqx55) hea76 rfl rfl ha75) ?_
 have hx77:0<x55.l.length:=by omega
 refine mB 0 x55 hx77 ?_
 generalize hqx78:x55.l[0]=x78
 refine bM ?_
 refine cM ?_
 refine uN 4 hS50 ?_
 refine sV 4 hS50 ?_
 refine sZ 4 hS50 v45 ?_
 refine aK ?_
 refine uN 4 hS50 ?_
 refine sV 4 hS50 ?_
 refine sZ 4 hS50 v45 ?_
 refine rV ?_
 have hk79:((((l44.length:Int) - 1).toNat:Nat):Int)=(l44.length:Int) - 1:=Int.toNat_of_nonneg dX
 have hx80:((l44.length:Int) - 1).toNat<l46.length:=by first | omega | (simp<;>omega) | (simp_all; omega)
 refine pv rfl rfl (mS (H:=H49) (i:=2) (m:=((l44.length:Int) - 1).toNat) (cs:=(nW lV.af) x55) hS50 rfl rfl rfl rfl rfl rfl (congrArg (AV.int .i64) hk79.symm) (mq hx80 hqx55)) ?_
 rintro a81 ⟨ha82,hea83⟩
 refine kG rfl rfl (λ_=>pr (H:=H49) (i:=2) (m:=((l44.length:Int) - 1).toNat) (o:=0) (r:=vm x55) (cs:=(nW lV.af) x55) hS50 rfl (mq hx80 hqx55) hea83 rfl rfl ha82) ?_
 have hx84:1<=x55.l.length:=by omega
 refine kG rfl rfl (λ_=>MS (k:=1) (r:=x55) (enc:=lV.af) (n:=2) rfl rfl rfl rfl rfl rfl hx84 (λ_=>rfl)) ?_
 have hk85:((((l44.length:Int) - 1).toNat:Nat):Int)=(l44.length:Int) - 1:=Int.toNat_of_nonneg dX
 have hx86:((l44.length:Int) - 1).toNat<l46.length:=by first | omega | (simp<;>omega) | (simp_all; omega)
 refine pv rfl rfl (mS (H:=H49) (i:=2) (m:=((l44.length:Int) - 1).toNat) (cs:=(nW lV.af) x55) hS50 rfl rfl rfl rfl rfl rfl (congrArg (AV.int .i64) hk85.symm) (mq hx86 hqx55)) ?_
 rintro a87 ⟨ha88,hea89⟩
 have hWs:wt (l46.set _ (Row.drop x55 1))+vM l46.length=wt l46:=SA hx86 d4 hqx55 d4 (by simp [Row.drop]; omega); rw [hL3] at hWs
 have hz92:(l46.set (((l44.length:Int) - 1).toNat) (Row.drop x55 1)).length=l46.length:=List.length_set
 refine mP rfl rfl (oY (H:=H49) (i:=2) (m:=((l44.length:Int) - 1).toNat) (o:=0) x55 (Row.drop x55 1) hS50 rfl hx86 hqx55 hea89 rfl ha88 rfl rfl rfl rfl) ?_
 rintro _ H90 ⟨rfl,hS91⟩
 simp only [List.set] at hS91
 refine rN ?_
 refine cM ?_
 refine uN 4 hS91 ?_
 refine sV 4 hS91 ?_
 refine sZ 4 hS91 v43 ?_
 refine aK ?_
 refine uN 4 hS91 ?_
 refine sV 4 hS91 ?_
 refine sZ 4 hS91 v41 ?_
 refine bH ?_
 have hk93:((((l44.length:Int) - 1).toNat:Nat):Int)=(l44.length:Int) - 1:=Int.toNat_of_nonneg dX
 have hx94:((l44.length:Int) - 1).toNat<l44.length:=by first | omega | (simp<;>omega) | (simp_all; omega)
 obtain ⟨x95,hqx95⟩:∃ x,l44[((l44.length:Int) - 1).toNat]=x:=⟨_,rfl⟩
 refine pv rfl rfl (mS (H:=H90) (i:=1) (m:=((l44.length:Int) - 1).toNat) (cs:=kL.af x95) hS91 rfl rfl rfl rfl rfl rfl (congrArg (AV.int .i64) hk93.symm) (mq hx94 hqx95)) ?_
 rintro a96 ⟨ha97,hea98⟩
 refine kG rfl rfl (λ_=>EA.Hq hea98 rfl rfl rfl ha97) ?_
 have hSg:=SL (x2:=(⟨x95.elem,x95.p9,x78.out⟩:kL)) hSg hqx95 rfl
 have hz101:(l44.set (((l44.length:Int) - 1).toNat) (⟨x95.elem,x95.p9,x78.out⟩:kL)).length=l44.length:=List.length_set
 refine vd rfl rfl (oY (H:=H90) (i:=1) (m:=((l44.length:Int) - 1).toNat) (o:=2) x95 (⟨x95.elem,x95.p9,x78.out⟩:kL) hS91 rfl hx94 hqx95 hea98 rfl rfl rfl rfl rfl rfl) ?_
 rintro _ H99 ⟨rfl,hS100⟩
 refine ⟨λcall=>(A9 (pI rfl rfl rfl rfl rfl fM)),?_⟩
 have hk102:((((l44.length:Int) - 1).toNat:Nat):Int)=(l44.length:Int) - 1:=Int.toNat_of_nonneg dX
 have hx103:((l44.length:Int) - 1).toNat<l42.length:=by first | omega | (simp<;>omega) | (simp_all; omega)
 obtain ⟨x104,hqx104⟩:∃ x,l42[((l44.length:Int) - 1).toNat]=x:=⟨_,rfl⟩
 refine pv rfl rfl (mS (H:=H99) (i:=0) (m:=((l44.length:Int) - 1).toNat) (cs:=kX x104) hS100 rfl rfl rfl rfl rfl rfl (congrArg (AV.int .i64) hk102.symm) (mq hx103 hqx104)) ?_
 rintro a105 ⟨ha106,hea107⟩
 have hz110:(l42.set (((l44.length:Int) - 1).toNat) x78.pos).length=l42.length:=List.length_set
 refine mP rfl rfl (oY (H:=H99) (i:=0) (m:=((l44.length:Int) - 1).toNat) (o:=0) x104 x78.pos hS100 rfl hx103 hqx104 hea107 rfl ha106 rfl rfl rfl rfl) ?_
 rintro _ H108 ⟨rfl,hS109⟩
 simp only [List.set] at hS109
 refine rN ?_
 refine cM ?_
 refine uN 4 hS109 ?_
 refine sV 4 hS109 ?_
 refine sZ 4 hS109 v43 ?_
 refine rV ?_
 have hk111:((((l44.length:Int) - 1).toNat:Nat):Int)=(l44.length:Int) - 1:=Int.toNat_of_nonneg dX
 have hx112:((l44.length:Int) - 1).toNat<((l44.set (((l44.length:Int) - 1).toNat) (⟨x95.elem,x95.p9,x78.out⟩:kL))).length:=by first | omega | (simp<;>omega) | (simp_all; omega)
 obtain ⟨x113,hqx113⟩:∃ x,((l44.set (((l44.length:Int) - 1).toNat) (⟨x95.elem,x95.p9,x78.out⟩:kL)))[((l44.length:Int) - 1).toNat]=x:=⟨_,rfl⟩
 refine pv rfl rfl (mS (H:=H108) (i:=1) (m:=((l44.length:Int) - 1).toNat) (cs:=kL.af x113) hS109 rfl rfl rfl rfl rfl rfl (congrArg (AV.int .i64) hk111.symm) (mq hx112 hqx113)) ?_
 rintro a114 ⟨ha115,hea116⟩
 refine kG rfl rfl (λ_=>EA.Hq hea116 rfl rfl rfl ha115) ?_
 refine kG rfl rfl (λ_=>pr (H:=H108) (i:=1) (m:=((l44.length:Int) - 1).toNat) (o:=0) (r:=iv x113.elem) (cs:=kL.af x113) hS109 rfl (mq hx112 hqx113) hea116 rfl rfl rfl) ?_
 refine cW ?_
 refine aP ?_
 refine aR ?_
 refine oC (t181 a0 (⟨x113.elem,x78.out⟩:j7)) ?_
 rintro _ ⟨r118,hc117,rfl⟩
 have hR:=hc117
 refine aN ?_
 refine mW (λh119=>?_) (λh119=>?_)
 refine ay ?_
 refine bJ ?_
 refine nd hS109 1 λr120 hl121 hln124 hz123=>?_
 refine nd hS109 0 λr125 hl126 hln129 hz128=>?_
 refine nd hS109 2 λr130 hl131 hln134 hz133=>?_
 have hz135:∀ m,freeze true { H108 with cT:=[] } (m+4) (ki b7)=some (.ip [iv n27,ka.av kL.af r120,lG r125,ka.av (nW lV.af) r130] 0 true):=λm=>oA (i:=4) hS109 rfl [] _ (by simp only [FZ,hz123,hz128,hz133]; try rfl)
 refine ns (args:=[(ki b7),iv a1,iv r118,iv 1]) (p:=[]) (r:=[]) (args':=[.ip [iv n27,ka.av kL.af r120,lG r125,ka.av (nW lV.af) r130] 0 true,iv a1,iv r118,iv 1]) (R:=HQ (⟨n27,r120,r125,r130⟩:pQ) a1 r118 1) rfl rfl rfl rfl rfl rfl rfl fh (lj (by show kP (freeze true { H108 with cT:=[] } 8) [(ki b7),iv a1,iv r118,iv 1] = _; simp only [FZ,hz123,hz128,hz133,hz135]) (j8 rfl (j8 rfl (j8 rfl (j8 rfl kK))))) (lj e9 (j8 rfl (j8 rfl (j8 rfl (j8 rfl kK))))) (λh=>t225 (⟨n27,r120,r125,r130⟩:pQ) a1 r118 1 dS dS h) ?_
 rintro _ ⟨r137,hc136,rfl⟩
 have hC158:=congrArg List.length hc136.1; have hD158:=hc136.2.1; dsimp only at hC158 hD158; have hG158:=A6 hc136.1 dT hSg hc136.2.2
 refine iS rfl (λ_=>sJ (xs:=[(kq.af r137)]) rfl rfl rfl rfl (yU (j8 rfl (j8 rfl (j8 rfl (j8 (mH _) (j8 (mH _) (j8 (mH _) (j8 (mH _) (j8 (mH _) (j8 rfl kK))))))))) rfl)) ?_
 have hz141:(l48++[r137]).length=l48.length+1:=List.length_append
 refine kM rfl (lO (H:=H108) (i:=3) (l:=l48) (enc:=kq.af) [r137] hS109 rfl rfl rfl rfl rfl rfl rfl rfl rfl (λ_=>rfl) (.inl rfl) dZ (λ_=>rfl)) ?_
 rintro v138 H139 hS140
 simp only [List.set] at hS140
 refine ab ?_
 refine qe ?_
 refine ⟨_,?_,v41,((l42.set (((l44.length:Int) - 1).toNat) x78.pos)),v43,((l44.set (((l44.length:Int) - 1).toNat) (⟨x95.elem,x95.p9,x78.out⟩:kL))),v45,((l46.set (((l44.length:Int) - 1).toNat) (Row.drop x55 1))),v138,((l48++[r137])),H139,rfl,d4,d4,dY,g8,hS140,(kF hS140 [(8,3)])⟩
 omega
 refine au ?_
 refine wz [.ip (kb.af a0) 0 false,iv a1,.la 7 0,v47,(ki b7),.la 12 0] H108 [(7,[iv n25,iv n26]),(12,[iv x113.elem,iv x78.out])] ?_ (kF hS109 [(8,3)])
 refine ae ?_
 refine oC (t188 a0 (⟨x113.elem,x78.out⟩:j7)) ?_
 rintro _ ⟨r143,r144,hc142,rfl⟩
 have hN:=hc142
 cases r144
 refine bO ?_
 refine dH ?_
 refine nd hS109 1 λr145 hl146 hln149 hz148=>?_
 refine nd hS109 0 λr150 hl151 hln154 hz153=>?_
 refine nd hS109 2 λr155 hl156 hln159 hz158=>?_
 have hz160:∀ m,freeze true { H108 with cT:=[] } (m+4) (ki b7)=some (.ip [iv n27,ka.av kL.af r145,lG r150,ka.av (nW lV.af) r155] 0 true):=λm=>oA (i:=4) hS109 rfl [] _ (by simp only [FZ,hz148,hz153,hz158]; try rfl)
 refine ns (args:=[(ki b7),iv a1,iv (-1),iv 3]) (p:=[]) (r:=[]) (args':=[.ip [iv n27,ka.av kL.af r145,lG r150,ka.av (nW lV.af) r155] 0 true,iv a1,iv (-1),iv 3]) (R:=HQ (⟨n27,r145,r150,r155⟩:pQ) a1 (-1) 3) rfl rfl rfl rfl rfl rfl rfl fh (lj (by show kP (freeze true { H108 with cT:=[] } 8) [(ki b7),iv a1,iv (-1),iv 3] = _; simp only [FZ,hz148,hz153,hz158,hz160]) (j8 rfl (j8 rfl (j8 rfl (j8 rfl kK))))) (lj e9 (j8 rfl (j8 rfl (j8 rfl (j8 rfl kK))))) (λh=>t225 (⟨n27,r145,r150,r155⟩:pQ) a1 (-1) 3 dS dS h) ?_
 rintro _ ⟨r162,hc161,rfl⟩
 have hC158:=congrArg List.length hc161.1; have hD158:=hc161.2.1; dsimp only at hC158 hD158; have hG158:=A6 hc161.1 dT hSg hc161.2.2
 refine iS rfl (λ_=>sJ (xs:=[(kq.af r162)]) rfl rfl rfl rfl (yU (j8 rfl (j8 rfl (j8 rfl (j8 (mH _) (j8 (mH _) (j8 (mH _) (j8 (mH _) (j8 (mH _) (j8 rfl kK))))))))) rfl)) ?_
 have hz166:(l48++[r162]).length=l48.length+1:=List.length_append
 refine kM rfl (lO (H:=H108) (i:=3) (l:=l48) (enc:=kq.af) [r162] hS109 rfl rfl rfl rfl rfl rfl rfl rfl rfl (λ_=>rfl) (.inl rfl) dZ (λ_=>rfl)) ?_
 rintro v163 H164 hS165
 simp only [List.set] at hS165
 refine ab ?_
 refine qe ?_
 refine ⟨_,?_,v41,((l42.set (((l44.length:Int) - 1).toNat) x78.pos)),v43,((l44.set (((l44.length:Int) - 1).toNat) (⟨x95.elem,x95.p9,x78.out⟩:kL))),v45,((l46.set (((l44.length:Int) - 1).toNat) (Row.drop x55 1))),v163,((l48++[r162])),H164,rfl,d4,d4,dY,g8,hS165,(kF hS165 [(8,3)])⟩
 omega
 refine bO ?_
 refine ap ?_
 refine wz [.ip (kb.af a0) 0 false,iv a1,.la 7 0,v47,(ki b7),.la 14 0] H108 [(7,[iv n25,iv n26]),(14,(j7.af r143))] ?_ (kF hS109 [(8,3)])
 refine aV ?_
 refine qe ?_
 refine ⟨_,?_,v41,((l42.set (((l44.length:Int) - 1).toNat) x78.pos)),v43,((l44.set (((l44.length:Int) - 1).toNat) (⟨x95.elem,x95.p9,x78.out⟩:kL))),v45,((l46.set (((l44.length:Int) - 1).toNat) (Row.drop x55 1))),v47,l48,r143.elem,r143.en,n27,H108,rfl,eZ,d4,dY,g8,(by first | exact hxg | exact hJg _ (vI dT)),hS109,(kF hS109 [(8,3)])⟩
 (first | omega | (simp only [List.length_set]; omega))
 refine aL ?_
 refine wz [v47] H49 [] ?_ (kF hS50 [(8,3)])
 refine qe ?_
 refine wz [v47] H49 [] ?_ (kF hS50 [(8,3)])
 refine bT ?_
 obtain ⟨r167,hl168,hf169⟩:=mz (H:=H49) (i:=3) (l:=l48) (enc:=kq.af) hS50 rfl dV
 have hlq:=hl168; have hln171:=congrArg List.length hl168
 have hz170:∀ m,freeze false { H49 with cT:=[] } (m+2) v47=some (kx r167):=λm=>hf169 _ _ (λ_=>by simp only [kq.af,kP,oD,oZ,pB,oz,pE])
 exact ⟨v47,(lQ (vs:=[v47]) rfl (j8 (Sep.arg (i:=3) hS50 rfl) kK)),kx r167,(show freeze false { H49 with cT:=[] } 8 v47=some (kx r167) by simp only [FZ,hz170]),r167,gb,rfl⟩
 refine aI ?_
 refine nd hS29 1 λr172 hl173 hln176 hz175=>?_
 refine nd hS29 0 λr177 hl178 hln181 hz180=>?_
 refine nd hS29 2 λr182 hl183 hln186 hz185=>?_
 have hz187:∀ m,freeze true { H28 with cT:=[] } (m+4) (ki b7)=some (.ip [iv n27,ka.av kL.af r172,lG r177,ka.av (nW lV.af) r182] 0 true):=λm=>oA (i:=4) hS29 rfl [] _ (by simp only [FZ,hz175,hz180,hz185]; try rfl)
 refine ns (args:=[(ki b7),iv n25]) (p:=[]) (r:=[]) (args':=[.ip [iv n27,ka.av kL.af r172,lG r177,ka.av (nW lV.af) r182] 0 true,iv n25]) (R:=Tb (⟨n27,r172,r177,r182⟩:pQ) n25) rfl rfl rfl rfl rfl rfl rfl fh (lj (by show kP (freeze true { H28 with cT:=[] } 8) [(ki b7),iv n25] = _; simp only [FZ,hz175,hz180,hz185,hz187]) (j8 rfl (j8 rfl kK))) (lj e9 (j8 rfl (j8 rfl kK))) (λh=>t223 (⟨n27,r172,r177,r182⟩:pQ) n25  h) ?_
 rintro _ ⟨r189,hc188,rfl⟩
 cases r189
 clear hc188
 refine au ?_
 exact ⟨v17,l18,v19,l20,v21,l22,v23,l24,H28,d4,d4,dY,g8,hS29,(PM hS29 [(8,3)]),rfl⟩
 have hc188t:=hc188 rfl
 dsimp only at hc188t
 refine ay ?_
 refine aI ?_
 have hS190:=Sep.pick hS29 [4,1,0,2,3] 5 dW dW
 refine lB (H:=H28) (args:=[(ki b7),.ip (kb.af a0) 0 false,.agg [iv n25,iv n26]]) (p:=[]) (r:=[]) rfl rfl rfl rfl rfl rfl rfl (abu b7 n27 v19 l20 v17 l18 v21 l22 a0 ((⟨n25,n26⟩:j7)) (nu kq.af 9 v23 l24::[]) hS190 dS dS dS) ?_
 rintro _ H191 ⟨vso194,stepso195,vpo196,poso197,vlo198,lefto199,hc193,hS192,rfl⟩
 obtain ⟨hp1,hp2,hpS,ww,hp3,hp4⟩:=hc193
 have hSg:=hpS hxg hSg
 have hWp:=Rs (l:=l22) (w:=ww) d4 hp3
 rw [<- hp4,hL3] at hWp
 have hp5:lefto199.length=l22.length+1:=by rw [hp4]; simp
 refine oN ?_
 refine aI ?_
 refine oC (t102 a0 n25) ?_
 rintro _ ⟨r201,hc200,rfl⟩
 have hK:=hc200
 refine kZ (λh202=>?_) (λh202=>?_)
 refine ay ?_
 refine bu ?_
 refine nd hS192 1 λr203 hl204 hln207 hz206=>?_
 refine nd hS192 2 λr208 hl209 hln212 hz211=>?_
 refine nd hS192 3 λr213 hl214 hln217 hz216=>?_
 have hz218:∀ m,freeze true { H191 with cT:=[] } (m+4) (ki b7)=some (.ip [iv n27,ka.av kL.af r203,lG r208,ka.av (nW lV.af) r213] 0 true):=λm=>oA (i:=0) hS192 rfl [] _ (by simp only [FZ,hz206,hz211,hz216]; try rfl)
 refine ns (args:=[(ki b7),iv a1,iv (-1),iv 2]) (p:=[]) (r:=[]) (args':=[.ip [iv n27,ka.av kL.af r203,lG r208,ka.av (nW lV.af) r213] 0 true,iv a1,iv (-1),iv 2]) (R:=HQ (⟨n27,r203,r208,r213⟩:pQ) a1 (-1) 2) rfl rfl rfl rfl rfl rfl rfl fh (lj (by show kP (freeze true { H191 with cT:=[] } 8) [(ki b7),iv a1,iv (-1),iv 2] = _; simp only [FZ,hz206,hz211,hz216,hz218]) (j8 rfl (j8 rfl (j8 rfl (j8 rfl kK))))) (lj e9 (j8 rfl (j8 rfl (j8 rfl (j8 rfl kK))))) (λh=>t225 (⟨n27,r203,r208,r213⟩:pQ) a1 (-1) 2 dS dS h) ?_
 rintro _ ⟨r220,hc219,rfl⟩
 have hC158:=congrArg List.length hc219.1; have hD158:=hc219.2.1; dsimp only at hC158 hD158; have hG158:=A6 hc219.1 dT hSg hc219.2.2
 refine iS rfl (λ_=>sJ (xs:=[(kq.af r220)]) rfl rfl rfl rfl (yU (j8 rfl (j8 rfl (j8 rfl (j8 (mH _) (j8 (mH _) (j8 (mH _) (j8 (mH _) (j8 (mH _) (j8 rfl kK))))))))) rfl)) ?_
 have hz224:(l24++[r220]).length=l24.length+1:=List.length_append
 refine kM rfl (lO (H:=H191) (i:=4) (l:=l24) (enc:=kq.af) [r220] hS192 rfl rfl rfl rfl rfl rfl rfl rfl rfl (λ_=>rfl) (.inl rfl) dZ (λ_=>rfl)) ?_
 rintro v221 H222 hS223
 simp only [List.set] at hS223
 refine ab ?_
 have hS225:=Sep.pick hS223 [2,1,3,4,0] 5 dW dW
 exact ⟨vpo196,poso197,vso194,stepso195,vlo198,lefto199,v221,((l24++[r220])),H222,d4,d4,dY,g8,hS225,(PM hS225 [(8,3)]),rfl⟩
 refine au ?_
 have hS226:=Sep.pick hS192 [2,1,3,4,0] 5 dW dW
 exact ⟨vpo196,poso197,vso194,stepso195,vlo198,lefto199,v23,l24,H191,d4,d4,dY,g8,hS226,(PM hS226 [(8,3)]),rfl⟩
def s52 {H:bV} (nn:kb) (F:List lF) (hS:Sep H F) (q1:nn.p.signals.l.length<=60) (hJg:∀ y∈univ nn,pN y.elem):∃ v H',kC cfg FT kJ true 118 [.ip (kb.af nn) 0 false] { H with cT:=[] } v H'/\(∃ ov:AV,∃ ol:List kq,∃ eo:Int,((∀ r∈(ol:List kq),0<r.steps.l.length/\r.steps.l.length<=12/\r.nq.l.length<=12/\pT r)/\ol.length<=64)/\Sep H' (nu kq.af 9 ov ol::F)/\v=.kO [ov,iv eo]):=by
 refine lK J3 ?_
 refine aV ?_
 refine aY ?_
 refine oC (t63 nn) ?_
 rintro _ ⟨r2,hc1,rfl⟩
 have hC91:=hc1
 refine aC ?_
 have hS3:=Sep.m3 hS 9
 refine ke ((r2).toNat) (λk4 e h=>∃ v5:AV,∃ l6:List kq,∃ H7:bV,(l6.length<=8192*k4)/\((∀ r∈(l6:List kq),0<r.steps.l.length/\r.steps.l.length<=12/\r.nq.l.length<=12/\pT r))/\Sep H7 (nu kq.af 9 v5 l6::F)/\At [0,4,7,8] [.ip (kb.af nn) 0 false,v5,iv r2,ck k4] H7 [] e h) ?_ (k0:=0) d4 ⟨iN,(([]:List kq)),H,fQ,fQ,hS3,atR⟩
 rintro k4 e h hkk4 ⟨v5,l6,H7,hI,hR,hS8,hA⟩
 refine aE ?_
 refine kE (λh9=>?_) (λh9=>?_)
 refine ai ?_
 refine wz [.ip (kb.af nn) 0 false,v5,iv r2,ck k4] H7 [] ?_ (kF hS8 [(4,0)])
 refine aw ?_
 refine aV ?_
 refine bu ?_
 refine oC (t186 nn ((k4:Int)) dS) ?_
 rintro _ ⟨r11,hc10,rfl⟩
 have hL12:=r11.lk
 refine kM rfl (lO (i:=0) r11.l hS8 rfl rfl rfl rfl rfl rfl rfl rfl rfl (λ_=>rfl) (.inl rfl) dZ (λ_=>rfl)) ?_
 rintro v13 H14 hS15
 refine ab ?_
 refine wz [.ip (kb.af nn) 0 false,v13,iv r2,ck k4] H14 [] ?_ (kF hS15 [(4,0)])
 refine qg ?_
 refine kI ?_
 refine ab ?_
 exact ⟨by omega,v13,((l6++r11.l)),H14,gN,(by exact RY hR (by simp_all)),hS15,(kF hS15 [(4,0)])⟩
 refine ah ?_
 refine wz [v5] H7 [] ?_ (kF hS8 [(4,0)])
 refine am ?_
 refine iS rfl (λ_=>nO (i:=0) hS8 rfl rfl rfl rfl rfl rfl rfl) ?_
 refine mc (λh16=>?_) (λh16=>?_)
 refine aH ?_
 have hS17:=Sep.m3 hS8 9
 have hS18:=Sep.pick hS17 [0] 2 dW dW
 exact ⟨.kO [iN,iv 3],rfl,iN,([]:List kq),3,ia,Sep.cT hS18 _,rfl⟩
 refine au ?_
 refine wz [v5] H7 [] ?_ (kF hS8 [(4,0)])
 refine aF ?_
 have hS19:=Sep.pick hS8 [0] 1 dW dW
 exact ⟨.kO [v5,iv 0],(lQ (vs:=[v5,iv 0]) rfl (j8 (Sep.arg (i:=0) hS8 rfl) (j8 rfl kK))),v5,l6,0,ia,Sep.cT hS19 _,rfl⟩
def P79 (_a0:ka lI) (v:AV):Prop:=∃ r0:Row lI,(r0.l = _a0.l)/\v=lX r0
def t79 (a0:ka lI) (q1:a0.l.length<=1000):Ct 79 [ka.av lI.af a0] (P79 a0):=by
 refine kA M0 ?_
 refine aY ?_
 refine mh (b:=a0.isNil) rfl (λ_=>oX rfl rfl rfl rfl) (λh1=>?_) (λh1=>?_)
 refine aZ ?_
 exact xG ⟨(mu:Row lI),eV,rfl⟩
 refine dG ?_
 have hS2:=Sep.qj lJ 2
 refine kM rfl (lO (i:=0) (l:=([]:List lI)) (enc:=lI.af) a0.l hS2 rfl rfl rfl rfl rfl rfl rfl rfl rfl (λ_=>rfl) (.inl rfl) dZ (λ_=>rfl)) ?_
 rintro v3 H4 hS5
 refine ag ?_
 obtain ⟨r6,hl7,hf8⟩:=mz (H:=H4) (i:=0) (l:=(([]:List lI)++a0.l)) (enc:=lI.af) hS5 rfl dV
 have hlq:=hl7; have hln10:=congrArg List.length hl7
 have hz9:∀ m,freeze false { H4 with cT:=[] } (m+2) v3=some (lX r6):=λm=>hf8 _ _ (λ_=>rfl)
 exact ⟨v3,(lQ (vs:=[v3]) rfl (j8 (Sep.arg (i:=0) hS5 rfl) kK)),lX r6,(show freeze false { H4 with cT:=[] } 8 v3=some (lX r6) by simp only [FZ,hz9]),r6,eV,rfl⟩
def acS (_a0:ka Int) (_a1:Int) (v:AV):Prop:=∃ r0:Int,(((0<=r0->_a1∈_a0.l)/\(r0<0->_a1∉_a0.l)))/\v=iv r0
def t184 (a0:ka Int) (a1:Int) :Ct 184 [lG a0,iv a1] (acS a0 a1):=by
 refine kA Kb ?_
 refine aY ?_
 have hL1:=a0.lk
 refine iS rfl (λ_=>nA (r:=a0) (enc:=kX) rfl rfl rfl rfl rfl rfl) ?_
 refine aC ?_
 have hNk2:=a0.lk
 refine ke a0.l.length (λk2 e h=>(∀ (i:Nat) (h:i<a0.l.length),i<k2->¬ a0.l[i]=a1)/\At [0,1,7,8] [lG a0,iv a1,ck a0.l.length,ck k2] bV.empty [] e h) ?_ (k0:=0) d4 ⟨eX,atR⟩
 rintro k2 e h hkk2 ⟨hU,hA⟩
 refine aE ?_
 refine kE (λh3=>?_) (λh3=>?_)
 refine c8 ?_
 refine aI ?_
 have hx4:k2<a0.l.length:=by omega
 refine iS rfl (λ_=>m8 (n:=k2) (r:=a0) (enc:=kX) rfl rfl rfl rfl rfl hx4 rfl) ?_
 generalize hqx5:a0.l[k2]=x5
 refine oV ?_
 refine kZ (λh6=>?_) (λh6=>?_)
 refine aH ?_
 exact xB ⟨((k2:Int)),gU,rfl⟩
 refine bv ?_
 refine kI ?_
 refine ab ?_
 exact ⟨by omega,gM,atR⟩
 refine bE ?_
 exact xB ⟨(-1),gU,rfl⟩
def Ns (_a0:ka Int) (_a1:Int) (v:AV):Prop:=∃ r0:Bool,(((r0=true->_a1∈_a0.l)/\(r0=false->_a1∉_a0.l)))/\v=.bool r0
def t113 (a0:ka Int) (a1:Int) :Ct 113 [lG a0,iv a1] (Ns a0 a1):=by
 refine kA Jq ?_
 refine cO ?_
 refine oC (t184 a0 a1) ?_
 rintro _ ⟨r2,hc1,rfl⟩
 have hIx:=hc1
 refine mW (λh3=>?_) (λh3=>?_)
 refine ag ?_
 exact xB ⟨true,gL,rfl⟩
 refine ag ?_
 exact xB ⟨false,gL,rfl⟩
def aaO (_a0:kb) (_a1:kq) (v:AV):Prop:=∃ r0:Row j7,(r0.l.length<=2 * _a1.steps.l.length)/\v=pG r0
def t187 (a0:kb) (a1:kq) (q1:a1.steps.l.length<=12):Ct 187 [.ip (kb.af a0) 0 false,.agg (kq.af a1)] (aaO a0 a1):=by
 refine kA Js ?_
 refine aV ?_
 refine bC ?_
 refine aR ?_
 have hL1:=a1.steps.lk
 refine lx a1.steps ?_
 refine aC ?_
 have hS2:=Sep.m3 lJ 2
 have hNk3:=a1.steps.lk
 refine ke a1.steps.l.length (λk3 e h=>∃ v4:AV,∃ l5:List j7,∃ H6:bV,(l5.length<=2*k3)/\Sep H6 (nu j7.af 2 v4 l5::[])/\At [0,5,16,17,18] [.ip (kb.af a0) 0 false,v4,kQ a1.steps,ck a1.steps.l.length,ck k3] H6 [] e h) ?_ (k0:=0) d4 ⟨iN,(([]:List j7)),bV.empty,fQ,hS2,atR⟩
 rintro k3 e h hkk3 ⟨v4,l5,H6,hI,hS7,hA⟩
 refine aE ?_
 refine kE (λh8=>?_) (λh8=>?_)
 refine ai ?_
 refine wz [.ip (kb.af a0) 0 false,v4,kQ a1.steps,ck a1.steps.l.length,ck k3] H6 [] ?_ (kF hS7 [(5,0)])
 refine bQ ?_
 have hx9:k3<a1.steps.l.length:=by omega
 refine mB k3 a1.steps hx9 ?_
 generalize hqx10:a1.steps.l[k3]=x10
 refine bM ?_
 refine bC ?_
 refine cq ?_
 refine oC (t102 a0 x10.elem) ?_
 rintro _ ⟨r12,hc11,rfl⟩
 have hK:=hc11
 refine dh ?_
 refine kZ (λh13=>?_) (λh13=>?_)
 refine dH ?_
 refine bM ?_
 refine aJ ?_
 refine iS rfl (λ_=>ml rfl rfl rfl (rW .i64 3 ((if x10.out > x10.p9 then x10.out else x10.p9)))) ?_
 refine bF ?_
 refine wz [.ip (kb.af a0) 0 false,v4,.la 7 0,.sl [[iv (IntKind.i64.wrap (3 - ((if x10.out > x10.p9 then x10.out else x10.p9))))]] (.exact 1),kQ a1.steps,ck a1.steps.l.length,ck k3] H6 [(7,(kL.af x10))] ?_ (kF hS7 [(5,0)])
 refine ae ?_
 refine aC ?_
 refine ke 1 (λk14 e h=>∃ v15:AV,∃ l16:List j7,∃ H17:bV,(l16.length<=l5.length+k14)/\Sep H17 (nu j7.af 2 v15 l16::[])/\At [0,5,7,16,17,18,43,44,45] [.ip (kb.af a0) 0 false,v15,.la 7 0,kQ a1.steps,ck a1.steps.l.length,ck k3,.sl [[iv (IntKind.i64.wrap (3 - ((if x10.out > x10.p9 then x10.out else x10.p9))))]] (.exact 1),iv 1,ck k14] H17 [(7,(kL.af x10))] e h) ?_ (k0:=0) d4 ⟨v4,l5,H6,eR,hS7,(kF hS7 [(5,0)])⟩
 rintro k14 e h hkk14 ⟨v15,l16,H17,hl19,hS18,hA⟩
 refine aE ?_
 refine kE (λh20=>?_) (λh20=>?_)
 refine ai ?_
 refine wz [.ip (kb.af a0) 0 false,v15,.la 7 0,kQ a1.steps,ck a1.steps.l.length,ck k3,.sl [[iv (IntKind.i64.wrap (3 - ((if x10.out > x10.p9 then x10.out else x10.p9))))]] (.exact 1),iv 1,ck k14] H17 [(7,(kL.af x10))] ?_ (kF hS18 [(5,0)])
 refine bQ ?_
 have hx21:k14<(⟨[(IntKind.i64.wrap (3 - ((if x10.out > x10.p9 then x10.out else x10.p9))))],.exact 1,rD,rfl,oq⟩:Row Int).l.length:=by show k14<1; omega
 refine iS rfl (λ_=>xn (n:=k14) (r:=(⟨[(IntKind.i64.wrap (3 - ((if x10.out > x10.p9 then x10.out else x10.p9))))],.exact 1,rD,rfl,oq⟩:Row Int)) (enc:=kX) rfl rfl rfl rfl rfl hx21 rfl) ?_
 generalize (⟨[(IntKind.i64.wrap (3 - ((if x10.out > x10.p9 then x10.out else x10.p9))))],.exact 1,rD,rfl,oq⟩:Row Int).l[k14]=x22
 refine bF ?_
 refine aI ?_
 refine dq ?_
 refine oC (t188 a0 (⟨x10.elem,x22⟩:j7)) ?_
 rintro _ ⟨r24,r25,hc23,rfl⟩
 have hN:=hc23
 cases r25
 refine bB ?_
 refine au ?_
 refine wz [.ip (kb.af a0) 0 false,v15,.la 7 0,kQ a1.steps,ck a1.steps.l.length,ck k3,.sl [[iv (IntKind.i64.wrap (3 - ((if x10.out > x10.p9 then x10.out else x10.p9))))]] (.exact 1),iv 1,ck k14] H17 [(7,(kL.af x10))] ?_ (kF hS18 [(5,0)])
 refine qg ?_
 refine kI ?_
 refine ab ?_
 exact ⟨by omega,v15,l16,H17,dX,hS18,(kF hS18 [(5,0)])⟩
 refine bB ?_
 refine ay ?_
 refine bu ?_
 refine kM rfl (lO (H:=H17) (i:=0) (l:=l16) (enc:=j7.af) [(⟨x10.elem,x22⟩:j7)] hS18 rfl rfl rfl rfl rfl rfl rfl rfl rfl (λ_=>rfl) (.inl rfl) dZ (λ_=>rfl)) ?_
 rintro v26 H27 hS28
 refine ab ?_
 refine wz [.ip (kb.af a0) 0 false,v26,.la 7 0,kQ a1.steps,ck a1.steps.l.length,ck k3,.sl [[iv (IntKind.i64.wrap (3 - ((if x10.out > x10.p9 then x10.out else x10.p9))))]] (.exact 1),iv 1,ck k14] H27 [(7,(kL.af x10))] ?_ (kF hS28 [(5,0)])
 refine qg ?_
 refine kI ?_
 refine ab ?_
 exact ⟨by omega,v26,((l16++[(⟨x10.elem,x22⟩:j7)])),H27,dX,hS28,(kF hS28 [(5,0)])⟩
 refine ah ?_
 refine wz [.ip (kb.af a0) 0 false,v15,kQ a1.steps,ck a1.steps.l.length,ck k3] H17 [] ?_ (kF hS18 [(5,0)])
 refine qg ?_
 refine kI ?_
 refine ab ?_
 exact ⟨by omega,v15,l16,H17,d7,hS18,(kF hS18 [(5,0)])⟩
 refine be ?_
 refine kZ (λh29=>?_) (λh29=>?_)
 refine ba ?_
 refine dl ?_
 refine mc (λh30=>?_) (λh30=>?_)
 refine ay ?_
 refine qg ?_
 refine bF ?_
 refine wz [.ip (kb.af a0) 0 false,v4,.la 7 0,.sl [[iv 0],[iv 1]] (.exact 2),kQ a1.steps,ck a1.steps.l.length,ck k3] H6 [(7,(kL.af x10))] ?_ (kF hS7 [(5,0)])
 refine ae ?_
 refine aC ?_
 refine ke 2 (λk31 e h=>∃ v32:AV,∃ l33:List j7,∃ H34:bV,(l33.length<=l5.length+k31)/\Sep H34 (nu j7.af 2 v32 l33::[])/\At [0,5,7,16,17,18,43,44,45] [.ip (kb.af a0) 0 false,v32,.la 7 0,kQ a1.steps,ck a1.steps.l.length,ck k3,.sl [[iv 0],[iv 1]] (.exact 2),iv 2,ck k31] H34 [(7,(kL.af x10))] e h) ?_ (k0:=0) d4 ⟨v4,l5,H6,eR,hS7,(kF hS7 [(5,0)])⟩
 rintro k31 e h hkk31 ⟨v32,l33,H34,hl36,hS35,hA⟩
 refine aE ?_
 refine kE (λh37=>?_) (λh37=>?_)
 refine ai ?_
 refine wz [.ip (kb.af a0) 0 false,v32,.la 7 0,kQ a1.steps,ck a1.steps.l.length,ck k3,.sl [[iv 0],[iv 1]] (.exact 2),iv 2,ck k31] H34 [(7,(kL.af x10))] ?_ (kF hS35 [(5,0)])
 refine bQ ?_
 have hx38:k31<(⟨[0,1],.exact 2,rD,rfl,oq⟩:Row Int).l.length:=by show k31<2; omega
 refine iS rfl (λ_=>xn (n:=k31) (r:=(⟨[0,1],.exact 2,rD,rfl,oq⟩:Row Int)) (enc:=kX) rfl rfl rfl rfl rfl hx38 rfl) ?_
 generalize (⟨[0,1],.exact 2,rD,rfl,oq⟩:Row Int).l[k31]=x39
 refine bF ?_
 refine aI ?_
 refine dq ?_
 refine oC (t188 a0 (⟨x10.elem,x39⟩:j7)) ?_
 rintro _ ⟨r41,r42,hc40,rfl⟩
 have hN:=hc40
 cases r42
 refine bB ?_
 refine au ?_
 refine wz [.ip (kb.af a0) 0 false,v32,.la 7 0,kQ a1.steps,ck a1.steps.l.length,ck k3,.sl [[iv 0],[iv 1]] (.exact 2),iv 2,ck k31] H34 [(7,(kL.af x10))] ?_ (kF hS35 [(5,0)])
 refine qg ?_
 refine kI ?_
 refine ab ?_
 exact ⟨by omega,v32,l33,H34,dX,hS35,(kF hS35 [(5,0)])⟩
 refine bB ?_
 refine ay ?_
 refine bu ?_
 refine kM rfl (lO (H:=H34) (i:=0) (l:=l33) (enc:=j7.af) [(⟨x10.elem,x39⟩:j7)] hS35 rfl rfl rfl rfl rfl rfl rfl rfl rfl (λ_=>rfl) (.inl rfl) dZ (λ_=>rfl)) ?_
 rintro v43 H44 hS45
 refine ab ?_
 refine wz [.ip (kb.af a0) 0 false,v43,.la 7 0,kQ a1.steps,ck a1.steps.l.length,ck k3,.sl [[iv 0],[iv 1]] (.exact 2),iv 2,ck k31] H44 [(7,(kL.af x10))] ?_ (kF hS45 [(5,0)])
 refine qg ?_
 refine kI ?_
 refine ab ?_
 exact ⟨by omega,v43,((l33++[(⟨x10.elem,x39⟩:j7)])),H44,dX,hS45,(kF hS45 [(5,0)])⟩
 refine ah ?_
 refine wz [.ip (kb.af a0) 0 false,v32,kQ a1.steps,ck a1.steps.l.length,ck k3] H34 [] ?_ (kF hS35 [(5,0)])
 refine qg ?_
 refine kI ?_
 refine ab ?_
 exact ⟨by omega,v32,l33,H34,d7,hS35,(kF hS35 [(5,0)])⟩
 refine au ?_
 refine wz [.ip (kb.af a0) 0 false,v4,.la 7 0,.sl [[iv 2],[iv 3]] (.exact 2),kQ a1.steps,ck a1.steps.l.length,ck k3] H6 [(7,(kL.af x10))] ?_ (kF hS7 [(5,0)])
 refine ae ?_
 refine aC ?_
 refine ke 2 (λk46 e h=>∃ v47:AV,∃ l48:List j7,∃ H49:bV,(l48.length<=l5.length+k46)/\Sep H49 (nu j7.af 2 v47 l48::[])/\At [0,5,7,16,17,18,43,44,45] [.ip (kb.af a0) 0 false,v47,.la 7 0,kQ a1.steps,ck a1.steps.l.length,ck k3,.sl [[iv 2],[iv 3]] (.exact 2),iv 2,ck k46] H49 [(7,(kL.af x10))] e h) ?_ (k0:=0) d4 ⟨v4,l5,H6,eR,hS7,(kF hS7 [(5,0)])⟩
 rintro k46 e h hkk46 ⟨v47,l48,H49,hl51,hS50,hA⟩
 refine aE ?_
 refine kE (λh52=>?_) (λh52=>?_)
 refine ai ?_
 refine wz [.ip (kb.af a0) 0 false,v47,.la 7 0,kQ a1.steps,ck a1.steps.l.length,ck k3,.sl [[iv 2],[iv 3]] (.exact 2),iv 2,ck k46] H49 [(7,(kL.af x10))] ?_ (kF hS50 [(5,0)])
 refine bQ ?_
 have hx53:k46<(⟨[2,3],.exact 2,rD,rfl,oq⟩:Row Int).l.length:=by show k46<2; omega
 refine iS rfl (λ_=>xn (n:=k46) (r:=(⟨[2,3],.exact 2,rD,rfl,oq⟩:Row Int)) (enc:=kX) rfl rfl rfl rfl rfl hx53 rfl) ?_
 generalize (⟨[2,3],.exact 2,rD,rfl,oq⟩:Row Int).l[k46]=x54
 refine bF ?_
 refine aI ?_
 refine dq ?_
 refine oC (t188 a0 (⟨x10.elem,x54⟩:j7)) ?_
 rintro _ ⟨r56,r57,hc55,rfl⟩
 have hN:=hc55
 cases r57
 refine bB ?_
 refine au ?_
 refine wz [.ip (kb.af a0) 0 false,v47,.la 7 0,kQ a1.steps,ck a1.steps.l.length,ck k3,.sl [[iv 2],[iv 3]] (.exact 2),iv 2,ck k46] H49 [(7,(kL.af x10))] ?_ (kF hS50 [(5,0)])
 refine qg ?_
 refine kI ?_
 refine ab ?_
 exact ⟨by omega,v47,l48,H49,dX,hS50,(kF hS50 [(5,0)])⟩
 refine bB ?_
 refine ay ?_
 refine bu ?_
 refine kM rfl (lO (H:=H49) (i:=0) (l:=l48) (enc:=j7.af) [(⟨x10.elem,x54⟩:j7)] hS50 rfl rfl rfl rfl rfl rfl rfl rfl rfl (λ_=>rfl) (.inl rfl) dZ (λ_=>rfl)) ?_
 rintro v58 H59 hS60
 refine ab ?_
 refine wz [.ip (kb.af a0) 0 false,v58,.la 7 0,kQ a1.steps,ck a1.steps.l.length,ck k3,.sl [[iv 2],[iv 3]] (.exact 2),iv 2,ck k46] H59 [(7,(kL.af x10))] ?_ (kF hS60 [(5,0)])
 refine qg ?_
 refine kI ?_
 refine ab ?_
 exact ⟨by omega,v58,((l48++[(⟨x10.elem,x54⟩:j7)])),H59,dX,hS60,(kF hS60 [(5,0)])⟩
 refine ah ?_
 refine wz [.ip (kb.af a0) 0 false,v47,kQ a1.steps,ck a1.steps.l.length,ck k3] H49 [] ?_ (kF hS50 [(5,0)])
 refine qg ?_
 refine kI ?_
 refine ab ?_
 exact ⟨by omega,v47,l48,H49,d7,hS50,(kF hS50 [(5,0)])⟩
 refine ap ?_
 refine wz [.ip (kb.af a0) 0 false,v4,.la 7 0,iN,kQ a1.steps,ck a1.steps.l.length,ck k3] H6 [(7,(kL.af x10))] ?_ (kF hS7 [(5,0)])
 refine ae ?_
 refine aC ?_
 refine ke 0 (λk61 e h=>At [0,5,7,16,17,18,43,44,45] [.ip (kb.af a0) 0 false,v4,.la 7 0,kQ a1.steps,ck a1.steps.l.length,ck k3,iN,iv 0,ck k61] H6 [(7,(kL.af x10))] e h) ?_ (k0:=0) d4 (kF hS7 [(5,0)])
 rintro k61 e h hkk61 hA
 refine aE ?_
 refine kE (λh62=>?_) (λh62=>?_)
 refine ai ?_
 refine wz [.ip (kb.af a0) 0 false,v4,.la 7 0,kQ a1.steps,ck a1.steps.l.length,ck k3,iN,iv 0,ck k61] H6 [(7,(kL.af x10))] ?_ (kF hS7 [(5,0)])
 refine bQ ?_
 exfalso; omega
 refine ah ?_
 refine wz [.ip (kb.af a0) 0 false,v4,kQ a1.steps,ck a1.steps.l.length,ck k3] H6 [] ?_ (kF hS7 [(5,0)])
 refine qg ?_
 refine kI ?_
 refine ab ?_
 exact ⟨by omega,v4,l5,H6,d7,hS7,(kF hS7 [(5,0)])⟩
 refine ah ?_
 refine wz [v4] H6 [] ?_ (kF hS7 [(5,0)])
 refine bT ?_
 obtain ⟨r63,hl64,hf65⟩:=mz (H:=H6) (i:=0) (l:=l5) (enc:=j7.af) hS7 rfl dV
 have hlq:=hl64; have hln67:=congrArg List.length hl64
 have hz66:∀ m,freeze false { H6 with cT:=[] } (m+2) v4=some (pG r63):=λm=>hf65 _ _ (λ_=>rfl)
 exact ⟨v4,(lQ (vs:=[v4]) rfl (j8 (Sep.arg (i:=0) hS7 rfl) kK)),pG r63,(show freeze false { H6 with cT:=[] } 8 v4=some (pG r63) by simp only [FZ,hz66]),r63,(by first | omega | (simp_all; omega)),rfl⟩
def LZ {H:bV} (el:Int) (en:Int) (bn:Nat) (nn:kb) (bt:Nat) (vt:AV) (todo:List j7) (F:List lF) (hS:Sep H (lE bn [.ip (kb.af nn) 0 false]::lE bt [vt]::oT j7.af 2 vt todo::F)) (q1:todo.length<=2000):∃ v H',kC cfg FT kJ true 189 [iv el,iv en,(ki bn),(ki bt)] { H with cT:=[] } v H'/\(∃ vto:AV,∃ todoo:List j7,(todoo.length<=todo.length+1/\∀ y∈todoo,y∈todo\/y∈univ nn)/\Sep H' (lE bn [.ip (kb.af nn) 0 false]::lE bt [vto]::oT j7.af 2 vto todoo::F)/\v=.kO []):=by
 refine lK JR ?_
 refine aa ?_
 refine nB 0 hS (.ip (kb.af nn) 0 false) ?_
 refine aD ?_
 refine oC (t188 nn (⟨el,en⟩:j7)) ?_
 rintro _ ⟨r2,r3,hc1,rfl⟩
 have hN:=hc1
 cases r3
 refine bB ?_
 refine au ?_
 have hS4:=Sep.pick hS [0,1,2] 3 dW dW
 exact ⟨.kO [],rfl,vt,todo,gm,Sep.cT hS4 _,rfl⟩
 refine bB ?_
 refine ay ?_
 refine qg ?_
 refine nB 1 hS vt ?_
 refine ao ?_
 refine kM rfl (lO (H:=H) (i:=2) (l:=todo) (enc:=j7.af) [r2] hS rfl rfl rfl rfl rfl rfl rfl rfl rfl (λ_=>rfl) (.inr rfl) dZ (λ_=>rfl)) ?_
 rintro v5 H6 hS7
 refine kM rfl (nZ (H:=H6) (i:=1) (o:=0) (r:=v5) hS7 rfl rfl rfl rfl (nG rfl rfl (Sep.cell (i:=2) hS7 rfl)) (j8 (Sep.cell (i:=2) hS7 rfl) kK) rfl) ?_
 rintro _ H8 ⟨rfl,hS9⟩
 refine oN ?_
 have hS10:=Sep.pick hS9 [0,1,2] 3 dW dW
 exact ⟨.kO [],rfl,v5,(todo++[r2]),gm,Sep.cT hS10 _,rfl⟩
def Ul (_a0:uA) (_a1:Int) (v:AV):Prop:=∃ r0:Bool,(True)/\v=.bool r0
def t190 (a0:uA) (a1:Int) :Ct 190 [.agg (uA.af a0),iv a1] (Ul a0 a1):=by
 refine kA Jg ?_
 refine aj ?_
 refine kM rfl (sa lJ rfl rfl rfl rfl rfl) ?_
 rintro _ H2 ⟨b1,rfl,hS3⟩
 refine bi ?_
 refine iS rfl (λ_=>tn rfl rfl (tv rfl rfl)) ?_
 have hS4:=Sep.pick hS3 [0] 1 dW dW
 refine lB (H:=H2) (args:=[ka.av kL.af a0.steps,.ly 228 [] [(ki b1)]]) (p:=[]) (r:=[]) rfl rfl rfl rfl rfl rfl rfl (O0 a0.steps b1 a1 ([]) hS4) ?_
 rintro _ H5 ⟨r8,hc7,hS6,rfl⟩
 cases r8
 refine ag ?_
 exact iZ
 refine ag ?_
 exact i4
def Qx {H:bV} (b:Nat) (f0:Int) (f1:Int) (f2:Int) (steps:Row kL) (nq:Row lI) (vg:AV) (guards:List lI) (vz:AV) (mf:List Int) (vh:AV) (holds:List Int) (bare:Bool) (el:Int) (F:List lF) (hS:Sep H (lE b [iv f0,iv f1,iv f2,kQ steps,lX nq,vg,vz,vh,.bool bare]::nu lI.af 2 vg guards::om vz mf::om vh holds::F)) (q1:mf.length<=12):∃ v H',kC cfg FT kJ true 191 [(ki b),iv el] { H with cT:=[] } v H'/\(∃ r0:Bool,∃ vzo:AV,∃ zoneo:List Int,∃ bareo:Bool,(zoneo.length<=12/\∀ x∈zoneo,x∈mf\/x=el)/\Sep H' (lE b [iv f0,iv f1,iv f2,kQ steps,lX nq,vg,vzo,vh,.bool bareo]::nu lI.af 2 vg guards::om vzo zoneo::om vh holds::F)/\v=.bool r0):=by
 refine lK JU ?_
 refine aY ?_
 refine br ?_
 refine iS rfl (λ_=>nY (i:=0) (o:=6) (r:=vz) hS rfl rfl rfl rfl) ?_
 refine oV ?_
 refine nd hS 2 λr1 hl2 hln5 hz4=>?_
 refine ns (args:=[vz,iv el]) (p:=[]) (r:=[]) (args':=[lG r1,iv el]) (R:=Ns r1 el) rfl rfl rfl rfl rfl (j8 (Sep.arg (i:=2) hS rfl) (j8 rfl kK)) rfl fh (lj (by show kP (freeze true { H with cT:=[] } 8) [vz,iv el] = _; simp only [FZ,hz4]) (j8 (Sep.ot (i:=2) hS rfl) (j8 rfl kK))) (lj e9 (j8 rfl (j8 rfl kK))) (λh=>t113 r1 el  h) ?_
 rintro _ ⟨r7,hc6,rfl⟩
 have hIn:=hc6
 cases r7
 refine au ?_
 refine wz [(ki b),iv el] H [] ?_
 refine am ?_
 refine br ?_
 refine iS rfl (λ_=>nY (i:=0) (o:=6) (r:=vz) hS rfl rfl rfl rfl) ?_
 refine iS rfl (λ_=>nO (i:=2) (l:=mf) (enc:=kX) hS rfl rfl rfl rfl rfl rfl rfl) ?_
 refine mW (λh8=>?_) (λh8=>?_)
 refine ay ?_
 refine aj ?_
 refine br ?_
 refine kM rfl (nZ (i:=0) (o:=8) (r:=.bool true) hS rfl rfl rfl rfl rfl rfl rfl) ?_
 rintro _ H9 ⟨rfl,hS10⟩
 refine oN ?_
 refine aU ?_
 have hS11:=Sep.pick hS10 [0,1,2,3] 4 dW dW
 exact ⟨.bool false,rfl,false,vz,mf,true,fJ,Sep.cT hS11 _,rfl⟩
 refine au ?_
 refine wz [(ki b),iv el] H [] ?_
 refine ae ?_
 refine br ?_
 refine iS rfl (λ_=>nY (i:=0) (o:=6) (r:=vz) hS rfl rfl rfl rfl) ?_
 refine ao ?_
 refine kM rfl (lO (i:=2) (l:=mf) (enc:=kX) [el] hS rfl rfl rfl rfl rfl rfl rfl rfl rfl (λ_=>rfl) (.inl rfl) dZ (λ_=>rfl)) ?_
 rintro v12 H13 hS14
 refine iS rfl (λ_=>rl (i:=0) hS14 rfl rfl) ?_
 refine iS rfl (λ_=>qH (i:=0) hS14 rfl rfl rfl rfl rfl) ?_
 refine kM rfl (nZ (i:=0) (o:=6) (r:=v12) hS14 rfl rfl rfl rfl (nG rfl rfl (Sep.cell (i:=2) hS14 rfl)) (j8 (Sep.cell (i:=2) hS14 rfl) kK) rfl) ?_
 rintro _ H15 ⟨rfl,hS16⟩
 refine oN ?_
 refine aU ?_
 have hS17:=Sep.pick hS16 [0,1,2,3] 4 dW dW
 exact ⟨.bool true,rfl,true,v12,(mf++[el]),bare,fJ,Sep.cT hS17 _,rfl⟩
 refine aZ ?_
 have hS18:=Sep.pick hS [0,1,2,3] 4 dW dW
 exact ⟨.bool true,rfl,true,vz,mf,bare,fJ,Sep.cT hS18 _,rfl⟩
def abp (_a0:ka lI) (_a1:lI) (v:AV):Prop:=∃ r0:Int,(True)/\v=iv r0
def t229 (a0:ka lI) (a1:lI) :Ct 229 [ka.av lI.af a0,.agg (lI.af a1)] (abp a0 a1):=by
 refine kA Jb ?_
 refine aj ?_
 refine ak ?_
 have hL1:=a0.lk
 refine iS rfl (λ_=>nA (r:=a0) (enc:=lI.af) rfl rfl rfl rfl rfl rfl) ?_
 refine aC ?_
 have hNk2:=a0.lk
 refine ke a0.l.length (λk2 e h=>At [0,3,7,8] [ka.av lI.af a0,.la 3 0,ck a0.l.length,ck k2] bV.empty [(3,(lI.af a1))] e h) ?_ (k0:=0) d4 atR
 rintro k2 e h hkk2 hA
 refine aE ?_
 refine kE (λh3=>?_) (λh3=>?_)
 refine c8 ?_
 refine cR ?_
 have hx4:k2<a0.l.length:=by omega
 refine kG rfl rfl (λ_=>m8 (n:=k2) (r:=a0) (enc:=lI.af) rfl rfl rfl rfl rfl hx4 rfl) ?_
 generalize hqx5:a0.l[k2]=x5
 refine rV ?_
 refine qJ rfl rfl (λ_=>xw rfl rfl rfl (λ_ _=>rfl)) (λh6=>?_) (λh6=>?_)
 refine rN ?_
 refine qT ?_
 refine bT ?_
 exact xB ⟨((k2:Int)),zt⟩
 refine c6 ?_
 refine qg ?_
 refine kI ?_
 refine ab ?_
 exact iJ
 refine bE ?_
 exact xB ⟨(-1),zt⟩
def M3 (_a0:ka lI) (_a1:lI) (v:AV):Prop:=∃ r0:Bool,(True)/\v=.bool r0
def t192 (a0:ka lI) (a1:lI) :Ct 192 [ka.av lI.af a0,.agg (lI.af a1)] (M3 a0 a1):=by
 refine kA HP ?_
 refine dl ?_
 refine oC (t229 a0 a1) ?_
 rintro _ ⟨r2,hc1,rfl⟩
 refine mW (λh3=>?_) (λh3=>?_)
 refine ag ?_
 exact i4
 refine ag ?_
 exact iZ
def ZP (_a0:kb) (_a1:Int) (_a2:Int) (_a3:Int) (v:AV):Prop:=∃ r0:Int,∃ r1:Bool,(True)/\v=.kO [iv r0,.bool r1]
def t230 (a0:kb) (a1:Int) (a2:Int) (a3:Int) :Ct 230 [.ip (kb.af a0) 0 false,iv a1,iv a2,iv a3] (ZP a0 a1 a2 a3):=by
 refine kA Ik ?_
 refine aV ?_
 refine cq ?_
 refine oC (t249 a0 a1 a2) ?_
 rintro _ ⟨r2,hc1,rfl⟩
 have hL3:=r2.lk
 refine lx r2 ?_
 refine aC ?_
 have hNk4:=r2.lk
 refine ke r2.l.length (λk4 e h=>At [3,15,16,17] [iv a3,vm r2,ck r2.l.length,ck k4] bV.empty [] e h) ?_ (k0:=0) d4 atR
 rintro k4 e h hkk4 hA
 refine aE ?_
 refine kE (λh5=>?_) (λh5=>?_)
 refine cm ?_
 have hx6:k4<r2.l.length:=by omega
 refine mB k4 r2 hx6 ?_
 generalize hqx7:r2.l[k4]=x7
 refine dq ?_
 refine kZ (λh8=>?_) (λh8=>?_)
 refine bk ?_
 refine ba ?_
 refine dw ?_
 exact xG ⟨x7.out,true,zt⟩
 refine aM ?_
 refine kZ (λh9=>?_) (λh9=>?_)
 refine ba ?_
 refine dw ?_
 exact xG ⟨x7.out,true,zt⟩
 refine cE ?_
 refine kI ?_
 refine ab ?_
 exact iJ
 refine ah ?_
 refine bT ?_
 exact xG ⟨0,false,zt⟩
def acV (_a0:kb) (_a1:Int) (_a2:Int) (_a3:Int) (v:AV):Prop:=∃ r0:Int,∃ r1:Bool,(True)/\v=.kO [iv r0,.bool r1]
def t193 (a0:kb) (a1:Int) (a2:Int) (a3:Int) :Ct 193 [.ip (kb.af a0) 0 false,iv a1,iv a2,iv a3] (acV a0 a1 a2 a3):=by
 refine kA Kh ?_
 refine aV ?_
 refine bJ ?_
 refine oC (t230 a0 a1 a2 a3) ?_
 rintro _ ⟨r2,r3,hc1,rfl⟩
 cases r3
 refine bU ?_
 exact xG ⟨r2,false,zt⟩
 refine bU ?_
 exact xG ⟨r2,true,zt⟩
end Go.Sx
