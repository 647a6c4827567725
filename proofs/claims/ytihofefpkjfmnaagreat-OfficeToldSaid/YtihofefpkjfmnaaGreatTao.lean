/- Proves what some functions of the program answer, by walking through them. -/
import Derived.KernelRfl
import Derived.Test.YtihofefpkjfmnaaGreatTaj
import Derived.Test.YtihofefpkjfmnaaGreatTam
import Derived.Test.YtihofefpkjfmnaaGreatTan
set_option linter.all false
set_option maxRecDepth 100000
set_option maxHeartbeats 0
namespace Go.Sx
open Go Go.Proofs
def ZY (_a0:iF) (v:AV):Prop:=∃ r0:Bool,(True)/\v=.bool r0
def t155 (a0:iF) (q1:(∀ s∈a0.signals.l,0<=s.at_.elem/\s.at_.elem<(a0.elems.l.length:Int)/\0<=s.at_.en)):Ct 155 [.agg (iF.ag a0)] (ZY a0):=by
 refine j9 FR ?_
 refine ai ?_
 refine ap ?_
 refine bS ?_
 refine dp ?_
 refine rC (t216 a0.top a0.kU) ?_
 rintro _ ⟨r2,hc1,rfl⟩
 refine kp rfl rfl (λ_=>me rfl rfl rfl (tR .i64 a0.top r2)) ?_
 refine qO (λh3=>?_) (λh3=>?_)
 refine rN ?_
 refine ac ?_
 exact iq
 refine c7 ?_
 refine aX ?_
 have hL4:=a0.signals.lk
 refine dT ?_
 have hNk5:=a0.signals.lk
 refine jW a0.signals.l.length (λk5 e h=>At [1,20,21,22] [.la 1 0,kF a0.signals,bY a0.signals.l.length,bY k5] aT.empty [(1,(iF.ag a0))] e h) ?_ (k0:=0) eG atR
 rintro k5 e h hkk5 hA
 refine aA ?_
 refine kx (λh6=>?_) (λh6=>?_)
 refine bC ?_
 have hx7:k5<a0.signals.l.length:=by omega
 refine ml k5 a0.signals hx7 ?_
 generalize hqx8:a0.signals.l[k5]=x8
 have hinx8:x8∈a0.signals.l:=by rw [<- hqx8]; exact List.getElem_mem _
 have hsx8:=q1 x8 hinx8
 refine bu ?_
 refine dD ?_
 have hx9:(x8.at_.elem).toNat<a0.elems.l.length:=by omega
 refine jP rfl (λ_=>ld (n:=x8.at_.elem) (r:=a0.elems) (enc:=lV.ag) rfl rfl rfl rfl rfl eG hx9 rfl) ?_
 generalize hqx10:a0.elems.l[(x8.at_.elem).toNat]=x10
 refine dM ?_
 refine kR (λh11=>?_) (λh11=>?_)
 refine aP ?_
 refine kx (λh12=>?_) (λh12=>?_)
 refine au ?_
 exact iq
 refine cU ?_
 refine kD ?_
 refine ab ?_
 exact ic
 refine ck ?_
 refine cU ?_
 refine kD ?_
 refine ab ?_
 exact ic
 refine aj ?_
 refine aX ?_
 have hL13:=a0.elems.lk
 refine lu a0.elems ?_
 refine aC ?_
 have hNk14:=a0.elems.lk
 refine jW a0.elems.l.length (λk14 e h=>At [1,45,46,47] [.la 1 0,kB a0.elems,bY a0.elems.l.length,bY k14] aT.empty [(1,(iF.ag a0))] e h) ?_ (k0:=0) eG atR
 rintro k14 e h hkk14 hA
 refine aA ?_
 refine kx (λh15=>?_) (λh15=>?_)
 refine bC ?_
 have hx16:k14<a0.elems.l.length:=by omega
 refine ml k14 a0.elems hx16 ?_
 generalize hqx17:a0.elems.l[k14]=x17
 refine dM ?_
 refine lR (λh18=>?_) (λh18=>?_)
 refine aP ?_
 refine kx (λh19=>?_) (λh19=>?_)
 refine au ?_
 exact iq
 refine cU ?_
 refine kD ?_
 refine ab ?_
 exact ic
 refine ck ?_
 refine cU ?_
 refine kD ?_
 refine ab ?_
 exact ic
 refine aS ?_
 exact io
def P75 (_a0:iF) (v:AV):Prop:=∃ r0:Int,((r0=0->zI _a0.kg.l/\yS _a0.signals.l/\(∀ s∈_a0.signals.l,0<=s.at_.elem/\s.at_.elem<(_a0.elems.l.length:Int)/\0<=s.at_.en)/\_a0.elems.l.length<=40/\_a0.signals.l.length<=24/\_a0.kg.l.length<=80))/\v=iv r0
def t75 (a0:iF) :Ct 75 [.agg (iF.ag a0)] (P75 a0):=by
 refine j9 Ls ?_
 refine cb ?_
 rintro _ H2 ⟨b1,rfl,hS3⟩
 refine ab ?_
 refine dK ?_
 refine od 0 hS3 ?_
 refine m5 0 hS3 (kB a0.elems) ?_
 have hL4:=a0.elems.lk
 refine lu a0.elems ?_
 refine ma (λh5=>?_) (λh5=>?_)
 refine bp ?_
 refine aQ ?_
 refine ce ?_
 exact jL
 refine oV ?_
 refine od 0 hS3 ?_
 refine m5 0 hS3 (kF a0.signals) ?_
 have hL6:=a0.signals.lk
 refine lu a0.signals ?_
 refine ma (λh7=>?_) (λh7=>?_)
 refine aQ ?_
 refine ce ?_
 exact jL
 refine am ?_
 refine od 0 hS3 ?_
 refine m5 0 hS3 (j8 a0.lines) ?_
 have hL8:=a0.lines.lk
 refine lu a0.lines ?_
 refine ma (λh9=>?_) (λh9=>?_)
 refine ce ?_
 exact jL
 refine am ?_
 refine od 0 hS3 ?_
 refine m5 0 hS3 (kC a0.kg) ?_
 have hL10:=a0.kg.lk
 refine lu a0.kg ?_
 refine ma (λh11=>?_) (λh11=>?_)
 refine au ?_
 exact jL
 refine aH ?_
 refine wz [(jQ b1)] H2 [] ?_
 refine dK ?_
 refine m5 0 hS3 (.agg (iF.ag a0)) ?_
 refine oC (t147 a0) ?_
 rintro _ ⟨r13,hc12,rfl⟩
 cases r13
 refine au ?_
 exact xB ⟨1,eK,rfl⟩
 refine aH ?_
 refine wz [(jQ b1)] H2 [] ?_
 refine dK ?_
 refine od 0 hS3 ?_
 refine m5 0 hS3 (kB a0.elems) ?_
 have hL14:=a0.elems.lk
 refine lu a0.elems ?_
 refine jP rfl (λ_=>sf rfl rfl (rY rfl rfl)) ?_
 have hS15:=Sep.pick hS3 [0] 1 eB eB
 refine kI (H:=H2) (args:=[bY a0.elems.l.length,.kY 149 [] [(jQ b1)]]) (p:=[]) (r:=[]) rfl rfl rfl rfl rfl rfl rfl (LI ((a0.elems.l.length:Int)) b1 a0 ([]) hS15 ey) ?_
 rintro _ H16 ⟨r19,hc18,hS17,rfl⟩
 cases r19
 refine oV ?_
 refine od 0 hS17 ?_
 refine m5 0 hS17 (kF a0.signals) ?_
 have hL20:=a0.signals.lk
 refine lu a0.signals ?_
 refine jP rfl (λ_=>sf rfl rfl (rY rfl rfl)) ?_
 have hS21:=Sep.pick hS17 [0] 1 eB eB
 refine kI (H:=H16) (args:=[bY a0.signals.l.length,.kY 150 [] [(jQ b1)]]) (p:=[]) (r:=[]) rfl rfl rfl rfl rfl rfl rfl (Nn ((a0.signals.l.length:Int)) b1 a0 ([]) hS21 ey) ?_
 rintro _ H22 ⟨r25,hc24,hS23,rfl⟩
 cases r25
 refine am ?_
 refine od 0 hS23 ?_
 refine m5 0 hS23 (j8 a0.lines) ?_
 have hL26:=a0.lines.lk
 refine lu a0.lines ?_
 refine jP rfl (λ_=>sf rfl rfl (rY rfl rfl)) ?_
 have hS27:=Sep.pick hS23 [0] 1 eB eB
 refine kI (H:=H22) (args:=[bY a0.lines.l.length,.kY 151 [] [(jQ b1)]]) (p:=[]) (r:=[]) rfl rfl rfl rfl rfl rfl rfl (Nz ((a0.lines.l.length:Int)) b1 a0 ([]) hS27 ey) ?_
 rintro _ H28 ⟨r31,hc30,hS29,rfl⟩
 cases r31
 refine aH ?_
 refine wz [(jQ b1)] H28 [] ?_
 refine aa ?_
 refine m5 0 hS29 (.agg (iF.ag a0)) ?_
 refine oC (t152 a0) ?_
 rintro _ (⟨r33,hc32,rfl⟩ | ⟨hc32,rfl⟩)
 have hPre:=hc32.1; have hC148:=hc32.2
 refine oV ?_
 refine bZ ?_
 refine ay ?_
 refine ae ?_
 refine br ?_
 refine m5 0 hS29 (.agg (iF.ag a0)) ?_
 refine oV ?_
 refine oC (t153 a0 r33 ey) ?_
 rintro _ ⟨r35,hc34,rfl⟩
 cases r35
 clear hc34
 refine bJ ?_
 exact xB ⟨7,eK,rfl⟩
 have hc34t:=hc34 rfl
 have hPre:=hc34t.1; have hD149:=hc34t.2
 refine oV ?_
 refine br ?_
 refine m5 0 hS29 (.agg (iF.ag a0)) ?_
 refine oV ?_
 refine oC (t154 a0 r33) ?_
 rintro _ ⟨r37,hc36,rfl⟩
 cases r37
 refine bJ ?_
 exact xB ⟨8,eK,rfl⟩
 refine oV ?_
 refine br ?_
 refine m5 0 hS29 (.agg (iF.ag a0)) ?_
 refine oC (t155 a0 ey) ?_
 rintro _ ⟨r39,hc38,rfl⟩
 cases r39
 refine bJ ?_
 exact xB ⟨9,eK,rfl⟩
 refine dt ?_
 refine wz [] H28 [] ?_
 refine aU ?_
 exact xB ⟨0,eK,rfl⟩
 refine oV ?_
 refine bZ ?_
 refine aw ?_
 refine bJ ?_
 exact xB ⟨6,eK,rfl⟩
 refine au ?_
 exact xB ⟨4,eK,rfl⟩
 refine cz ?_
 refine au ?_
 exact xB ⟨4,eK,rfl⟩
 refine ck ?_
 refine cz ?_
 refine au ?_
 exact xB ⟨4,eK,rfl⟩
def Wx (_a0:iF) (v:AV):Prop:=(∃ r0:iS,(ot r0 _a0)/\v=.kq [.ip (iS.ag r0) 0 false,iv 0])\/(∃ r1:Int,(r1≠0)/\v=.kq [.mn,iv r1])
def Qx (a0:iF) (q1:mB a0):Ct 31 [.agg (iF.ag a0)] (Wx a0):=by
 refine j9 NL ?_
 have q2:=q1.kg; have q3:=q1.signals; have q4:=q1.lines
 refine ae ?_
 refine ao ?_
 refine oC (t75 a0) ?_
 rintro _ ⟨r2,hc1,rfl⟩
 have hC89:=hc1
 refine aZ ?_
 refine lR (λh3=>?_) (λh3=>?_)
 refine cJ ?_
 refine xG (.inr (⟨r2,gI,rfl⟩))
 refine ah ?_
 refine wy [.la 1 0] [(1,(iF.ag a0))] ?_
 refine ai ?_
 refine oC (t76 a0 ey) ?_
 rintro _ ⟨r5,hc4,rfl⟩
 have hC90:=hc4
 refine kn rfl (nP kV) ?_
 rintro _ H7 ⟨b6,rfl,hS8⟩
 refine kn rfl (nP hS8) ?_
 rintro _ H10 ⟨b9,rfl,hS11⟩
 refine kn rfl (nP hS11) ?_
 rintro _ H13 ⟨b12,rfl,hS14⟩
 refine kn rfl (nP hS14) ?_
 rintro _ H16 ⟨b15,rfl,hS17⟩
 refine oV ?_
 refine kn rfl (mP hS17 rfl rfl rfl rfl rfl) ?_
 rintro _ H19 ⟨b18,rfl,hS20⟩
 refine ab ?_
 refine aX ?_
 have hL21:=a0.kg.lk
 refine lu a0.kg ?_
 refine aC ?_
 have hNk22:=a0.kg.lk
 refine jW a0.kg.l.length (λk22 e h=>∃ l23:List (jT×jT),∃ H24:aT,(∀ x:jT,look x l23=nN (a0.kg.l.take k22) x)/\(l23.length<=2*k22)/\(∀ y∈(l23:List (jT×jT)),m4 y.2.elem)/\Sep H24 (kO b18 [kB r5.elems,kC r5.kg,kF r5.signals,j8 r5.lines,iv r5.top,iv r5.kU,iv r5.kK,iv r5.kM,.bool r5.lq,(.hm b6),(.hm b9),(.hm b12),(.hm b15)]::ng b15 iK iK []::ng b12 iK tg []::ng b9 pK iK []::ng b6 pK pK l23::[])/\At [1,5,31,32,33] [.la 1 0,(jQ b18),kC a0.kg,bY a0.kg.l.length,bY k22] H24 [(1,(iF.ag a0))] e h) ?_ (k0:=0) eG ⟨([]),H19,(by (intro x; rfl)),fS,fS,hS20,atR⟩
 rintro k22 e h hkk22 ⟨l23,H24,hD,hN,hNg,hS25,hA⟩
 refine aA ?_
 refine kx (λh26=>?_) (λh26=>?_)
 refine ak ?_
 refine wz [.la 1 0,(jQ b18),kC a0.kg,bY a0.kg.l.length,bY k22] H24 [(1,(iF.ag a0))] ?_
 refine bd ?_
 have hx27:k22<a0.kg.l.length:=by omega
 refine ml k22 a0.kg hx27 ?_
 generalize hqx28:a0.kg.l[k22]=x28
 have hinx28:x28∈a0.kg.l:=by rw [<- hqx28]; exact List.getElem_mem _
 obtain ⟨hgax28,hgbx28⟩:=q1.UN x28 hinx28
 refine bu ?_
 refine qd ?_
 refine rV ?_
 refine ew ?_
 refine bj ?_
 refine ew ?_
 refine dp ?_
 refine sm rfl rfl (sr (H:=H24) (i:=4) (ek:=pK) (ev:=pK) (l:=l23) x28.a x28.b hS25 rfl rfl rfl rfl rfl rfl rfl rfl rfl nD) ?_
 rintro _ H29 ⟨w30,n31,H32,rfl,hop33,hS34⟩
 refine ⟨λcall=>(ze (nB rfl rfl rfl rfl rfl fR) (ze (nB rfl rfl rfl rfl rfl fR) (ug (nB rfl rfl rfl rfl rfl fR)))),?_⟩
 refine rV ?_
 refine Ak rfl rfl ⟨0,λ_ _=>hop33 _ _ _ _ _ _ _ _ rfl rfl rfl⟩ (λcall=>(ze (nB rfl rfl rfl rfl rfl fR) (ug (nB rfl rfl rfl rfl rfl fR)))) ?_
 refine sm rfl rfl (sr (H:=H32) (i:=4) (ek:=pK) (ev:=pK) (l:=(put x28.a x28.b l23)) x28.b x28.a hS34 rfl rfl rfl rfl rfl rfl rfl rfl rfl nD) ?_
 rintro _ H35 ⟨w36,n37,H38,rfl,hop39,hS40⟩
 refine ⟨λcall=>(ug (nB rfl rfl rfl rfl rfl fR)),?_⟩
 refine rV ?_
 refine kp rfl rfl (λ_=>hop39 _ _ _ _ _ _ _ _ rfl rfl rfl) ?_
 refine rN ?_
 refine wz [.la 1 0,(jQ b18),kC a0.kg,bY a0.kg.l.length,bY k22] H38 [(1,(iF.ag a0))] ?_
 refine qg ?_
 refine kD ?_
 refine ab ?_
 exact ⟨by omega,((put x28.b x28.a (put x28.a x28.b l23))),H38,(by exact Nq ez ez (hC89 eG).1 hD),(by exact Lt hN),(by exact sw (P:=λy:jT=>m4 y.elem) (sw (P:=λy:jT=>m4 y.elem) hNg ez) ez),hS40,atR⟩
 refine aj ?_
 refine wz [.la 1 0,(jQ b18)] H24 [(1,(iF.ag a0))] ?_
 refine aX ?_
 have hL41:=a0.signals.lk
 refine dT ?_
 have hNk42:=a0.signals.lk
 refine jW a0.signals.l.length (λk42 e h=>∃ l43:List (jT×Int),∃ H44:aT,(∀ x:jT,look x l43=rE (a0.signals.l.take k42) x)/\Sep H44 (kO b18 [kB r5.elems,kC r5.kg,kF r5.signals,j8 r5.lines,iv r5.top,iv r5.kU,iv r5.kK,iv r5.kM,.bool r5.lq,(.hm b6),(.hm b9),(.hm b12),(.hm b15)]::ng b15 iK iK []::ng b12 iK tg []::ng b9 pK iK l43::ng b6 pK pK l23::[])/\At [1,5,59,60,61] [.la 1 0,(jQ b18),kF a0.signals,bY a0.signals.l.length,bY k42] H44 [(1,(iF.ag a0))] e h) ?_ (k0:=0) eG ⟨([]),H24,(by (intro x; rfl)),hS25,atR⟩
 rintro k42 e h hkk42 ⟨l43,H44,hR,hS45,hA⟩
 refine aA ?_
 refine kx (λh46=>?_) (λh46=>?_)
 refine ak ?_
 refine wz [.la 1 0,(jQ b18),kF a0.signals,bY a0.signals.l.length,bY k42] H44 [(1,(iF.ag a0))] ?_
 refine aw ?_
 have hx47:k42<a0.signals.l.length:=by omega
 refine ml k42 a0.signals hx47 ?_
 generalize hqx48:a0.signals.l[k42]=x48
 refine bZ ?_
 refine qd ?_
 refine rV ?_
 refine nF 0 hS45 ?_
 refine ni 0 hS45 ?_
 refine nX 0 hS45 ((.hm b9)) ?_
 refine bj ?_
 refine lH rfl rfl (oY (H:=H44) (i:=3) (ek:=pK) (ev:=iK) (l:=l43) x48.at_ ((k42:Int)) hS45 rfl rfl rfl rfl rfl rfl nD) ?_
 rintro _ H49 ⟨rfl,hS50⟩
 refine rN ?_
 refine wz [.la 1 0,(jQ b18),kF a0.signals,bY a0.signals.l.length,bY k42] H49 [(1,(iF.ag a0))] ?_
 refine qg ?_
 refine kD ?_
 refine ab ?_
 exact ⟨by omega,((put x48.at_ ((k42:Int)) l43)),H49,(by exact HV ez ez (hC89 eG).2.1 hR),hS50,atR⟩
 refine aj ?_
 refine wz [.la 1 0,(jQ b18)] H44 [(1,(iF.ag a0))] ?_
 refine aX ?_
 have hL51:=a0.lines.lk
 refine lu a0.lines ?_
 refine aC ?_
 have hNk52:=a0.lines.lk
 refine jW a0.lines.l.length (λk52 e h=>∃ l53:List (Int×Int),∃ l54:List (Int×(Int×Int)),∃ H55:aT,Sep H55 (kO b18 [kB r5.elems,kC r5.kg,kF r5.signals,j8 r5.lines,iv r5.top,iv r5.kU,iv r5.kK,iv r5.kM,.bool r5.lq,(.hm b6),(.hm b9),(.hm b12),(.hm b15)]::ng b15 iK iK l53::ng b12 iK tg l54::ng b9 pK iK l43::ng b6 pK pK l23::[])/\At [5,75,76,77] [(jQ b18),j8 a0.lines,bY a0.lines.l.length,bY k52] H55 [] e h) ?_ (k0:=0) eG ⟨([]),([]),H44,hS45,atR⟩
 rintro k52 e h hkk52 ⟨l53,l54,H55,hS56,hA⟩
 refine aA ?_
 refine kx (λh57=>?_) (λh57=>?_)
 refine ak ?_
 refine wz [(jQ b18),j8 a0.lines,bY a0.lines.l.length,bY k52] H55 [] ?_
 refine aw ?_
 have hx58:k52<a0.lines.l.length:=by omega
 refine ml k52 a0.lines hx58 ?_
 generalize hqx59:a0.lines.l[k52]=x59
 have hinx59:x59∈a0.lines.l:=by rw [<- hqx59]; exact List.getElem_mem _
 have hsx59:=q1.line x59 hinx59
 refine bZ ?_
 refine bI ?_
 refine xR (λE Z=>(E=[(5,(jQ b18)),(10,bY k52),(11,.la 11 0),(12,iv 1),(75,j8 a0.lines),(76,bY a0.lines.l.length),(77,bY k52)]/\Z = { H55 with cH:=[(11,(lr.ag x59))] })\/(E=[(5,(jQ b18)),(10,bY k52),(11,.la 11 0),(12,iv 0),(75,j8 a0.lines),(76,bY a0.lines.l.length),(77,bY k52)]/\Z = { H55 with cH:=[(11,(lr.ag x59))] })) ?_ ?_
 rintro _ _ (⟨rfl,rfl⟩ | ⟨rfl,rfl⟩)
 refine ae ?_
 have hL60:=x59.elems.lk
 refine lu x59.elems ?_
 refine aC ?_
 have hNk61:=x59.elems.lk
 refine jW x59.elems.l.length (λk61 e h=>∃ l62:List (Int×Int),∃ l63:List (Int×(Int×Int)),∃ n64:Int,∃ H65:aT,Sep H65 (kO b18 [kB r5.elems,kC r5.kg,kF r5.signals,j8 r5.lines,iv r5.top,iv r5.kU,iv r5.kK,iv r5.kM,.bool r5.lq,(.hm b6),(.hm b9),(.hm b12),(.hm b15)]::ng b15 iK iK l62::ng b12 iK tg l63::ng b9 pK iK l43::ng b6 pK pK l23::[])/\At [5,10,12,75,76,77,110,111,112] [(jQ b18),bY k52,iv n64,j8 a0.lines,bY a0.lines.l.length,bY k52,kN x59.elems,bY x59.elems.l.length,bY k61] H65 [] e h) ?_ (k0:=0) eG ⟨l53,l54,1,H55,hS56,atR⟩
 rintro k61 e h hkk61 ⟨l62,l63,n64,H65,hS66,hA⟩
 refine aA ?_
 refine kx (λh67=>?_) (λh67=>?_)
 refine ak ?_
 refine wz [(jQ b18),bY k52,iv n64,j8 a0.lines,bY a0.lines.l.length,bY k52,kN x59.elems,bY x59.elems.l.length,bY k61] H65 [] ?_
 refine aw ?_
 have hx68:k61<x59.elems.l.length:=by omega
 refine ml k61 x59.elems hx68 ?_
 generalize hqx69:x59.elems.l[k61]=x69
 refine bu ?_
 refine cF ?_
 refine nF 0 hS66 ?_
 refine ni 0 hS66 ?_
 refine nX 0 hS66 ((.hm b12)) ?_
 refine aI ?_
 refine nF 0 hS66 ?_
 refine ni 0 hS66 ?_
 refine nX 0 hS66 ((.hm b15)) ?_
 refine bQ ?_
 refine lH rfl rfl (sr (H:=H65) (i:=2) (ek:=iK) (ev:=tg) (l:=l63) x69 (((k52:Int),(k61:Int))) hS66 rfl rfl rfl rfl rfl rfl rfl rfl rfl pB) ?_
 rintro _ H70 ⟨w71,n72,H73,rfl,hop74,hS75⟩
 refine rV ?_
 refine kp rfl rfl (λ_=>hop74 _ _ _ _ _ _ _ _ rfl rfl rfl) ?_
 refine lH rfl rfl (sr (H:=H73) (i:=1) (ek:=iK) (ev:=iK) (l:=l62) x69 n64 hS75 rfl rfl rfl rfl rfl rfl rfl rfl rfl pB) ?_
 rintro _ H76 ⟨w77,n78,H79,rfl,hop80,hS81⟩
 refine rV ?_
 refine kp rfl rfl (λ_=>hop80 _ _ _ _ _ _ _ _ rfl rfl rfl) ?_
 refine rN ?_
 refine aM ?_
 refine uj 0 hS81 ?_
 refine od 0 hS81 ?_
 refine m5 0 hS81 ((.hm b6)) ?_
 refine am ?_
 refine jP rfl (λ_=>me rfl rfl rfl (ru .i64 1 n64)) ?_
 refine oV ?_
 refine nW (H:=H79) (i:=4) (ek:=pK) (ev:=pK) (l:=l23) ((⟨x69,(IntKind.i64.wrap (1 - n64))⟩:jT)) rfl rfl hS81 rfl rfl rfl rfl rfl rfl rfl rfl nD (λy82 h83=>?_) (λh84=>?_)
 refine bh ?_
 refine wz [(jQ b18),bY k52,iv y82.en,j8 a0.lines,bY a0.lines.l.length,bY k52,kN x59.elems,bY x59.elems.l.length,bY k61] H79 [] ?_
 refine qg ?_
 refine kD ?_
 refine ab ?_
 exact ⟨by omega,((put x69 n64 l62)),((put x69 (((k52:Int),(k61:Int))) l63)),y82.en,H79,hS81,atR⟩
 refine bh ?_
 refine wz [(jQ b18),bY k52,iv 0,j8 a0.lines,bY a0.lines.l.length,bY k52,kN x59.elems,bY x59.elems.l.length,bY k61] H79 [] ?_
 refine qg ?_
 refine kD ?_
 refine ab ?_
 exact ⟨by omega,((put x69 n64 l62)),((put x69 (((k52:Int),(k61:Int))) l63)),0,H79,hS81,atR⟩
 refine aj ?_
 refine wz [(jQ b18),j8 a0.lines,bY a0.lines.l.length,bY k52] H65 [] ?_
 refine qg ?_
 refine kD ?_
 refine ab ?_
 exact ⟨by omega,l62,l63,H65,hS66,atR⟩
 refine ae ?_
 have hL85:=x59.elems.lk
 refine lu x59.elems ?_
 refine aC ?_
 have hNk86:=x59.elems.lk
 refine jW x59.elems.l.length (λk86 e h=>∃ l87:List (Int×Int),∃ l88:List (Int×(Int×Int)),∃ n89:Int,∃ H90:aT,Sep H90 (kO b18 [kB r5.elems,kC r5.kg,kF r5.signals,j8 r5.lines,iv r5.top,iv r5.kU,iv r5.kK,iv r5.kM,.bool r5.lq,(.hm b6),(.hm b9),(.hm b12),(.hm b15)]::ng b15 iK iK l87::ng b12 iK tg l88::ng b9 pK iK l43::ng b6 pK pK l23::[])/\At [5,10,12,75,76,77,110,111,112] [(jQ b18),bY k52,iv n89,j8 a0.lines,bY a0.lines.l.length,bY k52,kN x59.elems,bY x59.elems.l.length,bY k86] H90 [] e h) ?_ (k0:=0) eG ⟨l53,l54,0,H55,hS56,atR⟩
 rintro k86 e h hkk86 ⟨l87,l88,n89,H90,hS91,hA⟩
 refine aA ?_
 refine kx (λh92=>?_) (λh92=>?_)
 refine ak ?_
 refine wz [(jQ b18),bY k52,iv n89,j8 a0.lines,bY a0.lines.l.length,bY k52,kN x59.elems,bY x59.elems.l.length,bY k86] H90 [] ?_
 refine aw ?_
 have hx93:k86<x59.elems.l.length:=by omega
 refine ml k86 x59.elems hx93 ?_
 generalize hqx94:x59.elems.l[k86]=x94
 refine bu ?_
 refine cF ?_
 refine nF 0 hS91 ?_
 refine ni 0 hS91 ?_
 refine nX 0 hS91 ((.hm b12)) ?_
 refine aI ?_
 refine nF 0 hS91 ?_
 refine ni 0 hS91 ?_
 refine nX 0 hS91 ((.hm b15)) ?_
 refine bQ ?_
 refine lH rfl rfl (sr (H:=H90) (i:=2) (ek:=iK) (ev:=tg) (l:=l88) x94 (((k52:Int),(k86:Int))) hS91 rfl rfl rfl rfl rfl rfl rfl rfl rfl pB) ?_
 rintro _ H95 ⟨w96,n97,H98,rfl,hop99,hS100⟩
 refine rV ?_
 refine kp rfl rfl (λ_=>hop99 _ _ _ _ _ _ _ _ rfl rfl rfl) ?_
 refine lH rfl rfl (sr (H:=H98) (i:=1) (ek:=iK) (ev:=iK) (l:=l87) x94 n89 hS100 rfl rfl rfl rfl rfl rfl rfl rfl rfl pB) ?_
 rintro _ H101 ⟨w102,n103,H104,rfl,hop105,hS106⟩
 refine rV ?_
 refine kp rfl rfl (λ_=>hop105 _ _ _ _ _ _ _ _ rfl rfl rfl) ?_
 refine rN ?_
 refine aM ?_
 refine uj 0 hS106 ?_
 refine od 0 hS106 ?_
 refine m5 0 hS106 ((.hm b6)) ?_
 refine am ?_
 refine jP rfl (λ_=>me rfl rfl rfl (ru .i64 1 n89)) ?_
 refine oV ?_
 refine nW (H:=H104) (i:=4) (ek:=pK) (ev:=pK) (l:=l23) ((⟨x94,(IntKind.i64.wrap (1 - n89))⟩:jT)) rfl rfl hS106 rfl rfl rfl rfl rfl rfl rfl rfl nD (λy107 h108=>?_) (λh109=>?_)
 refine bh ?_
 refine wz [(jQ b18),bY k52,iv y107.en,j8 a0.lines,bY a0.lines.l.length,bY k52,kN x59.elems,bY x59.elems.l.length,bY k86] H104 [] ?_
 refine qg ?_
 refine kD ?_
 refine ab ?_
 exact ⟨by omega,((put x94 n89 l87)),((put x94 (((k52:Int),(k86:Int))) l88)),y107.en,H104,hS106,atR⟩
 refine bh ?_
 refine wz [(jQ b18),bY k52,iv 0,j8 a0.lines,bY a0.lines.l.length,bY k52,kN x59.elems,bY x59.elems.l.length,bY k86] H104 [] ?_
 refine qg ?_
 refine kD ?_
 refine ab ?_
 exact ⟨by omega,((put x94 n89 l87)),((put x94 (((k52:Int),(k86:Int))) l88)),0,H104,hS106,atR⟩
 refine aj ?_
 refine wz [(jQ b18),j8 a0.lines,bY a0.lines.l.length,bY k52] H90 [] ?_
 refine qg ?_
 refine kD ?_
 refine ab ?_
 exact ⟨by omega,l87,l88,H90,hS91,atR⟩
 refine ae ?_
 have hL110:=x59.elems.lk
 refine lu x59.elems ?_
 refine ma (λh111=>?_) (λh111=>?_)
 refine az ?_
 refine cF ?_
 refine nF 0 hS56 ?_
 refine ni 0 hS56 ?_
 refine nX 0 hS56 ((.hm b6)) ?_
 refine aI ?_
 have hx112:0<x59.elems.l.length:=by omega
 refine ph 0 x59.elems hx112 ?_
 generalize hqx113:x59.elems.l[0]=x113
 refine aI ?_
 refine KF (H:=H55) (i:=4) (ek:=pK) (ev:=pK) (l:=l23) ((⟨x113,0⟩:jT)) rfl rfl rfl hS56 rfl rfl rfl rfl rfl rfl rfl rfl nD (λy114 h115=>?_) (λh116=>?_)
 refine bP ?_
 refine aL ?_
 refine dp ?_
 have hx117:1<x59.elems.l.length:=by omega
 refine ph 1 x59.elems hx117 ?_
 generalize hqx118:x59.elems.l[1]=x118
 refine rV ?_
 refine xA (λh119=>?_) (λh119=>?_)
 refine c8 ?_
 refine qg ?_
 refine ab ?_
 exact .inl ⟨rfl,rfl⟩
 refine bA ?_
 exact .inr (⟨rfl,rfl⟩)
 refine bP ?_
 refine bS ?_
 iterate 7 refine rS ?_
 refine bA ?_
 exact .inr (⟨rfl,rfl⟩)
 refine ah ?_
 exact .inr (⟨rfl,rfl⟩)
 refine aj ?_
 refine wz [(jQ b18)] H55 [] ?_
 refine dh ?_
 have hz120:∀ m,freeze false { H55 with cH:=[] } (m+3) (.hm b6)=some (.fm (lE pK pK l23) false):=λm=>qt (i:=4) hS56 rfl _ _ (wT λ_=>rfl)
 have hz121:∀ m,freeze false { H55 with cH:=[] } (m+3) (.hm b9)=some (.fm (lE pK iK l43) false):=λm=>qt (i:=3) hS56 rfl _ _ (wT λ_=>rfl)
 have hz122:∀ m,freeze false { H55 with cH:=[] } (m+3) (.hm b12)=some (.fm (lE iK tg l54) false):=λm=>qt (i:=2) hS56 rfl _ _ (wT λ_=>rfl)
 have hz123:∀ m,freeze false { H55 with cH:=[] } (m+3) (.hm b15)=some (.fm (lE iK iK l53) false):=λm=>qt (i:=1) hS56 rfl _ _ (wT λ_=>rfl)
 have hz124:∀ m,freeze false { H55 with cH:=[] } (m+4) (jQ b18)=some (.ip [kB r5.elems,kC r5.kg,kF r5.signals,j8 r5.lines,iv r5.top,iv r5.kU,iv r5.kK,iv r5.kM,.bool r5.lq,.fm (lE pK pK l23) false,.fm (lE pK iK l43) false,.fm (lE iK tg l54) false,.fm (lE iK iK l53) false] 0 false):=λm=>mh (i:=0) hS56 rfl _ _ (by simp only [FZ,hz120,hz121,hz122,hz123])
 refine ⟨.kq [(jQ b18),iv 0],rfl,.kq [.ip [kB r5.elems,kC r5.kg,kF r5.signals,j8 r5.lines,iv r5.top,iv r5.kU,iv r5.kK,iv r5.kM,.bool r5.lq,.fm (lE pK pK l23) false,.fm (lE pK iK l43) false,.fm (lE iK tg l54) false,.fm (lE iK iK l53) false] 0 false,iv 0],(show freeze false { H55 with cH:=[] } 8 (.kq [(jQ b18),iv 0])=some (.kq [.ip [kB r5.elems,kC r5.kg,kF r5.signals,j8 r5.lines,iv r5.top,iv r5.kU,iv r5.kK,iv r5.kM,.bool r5.lq,.fm (lE pK pK l23) false,.fm (lE pK iK l43) false,.fm (lE iK tg l54) false,.fm (lE iK iK l53) false] 0 false,iv 0]) by simp only [FZ,hz120,hz121,hz122,hz123,hz124]),.inl ⟨(⟨r5,l23,l43,l54,l53⟩:iS),gI,rfl⟩⟩
def P31 (_a0:iF) (v:AV):Prop:=(∃ r0:iS,((ot r0 _a0)/\rs 31 [.agg (iF.ag _a0)]=.kq [.ip (iS.ag r0) 0 false,iv 0])/\v=.kq [.ip (iS.ag r0) 0 false,iv 0])\/(∃ r1:Int,((r1≠0)/\rs 31 [.agg (iF.ag _a0)]=.kq [.mn,iv r1])/\v=.kq [.mn,iv r1])
def t31 (a0:iF) (q1:mB a0) (h:aT):∃ v,ka cfg FT ko false 31 [.agg (iF.ag a0)] h v h/\P31 a0 v:=by
 obtain ⟨v,hc,hP,hr⟩:=nC pF (Qx a0 q1) h
 rcases hP with ⟨r0,hp,rfl⟩ | ⟨r1,hp,rfl⟩
 ·exact ⟨_,hc,.inl ⟨r0,⟨hp,hr⟩,rfl⟩⟩
 ·exact ⟨_,hc,.inr (⟨r1,⟨hp,hr⟩,rfl⟩)⟩
def Ml (a0:iF) (q1:mB a0) {V:AV} (hV:rs 31 [.agg (iF.ag a0)]=V) (h:aT):∃ v,ka cfg FT ko false 31 [.agg (iF.ag a0)] h v h/\v=V:=by
 obtain ⟨v,hc,hP,hr⟩:=nC pF (Qx a0 q1) h
 exact iC
def u72 {H:aT} (x:lP) (F:List lC) (hS:Sep H F) :∃ v H',ka cfg FT ko true 72 [.agg (lP.ag x)] { H with cH:=[] } v H'/\(∃ r0:Bool,(True)/\Sep H' (F)/\v=.bool r0):=by
 refine kW Mx ?_
 refine ai ?_
 refine aZ ?_
 refine lS (b:=x.auto) rfl (λ_=>rfl) (λh1=>?_) (λh1=>?_)
 refine af ?_
 have hS2:=Sep.pick hS [] 0 eB eB
 exact iy
 refine af ?_
 have hS3:=Sep.pick hS [] 0 eB eB
 exact jn
def Pb {H:aT} (l:jS lP) (F:List lC) (hS:Sep H F) :∃ v H',ka cfg FT ko true 140 [jS.av lP.ag l,.kY 72 [] []] { H with cH:=[] } v H'/\(∃ r0:Int,(True)/\Sep H' (F)/\v=iv r0):=by
 refine kW Ia ?_
 refine aY ?_
 have hL1:=l.lk
 refine jP rfl (λ_=>m8 (r:=l) (enc:=lP.ag) rfl rfl rfl rfl rfl rfl) ?_
 refine aC ?_
 have hNk2:=l.lk
 refine jW l.l.length (λk2 e h=>∃ H3:aT,Sep H3 (F)/\At [0,1,7,8] [jS.av lP.ag l,.kY 72 [] [],bY l.l.length,bY k2] H3 [] e h) ?_ (k0:=0) eG ⟨H,hS,atR⟩
 rintro k2 e h hkk2 ⟨H3,hS4,hA⟩
 refine aA ?_
 refine kx (λh5=>?_) (λh5=>?_)
 refine cT ?_
 refine a6 ?_
 have hx6:k2<l.l.length:=by omega
 refine jP rfl (λ_=>mJ (n:=k2) (r:=l) (enc:=lP.ag) rfl rfl rfl rfl rfl hx6 rfl) ?_
 generalize hqx7:l.l[k2]=x7
 have hinx7:x7∈l.l:=by rw [<- hqx7]; exact List.getElem_mem _
 have hmx7:=True.intro
 refine oV ?_
 refine kI (H:=H3) (args:=[.agg (lP.ag x7)]) (p:=[]) (r:=[]) rfl rfl rfl rfl rfl rfl rfl (u72 x7 F hS4) ?_
 rintro _ H9 ⟨r12,hc11,hS10,rfl⟩
 cases r12
 refine bU ?_
 refine kD ?_
 refine ab ?_
 exact iR
 refine aJ ?_
 have hS13:=Sep.pick hS10 [] 0 eB eB
 exact iT
 refine aS ?_
 have hS14:=Sep.pick hS4 [] 0 eB eB
 exact iU
def PY {H:aT} (l:jS lP) (F:List lC) (hS:Sep H F) :∃ v H',ka cfg FT ko true 71 [jS.av lP.ag l,.kY 72 [] []] { H with cH:=[] } v H'/\(∃ r0:Bool,(True)/\Sep H' (F)/\v=.bool r0):=by
 refine kW Md ?_
 refine cX ?_
 refine kI (H:=H) (args:=[jS.av lP.ag l,.kY 72 [] []]) (p:=[]) (r:=[]) rfl rfl rfl rfl rfl rfl rfl (Pb l F hS) ?_
 rintro _ H2 ⟨r5,hc4,hS3,rfl⟩
 refine mV (λh6=>?_) (λh6=>?_)
 refine af ?_
 have hS7:=Sep.pick hS3 [] 0 eB eB
 exact ij
 refine af ?_
 have hS8:=Sep.pick hS3 [] 0 eB eB
 exact ik
def YC (_a0:Int) (_a1:Int) (v:AV):Prop:=∃ r0:Bool,(True)/\v=.bool r0
def t239 (a0:Int) (a1:Int) :Ct 239 [iv a0,iv a1] (YC a0 a1):=by
 refine j9 GL ?_
 refine aa ?_
 refine aZ ?_
 refine mV (λh1=>?_) (λh1=>?_)
 refine aF ?_
 refine s5 (λh2=>?_) (λh2=>?_)
 refine aR ?_
 exact io
 refine aR ?_
 exact iq
 refine cm ?_
 refine aR ?_
 exact iq
def YX (_a0:j4) (v:AV):Prop:=∃ r0:Bool,(True)/\v=.bool r0
def t197 (a0:j4) :Ct 197 [.agg (j4.ag a0)] (YX a0):=by
 refine j9 Jb ?_
 refine dE ?_
 refine oC (t127 a0.name) ?_
 rintro _ ⟨r2,⟨hc1,hc1r⟩,rfl⟩
 cases r2
 refine cm ?_
 refine cg ?_
 refine aE ?_
 refine aR ?_
 exact iq
 refine aF ?_
 refine oC (t239 a0.len 4000) ?_
 rintro _ ⟨r4,hc3,rfl⟩
 cases r4
 refine cg ?_
 refine aE ?_
 refine aR ?_
 exact iq
 refine aK ?_
 refine oC (t239 a0.top 60) ?_
 rintro _ ⟨r6,hc5,rfl⟩
 cases r6
 refine aE ?_
 refine aR ?_
 exact iq
 refine aK ?_
 refine oC (t239 a0.acc 10) ?_
 rintro _ ⟨r8,hc7,rfl⟩
 cases r8
 refine cg ?_
 refine aR ?_
 exact iq
 refine aK ?_
 refine oC (t239 a0.kU 10) ?_
 rintro _ ⟨r10,hc9,rfl⟩
 cases r10
 refine aR ?_
 exact iq
 refine aR ?_
 exact io
def Xa (_a0:Row j4) (v:AV):Prop:=∃ r0:Int,(True)/\v=iv r0
def t124 (a0:Row j4) :Ct 124 [kj a0] (Xa a0):=by
 refine j9 GR ?_
 refine bI ?_
 refine tW ?_
 refine aq ?_
 have hL1:=a0.lk
 refine lu a0 ?_
 refine ma (λh2=>?_) (λh2=>?_)
 refine aW ?_
 exact iw
 refine ah ?_
 refine bI ?_
 refine qq ?_
 refine ql ?_
 refine aq ?_
 have hL3:=a0.lk
 refine cN ?_
 have hNk4:=a0.lk
 refine jW a0.l.length (λk4 e h=>∃ n5:Int,At [0,3,11,12,13] [kj a0,iv n5,kj a0,bY a0.l.length,bY k4] aT.empty [] e h) ?_ (k0:=0) eG ⟨0,atR⟩
 rintro k4 e h hkk4 ⟨n5,hA⟩
 refine aA ?_
 refine kx (λh6=>?_) (λh6=>?_)
 refine d7 ?_
 have hx7:k4<a0.l.length:=by omega
 refine ml k4 a0 hx7 ?_
 generalize hqx8:a0.l[k4]=x8
 refine aF ?_
 refine ao ?_
 refine oC (t197 x8) ?_
 rintro _ ⟨r10,hc9,rfl⟩
 cases r10
 refine au ?_
 exact xB ⟨1,zt⟩
 refine oV ?_
 refine dz ?_
 have hx11:k4<=a0.l.length:=by omega
 refine jP rfl (λ_=>xw (k:=k4) (r:=a0) (enc:=j4.ag) (n:=5) rfl rfl rfl rfl rfl rfl hx11 (λ_=>rfl)) ?_
 have hL12:=(Row.take a0 k4).lk
 refine lu ((Row.take a0 k4)) ?_
 refine aC ?_
 have hNk13:=(Row.take a0 k4).lk
 refine jW ((Row.take a0 k4).l.length) (λk13 e h=>At [0,3,5,11,12,13,23,24,25] [kj a0,iv n5,.la 5 0,kj a0,bY a0.l.length,bY k4,kj (Row.take a0 k4),iv ((Row.take a0 k4).l.length:Int),bY k13] aT.empty [(5,(j4.ag x8))] e h) ?_ (k0:=0) eG atR
 rintro k13 e h hkk13 hA
 refine aA ?_
 refine kx (λh14=>?_) (λh14=>?_)
 refine bC ?_
 have hx15:k13<(Row.take a0 k4).l.length:=by omega
 refine ml k13 ((Row.take a0 k4)) hx15 ?_
 generalize hqx16:(Row.take a0 k4).l[k13]=x16
 refine bu ?_
 refine bL ?_
 refine oZ rfl (λ_=>sv rfl rfl) (λh17=>?_) (λh17=>?_)
 refine az ?_
 refine bI ?_
 refine qe ?_
 refine qg ?_
 refine kD ?_
 refine ab ?_
 exact ⟨by omega,4,atR⟩
 refine bU ?_
 refine kD ?_
 refine ab ?_
 exact ic
 refine aj ?_
 refine qg ?_
 refine kD ?_
 refine ab ?_
 exact ⟨by omega,n5,atR⟩
 refine aj ?_
 refine bR ?_
 exact xB ⟨n5,zt⟩
def WC {H:aT} (b:Nat) (pp:iF) (x:j4) (F:List lC) (hS:Sep H (kO b (iF.ag pp)::F)) :∃ v H',ka cfg FT ko true 126 [.agg (j4.ag x),(jQ b)] { H with cH:=[] } v H'/\(∃ r0:Bool,(True)/\Sep H' (kO b (iF.ag pp)::F)/\v=.bool r0):=by
 refine kW Hs ?_
 refine dE ?_
 refine od 0 hS ?_
 refine m5 0 hS (iv pp.top) ?_
 refine ma (λh1=>?_) (λh1=>?_)
 refine ck ?_
 refine aR ?_
 have hS2:=Sep.pick hS [0] 1 eB eB
 exact iy
 refine aF ?_
 refine od 0 hS ?_
 refine m5 0 hS (iv pp.kU) ?_
 refine kx (λh3=>?_) (λh3=>?_)
 refine aR ?_
 have hS4:=Sep.pick hS [0] 1 eB eB
 exact iz
 refine aR ?_
 have hS5:=Sep.pick hS [0] 1 eB eB
 exact iA
def Lk {H:aT} (l:jS j4) (b:Nat) (pp:iF) (F:List lC) (hS:Sep H (kO b (iF.ag pp)::F)) :∃ v H',ka cfg FT ko true 198 [jS.av j4.ag l,.kY 126 [] [(jQ b)]] { H with cH:=[] } v H'/\(∃ r0:Int,(True)/\Sep H' (kO b (iF.ag pp)::F)/\v=iv r0):=by
 refine kW Gj ?_
 refine aY ?_
 have hL1:=l.lk
 refine jP rfl (λ_=>m8 (r:=l) (enc:=j4.ag) rfl rfl rfl rfl rfl rfl) ?_
 refine aC ?_
 have hNk2:=l.lk
 refine jW l.l.length (λk2 e h=>∃ H3:aT,Sep H3 (kO b (iF.ag pp)::F)/\At [0,1,7,8] [jS.av j4.ag l,.kY 126 [] [(jQ b)],bY l.l.length,bY k2] H3 [] e h) ?_ (k0:=0) eG ⟨H,hS,atR⟩
 rintro k2 e h hkk2 ⟨H3,hS4,hA⟩
 refine aA ?_
 refine kx (λh5=>?_) (λh5=>?_)
 refine cT ?_
 refine a6 ?_
 have hx6:k2<l.l.length:=by omega
 refine jP rfl (λ_=>mJ (n:=k2) (r:=l) (enc:=j4.ag) rfl rfl rfl rfl rfl hx6 rfl) ?_
 generalize hqx7:l.l[k2]=x7
 have hinx7:x7∈l.l:=by rw [<- hqx7]; exact List.getElem_mem _
 have hmx7:=True.intro
 refine oV ?_
 have hS8:=Sep.pick hS4 [0] 1 eB eB
 refine kI (H:=H3) (args:=[.agg (j4.ag x7)]) (p:=[]) (r:=[(jQ b)]) rfl rfl rfl rfl rfl rfl rfl (WC b pp x7 F hS8) ?_
 rintro _ H9 ⟨r12,hc11,hS10,rfl⟩
 cases r12
 refine bU ?_
 refine kD ?_
 refine ab ?_
 exact iR
 refine aJ ?_
 have hS13:=Sep.pick hS10 [0] 1 eB eB
 exact iT
 refine aS ?_
 have hS14:=Sep.pick hS4 [0] 1 eB eB
 exact iU
def LZ {H:aT} (l:jS j4) (b:Nat) (pp:iF) (F:List lC) (hS:Sep H (kO b (iF.ag pp)::F)) :∃ v H',ka cfg FT ko true 125 [jS.av j4.ag l,.kY 126 [] [(jQ b)]] { H with cH:=[] } v H'/\(∃ r0:Bool,(True)/\Sep H' (kO b (iF.ag pp)::F)/\v=.bool r0):=by
 refine kW GB ?_
 refine cX ?_
 have hS1:=Sep.pick hS [0] 1 eB eB
 refine kI (H:=H) (args:=[jS.av j4.ag l,.kY 126 [] [(jQ b)]]) (p:=[]) (r:=[]) rfl rfl rfl rfl rfl rfl rfl (Lk l b pp F hS1) ?_
 rintro _ H2 ⟨r5,hc4,hS3,rfl⟩
 refine mV (λh6=>?_) (λh6=>?_)
 refine af ?_
 have hS7:=Sep.pick hS3 [0] 1 eB eB
 exact ij
 refine af ?_
 have hS8:=Sep.pick hS3 [0] 1 eB eB
 exact ik
def W0 (_a0:iF) (_a1:Row j4) (v:AV):Prop:=∃ r0:Int,(True)/\v=iv r0
def QD (a0:iF) (a1:Row j4) :Ct 60 [.agg (iF.ag a0),kj a1] (W0 a0 a1):=by
 refine j9 LU ?_
 refine cb ?_
 rintro _ H2 ⟨b1,rfl,hS3⟩
 refine ao ?_
 refine oC (t124 a1) ?_
 rintro _ ⟨r5,hc4,rfl⟩
 refine aZ ?_
 refine lR (λh6=>?_) (λh6=>?_)
 refine aJ ?_
 exact xB ⟨r5,zt⟩
 refine ah ?_
 refine wz [kj a1,(jQ b1)] H2 [] ?_
 refine aq ?_
 refine jP rfl (λ_=>sf rfl rfl (rY rfl rfl)) ?_
 have hS7:=Sep.pick hS3 [0] 1 eB eB
 refine kI (H:=H2) (args:=[kj a1,.kY 126 [] [(jQ b1)]]) (p:=[]) (r:=[]) rfl rfl rfl rfl rfl rfl rfl (LZ (Row.mg a1) b1 a0 ([]) hS7) ?_
 rintro _ H8 ⟨r11,hc10,hS9,rfl⟩
 cases r11
 refine ah ?_
 refine wz [] H8 [] ?_
 refine aU ?_
 exact iQ
 refine aW ?_
 exact xB ⟨9,zt⟩
def P60 (_a0:iF) (_a1:Row j4) (v:AV):Prop:=∃ r0:Int,((True)/\rs 60 [.agg (iF.ag _a0),kj _a1]=iv r0)/\v=iv r0
def t60 (a0:iF) (a1:Row j4)  (h:aT):∃ v,ka cfg FT ko false 60 [.agg (iF.ag a0),kj a1] h v h/\P60 a0 a1 v:=by
 obtain ⟨v,hc,hP,hr⟩:=nC pF (QD a0 a1) h
 obtain ⟨r0,hp,rfl⟩:=hP
 exact iB
def Ze (a0:iF) (a1:Row j4)  {V:AV} (hV:rs 60 [.agg (iF.ag a0),kj a1]=V) (h:aT):∃ v,ka cfg FT ko false 60 [.agg (iF.ag a0),kj a1] h v h/\v=V:=by
 obtain ⟨v,hc,hP,hr⟩:=nC pF (QD a0 a1) h
 exact iC
def Xh {H:aT} (x:lj) (F:List lC) (hS:Sep H F) :∃ v H',ka cfg FT ko true 142 [.agg (lj.ag x)] { H with cH:=[] } v H'/\(∃ r0:Bool,(True)/\Sep H' (F)/\v=.bool r0):=by
 refine kW I1 ?_
 refine dE ?_
 have hL1:=x.kH.lk
 refine lu x.kH ?_
 refine ma (λh2=>?_) (λh2=>?_)
 refine af ?_
 have hS3:=Sep.pick hS [] 0 eB eB
 exact ⟨.bool true,rfl,true,zT,Sep.cH hS3 _,rfl⟩
 refine af ?_
 have hS4:=Sep.pick hS [] 0 eB eB
 exact ig
def XA (_a0:Int) (_a1:Int) (v:AV):Prop:=∃ r0:Bool,(((r0=true->0<=_a0/\_a0<=_a1)/\(r0=false->¬(0<=_a0/\_a0<=_a1))))/\v=.bool r0
def t143 (a0:Int) (a1:Int) :Ct 143 [iv a0,iv a1] (XA a0 a1):=by
 refine j9 JA ?_
 refine aa ?_
 refine aZ ?_
 refine mV (λh1=>?_) (λh1=>?_)
 refine aF ?_
 refine s5 (λh2=>?_) (λh2=>?_)
 refine aR ?_
 exact xB ⟨true,gp,rfl⟩
 refine aR ?_
 exact xB ⟨false,gp,rfl⟩
 refine cm ?_
 refine aR ?_
 exact xB ⟨false,gp,rfl⟩
def Yq (_a0:iF) (_a1:Int) (v:AV):Prop:=∃ r0:Int,(True)/\v=iv r0
def t243 (a0:iF) (a1:Int) :Ct 243 [.agg (iF.ag a0),iv a1] (Yq a0 a1):=by
 refine j9 IN ?_
 refine bT ?_
 refine cW ?_
 have hL1:=a0.elems.lk
 refine lu a0.elems ?_
 have hL2:=a0.elems.lk
 refine pL ?_
 refine oC (t143 a1 ((a0.elems.l.length:Int) - 1)) ?_
 rintro _ ⟨r4,hc3,rfl⟩
 have hI:=hc3
 cases r4
 refine au ?_
 exact iQ
 have hIn:=hI.1 rfl
 refine aH ?_
 refine a6 ?_
 have hx5:(a1).toNat<a0.elems.l.length:=by omega
 refine jP rfl (λ_=>ld (n:=a1) (r:=a0.elems) (enc:=lV.ag) rfl rfl rfl rfl rfl eG hx5 rfl) ?_
 generalize hqx6:a0.elems.l[(a1).toNat]=x6
 refine bO ?_
 exact xB ⟨x6.kind,zt⟩
def WD (_a0:iF) (_a1:lU) (v:AV):Prop:=∃ r0:Bool,(True)/\v=.bool r0
def t212 (a0:iF) (a1:lU) :Ct 212 [.agg (iF.ag a0),.agg (lU.ag a1)] (WD a0 a1):=by
 refine j9 GO ?_
 refine co ?_
 refine aX ?_
 refine dv ?_
 refine kR (λh1=>?_) (λh1=>?_)
 refine be ?_
 refine bL ?_
 have hL2:=a0.signals.lk
 refine lu a0.signals ?_
 have hL3:=a0.signals.lk
 refine pL ?_
 refine oC (t143 a1.to ((a0.signals.l.length:Int) - 1)) ?_
 rintro _ ⟨r5,hc4,rfl⟩
 have hI:=hc4
 cases r5
 refine af ?_
 exact iq
 have hIn:=hI.1 rfl
 refine af ?_
 exact io
 refine br ?_
 refine kR (λh6=>?_) (λh6=>?_)
 refine be ?_
 refine a6 ?_
 refine oC (t243 a0 a1.to) ?_
 rintro _ ⟨r8,hc7,rfl⟩
 refine kR (λh9=>?_) (λh9=>?_)
 refine af ?_
 exact io
 refine af ?_
 exact iq
 refine br ?_
 refine kR (λh10=>?_) (λh10=>?_)
 refine be ?_
 refine a6 ?_
 refine oC (t243 a0 a1.to) ?_
 rintro _ ⟨r12,hc11,rfl⟩
 refine kR (λh13=>?_) (λh13=>?_)
 refine af ?_
 exact io
 refine af ?_
 exact iq
 refine aH ?_
 refine aU ?_
 exact iq
def X2 (_a0:iF) (_a1:jV) (_a2:lj) (v:AV):Prop:=∃ r0:Bool,((r0=true->(rs 127 [.str _a2.name.l]=.bool true/\0<=_a2.j3/\_a2.j3<(_a1.j3.l.length:Int)/\0<=_a2.from_/\_a2.from_<(_a0.signals.l.length:Int))))/\v=.bool r0
def t145 (a0:iF) (a1:jV) (a2:lj) :Ct 145 [.agg (iF.ag a0),.agg (jV.ag a1),.agg (lj.ag a2)] (X2 a0 a1 a2):=by
 refine j9 Jm ?_
 refine aa ?_
 refine bZ ?_
 refine aX ?_
 refine oC (t127 a2.name) ?_
 rintro _ ⟨r2,⟨hc1,hc1r⟩,rfl⟩
 cases r2
 refine cY ?_
 refine cY ?_
 refine ce ?_
 exact iV
 refine cr ?_
 have hL3:=a1.j3.lk
 refine lu a1.j3 ?_
 have hL4:=a1.j3.lk
 refine pL ?_
 refine oC (t143 a2.j3 ((a1.j3.l.length:Int) - 1)) ?_
 rintro _ ⟨r6,hc5,rfl⟩
 have hI:=hc5
 cases r6
 refine oV ?_
 refine cY ?_
 refine ce ?_
 exact iV
 have hIn:=hI.1 rfl
 iterate 7 refine oV ?_
 have hL7:=a0.signals.lk
 refine lu a0.signals ?_
 have hL8:=a0.signals.lk
 refine pL ?_
 refine oC (t143 a2.from_ ((a0.signals.l.length:Int) - 1)) ?_
 rintro _ ⟨r10,hc9,rfl⟩
 have hI:=hc9
 cases r10
 refine oV ?_
 refine ce ?_
 exact iV
 have hIn:=hI.1 rfl
 refine aP ?_
 refine oC (t143 a2.left 4000) ?_
 rintro _ ⟨r12,hc11,rfl⟩
 have hI:=hc11
 cases r12
 refine bJ ?_
 exact iV
 have hIn:=hI.1 rfl
 refine dt ?_
 refine dJ ?_
 have hL13:=a2.kH.lk
 refine lu a2.kH ?_
 refine aC ?_
 have hNk14:=a2.kH.lk
 refine jW a2.kH.l.length (λk14 e h=>∃ n15:Int,At [3,7,41,42,43] [.la 3 0,iv n15,nQ a2.kH,bY a2.kH.l.length,bY k14] aT.empty [(3,(iF.ag a0))] e h) ?_ (k0:=0) eG ⟨0,atR⟩
 rintro k14 e h hkk14 ⟨n15,hA⟩
 refine aA ?_
 refine kx (λh16=>?_) (λh16=>?_)
 refine bC ?_
 have hx17:k14<a2.kH.l.length:=by omega
 refine ml k14 a2.kH hx17 ?_
 generalize hqx18:a2.kH.l[k14]=x18
 refine bu ?_
 refine aX ?_
 refine oC (t143 x18.at_ 2000) ?_
 rintro _ ⟨r20,hc19,rfl⟩
 have hI:=hc19
 cases r20
 refine aQ ?_
 refine ce ?_
 exact iV
 have hIn:=hI.1 rfl
 refine aP ?_
 refine kx (λh21=>?_) (λh21=>?_)
 refine ce ?_
 exact iV
 refine aK ?_
 refine oC (t212 a0 x18) ?_
 rintro _ ⟨r23,hc22,rfl⟩
 cases r23
 refine bJ ?_
 exact iV
 refine dt ?_
 refine bz ?_
 refine dY ?_
 refine kD ?_
 refine ab ?_
 exact ⟨by omega,x18.at_,atR⟩
 refine aS ?_
 exact xB ⟨true,fc,rfl⟩
def Y5 {H:aT} (b:Nat) (pp:iF) (b2:Nat) (dd:jV) (x:lj) (F:List lC) (hS:Sep H (kO b (iF.ag pp)::kO b2 (jV.ag dd)::F)) :∃ v H',ka cfg FT ko true 144 [.agg (lj.ag x),(jQ b),(jQ b2)] { H with cH:=[] } v H'/\(∃ r0:Bool,((r0=false->¬ (¬ (rs 127 [.str x.name.l]=.bool true/\0<=x.j3/\x.j3<(dd.j3.l.length:Int)/\0<=x.from_/\x.from_<(pp.signals.l.length:Int)))))/\Sep H' (kO b (iF.ag pp)::kO b2 (jV.ag dd)::F)/\v=.bool r0):=by
 refine kW HT ?_
 refine bT ?_
 refine aa ?_
 refine m5 0 hS (.agg (iF.ag pp)) ?_
 refine m5 1 hS (.agg (jV.ag dd)) ?_
 refine oV ?_
 refine oC (t145 pp dd x) ?_
 rintro _ ⟨r2,hc1,rfl⟩
 cases r2
 clear hc1
 refine aR ?_
 have hS3:=Sep.pick hS [0,1] 2 eB eB
 exact ⟨.bool true,rfl,true,gZ,Sep.cH hS3 _,rfl⟩
 have hc1t:=hc1 rfl
 refine aR ?_
 have hS4:=Sep.pick hS [0,1] 2 eB eB
 exact ⟨.bool false,rfl,false,gZ,Sep.cH hS4 _,rfl⟩
def Yn {H:aT} (b:Nat) (rr:lj) (x:lj) (F:List lC) (hS:Sep H (kO b (lj.ag rr)::F)) :∃ v H',ka cfg FT ko true 146 [.agg (lj.ag x),(jQ b)] { H with cH:=[] } v H'/\(∃ r0:Bool,(((r0=true->x.name.l=rr.name.l)/\(r0=false->¬ (x.name.l=rr.name.l))))/\Sep H' (kO b (lj.ag rr)::F)/\v=.bool r0):=by
 refine kW He ?_
 refine dE ?_
 refine od 0 hS ?_
 refine m5 0 hS (.str rr.name.l) ?_
 refine oZ rfl (λ_=>sv rfl rfl) (λh1=>?_) (λh1=>?_)
 refine af ?_
 have hS2:=Sep.pick hS [0] 1 eB eB
 exact iG
 refine af ?_
 have hS3:=Sep.pick hS [0] 1 eB eB
 exact iH
def NS {H:aT} (l:jS lj) (F:List lC) (hS:Sep H F) :∃ v H',ka cfg FT ko true 211 [jS.av lj.ag l,.kY 142 [] []] { H with cH:=[] } v H'/\(∃ r0:Int,(True)/\Sep H' (F)/\v=iv r0):=by
 refine kW AH ?_
 refine aY ?_
 have hL1:=l.lk
 refine c6 ?_
 have hNk2:=l.lk
 refine jW l.l.length (λk2 e h=>∃ H3:aT,Sep H3 (F)/\At [0,1,7,8] [jS.av lj.ag l,.kY 142 [] [],bY l.l.length,bY k2] H3 [] e h) ?_ (k0:=0) eG ⟨H,hS,atR⟩
 rintro k2 e h hkk2 ⟨H3,hS4,hA⟩
 refine aA ?_
 refine kx (λh5=>?_) (λh5=>?_)
 refine cT ?_
 refine a6 ?_
 have hx6:k2<l.l.length:=by omega
 refine jP rfl (λ_=>mJ (n:=k2) (r:=l) (enc:=lj.ag) rfl rfl rfl rfl rfl hx6 rfl) ?_
 generalize hqx7:l.l[k2]=x7
 have hinx7:x7∈l.l:=by rw [<- hqx7]; exact List.getElem_mem _
 have hmx7:=True.intro
 refine oV ?_
 refine kI (H:=H3) (args:=[.agg (lj.ag x7)]) (p:=[]) (r:=[]) rfl rfl rfl rfl rfl rfl rfl (Xh x7 F hS4) ?_
 rintro _ H9 ⟨r12,hc11,hS10,rfl⟩
 cases r12
 refine bU ?_
 refine kD ?_
 refine ab ?_
 exact iR
 refine aJ ?_
 have hS13:=Sep.pick hS10 [] 0 eB eB
 exact iT
 refine aS ?_
 have hS14:=Sep.pick hS4 [] 0 eB eB
 exact iU
def Nv {H:aT} (l:jS lj) (b:Nat) (pp:iF) (b2:Nat) (dd:jV) (F:List lC) (hS:Sep H (kO b (iF.ag pp)::kO b2 (jV.ag dd)::F)) :∃ v H',ka cfg FT ko true 211 [jS.av lj.ag l,.kY 144 [] [(jQ b),(jQ b2)]] { H with cH:=[] } v H'/\(∃ r0:Int,(((0<=r0->True)/\(r0<0->∀ x∈l.l,¬ (¬ (rs 127 [.str x.name.l]=.bool true/\0<=x.j3/\x.j3<(dd.j3.l.length:Int)/\0<=x.from_/\x.from_<(pp.signals.l.length:Int))))))/\Sep H' (kO b (iF.ag pp)::kO b2 (jV.ag dd)::F)/\v=iv r0):=by
 refine kW AH ?_
 refine aY ?_
 have hL1:=l.lk
 refine c6 ?_
 have hNk2:=l.lk
 refine jW l.l.length (λk2 e h=>∃ H3:aT,(∀ (i:Nat) (h:i<l.l.length),i<k2->¬ (¬ (rs 127 [.str (l.l[i]).name.l]=.bool true/\0<=(l.l[i]).j3/\(l.l[i]).j3<(dd.j3.l.length:Int)/\0<=(l.l[i]).from_/\(l.l[i]).from_<(pp.signals.l.length:Int))))/\Sep H3 (kO b (iF.ag pp)::kO b2 (jV.ag dd)::F)/\At [0,1,7,8] [jS.av lj.ag l,.kY 144 [] [(jQ b),(jQ b2)],bY l.l.length,bY k2] H3 [] e h) ?_ (k0:=0) eG ⟨H,fT,hS,atR⟩
 rintro k2 e h hkk2 ⟨H3,hP,hS4,hA⟩
 refine aA ?_
 refine kx (λh5=>?_) (λh5=>?_)
 refine cT ?_
 refine a6 ?_
 have hx6:k2<l.l.length:=by omega
 refine jP rfl (λ_=>mJ (n:=k2) (r:=l) (enc:=lj.ag) rfl rfl rfl rfl rfl hx6 rfl) ?_
 generalize hqx7:l.l[k2]=x7
 have hinx7:x7∈l.l:=by rw [<- hqx7]; exact List.getElem_mem _
 have hmx7:=True.intro
 refine oV ?_
 have hS8:=Sep.pick hS4 [0,1] 2 eB eB
 refine kI (H:=H3) (args:=[.agg (lj.ag x7)]) (p:=[]) (r:=[(jQ b),(jQ b2)]) rfl rfl rfl rfl rfl rfl rfl (Y5 b pp b2 dd x7 F hS8) ?_
 rintro _ H9 ⟨r12,hc11,hS10,rfl⟩
 have hB:=hc11
 cases r12
 refine bU ?_
 refine kD ?_
 refine ab ?_
 exact ⟨by omega,H9,(by exact rm (P:=λx:lj=>¬ (¬ (rs 127 [.str x.name.l]=.bool true/\0<=x.j3/\x.j3<(dd.j3.l.length:Int)/\0<=x.from_/\x.from_<(pp.signals.l.length:Int)))) ez hP (hB rfl)),hS10,atR⟩
 refine aJ ?_
 have hS13:=Sep.pick hS10 [0,1] 2 eB eB
 exact jh
 refine aS ?_
 have hS14:=Sep.pick hS4 [0,1] 2 eB eB
 exact ji
def Mq {H:aT} (l:jS lj) (b:Nat) (rr:lj) (F:List lC) (hS:Sep H (kO b (lj.ag rr)::F)) :∃ v H',ka cfg FT ko true 211 [jS.av lj.ag l,.kY 146 [] [(jQ b)]] { H with cH:=[] } v H'/\(∃ r0:Int,(((0<=r0->∃ x∈l.l,x.name.l=rr.name.l)/\(r0<0->∀ x∈l.l,¬ (x.name.l=rr.name.l))))/\Sep H' (kO b (lj.ag rr)::F)/\v=iv r0):=by
 refine kW AH ?_
 refine aY ?_
 have hL1:=l.lk
 refine c6 ?_
 have hNk2:=l.lk
 refine jW l.l.length (λk2 e h=>∃ H3:aT,(∀ (i:Nat) (h:i<l.l.length),i<k2->¬ ((l.l[i]).name.l=rr.name.l))/\Sep H3 (kO b (lj.ag rr)::F)/\At [0,1,7,8] [jS.av lj.ag l,.kY 146 [] [(jQ b)],bY l.l.length,bY k2] H3 [] e h) ?_ (k0:=0) eG ⟨H,fT,hS,atR⟩
 rintro k2 e h hkk2 ⟨H3,hP,hS4,hA⟩
 refine aA ?_
 refine kx (λh5=>?_) (λh5=>?_)
 refine cT ?_
 refine a6 ?_
 have hx6:k2<l.l.length:=by omega
 refine jP rfl (λ_=>mJ (n:=k2) (r:=l) (enc:=lj.ag) rfl rfl rfl rfl rfl hx6 rfl) ?_
 generalize hqx7:l.l[k2]=x7
 have hinx7:x7∈l.l:=by rw [<- hqx7]; exact List.getElem_mem _
 have hmx7:=True.intro
 refine oV ?_
 have hS8:=Sep.pick hS4 [0] 1 eB eB
 refine kI (H:=H3) (args:=[.agg (lj.ag x7)]) (p:=[]) (r:=[(jQ b)]) rfl rfl rfl rfl rfl rfl rfl (Yn b rr x7 F hS8) ?_
 rintro _ H9 ⟨r12,hc11,hS10,rfl⟩
 have hB:=hc11
 cases r12
 refine bU ?_
 refine kD ?_
 refine ab ?_
 exact ⟨by omega,H9,(by exact rm (P:=λx:lj=>¬ (x.name.l=rr.name.l)) ez hP (hB.2 rfl)),hS10,atR⟩
 refine aJ ?_
 have hS13:=Sep.pick hS10 [0] 1 eB eB
 exact jh
 refine aS ?_
 have hS14:=Sep.pick hS4 [0] 1 eB eB
 exact ji
def MB {H:aT} (l:jS lj) (F:List lC) (hS:Sep H F) :∃ v H',ka cfg FT ko true 141 [jS.av lj.ag l,.kY 142 [] []] { H with cH:=[] } v H'/\(∃ r0:Bool,(True)/\Sep H' (F)/\v=.bool r0):=by
 refine kW Bn ?_
 refine cX ?_
 refine kI (H:=H) (args:=[jS.av lj.ag l,.kY 142 [] []]) (p:=[]) (r:=[]) rfl rfl rfl rfl rfl rfl rfl (NS l F hS) ?_
 rintro _ H2 ⟨r5,hc4,hS3,rfl⟩
 refine mV (λh6=>?_) (λh6=>?_)
 refine af ?_
 have hS7:=Sep.pick hS3 [] 0 eB eB
 exact ij
 refine af ?_
 have hS8:=Sep.pick hS3 [] 0 eB eB
 exact ik
def Mj {H:aT} (l:jS lj) (b:Nat) (pp:iF) (b2:Nat) (dd:jV) (F:List lC) (hS:Sep H (kO b (iF.ag pp)::kO b2 (jV.ag dd)::F)) :∃ v H',ka cfg FT ko true 141 [jS.av lj.ag l,.kY 144 [] [(jQ b),(jQ b2)]] { H with cH:=[] } v H'/\(∃ r0:Bool,(((r0=true->True)/\(r0=false->∀ x∈l.l,¬ (¬ (rs 127 [.str x.name.l]=.bool true/\0<=x.j3/\x.j3<(dd.j3.l.length:Int)/\0<=x.from_/\x.from_<(pp.signals.l.length:Int))))))/\Sep H' (kO b (iF.ag pp)::kO b2 (jV.ag dd)::F)/\v=.bool r0):=by
 refine kW Bn ?_
 refine cX ?_
 have hS1:=Sep.pick hS [0,1] 2 eB eB
 refine kI (H:=H) (args:=[jS.av lj.ag l,.kY 144 [] [(jQ b),(jQ b2)]]) (p:=[]) (r:=[]) rfl rfl rfl rfl rfl rfl rfl (Nv l b pp b2 dd F hS1) ?_
 rintro _ H2 ⟨r5,hc4,hS3,rfl⟩
 have hIx:=hc4
 refine mV (λh6=>?_) (λh6=>?_)
 refine af ?_
 have hS7:=Sep.pick hS3 [0,1] 2 eB eB
 exact iD
 refine af ?_
 have hS8:=Sep.pick hS3 [0,1] 2 eB eB
 exact iE
def Li {H:aT} (l:jS lj) (b:Nat) (rr:lj) (F:List lC) (hS:Sep H (kO b (lj.ag rr)::F)) :∃ v H',ka cfg FT ko true 141 [jS.av lj.ag l,.kY 146 [] [(jQ b)]] { H with cH:=[] } v H'/\(∃ r0:Bool,(((r0=true->∃ x∈l.l,x.name.l=rr.name.l)/\(r0=false->∀ x∈l.l,¬ (x.name.l=rr.name.l))))/\Sep H' (kO b (lj.ag rr)::F)/\v=.bool r0):=by
 refine kW Bn ?_
 refine cX ?_
 have hS1:=Sep.pick hS [0] 1 eB eB
 refine kI (H:=H) (args:=[jS.av lj.ag l,.kY 146 [] [(jQ b)]]) (p:=[]) (r:=[]) rfl rfl rfl rfl rfl rfl rfl (Mq l b rr F hS1) ?_
 rintro _ H2 ⟨r5,hc4,hS3,rfl⟩
 have hIx:=hc4
 refine mV (λh6=>?_) (λh6=>?_)
 refine af ?_
 have hS7:=Sep.pick hS3 [0] 1 eB eB
 exact iD
 refine af ?_
 have hS8:=Sep.pick hS3 [0] 1 eB eB
 exact iE
def P73 (_a0:iF) (_a1:jV) (v:AV):Prop:=∃ r0:Int,((r0=0->(rs 60 [.agg (iF.ag _a0),kj _a1.j3]=iv 0/\(∀ r∈_a1.runs.l,(rs 127 [.str r.name.l]=.bool true/\0<=r.j3/\r.j3<(_a1.j3.l.length:Int)/\0<=r.from_/\r.from_<(_a0.signals.l.length:Int)))/\(∀ (i j:Nat) (h:j < _a1.runs.l.length) (hij:i<j),j < _a1.runs.l.length->(_a1.runs.l[i]).name.l≠(_a1.runs.l[j]).name.l)/\_a1.runs.l.length<=8)))/\v=iv r0
def t73 (a0:iF) (a1:jV) :Ct 73 [.agg (iF.ag a0),.agg (jV.ag a1)] (P73 a0 a1):=by
 refine j9 MV ?_
 refine cb ?_
 rintro _ H2 ⟨b1,rfl,hS3⟩
 refine kn (H:=H2) rfl (mP hS3 rfl rfl rfl rfl rfl) ?_
 rintro _ H5 ⟨b4,rfl,hS6⟩
 refine ab ?_
 refine dK ?_
 refine od 0 hS6 ?_
 refine m5 0 hS6 (mc a1.runs) ?_
 have hL7:=a1.runs.lk
 refine lu a1.runs ?_
 refine ma (λh8=>?_) (λh8=>?_)
 refine cm ?_
 refine au ?_
 exact xB ⟨3,eX,rfl⟩
 refine oV ?_
 refine od 0 hS6 ?_
 refine m5 0 hS6 (mc a1.runs) ?_
 have hS9:=Sep.pick hS6 [0,1] 2 eB eB
 refine kI (H:=H5) (args:=[mc a1.runs,.kY 142 [] []]) (p:=[]) (r:=[]) rfl rfl rfl rfl rfl rfl rfl (MB (Row.mg a1.runs) (kO b4 (jV.ag a1)::kO b1 (iF.ag a0)::[]) hS9) ?_
 rintro _ H10 ⟨r13,hc12,hS11,rfl⟩
 cases r13
 refine aH ?_
 refine wz [(jQ b1),(jQ b4)] H10 [] ?_
 refine dK ?_
 refine m5 1 hS11 (.agg (iF.ag a0)) ?_
 refine od 0 hS11 ?_
 refine m5 0 hS11 (kj a1.j3) ?_
 refine oC (t60 a0 a1.j3) ?_
 rintro _ ⟨r15,⟨hc14,hc14r⟩,rfl⟩
 have hSC:=hc14r
 refine aZ ?_
 refine lR (λh16=>?_) (λh16=>?_)
 refine aJ ?_
 exact xB ⟨r15,eX,rfl⟩
 refine ah ?_
 refine wz [(jQ b1),(jQ b4)] H10 [] ?_
 refine dK ?_
 refine od 0 hS11 ?_
 refine m5 0 hS11 (iv a1.mR) ?_
 refine oC (t143 a1.mR 86399) ?_
 rintro _ ⟨r18,hc17,rfl⟩
 have hI:=hc17
 cases r18
 refine ce ?_
 exact xB ⟨1,eX,rfl⟩
 have hIn:=hI.1 rfl
 refine am ?_
 refine od 0 hS11 ?_
 refine m5 0 hS11 (mc a1.runs) ?_
 refine jP rfl (λ_=>sf rfl rfl (rY rfl rfl)) ?_
 have hS19:=Sep.pick hS11 [1,0] 2 eB eB
 refine kI (H:=H10) (args:=[mc a1.runs,.kY 144 [] [(jQ b1),(jQ b4)]]) (p:=[]) (r:=[]) rfl rfl rfl rfl rfl rfl rfl (Mj (Row.mg a1.runs) b1 a0 b4 a1 ([]) hS19) ?_
 rintro _ H20 ⟨r23,hc22,hS21,rfl⟩
 have hMy:=hc22
 cases r23
 refine aH ?_
 refine wz [(jQ b4)] H20 [] ?_
 refine dK ?_
 refine od 1 hS21 ?_
 refine m5 1 hS21 (mc a1.runs) ?_
 have hL24:=a1.runs.lk
 refine dG ?_
 have hS25:=Sep.pick hS21 [1] 2 eB eB
 have hNk26:=a1.runs.lk
 refine jW a1.runs.l.length (λk26 e h=>∃ H27:aT,(∀ (i j:Nat) (h:j<a1.runs.l.length) (hij:i<j),j<k26->(a1.runs.l[i]).name.l≠(a1.runs.l[j]).name.l)/\Sep H27 (kO b4 (jV.ag a1)::[])/\At [3,35,36,37] [(jQ b4),mc a1.runs,bY a1.runs.l.length,bY k26] H27 [] e h) ?_ (k0:=0) eG ⟨H20,(by (intro i j h hij h2; omega)),hS25,atR⟩
 rintro k26 e h hkk26 ⟨H27,hNe,hS28,hA⟩
 refine aA ?_
 refine kx (λh29=>?_) (λh29=>?_)
 refine ak ?_
 refine wz [(jQ b4),mc a1.runs,bY a1.runs.l.length,bY k26] H27 [] ?_
 refine aw ?_
 have hx30:k26<a1.runs.l.length:=by omega
 refine ml k26 a1.runs hx30 ?_
 generalize hqx31:a1.runs.l[k26]=x31
 refine oV ?_
 refine kn (H:=H27) rfl (rz hS28 rfl rfl) ?_
 rintro _ H33 ⟨b32,rfl,hS34⟩
 refine oV ?_
 refine DN 0 hS34 (.agg (lj.ag x31)) λH35 hS36=>?_
 refine oN ?_
 refine aa ?_
 refine od 1 hS36 ?_
 refine m5 1 hS36 (mc a1.runs) ?_
 refine oV ?_
 have hx37:k26<=a1.runs.l.length:=by omega
 refine jP rfl (λ_=>xw (k:=k26) (r:=a1.runs) (enc:=lj.ag) (n:=5) rfl rfl rfl rfl rfl rfl hx37 (λ_=>rfl)) ?_
 refine jP rfl (λ_=>sf rfl rfl (rY rfl rfl)) ?_
 have hS38:=Sep.pick hS36 [0,1] 2 eB eB
 refine kI (H:=H35) (args:=[mc (Row.take a1.runs k26),.kY 146 [] [(jQ b32)]]) (p:=[]) (r:=[]) rfl rfl rfl rfl rfl rfl rfl (Li (Row.mg (Row.take a1.runs k26)) b32 x31 (kO b4 (jV.ag a1)::[]) hS38) ?_
 rintro _ H39 ⟨r42,hc41,hS40,rfl⟩
 have hCt:=hc41
 cases r42
 refine ah ?_
 refine wz [(jQ b4),mc a1.runs,bY a1.runs.l.length,bY k26] H39 [] ?_
 refine qg ?_
 refine kD ?_
 refine ab ?_
 have hS43:=Sep.pick hS40 [1] 2 eB eB
 exact ⟨by omega,H39,(by exact NV ez hNe (hCt.2 rfl)),hS43,atR⟩
 refine aW ?_
 exact xB ⟨4,eX,rfl⟩
 refine aj ?_
 refine wz [] H27 [] ?_
 refine aU ?_
 exact xB ⟨0,eX,rfl⟩
 refine au ?_
 exact xB ⟨1,eX,rfl⟩
 refine au ?_
 exact xB ⟨3,eX,rfl⟩
def P47 (_a0:iS) (_a1:jV) (_a2:Int) (v:AV):Prop:=∃ r0:jY,∃ r1:Bool,((0<=_a2->_a2<(_a1.runs.l.length:Int)->r0=mr _a0.p _a1 _a2.toNat))/\v=.kq [.agg (jY.ag r0),.bool r1]
def t47 (a0:iS) (a1:jV) (a2:Int) :Ct 47 [.ip (iS.ag a0) 0 false,.agg (jV.ag a1),iv a2] (P47 a0 a1 a2):=by
 refine j9 NG ?_
 refine ae ?_
 refine ao ?_
 refine kx (λh1=>?_) (λh1=>?_)
 refine ck ?_
 refine cI ?_
 exact jD
 refine aK ?_
 have hL2:=a1.runs.lk
 refine lu a1.runs ?_
 refine mV (λh3=>?_) (λh3=>?_)
 refine cI ?_
 exact jD
 refine aH ?_
 refine a6 ?_
 have hx4:(a2).toNat<a1.runs.l.length:=by omega
 refine jP rfl (λ_=>ld (n:=a2) (r:=a1.runs) (enc:=lj.ag) rfl rfl rfl rfl rfl eG hx4 rfl) ?_
 generalize hqx5:a1.runs.l[(a2).toNat]=x5
 refine bu ?_
 refine a6 ?_
 refine oC (t101 a0 x5.from_) ?_
 rintro _ ⟨r7,r8,hc6,rfl⟩
 have hA:=hc6.1; have hA0:=hc6.2
 cases r8
 refine dN ?_
 refine dl ?_
 refine cW ?_
 refine oC (t102 a0 r7.elem) ?_
 rintro _ ⟨r10,hc9,rfl⟩
 have hK:=hc9
 refine kR (λh11=>?_) (λh11=>?_)
 refine bc ?_
 exact jE
 refine bB ?_
 exact jF
 refine dN ?_
 refine dl ?_
 refine cW ?_
 refine oC (t102 a0 r7.elem) ?_
 rintro _ ⟨r13,hc12,rfl⟩
 have hK:=hc12
 refine kR (λh14=>?_) (λh14=>?_)
 refine bc ?_
 exact jE
 refine bB ?_
 exact jF
def Yp (_a0:iS) (_a1:jT) (v:AV):Prop:=∃ r0:Bool,(True)/\v=.bool r0
def t201 (a0:iS) (a1:jT) :Ct 201 [.ip (iS.ag a0) 0 false,.agg (jT.ag a1)] (Yp a0 a1):=by
 refine j9 IX ?_
 refine bT ?_
 refine bS ?_
 refine uO (λh1=>?_) (λh1=>?_)
 refine dp ?_
 refine rC (t102 a0 a1.elem) ?_
 rintro _ ⟨r3,hc2,rfl⟩
 have hK:=hc2
 refine rC (t213 r3) ?_
 rintro _ ⟨r5,hc4,rfl⟩
 refine qO (λh6=>?_) (λh6=>?_)
 refine aV ?_
 exact io
 refine aV ?_
 exact iq
 refine rV ?_
 iterate 8 refine rS ?_
 refine aV ?_
 exact iq
def S0 (_a0:iS) (_a1:Int) (_a2:jY) (v:AV):Prop:=∃ r0:kr,∃ r1:Int,((r1=0->r0.lJ.l=[_a2.at_]/\0<=_a2.at_.elem/\_a2.at_.elem<(_a0.p.elems.l.length:Int)))/\v=.kq [.agg (kr.ag r0),iv r1]
def O0 (a0:iS) (a1:Int) (a2:jY) :Ct 130 [.ip (iS.ag a0) 0 false,iv a1,.agg (jY.ag a2)] (S0 a0 a1 a2):=by
 refine j9 Ix ?_
 refine co ?_
 refine aL ?_
 refine cZ ?_
 refine rC (t102 a0 a2.at_.elem) ?_
 rintro _ ⟨r2,hc1,rfl⟩
 have hK:=hc1
 refine cZ ?_
 refine rC (t185 a0 a2.at_.elem) ?_
 rintro _ ⟨r4,hc3,rfl⟩
 refine rV ?_
 refine aO ?_
 refine aw ?_
 refine kx (λh5=>?_) (λh5=>?_)
 refine bv ?_
 refine oV ?_
 refine db ?_
 refine cz ?_
 refine dU ?_
 exact iI
 refine am ?_
 refine ma (λh6=>?_) (λh6=>?_)
 refine oV ?_
 refine db ?_
 refine cz ?_
 refine dU ?_
 exact iI
 refine aF ?_
 refine lR (λh7=>?_) (λh7=>?_)
 refine am ?_
 refine lR (λh8=>?_) (λh8=>?_)
 refine oV ?_
 refine cz ?_
 refine dU ?_
 exact iI
 refine cr ?_
 refine oC (t201 a0 a2.at_) ?_
 rintro _ ⟨r10,hc9,rfl⟩
 cases r10
 refine oV ?_
 refine dU ?_
 exact iI
 refine bu ?_
 refine qF ?_
 refine a6 ?_
 refine oC (t181 a0 a2.at_) ?_
 rintro _ ⟨r12,hc11,rfl⟩
 have hR:=hc11
 refine kx (λh13=>?_) (λh13=>?_)
 refine cI ?_
 exact iJ
 refine ab ?_
 refine dH ?_
 refine kR (λh14=>?_) (λh14=>?_)
 refine aF ?_
 refine lR (λh15=>?_) (λh15=>?_)
 refine cz ?_
 refine cw ?_
 refine dU ?_
 exact iI
 refine aF ?_
 refine kR (λh16=>?_) (λh16=>?_)
 refine aF ?_
 refine kx (λh17=>?_) (λh17=>?_)
 refine bp ?_
 refine am ?_
 refine dU ?_
 exact iI
 refine aK ?_
 refine ma (λh18=>?_) (λh18=>?_)
 refine am ?_
 refine dU ?_
 exact iI
 refine bZ ?_
 refine dH ?_
 refine kR (λh19=>?_) (λh19=>?_)
 refine aK ?_
 refine bf ?_
 refine ma (λh20=>?_) (λh20=>?_)
 refine dU ?_
 exact iL
 refine a8 ?_
 refine kR (λh21=>?_) (λh21=>?_)
 refine bc ?_
 exact iM
 refine bB ?_
 exact iO
 refine db ?_
 refine a8 ?_
 refine kR (λh22=>?_) (λh22=>?_)
 refine bc ?_
 exact iM
 refine bB ?_
 exact iO
 refine cV ?_
 refine kR (λh23=>?_) (λh23=>?_)
 refine aK ?_
 refine bf ?_
 refine ma (λh24=>?_) (λh24=>?_)
 refine dU ?_
 exact iL
 refine a8 ?_
 refine kR (λh25=>?_) (λh25=>?_)
 refine bc ?_
 exact iM
 refine bB ?_
 exact iO
 refine db ?_
 refine a8 ?_
 refine kR (λh26=>?_) (λh26=>?_)
 refine bc ?_
 exact iM
 refine bB ?_
 exact iO
 refine cm ?_
 refine aF ?_
 refine kR (λh27=>?_) (λh27=>?_)
 refine aF ?_
 refine kx (λh28=>?_) (λh28=>?_)
 refine bp ?_
 refine am ?_
 refine dU ?_
 exact iI
 refine aK ?_
 refine ma (λh29=>?_) (λh29=>?_)
 refine am ?_
 refine dU ?_
 exact iI
 refine bZ ?_
 refine dH ?_
 refine kR (λh30=>?_) (λh30=>?_)
 refine aK ?_
 refine bf ?_
 refine ma (λh31=>?_) (λh31=>?_)
 refine dU ?_
 exact iL
 refine a8 ?_
 refine kR (λh32=>?_) (λh32=>?_)
 refine bc ?_
 exact iM
 refine bB ?_
 exact iO
 refine db ?_
 refine a8 ?_
 refine kR (λh33=>?_) (λh33=>?_)
 refine bc ?_
 exact iM
 refine bB ?_
 exact iO
 refine cV ?_
 refine kR (λh34=>?_) (λh34=>?_)
 refine aK ?_
 refine bf ?_
 refine ma (λh35=>?_) (λh35=>?_)
 refine dU ?_
 exact iL
 refine a8 ?_
 refine kR (λh36=>?_) (λh36=>?_)
 refine bc ?_
 exact iM
 refine bB ?_
 exact iO
 refine db ?_
 refine a8 ?_
 refine kR (λh37=>?_) (λh37=>?_)
 refine bc ?_
 exact iM
 refine bB ?_
 exact iO
 refine bv ?_
 refine cr ?_
 refine oC (t201 a0 a2.at_) ?_
 rintro _ ⟨r39,hc38,rfl⟩
 cases r39
 refine oV ?_
 refine dU ?_
 exact iI
 refine bu ?_
 refine qF ?_
 refine a6 ?_
 refine oC (t181 a0 a2.at_) ?_
 rintro _ ⟨r41,hc40,rfl⟩
 have hR:=hc40
 refine kx (λh42=>?_) (λh42=>?_)
 refine cI ?_
 exact iJ
 refine ab ?_
 refine dH ?_
 refine kR (λh43=>?_) (λh43=>?_)
 refine aF ?_
 refine lR (λh44=>?_) (λh44=>?_)
 refine cz ?_
 refine cw ?_
 refine dU ?_
 exact iI
 refine aF ?_
 refine kR (λh45=>?_) (λh45=>?_)
 refine aF ?_
 refine kx (λh46=>?_) (λh46=>?_)
 refine bp ?_
 refine am ?_
 refine dU ?_
 exact iI
 refine aK ?_
 refine ma (λh47=>?_) (λh47=>?_)
 refine am ?_
 refine dU ?_
 exact iI
 refine bZ ?_
 refine dH ?_
 refine kR (λh48=>?_) (λh48=>?_)
 refine aK ?_
 refine bf ?_
 refine ma (λh49=>?_) (λh49=>?_)
 refine dU ?_
 exact iL
 refine a8 ?_
 refine kR (λh50=>?_) (λh50=>?_)
 refine bc ?_
 exact iM
 refine bB ?_
 exact iO
 refine db ?_
 refine a8 ?_
 refine kR (λh51=>?_) (λh51=>?_)
 refine bc ?_
 exact iM
 refine bB ?_
 exact iO
 refine cV ?_
 refine kR (λh52=>?_) (λh52=>?_)
 refine aK ?_
 refine bf ?_
 refine ma (λh53=>?_) (λh53=>?_)
 refine dU ?_
 exact iL
 refine a8 ?_
 refine kR (λh54=>?_) (λh54=>?_)
 refine bc ?_
 exact iM
 refine bB ?_
 exact iO
 refine db ?_
 refine a8 ?_
 refine kR (λh55=>?_) (λh55=>?_)
 refine bc ?_
 exact iM
 refine bB ?_
 exact iO
 refine cm ?_
 refine aF ?_
 refine kR (λh56=>?_) (λh56=>?_)
 refine aF ?_
 refine kx (λh57=>?_) (λh57=>?_)
 refine bp ?_
 refine am ?_
 refine dU ?_
 exact iI
 refine aK ?_
 refine ma (λh58=>?_) (λh58=>?_)
 refine am ?_
 refine dU ?_
 exact iI
 refine bZ ?_
 refine dH ?_
 refine kR (λh59=>?_) (λh59=>?_)
 refine aK ?_
 refine bf ?_
 refine ma (λh60=>?_) (λh60=>?_)
 refine dU ?_
 exact iL
 refine a8 ?_
 refine kR (λh61=>?_) (λh61=>?_)
 refine bc ?_
 exact iM
 refine bB ?_
 exact iO
 refine db ?_
 refine a8 ?_
 refine kR (λh62=>?_) (λh62=>?_)
 refine bc ?_
 exact iM
 refine bB ?_
 exact iO
 refine cV ?_
 refine kR (λh63=>?_) (λh63=>?_)
 refine aK ?_
 refine bf ?_
 refine ma (λh64=>?_) (λh64=>?_)
 refine dU ?_
 exact iL
 refine a8 ?_
 refine kR (λh65=>?_) (λh65=>?_)
 refine bc ?_
 exact iM
 refine bB ?_
 exact iO
 refine db ?_
 refine a8 ?_
 refine kR (λh66=>?_) (λh66=>?_)
 refine bc ?_
 exact iM
 refine bB ?_
 exact iO
def YN (_a0:iS) (_a1:Int) (_a2:jY) (v:AV):Prop:=∃ r0:kr,∃ r1:Int,(((r1=0->r0.lJ.l=[_a2.at_]/\0<=_a2.at_.elem/\_a2.at_.elem<(_a0.p.elems.l.length:Int)))/\rs 130 [.ip (iS.ag _a0) 0 false,iv _a1,.agg (jY.ag _a2)]=.kq [.agg (kr.ag r0),iv r1])/\v=.kq [.agg (kr.ag r0),iv r1]
def t130 (a0:iS) (a1:Int) (a2:jY)  (h:aT):∃ v,ka cfg FT ko false 130 [.ip (iS.ag a0) 0 false,iv a1,.agg (jY.ag a2)] h v h/\YN a0 a1 a2 v:=by
 obtain ⟨v,hc,hP,hr⟩:=nC pF (O0 a0 a1 a2) h
 obtain ⟨r0,r1,hp,rfl⟩:=hP
 exact iP
def Tt (a0:iS) (a1:Int) (a2:jY)  {V:AV} (hV:rs 130 [.ip (iS.ag a0) 0 false,iv a1,.agg (jY.ag a2)]=V) (h:aT):∃ v,ka cfg FT ko false 130 [.ip (iS.ag a0) 0 false,iv a1,.agg (jY.ag a2)] h v h/\v=V:=by
 obtain ⟨v,hc,hP,hr⟩:=nC pF (O0 a0 a1 a2) h
 exact iC
def aaY {H:aT} (vs:AV) (l:List Int) (a:Int) (b:Int) (F:List lC) (hS:Sep H (m6 j6 1 vs l::F)) (q1:b<=a+1) (q2:0<=a) (q3:a<=1000):∃ v H',ka cfg FT ko true 251 [vs,iv a,iv b] { H with cH:=[] } v H'/\((True)/\Sep H' (m6 j6 1 vs l::F)/\v=.kq []):=by
 refine kW Gg ?_
 refine ai ?_
 refine kD ?_
 refine aC ?_
 refine oe (λm1 e h=>m1=0/\At [0,1,2,6] [vs,iv a,iv b,iv (a+1)] H [] e h) ?_ _ _ _ ⟨rfl,(kh hS [(0,0)])⟩
 rintro m1 e h ⟨hmm1,hA⟩
 refine cC ?_
 refine kx (λh2=>?_) (λh2=>?_)
 exfalso; omega
 refine aN ?_
 have hS3:=Sep.pick hS [0] 1 eB eB
 exact ⟨.kq [],rfl,zT,Sep.cH hS3 _,rfl⟩
def WB {H:aT} (vs:AV) (l:List Int) (a:Int) (b:Int) (c:Int) (F:List lC) (hS:Sep H (m6 j6 1 vs l::F)) (q1:b<=a+1) (q2:0<=a) (q3:a<=1000) (q4:0<=b):∃ v H',ka cfg FT ko true 240 [vs,iv a,iv b,iv c] { H with cH:=[] } v H'/\((True)/\Sep H' (m6 j6 1 vs l::F)/\v=.kq []):=by
 refine kW Hg ?_
 refine bI ?_
 refine aa ?_
 refine aC ?_
 refine oe (λm1 e h=>m1=0/\At [0,1,2,3,8,9] [vs,iv a,iv b,iv c,.bool true,.bool true] H [] e h) ?_ _ _ _ ⟨rfl,(kh hS [(0,0)])⟩
 rintro m1 e h ⟨hmm1,hA⟩
 refine rP hA ?_
 refine qb ?_
 refine ae ?_
 refine pL ?_
 refine ao ?_
 refine s5 (λh2=>?_) (λh2=>?_)
 refine az ?_
 refine a6 ?_
 have hS3:=Sep.pick hS [0] 1 eB eB
 refine kI (H:=H) (args:=[vs,iv a,iv b]) (p:=[]) (r:=[]) rfl rfl rfl rfl rfl (jU (Sep.arg (i:=0) hS rfl) (jU rfl (jU rfl kE))) rfl (aaY vs l a b F hS3 ey ey ey) ?_
 rintro _ H4 ⟨hc6,hS5,rfl⟩
 refine dg ?_
 have hS7:=Sep.pick hS5 [0] 1 eB eB
 exact jf
 exfalso; omega
def NX (k:Nat) (h:aT):nM cfg FT ko (k+8) false 241 [.int .u64 0] h=some (.int .i64 0,h):=by kernel_rfl
def aaP (k:Nat) (h:aT):nM cfg FT ko (k+8) false 241 [.int .u64 1] h=some (.int .i64 1,h):=by kernel_rfl
def WS (_a0:Int) (v:AV):Prop:=∃ r0:Int,(0<=r0/\r0<=64)/\v=iv r0
def t241 (a0:Int) (q1:a0=0\/a0=1) (h:aT):∃ v,ka cfg FT ko false 241 [.int .u64 a0] h v h/\WS a0 v:=by
 rcases q1 with rfl | rfl
 ·exact ⟨iv 0,⟨8,λk hk=>by obtain ⟨j,rfl⟩:=Nat.exists_eq_add_of_le' hk; exact NX j h⟩,0,by omega,rfl⟩
 ·exact ⟨iv 1,⟨8,λk hk=>by obtain ⟨j,rfl⟩:=Nat.exists_eq_add_of_le' hk; exact aaP j h⟩,1,by omega,rfl⟩
def u96 {H:aT} (vs:AV) (l:List Int) (F:List lC) (hS:Sep H (m6 j6 1 vs l::F)) (q1:l.length<=1):∃ v H',ka cfg FT ko true 202 [vs] { H with cH:=[] } v H'/\((True)/\Sep H' (m6 j6 1 vs l::F)/\v=.kq []):=by
 refine kW HD ?_
 refine ai ?_
 refine jP rfl (λ_=>nb (i:=0) hS rfl rfl rfl rfl rfl rfl rfl) ?_
 refine ab ?_
 refine bz ?_
 refine jP rfl (λ_=>QP rfl rfl rfl rfl eC eC) ?_
 refine oC (t241 ((l.length:Int)) ey) ?_
 rintro _ ⟨r2,hc1,rfl⟩
 have hS3:=Sep.pick hS [0] 1 eB eB
 refine kI (H:=H) (args:=[vs,iv 0,bY l.length,iv r2]) (p:=[]) (r:=[]) rfl rfl rfl rfl rfl (jU (Sep.arg (i:=0) hS rfl) (jU rfl (jU rfl (jU rfl kE)))) rfl (WB vs l 0 ((l.length:Int)) r2 F hS3 ey ey ey ey) ?_
 rintro _ H4 ⟨hc6,hS5,rfl⟩
 refine oN ?_
 have hS7:=Sep.pick hS5 [0] 1 eB eB
 exact jf
def u97 {H:aT} (vs:AV) (l:List Int) (F:List lC) (hS:Sep H (m6 j6 1 vs l::F)) (q1:l.length<=1):∃ v H',ka cfg FT ko true 203 [vs] { H with cH:=[] } v H'/\(∃ vo:AV,(True)/\Sep H' (m6 j6 1 vo l::F)/\v=vo):=by
 refine kW HS ?_
 refine eq ?_
 refine kx (λh1=>?_) (λh1=>?_)
 refine aJ ?_
 have hS2:=Sep.pick hS [0] 1 eB eB
 exact ⟨vs,(lL (vs:=[vs]) rfl (jU (Sep.arg (i:=0) hS rfl) kE)),vs,zT,Sep.cH hS2 _,rfl⟩
 exfalso; omega
def aaS (_a0:iS) (_a1:kr) (v:AV):Prop:=∃ r0:Row Int,(r0.l=oM _a0.p _a1.lJ.l)/\v=kN r0
def t131 (a0:iS) (a1:kr) (q1:a1.lJ.l.length<=1):Ct 131 [.ip (iS.ag a0) 0 false,.agg (kr.ag a1)] (aaS a0 a1):=by
 refine j9 F4 ?_
 refine bT ?_
 refine dJ ?_
 have hL1:=a1.lJ.lk
 refine lu a1.lJ ?_
 refine aC ?_
 have hS2:=Sep.mf kV 1
 have hNk3:=a1.lJ.lk
 refine jW a1.lJ.l.length (λk3 e h=>∃ v4:AV,∃ l5:List Int,∃ H6:aT,(l5=oM a0.p (a1.lJ.l.take k3))/\(l5.length<=k3)/\Sep H6 (lG v4 l5::[])/\At [0,5,9,10,11] [.ip (iS.ag a0) 0 false,v4,nV a1.lJ,bY a1.lJ.l.length,bY k3] H6 [] e h) ?_ (k0:=0) eG ⟨iN,(([]:List Int)),aT.empty,gm,fS,hS2,atR⟩
 rintro k3 e h hkk3 ⟨v4,l5,H6,hI,hI2,hS7,hA⟩
 refine aA ?_
 refine kx (λh8=>?_) (λh8=>?_)
 refine ak ?_
 refine wz [.ip (iS.ag a0) 0 false,v4,nV a1.lJ,bY a1.lJ.l.length,bY k3] H6 [] ?_ (kh hS7 [(5,0)])
 refine bd ?_
 have hx9:k3<a1.lJ.l.length:=by omega
 refine ml k3 a1.lJ hx9 ?_
 generalize hqx10:a1.lJ.l[k3]=x10
 refine bu ?_
 refine a6 ?_
 refine oC (t102 a0 x10.elem) ?_
 rintro _ ⟨r12,hc11,rfl⟩
 have hK:=hc11
 refine lR (λh13=>?_) (λh13=>?_)
 refine dm ?_
 refine aK ?_
 refine kn rfl (kZ (H:=H6) (i:=0) (l:=l5) (enc:=j6) [x10.elem] hS7 rfl rfl rfl rfl rfl rfl rfl rfl rfl (λ_=>rfl) (.inl rfl) eE (λ_=>rfl)) ?_
 rintro v14 H15 hS16
 refine ab ?_
 refine wz [.ip (iS.ag a0) 0 false,v14,nV a1.lJ,bY a1.lJ.l.length,bY k3] H15 [] ?_ (kh hS16 [(5,0)])
 refine qg ?_
 refine kD ?_
 refine ab ?_
 exact ⟨by omega,v14,((l5++[x10.elem])),H15,gS,eF,hS16,(kh hS16 [(5,0)])⟩
 refine ah ?_
 refine wz [.ip (iS.ag a0) 0 false,v4,nV a1.lJ,bY a1.lJ.l.length,bY k3] H6 [] ?_ (kh hS7 [(5,0)])
 refine qg ?_
 refine kD ?_
 refine ab ?_
 exact ⟨by omega,v4,l5,H6,gS,eF,hS7,(kh hS7 [(5,0)])⟩
 refine aj ?_
 refine wz [v4] H6 [] ?_ (kh hS7 [(5,0)])
 refine ai ?_
 have hS17:=Sep.pf (i:=0) hS7 rfl
 have hS18:=Sep.pick hS17 [0] 1 eB eB
 refine kI (H:=H6) (args:=[v4]) (p:=[]) (r:=[]) rfl rfl rfl rfl rfl (jU (Sep.arg (i:=0) hS17 rfl) kE) rfl (u96 v4 l5 ([]) hS18 ey) ?_
 rintro _ H19 ⟨hc21,hS20,rfl⟩
 refine oN ?_
 refine ai ?_
 have hS22:=Sep.pick hS20 [0] 1 eB eB
 refine kI (H:=H19) (args:=[v4]) (p:=[]) (r:=[]) rfl rfl rfl rfl rfl (jU (Sep.arg (i:=0) hS20 rfl) kE) rfl (u97 v4 l5 ([]) hS22 ey) ?_
 rintro vo26 H23 ⟨_,hc25,hS24,rfl⟩
 refine af ?_
 obtain ⟨r27,hl28,hf29⟩:=lK (H:=H23) (i:=0) (l:=l5) (enc:=j6) hS24 rfl eA
 have hlq:=hl28; have hln31:=congrArg List.length hl28
 have hz30:∀ m,freeze false { H23 with cH:=[] } (m+2) vo26=some (kN r27):=λm=>hf29 _ _ (λ_=>rfl)
 exact ⟨vo26,(lL (vs:=[vo26]) rfl (jU (Sep.arg (i:=0) hS24 rfl) kE)),kN r27,(show freeze false { H23 with cH:=[] } 8 vo26=some (kN r27) by simp only [FZ,hz30]),r27,(by rw [List.take_of_length_le eG] at hI; first | (simp_all; done) | (rw [hI] at *; first | assumption | (simp_all; done))),rfl⟩
def P74 (_a0:iS) (_a1:jV) (v:AV):Prop:=∃ r0:Int,((r0=0->(∀ i,i < _a1.runs.l.length->∃ b:kr,rs 130 [.ip (iS.ag _a0) 0 false,.int .i64 (ua _a1 i),.agg (mr _a0.p _a1 i).ag]=.kq [.agg b.ag,.int .i64 0])/\(∀ i j,i<j->j < _a1.runs.l.length->∀ x∈oM _a0.p [(mr _a0.p _a1 i).at_],x∉oM _a0.p [(mr _a0.p _a1 j).at_])))/\v=iv r0
def t74 (a0:iS) (a1:jV) (q1:∀ r∈a1.runs.l,0<=r.j3/\r.j3<(a1.j3.l.length:Int)):Ct 74 [.ip (iS.ag a0) 0 false,.agg (jV.ag a1)] (P74 a0 a1):=by
 refine j9 Lv ?_
 refine bT ?_
 refine di ?_
 rintro _ H2 ⟨b1,rfl,hS3⟩
 refine bh ?_
 refine aX ?_
 have hL4:=a1.runs.lk
 refine dG ?_
 have hNk5:=a1.runs.lk
 refine jW a1.runs.l.length (λk5 e h=>∃ l6:List (Int×Bool),∃ n7:Int,∃ H8:aT,(∀ i,i<k5->∃ b:kr,rs 130 [.ip (iS.ag a0) 0 false,.int .i64 (ua a1 i),.agg (mr a0.p a1 i).ag]=.kq [.agg b.ag,.int .i64 0])/\(Tk (λi=>oM a0.p [(mr a0.p a1 i).at_]) k5 l6 n7)/\Sep H8 (ng b1 iK bK l6::[])/\At [0,3,5,6,17,18,19] [.ip (iS.ag a0) 0 false,.la 3 0,iv n7,(.hm b1),mc a1.runs,bY a1.runs.l.length,bY k5] H8 [(3,(jV.ag a1))] e h) ?_ (k0:=0) eG ⟨([]),0,H2,(by (intro i h; omega)),(by exact Tk.zero _),hS3,atR⟩
 rintro k5 e h hkk5 ⟨l6,n7,H8,hQ,hB,hS9,hA⟩
 refine aA ?_
 refine kx (λh10=>?_) (λh10=>?_)
 refine ak ?_
 refine wz [.ip (iS.ag a0) 0 false,.la 3 0,iv n7,(.hm b1),mc a1.runs,bY a1.runs.l.length,bY k5] H8 [(3,(jV.ag a1))] ?_
 refine aw ?_
 have hx11:k5<a1.runs.l.length:=by omega
 refine ml k5 a1.runs hx11 ?_
 generalize hqx12:a1.runs.l[k5]=x12
 have hinx12:x12∈a1.runs.l:=by rw [<- hqx12]; exact List.getElem_mem _
 have hsx12:=q1 x12 hinx12
 refine bZ ?_
 refine a6 ?_
 refine oC (t47 a0 a1 ((k5:Int))) ?_
 rintro _ ⟨r14,r15,hc13,rfl⟩
 have hTr:=hc13
 cases r15
 refine dl ?_
 refine dj ?_
 have hx16:(x12.j3).toNat<a1.j3.l.length:=by omega
 refine kp rfl rfl (λ_=>ld (n:=x12.j3) (r:=a1.j3) (enc:=j4.ag) rfl rfl rfl rfl rfl eG hx16 rfl) ?_
 generalize hqx17:a1.j3.l[(x12.j3).toNat]=x17
 refine bj ?_
 refine rC (t130 a0 x17.len r14) ?_
 rintro _ ⟨r19,r20,⟨hc18,hc18r⟩,rfl⟩
 have hSt:=hc18r; have hStt:=hc18
 refine bP ?_
 refine aq ?_
 refine lR (λh21=>?_) (λh21=>?_)
 refine aJ ?_
 exact xB ⟨r20,fZ,rfl⟩
 refine ah ?_
 refine wz [.ip (iS.ag a0) 0 false,.la 3 0,iv n7,(.hm b1),.la 11 0,mc a1.runs,bY a1.runs.l.length,bY k5] H8 [(3,(jV.ag a1)),(11,(kr.ag r19))] ?_
 refine ae ?_
 refine oC (t131 a0 r19 ey) ?_
 rintro _ ⟨r23,hc22,rfl⟩
 have hLie:=hc22
 have hL24:=r23.lk
 refine lu r23 ?_
 refine aC ?_
 have hNk25:=r23.lk
 refine jW r23.l.length (λk25 e h=>∃ l26:List (Int×Bool),∃ n27:Int,∃ H28:aT,(we (λi=>oM a0.p [(mr a0.p a1 i).at_]) k5 (r23.l.take k25) l26 n27)/\Sep H28 (ng b1 iK bK l26::[])/\At [0,3,5,6,17,18,19,49,50,51] [.ip (iS.ag a0) 0 false,.la 3 0,iv n27,(.hm b1),mc a1.runs,bY a1.runs.l.length,bY k5,kN r23,bY r23.l.length,bY k25] H28 [(3,(jV.ag a1))] e h) ?_ (k0:=0) eG ⟨l6,n7,H8,(by exact Tk.start hB _),hS9,atR⟩
 rintro k25 e h hkk25 ⟨l26,n27,H28,hB2,hS29,hA⟩
 refine aA ?_
 refine kx (λh30=>?_) (λh30=>?_)
 refine ak ?_
 refine wz [.ip (iS.ag a0) 0 false,.la 3 0,iv n27,(.hm b1),mc a1.runs,bY a1.runs.l.length,bY k5,kN r23,bY r23.l.length,bY k25] H28 [(3,(jV.ag a1))] ?_
 refine bd ?_
 have hx31:k25<r23.l.length:=by omega
 refine ml k25 r23 hx31 ?_
 generalize hqx32:r23.l[k25]=x32
 refine bh ?_
 refine aX ?_
 refine nW (H:=H28) (i:=0) (ek:=iK) (ev:=bK) (l:=l26) x32 rfl rfl hS29 rfl rfl rfl rfl rfl rfl rfl rfl pB (λy33 h34=>?_) (λh35=>?_)
 cases y33
 exact absurd (hB2.tk.val _ (pJ h34)) fS
 refine dm ?_
 refine ab ?_
 refine wz [.ip (iS.ag a0) 0 false,.la 3 0,iv 18,(.hm b1),iv x32,mc a1.runs,bY a1.runs.l.length,bY k5,kN r23,bY r23.l.length,bY k25] H28 [(3,(jV.ag a1))] ?_
 refine dQ ?_
 rintro _ H36 ⟨rfl,hS37⟩
 refine oN ?_
 refine wz [.ip (iS.ag a0) 0 false,.la 3 0,iv 18,(.hm b1),mc a1.runs,bY a1.runs.l.length,bY k5,kN r23,bY r23.l.length,bY k25] H36 [(3,(jV.ag a1))] ?_
 refine qg ?_
 refine kD ?_
 refine ab ?_
 exact ⟨by omega,((put x32 true l26)),18,H36,gc,hS37,atR⟩
 refine ah ?_
 refine wz [.ip (iS.ag a0) 0 false,.la 3 0,iv n27,(.hm b1),iv x32,mc a1.runs,bY a1.runs.l.length,bY k5,kN r23,bY r23.l.length,bY k25] H28 [(3,(jV.ag a1))] ?_
 refine dQ ?_
 rintro _ H38 ⟨rfl,hS39⟩
 refine oN ?_
 refine wz [.ip (iS.ag a0) 0 false,.la 3 0,iv n27,(.hm b1),mc a1.runs,bY a1.runs.l.length,bY k5,kN r23,bY r23.l.length,bY k25] H38 [(3,(jV.ag a1))] ?_
 refine qg ?_
 refine kD ?_
 refine ab ?_
 exact ⟨by omega,((put x32 true l26)),n27,H38,gc,hS39,atR⟩
 refine aj ?_
 refine wz [.ip (iS.ag a0) 0 false,.la 3 0,iv n27,(.hm b1),mc a1.runs,bY a1.runs.l.length,bY k5] H28 [(3,(jV.ag a1))] ?_
 refine qg ?_
 refine kD ?_
 refine ab ?_
 exact ⟨by omega,l26,n27,H28,gM,gT,hS29,atR⟩
 refine dl ?_
 refine dj ?_
 have hx40:(x12.j3).toNat<a1.j3.l.length:=by omega
 refine kp rfl rfl (λ_=>ld (n:=x12.j3) (r:=a1.j3) (enc:=j4.ag) rfl rfl rfl rfl rfl eG hx40 rfl) ?_
 generalize hqx41:a1.j3.l[(x12.j3).toNat]=x41
 refine bj ?_
 refine rC (t130 a0 x41.len r14) ?_
 rintro _ ⟨r43,r44,⟨hc42,hc42r⟩,rfl⟩
 have hSt:=hc42r; have hStt:=hc42
 refine bP ?_
 refine aq ?_
 refine lR (λh45=>?_) (λh45=>?_)
 refine aJ ?_
 exact xB ⟨r44,fZ,rfl⟩
 refine ah ?_
 refine wz [.ip (iS.ag a0) 0 false,.la 3 0,iv n7,(.hm b1),.la 11 0,mc a1.runs,bY a1.runs.l.length,bY k5] H8 [(3,(jV.ag a1)),(11,(kr.ag r43))] ?_
 refine ae ?_
 refine oC (t131 a0 r43 ey) ?_
 rintro _ ⟨r47,hc46,rfl⟩
 have hLie:=hc46
 have hL48:=r47.lk
 refine lu r47 ?_
 refine aC ?_
 have hNk49:=r47.lk
 refine jW r47.l.length (λk49 e h=>∃ l50:List (Int×Bool),∃ n51:Int,∃ H52:aT,(we (λi=>oM a0.p [(mr a0.p a1 i).at_]) k5 (r47.l.take k49) l50 n51)/\Sep H52 (ng b1 iK bK l50::[])/\At [0,3,5,6,17,18,19,49,50,51] [.ip (iS.ag a0) 0 false,.la 3 0,iv n51,(.hm b1),mc a1.runs,bY a1.runs.l.length,bY k5,kN r47,bY r47.l.length,bY k49] H52 [(3,(jV.ag a1))] e h) ?_ (k0:=0) eG ⟨l6,n7,H8,(by exact Tk.start hB _),hS9,atR⟩
 rintro k49 e h hkk49 ⟨l50,n51,H52,hB2,hS53,hA⟩
 refine aA ?_
 refine kx (λh54=>?_) (λh54=>?_)
 refine ak ?_
 refine wz [.ip (iS.ag a0) 0 false,.la 3 0,iv n51,(.hm b1),mc a1.runs,bY a1.runs.l.length,bY k5,kN r47,bY r47.l.length,bY k49] H52 [(3,(jV.ag a1))] ?_
 refine bd ?_
 have hx55:k49<r47.l.length:=by omega
 refine ml k49 r47 hx55 ?_
 generalize hqx56:r47.l[k49]=x56
 refine bh ?_
 refine aX ?_
 refine nW (H:=H52) (i:=0) (ek:=iK) (ev:=bK) (l:=l50) x56 rfl rfl hS53 rfl rfl rfl rfl rfl rfl rfl rfl pB (λy57 h58=>?_) (λh59=>?_)
 cases y57
 exact absurd (hB2.tk.val _ (pJ h58)) fS
 refine dm ?_
 refine ab ?_
 refine wz [.ip (iS.ag a0) 0 false,.la 3 0,iv 18,(.hm b1),iv x56,mc a1.runs,bY a1.runs.l.length,bY k5,kN r47,bY r47.l.length,bY k49] H52 [(3,(jV.ag a1))] ?_
 refine dR ?_
 rintro _ H60 ⟨rfl,hS61⟩
 refine oN ?_
 refine wz [.ip (iS.ag a0) 0 false,.la 3 0,iv 18,(.hm b1),mc a1.runs,bY a1.runs.l.length,bY k5,kN r47,bY r47.l.length,bY k49] H60 [(3,(jV.ag a1))] ?_
 refine qg ?_
 refine kD ?_
 refine ab ?_
 exact ⟨by omega,((put x56 true l50)),18,H60,gc,hS61,atR⟩
 refine ah ?_
 refine wz [.ip (iS.ag a0) 0 false,.la 3 0,iv n51,(.hm b1),iv x56,mc a1.runs,bY a1.runs.l.length,bY k5,kN r47,bY r47.l.length,bY k49] H52 [(3,(jV.ag a1))] ?_
 refine dR ?_
 rintro _ H62 ⟨rfl,hS63⟩
 refine oN ?_
 refine wz [.ip (iS.ag a0) 0 false,.la 3 0,iv n51,(.hm b1),mc a1.runs,bY a1.runs.l.length,bY k5,kN r47,bY r47.l.length,bY k49] H62 [(3,(jV.ag a1))] ?_
 refine qg ?_
 refine kD ?_
 refine ab ?_
 exact ⟨by omega,((put x56 true l50)),n51,H62,gc,hS63,atR⟩
 refine aj ?_
 refine wz [.ip (iS.ag a0) 0 false,.la 3 0,iv n51,(.hm b1),mc a1.runs,bY a1.runs.l.length,bY k5] H52 [(3,(jV.ag a1))] ?_
 refine qg ?_
 refine kD ?_
 refine ab ?_
 exact ⟨by omega,l50,n51,H52,gM,gT,hS53,atR⟩
 refine aj ?_
 refine wz [iv n7] H8 [] ?_
 refine bR ?_
 exact xB ⟨n7,fZ,rfl⟩
def Xg (_a0:j5) (_a1:jV) (v:AV):Prop:=∃ r0:Int,((r0=0->((rs 60 [.agg (iF.ag _a0.dO),kj _a1.j3]=iv 0/\(∀ r∈_a1.runs.l,(rs 127 [.str r.name.l]=.bool true/\0<=r.j3/\r.j3<(_a1.j3.l.length:Int)/\0<=r.from_/\r.from_<(_a0.dO.signals.l.length:Int)))/\(∀ (i j:Nat) (h:j < _a1.runs.l.length) (hij:i<j),j < _a1.runs.l.length->(_a1.runs.l[i]).name.l≠(_a1.runs.l[j]).name.l)/\_a1.runs.l.length<=8)/\∃ n:iS,ot n _a0.dO/\rs 31 [.agg (iF.ag _a0.dO)]=.kq [.ip (iS.ag n) 0 false,iv 0]/\(∀ i,i < _a1.runs.l.length->∃ b:kr,rs 130 [.ip (iS.ag n) 0 false,.int .i64 (ua _a1 i),.agg (mr n.p _a1 i).ag]=.kq [.agg b.ag,.int .i64 0])/\(∀ i j,i<j->j < _a1.runs.l.length->∀ x∈oM n.p [(mr n.p _a1 i).at_],x∉oM n.p [(mr n.p _a1 j).at_]))))/\v=iv r0
def X0 (a0:j5) (a1:jV) (q1:mB a0.dO) (q2:a0.roads.l.length<=64):Ct 30 [.agg (j5.ag a0),.agg (jV.ag a1)] (Xg a0 a1):=by
 refine j9 LO ?_
 refine co ?_
 refine cW ?_
 refine kI (H:=aT.empty) (args:=[kF a0.dO.signals,.kY 72 [] []]) (p:=[]) (r:=[]) rfl rfl rfl rfl rfl rfl rfl (PY (Row.mg a0.dO.signals) ([]) kV) ?_
 rintro _ H2 ⟨r5,hc4,hS3,rfl⟩
 cases r5
 refine ah ?_
 refine cW ?_
 refine oC (t73 a0.dO a1) ?_
 rintro _ ⟨r7,hc6,rfl⟩
 have hD:=hc6; have hPre:=λ(hz : _=(0:Int)) (r:lj) (hr:r∈a1.runs.l)=>And.intro ((hc6 hz).2.1 r hr).2.1 ((hc6 hz).2.1 r hr).2.2.1
 refine aZ ?_
 refine lR (λh8=>?_) (λh8=>?_)
 refine aJ ?_
 exact xB ⟨r7,fq,rfl⟩
 refine dz ?_
 refine oC (t31 a0.dO ey) ?_
 rintro _ (⟨r10,⟨hc9,hc9r⟩,rfl⟩ | ⟨r11,⟨hc9,hc9r⟩,rfl⟩)
 have hFw:=hc9.vD; have hFs:=hc9.vD.signals; have hFl:=hc9.len; have hRg:=hc9.rg; have hNe:=hc9; have hNr:=hc9r
 refine bV ?_
 refine aH ?_
 refine aX ?_
 refine oC (t74 r10 a1 ey) ?_
 rintro _ ⟨r13,hc12,rfl⟩
 have hSs:=hc12
 refine aZ ?_
 refine lR (λh14=>?_) (λh14=>?_)
 refine aJ ?_
 exact xB ⟨r13,fq,rfl⟩
 refine ah ?_
 refine aX ?_
 have hL15:=a1.runs.lk
 refine dG ?_
 have hNk16:=a1.runs.lk
 refine jW a1.runs.l.length (λk16 e h=>At [2,3,6,38,39,40] [.la 2 0,.la 3 0,.ip (iS.ag r10) 0 false,mc a1.runs,bY a1.runs.l.length,bY k16] H2 [(2,(j5.ag a0)),(3,(jV.ag a1))] e h) ?_ (k0:=0) eG atR
 rintro k16 e h hkk16 hA
 refine aA ?_
 refine kx (λh17=>?_) (λh17=>?_)
 refine d7 ?_
 have hx18:k16<a1.runs.l.length:=by omega
 refine ml k16 a1.runs hx18 ?_
 generalize hqx19:a1.runs.l[k16]=x19
 refine bZ ?_
 refine aX ?_
 have hL20:=x19.kH.lk
 refine lu x19.kH ?_
 refine kR (λh21=>?_) (λh21=>?_)
 refine bv ?_
 refine cw ?_
 refine au ?_
 exact xB ⟨10,fq,rfl⟩
 refine aP ?_
 have hL22:=x19.kH.lk
 refine lu x19.kH ?_
 have hL23:=x19.kH.lk
 refine pL ?_
 have hx24:((x19.kH.l.length:Int) - 1).toNat<x19.kH.l.length:=by omega
 refine jP rfl (λ_=>ld (n:=(x19.kH.l.length:Int) - 1) (r:=x19.kH) (enc:=lU.ag) rfl rfl rfl rfl rfl eG hx24 rfl) ?_
 generalize hqx25:x19.kH.l[((x19.kH.l.length:Int) - 1).toNat]=x25
 refine am ?_
 refine lR (λh26=>?_) (λh26=>?_)
 refine au ?_
 exact xB ⟨10,fq,rfl⟩
 refine oV ?_
 refine dz ?_
 have hL27:=x19.kH.lk
 refine lu x19.kH ?_
 refine aC ?_
 have hNk28:=x19.kH.lk
 refine jW x19.kH.l.length (λk28 e h=>At [2,3,6,8,38,39,40,63,64] [.la 2 0,.la 3 0,.ip (iS.ag r10) 0 false,bY k16,mc a1.runs,bY a1.runs.l.length,bY k16,bY x19.kH.l.length,bY k28] H2 [(2,(j5.ag a0)),(3,(jV.ag a1))] e h) ?_ (k0:=0) eG atR
 rintro k28 e h hkk28 hA
 refine aA ?_
 refine kx (λh29=>?_) (λh29=>?_)
 refine cT ?_
 refine aa ?_
 refine cr ?_
 refine oC (t56 r10 a0.roads a1 ((k16:Int)) ((k28:Int)) ey ey) ?_
 rintro _ ⟨r31,⟨hc30,hc30r⟩,rfl⟩
 have hRo:=hc30.2; have hRl:=hc30.1
 have hL32:=r31.lk
 refine lu r31 ?_
 refine kR (λh33=>?_) (λh33=>?_)
 refine aW ?_
 exact xB ⟨10,fq,rfl⟩
 refine bU ?_
 refine kD ?_
 refine ab ?_
 exact ic
 refine aj ?_
 refine qg ?_
 refine kD ?_
 refine ab ?_
 exact ic
 refine aS ?_
 exact xB ⟨0,fq,rfl⟩
 refine bV ?_
 refine lR (λh34=>?_) (λh34=>?_)
 refine aJ ?_
 exact xB ⟨r11,fq,rfl⟩
 refine ah ?_
 refine aX ?_
 exfalso; omega
 refine aW ?_
 exact xB ⟨7,fq,rfl⟩
def P30 (_a0:j5) (_a1:jV) (v:AV):Prop:=∃ r0:Int,(((r0=0->((rs 60 [.agg (iF.ag _a0.dO),kj _a1.j3]=iv 0/\(∀ r∈_a1.runs.l,(rs 127 [.str r.name.l]=.bool true/\0<=r.j3/\r.j3<(_a1.j3.l.length:Int)/\0<=r.from_/\r.from_<(_a0.dO.signals.l.length:Int)))/\(∀ (i j:Nat) (h:j < _a1.runs.l.length) (hij:i<j),j < _a1.runs.l.length->(_a1.runs.l[i]).name.l≠(_a1.runs.l[j]).name.l)/\_a1.runs.l.length<=8)/\∃ n:iS,ot n _a0.dO/\rs 31 [.agg (iF.ag _a0.dO)]=.kq [.ip (iS.ag n) 0 false,iv 0]/\(∀ i,i < _a1.runs.l.length->∃ b:kr,rs 130 [.ip (iS.ag n) 0 false,.int .i64 (ua _a1 i),.agg (mr n.p _a1 i).ag]=.kq [.agg b.ag,.int .i64 0])/\(∀ i j,i<j->j < _a1.runs.l.length->∀ x∈oM n.p [(mr n.p _a1 i).at_],x∉oM n.p [(mr n.p _a1 j).at_]))))/\rs 30 [.agg (j5.ag _a0),.agg (jV.ag _a1)]=iv r0)/\v=iv r0
def t30 (a0:j5) (a1:jV) (q1:mB a0.dO) (q2:a0.roads.l.length<=64) (h:aT):∃ v,ka cfg FT ko false 30 [.agg (j5.ag a0),.agg (jV.ag a1)] h v h/\P30 a0 a1 v:=by
 obtain ⟨v,hc,hP,hr⟩:=nC pF (X0 a0 a1 q1 q2) h
 obtain ⟨r0,hp,rfl⟩:=hP
 exact iB
def V9 (_a0:jS Int) (v:AV):Prop:=∃ r0:Row Int,(r0.l = _a0.l)/\v=kN r0
def t43 (a0:jS Int) (q1:a0.l.length<=1000000):Ct 43 [ly a0] (V9 a0):=by
 refine j9 BH ?_
 refine aY ?_
 refine lS (b:=a0.isNil) rfl (λ_=>nS rfl rfl rfl rfl) (λh1=>?_) (λh1=>?_)
 refine aW ?_
 exact xG ⟨(lZ:Row Int),e9,rfl⟩
 refine ah ?_
 refine wy [ly a0] [] ?_
 refine ae ?_
 have hS2:=Sep.oq kV 1
 refine kn rfl (kZ (i:=0) (l:=([]:List Int)) (enc:=j6) a0.l hS2 rfl rfl rfl rfl rfl rfl rfl rfl rfl (λ_=>rfl) (.inl rfl) eE (λ_=>rfl)) ?_
 rintro v3 H4 hS5
 refine af ?_
 obtain ⟨r6,hl7,hf8⟩:=lK (H:=H4) (i:=0) (l:=(([]:List Int)++a0.l)) (enc:=j6) hS5 rfl eA
 have hlq:=hl7; have hln10:=congrArg List.length hl7
 have hz9:∀ m,freeze false { H4 with cH:=[] } (m+2) v3=some (kN r6):=λm=>hf8 _ _ (λ_=>rfl)
 exact ⟨v3,(lL (vs:=[v3]) rfl (jU (Sep.arg (i:=0) hS5 rfl) kE)),kN r6,(show freeze false { H4 with cH:=[] } 8 v3=some (kN r6) by simp only [FZ,hz9]),r6,e9,rfl⟩
def MJ {H:aT} (vs:AV) (l:List Int) (F:List lC) (hS:Sep H (lG vs l::F)) (q1:l.length<=1000):∃ v H',ka cfg FT ko true 43 [vs] { H with cH:=[] } v H'/\(∃ ov:AV,∃ ol:List Int,(ol=l)/\Sep H' (lG vs l::lG ov ol::F)/\v=ov):=by
 refine kW BH ?_
 refine aY ?_
 rcases Sep.vQ (i:=0) hS rfl with ⟨rfl,hx3⟩ | ⟨rfl,hx3⟩ | ⟨b1,g2,rfl⟩
 refine au ?_
 have hS4:=Sep.mf hS 1
 have hS5:=Sep.pick hS4 [1,0] 2 eB eB
 exact ⟨iN,rfl,iN,([]:List Int),gq,Sep.cH hS5 _,rfl⟩
 refine aH ?_
 refine wz [(.sl [] (.exact 0))] H [] ?_
 refine ae ?_
 have hS6:=Sep.oq hS 1
 refine kn rfl (kZ (i:=0) (l:=([]:List Int)) (enc:=j6) l hS6 rfl rfl rfl rfl rfl rfl rfl rfl (zE (i:=1) hS6 rfl) (λ_=>rfl) (.inl rfl) eE (λ_=>rfl)) ?_
 rintro v7 H8 hS9
 refine af ?_
 have hS10:=Sep.pick hS9 [1,0] 2 eB eB
 exact ⟨v7,(lL (vs:=[v7]) rfl (jU (Sep.arg (i:=0) hS9 rfl) kE)),v7,(([]:List Int)++l),gq,Sep.cH hS10 _,rfl⟩
 refine aH ?_
 refine wz [(.hs b1 g2 0 (List.map j6 l).length)] H [] ?_
 refine ae ?_
 have hS11:=Sep.oq hS 1
 refine kn rfl (kZ (i:=0) (l:=([]:List Int)) (enc:=j6) l hS11 rfl rfl rfl rfl rfl rfl rfl rfl (zE (i:=1) hS11 rfl) (λ_=>rfl) (.inl rfl) eE (λ_=>rfl)) ?_
 rintro v12 H13 hS14
 refine af ?_
 have hS15:=Sep.pick hS14 [1,0] 2 eB eB
 exact ⟨v12,(lL (vs:=[v12]) rfl (jU (Sep.arg (i:=0) hS14 rfl) kE)),v12,(([]:List Int)++l),gq,Sep.cH hS15 _,rfl⟩
def Zx {H:aT} (a0:jS Int) (F:List lC) (hS:Sep H F) (q1:a0.l.length<=1000):∃ v H',ka cfg FT ko true 43 [ly a0] { H with cH:=[] } v H'/\(∃ ov:AV,∃ ol:List Int,(ol=a0.l)/\Sep H' (lG ov ol::F)/\v=ov):=by
 refine kW BH ?_
 refine aY ?_
 refine lS (b:=a0.isNil) rfl (λ_=>nS rfl rfl rfl rfl) (λh1=>?_) (λh1=>?_)
 refine aW ?_
 have hS2:=Sep.mf hS 1
 have hS3:=Sep.pick hS2 [0] 1 eB eB
 exact ⟨iN,rfl,iN,([]:List Int),fe,Sep.cH hS3 _,rfl⟩
 refine ah ?_
 refine wz [ly a0] H [] ?_
 refine ae ?_
 have hS4:=Sep.oq hS 1
 refine kn rfl (kZ (i:=0) (l:=([]:List Int)) (enc:=j6) a0.l hS4 rfl rfl rfl rfl rfl rfl rfl rfl rfl (λ_=>rfl) (.inl rfl) eE (λ_=>rfl)) ?_
 rintro v5 H6 hS7
 refine af ?_
 have hS8:=Sep.pick hS7 [0] 1 eB eB
 exact ⟨v5,(lL (vs:=[v5]) rfl (jU (Sep.arg (i:=0) hS7 rfl) kE)),v5,(([]:List Int)++a0.l),fe,Sep.cH hS8 _,rfl⟩
def u77 {H:aT} (a0:jS kz) (F:List lC) (hS:Sep H F) (q1:a0.l.length<=1000):∃ v H',ka cfg FT ko true 77 [jS.av kz.ag a0] { H with cH:=[] } v H'/\(∃ ov:AV,∃ ol:List kz,(ol=a0.l)/\Sep H' (my kz.ag 9 ov ol::F)/\v=ov):=by
 refine kW MQ ?_
 refine aY ?_
 refine lS (b:=a0.isNil) rfl (λ_=>nS rfl rfl rfl rfl) (λh1=>?_) (λh1=>?_)
 refine aW ?_
 have hS2:=Sep.mf hS 9
 have hS3:=Sep.pick hS2 [0] 1 eB eB
 exact ⟨iN,rfl,iN,([]:List kz),fe,Sep.cH hS3 _,rfl⟩
 refine ah ?_
 refine wz [jS.av kz.ag a0] H [] ?_
 refine ae ?_
 have hS4:=Sep.oq hS 9
 refine kn rfl (kZ (i:=0) (l:=([]:List kz)) (enc:=kz.ag) a0.l hS4 rfl rfl rfl rfl rfl rfl rfl rfl rfl (λ_=>rfl) (.inl rfl) eE (λ_=>rfl)) ?_
 rintro v5 H6 hS7
 refine af ?_
 have hS8:=Sep.pick hS7 [0] 1 eB eB
 exact ⟨v5,(lL (vs:=[v5]) rfl (jU (Sep.arg (i:=0) hS7 rfl) kE)),v5,(([]:List kz)++a0.l),fe,Sep.cH hS8 _,rfl⟩
def P78 (_a0:jS kL) (v:AV):Prop:=∃ r0:Row kL,(r0.l = _a0.l)/\v=kQ r0
def t78 (a0:jS kL) (q1:a0.l.length<=1000):Ct 78 [jS.av kL.ag a0] (P78 a0):=by
 refine j9 Nb ?_
 refine aY ?_
 refine lS (b:=a0.isNil) rfl (λ_=>nS rfl rfl rfl rfl) (λh1=>?_) (λh1=>?_)
 refine aW ?_
 exact xG ⟨(lZ:Row kL),e9,rfl⟩
 refine dz ?_
 have hS2:=Sep.oq kV 3
 refine kn rfl (kZ (i:=0) (l:=([]:List kL)) (enc:=kL.ag) a0.l hS2 rfl rfl rfl rfl rfl rfl rfl rfl rfl (λ_=>rfl) (.inl rfl) eE (λ_=>rfl)) ?_
 rintro v3 H4 hS5
 refine af ?_
 obtain ⟨r6,hl7,hf8⟩:=lK (H:=H4) (i:=0) (l:=(([]:List kL)++a0.l)) (enc:=kL.ag) hS5 rfl eA
 have hlq:=hl7; have hln10:=congrArg List.length hl7
 have hz9:∀ m,freeze false { H4 with cH:=[] } (m+2) v3=some (kQ r6):=λm=>hf8 _ _ (λ_=>rfl)
 exact ⟨v3,(lL (vs:=[v3]) rfl (jU (Sep.arg (i:=0) hS5 rfl) kE)),kQ r6,(show freeze false { H4 with cH:=[] } 8 v3=some (kQ r6) by simp only [FZ,hz9]),r6,e9,rfl⟩
def P79 (_a0:jS lI) (v:AV):Prop:=∃ r0:Row lI,(r0.l = _a0.l)/\v=lT r0
def t79 (a0:jS lI) (q1:a0.l.length<=1000):Ct 79 [jS.av lI.ag a0] (P79 a0):=by
 refine j9 MP ?_
 refine aY ?_
 refine lS (b:=a0.isNil) rfl (λ_=>nS rfl rfl rfl rfl) (λh1=>?_) (λh1=>?_)
 refine aW ?_
 exact xG ⟨(lZ:Row lI),e9,rfl⟩
 refine dz ?_
 have hS2:=Sep.oq kV 2
 refine kn rfl (kZ (i:=0) (l:=([]:List lI)) (enc:=lI.ag) a0.l hS2 rfl rfl rfl rfl rfl rfl rfl rfl rfl (λ_=>rfl) (.inl rfl) eE (λ_=>rfl)) ?_
 rintro v3 H4 hS5
 refine af ?_
 obtain ⟨r6,hl7,hf8⟩:=lK (H:=H4) (i:=0) (l:=(([]:List lI)++a0.l)) (enc:=lI.ag) hS5 rfl eA
 have hlq:=hl7; have hln10:=congrArg List.length hl7
 have hz9:∀ m,freeze false { H4 with cH:=[] } (m+2) v3=some (lT r6):=λm=>hf8 _ _ (λ_=>rfl)
 exact ⟨v3,(lL (vs:=[v3]) rfl (jU (Sep.arg (i:=0) hS5 rfl) kE)),lT r6,(show freeze false { H4 with cH:=[] } 8 v3=some (lT r6) by simp only [FZ,hz9]),r6,e9,rfl⟩
def P32 (_a0:j5) (v:AV):Prop:=∃ r0:j5,(r0.dO = _a0.dO/\r0.roads.l.length = _a0.roads.l.length/\(∀ r∈(r0.roads.l:List kz),rb r))/\v=.agg (j5.ag r0)
def t32 (a0:j5) (q1:a0.roads.l.length<=64) (q2:(∀ r∈(a0.roads.l:List kz),rb r)):Ct 32 [.agg (j5.ag a0)] (P32 a0):=by
 refine j9 LW ?_
 refine dE ?_
 refine kI (H:=aT.empty) (args:=[ki a0.roads]) (p:=[]) (r:=[]) rfl rfl rfl rfl rfl rfl rfl (u77 (Row.mg a0.roads) ([]) kV ey) ?_
 rintro ov5 H2 ⟨_,ol6,hc4,hS3,rfl⟩
 have hqF:ol6.length=(Row.mg a0.roads).l.length:=by rw [hc4]
 try simp only [Row.mg] at hqF
 have hOl:=hc4
 refine oV ?_
 refine jP rfl (λ_=>qi rfl rfl rfl (mF rfl rfl (Sep.cell (i:=0) hS3 rfl)) (jU (Sep.cell (i:=0) hS3 rfl) kE) rfl rfl) ?_
 refine oN ?_
 refine aX ?_
 refine jP rfl (λ_=>nb (H:=H2) (i:=0) (l:=ol6) (enc:=kz.ag) hS3 rfl rfl rfl rfl rfl rfl rfl) ?_
 refine aC ?_
 refine jW ol6.length (λk7 e h=>∃ v8:AV,∃ l9:List kz,∃ H10:aT,(l9.length=a0.roads.l.length)/\((∀ r∈(l9:List kz),rb r))/\Sep H10 (my kz.ag 9 v8 l9::[])/\At [1,2,10,11,12] [.la 1 0,.la 2 0,v8,bY ol6.length,bY k7] H10 [(1,[kB a0.dO.elems,kC a0.dO.kg,kF a0.dO.signals,j8 a0.dO.lines,iv a0.dO.top,iv a0.dO.kU,iv a0.dO.kK,iv a0.dO.kM,.bool a0.dO.lq,v8]),(2,[iN,iN,iN,iN,iv 0,iv 0,iv 0,iv 0,jZ,iN])] e h) ?_ (k0:=0) eG ⟨ov5,ol6,H2,gR,(by (rw [hOl]; exact q2)),hS3,(kh hS3 [(10,0)])⟩
 rintro k7 e h hkk7 ⟨v8,l9,H10,hL,hR,hS11,hA⟩
 refine aA ?_
 refine kx (λh12=>?_) (λh12=>?_)
 refine ak ?_
 refine wz [.la 1 0,.la 2 0,v8,bY ol6.length,bY k7] H10 [(1,[kB a0.dO.elems,kC a0.dO.kg,kF a0.dO.signals,j8 a0.dO.lines,iv a0.dO.top,iv a0.dO.kU,iv a0.dO.kK,iv a0.dO.kM,.bool a0.dO.lq,v8]),(2,[iN,iN,iN,iN,iv 0,iv 0,iv 0,iv 0,jZ,iN])] ?_ (kh hS11 [(10,0)])
 refine aw ?_
 have hx13:k7<l9.length:=by first | omega | (simp<;>omega) | (simp_all; omega)
 obtain ⟨x14,hqx14⟩:∃ x,l9[k7]=x:=⟨_,rfl⟩
 have hinx14:x14∈l9:=by rw [<- hqx14]; exact List.getElem_mem _
 obtain ⟨hk1x14,hk2x14,hk3x14,hk4x14,hk5x14,hk6x14,hk7x14,hk8x14⟩:=hR _ hinx14
 refine mv rfl (lO (H:=H10) (i:=0) (m:=k7) (cs:=kz.ag x14) hS11 rfl rfl rfl rfl rfl rfl rfl (lA hx13 hqx14)) ?_
 rintro a15 ⟨ha16,hea17⟩
 refine jP rfl (λ_=>mK (H:=H10) (i:=0) (m:=k7) (o:=0) (r:=.agg (kz.ag x14)) (cs:=kz.ag x14) hS11 rfl (lA hx13 hqx14) hea17 rfl rfl ha16) ?_
 refine bu ?_
 refine dj ?_
 refine bQ ?_
 refine rC (t78 (Row.mg x14.steps) ey) ?_
 rintro _ ⟨r19,hc18,rfl⟩
 have hC93:=congrArg List.length hc18; try simp only [Row.mg] at hC93
 refine rV ?_
 refine rC (t79 (Row.mg x14.nm) ey) ?_
 rintro _ ⟨r21,hc20,rfl⟩
 have hC94:=congrArg List.length hc20; try simp only [Row.mg] at hC94
 refine rC (t79 (Row.mg x14.guards) ey) ?_
 rintro _ ⟨r23,hc22,rfl⟩
 have hC94:=congrArg List.length hc22; try simp only [Row.mg] at hC94
 refine rC (t43 (Row.mg x14.nr) ey) ?_
 rintro _ ⟨r25,hc24,rfl⟩
 have hC115:=congrArg List.length hc24; try simp only [Row.mg] at hC115; have hIc:=hc24; try simp only [Row.mg] at hIc
 refine rC (t43 (Row.mg x14.holds) ey) ?_
 rintro _ ⟨r27,hc26,rfl⟩
 have hC115:=congrArg List.length hc26; try simp only [Row.mg] at hC115; have hIc:=hc26; try simp only [Row.mg] at hIc
 refine bj ?_
 refine bP ?_
 refine qg ?_
 refine aK ?_
 have hx28:k7<l9.length:=by first | omega | (simp<;>omega) | (simp_all; omega)
 refine mv rfl (lO (H:=H10) (i:=0) (m:=k7) (cs:=kz.ag x14) hS11 rfl rfl rfl rfl rfl rfl rfl (lA hx28 hqx14)) ?_
 rintro a29 ⟨ha30,hea31⟩
 refine kn rfl (nH (H:=H10) (i:=0) (m:=k7) (o:=0) x14 (⟨x14.from_,x14.to,x14.end_,r19,r21,r23,r25,r27,x14.bare⟩:kz) hS11 rfl hx28 hqx14 hea31 rfl ha30 rfl rfl rfl rfl) ?_
 rintro _ H32 ⟨rfl,hS33⟩
 refine oN ?_
 refine wz [.la 1 0,.la 2 0,v8,bY ol6.length,bY k7] H32 [(1,[kB a0.dO.elems,kC a0.dO.kg,kF a0.dO.signals,j8 a0.dO.lines,iv a0.dO.top,iv a0.dO.kU,iv a0.dO.kK,iv a0.dO.kM,.bool a0.dO.lq,v8]),(2,[iN,iN,iN,iN,iv 0,iv 0,iv 0,iv 0,jZ,iN])] ?_ (kh hS33 [(10,0)])
 refine qg ?_
 refine kD ?_
 refine ab ?_
 exact ⟨by omega,v8,((l9.set k7 (⟨x14.from_,x14.to,x14.end_,r19,r21,r23,r25,r27,x14.bare⟩:kz))),H32,gf,(by exact wP hR (Lg (hR _ ez) ez ez ez ez ez)),hS33,(kh hS33 [(10,0)])⟩
 refine aj ?_
 refine ai ?_
 refine jP rfl (λ_=>qi rfl rfl rfl rfl (jU rfl (jU rfl (jU rfl (jU rfl (jU rfl (jU rfl (jU rfl (jU rfl (jU rfl (jU (Sep.cell (i:=0) hS11 rfl) kE)))))))))) rfl rfl) ?_
 refine dg ?_
 obtain ⟨r34,hl35,hf36⟩:=lK (H:=H10) (i:=0) (l:=l9) (enc:=kz.ag) hS11 rfl eA
 have hlq:=hl35; have hln38:=congrArg List.length hl35
 have hz37:∀ m,freeze false { H10 with cH:=[(1,[kB a0.dO.elems,kC a0.dO.kg,kF a0.dO.signals,j8 a0.dO.lines,iv a0.dO.top,iv a0.dO.kU,iv a0.dO.kK,iv a0.dO.kM,.bool a0.dO.lq,v8]),(2,[kB a0.dO.elems,kC a0.dO.kg,kF a0.dO.signals,j8 a0.dO.lines,iv a0.dO.top,iv a0.dO.kU,iv a0.dO.kK,iv a0.dO.kM,.bool a0.dO.lq,v8])] } (m+2) v8=some (ki r34):=λm=>hf36 _ _ (λ_=>by simp only [kz.ag,kG,m0,nf,np,mY,nj])
 exact ⟨.agg [kB a0.dO.elems,kC a0.dO.kg,kF a0.dO.signals,j8 a0.dO.lines,iv a0.dO.top,iv a0.dO.kU,iv a0.dO.kK,iv a0.dO.kM,.bool a0.dO.lq,v8],(lL (vs:=[.agg [kB a0.dO.elems,kC a0.dO.kg,kF a0.dO.signals,j8 a0.dO.lines,iv a0.dO.top,iv a0.dO.kU,iv a0.dO.kK,iv a0.dO.kM,.bool a0.dO.lq,v8]]) rfl rfl),.agg [kB a0.dO.elems,kC a0.dO.kg,kF a0.dO.signals,j8 a0.dO.lines,iv a0.dO.top,iv a0.dO.kU,iv a0.dO.kK,iv a0.dO.kM,.bool a0.dO.lq,ki r34],(show freeze false { H10 with cH:=[(1,[kB a0.dO.elems,kC a0.dO.kg,kF a0.dO.signals,j8 a0.dO.lines,iv a0.dO.top,iv a0.dO.kU,iv a0.dO.kK,iv a0.dO.kM,.bool a0.dO.lq,v8]),(2,[kB a0.dO.elems,kC a0.dO.kg,kF a0.dO.signals,j8 a0.dO.lines,iv a0.dO.top,iv a0.dO.kU,iv a0.dO.kK,iv a0.dO.kM,.bool a0.dO.lq,v8])] } 8 (.agg [kB a0.dO.elems,kC a0.dO.kg,kF a0.dO.signals,j8 a0.dO.lines,iv a0.dO.top,iv a0.dO.kU,iv a0.dO.kK,iv a0.dO.kM,.bool a0.dO.lq,v8])=some (.agg [kB a0.dO.elems,kC a0.dO.kg,kF a0.dO.signals,j8 a0.dO.lines,iv a0.dO.top,iv a0.dO.kU,iv a0.dO.kK,iv a0.dO.kM,.bool a0.dO.lq,ki r34]) by simp only [FZ,hz37]),(⟨a0.dO,r34⟩:j5),(by exact ⟨rfl,by simp_all,by simp_all⟩),rfl⟩
def P80 (_a0:jS j4) (v:AV):Prop:=∃ r0:Row j4,(r0.l = _a0.l)/\v=kj r0
def t80 (a0:jS j4) (q1:a0.l.length<=1000):Ct 80 [jS.av j4.ag a0] (P80 a0):=by
 refine j9 M1 ?_
 refine aY ?_
 refine lS (b:=a0.isNil) rfl (λ_=>nS rfl rfl rfl rfl) (λh1=>?_) (λh1=>?_)
 refine aW ?_
 exact xG ⟨(lZ:Row j4),e9,rfl⟩
 refine dz ?_
 have hS2:=Sep.oq kV 5
 refine kn rfl (kZ (i:=0) (l:=([]:List j4)) (enc:=j4.ag) a0.l hS2 rfl rfl rfl rfl rfl rfl rfl rfl rfl (λ_=>rfl) (.inl rfl) eE (λ_=>rfl)) ?_
 rintro v3 H4 hS5
 refine af ?_
 obtain ⟨r6,hl7,hf8⟩:=lK (H:=H4) (i:=0) (l:=(([]:List j4)++a0.l)) (enc:=j4.ag) hS5 rfl eA
 have hlq:=hl7; have hln10:=congrArg List.length hl7
 have hz9:∀ m,freeze false { H4 with cH:=[] } (m+2) v3=some (kj r6):=λm=>hf8 _ _ (λ_=>rfl)
 exact ⟨v3,(lL (vs:=[v3]) rfl (jU (Sep.arg (i:=0) hS5 rfl) kE)),kj r6,(show freeze false { H4 with cH:=[] } 8 v3=some (kj r6) by simp only [FZ,hz9]),r6,e9,rfl⟩
def u81 {H:aT} (a0:jS lj) (F:List lC) (hS:Sep H F) (q1:a0.l.length<=1000):∃ v H',ka cfg FT ko true 81 [jS.av lj.ag a0] { H with cH:=[] } v H'/\(∃ ov:AV,∃ ol:List lj,(ol=a0.l)/\Sep H' (my lj.ag 5 ov ol::F)/\v=ov):=by
 refine kW K3 ?_
 refine aY ?_
 refine lS (b:=a0.isNil) rfl (λ_=>nS rfl rfl rfl rfl) (λh1=>?_) (λh1=>?_)
 refine aW ?_
 have hS2:=Sep.mf hS 5
 have hS3:=Sep.pick hS2 [0] 1 eB eB
 exact ⟨iN,rfl,iN,([]:List lj),fe,Sep.cH hS3 _,rfl⟩
 refine ah ?_
 refine wz [jS.av lj.ag a0] H [] ?_
 refine ae ?_
 have hS4:=Sep.oq hS 5
 refine kn rfl (kZ (i:=0) (l:=([]:List lj)) (enc:=lj.ag) a0.l hS4 rfl rfl rfl rfl rfl rfl rfl rfl rfl (λ_=>rfl) (.inl rfl) eE (λ_=>rfl)) ?_
 rintro v5 H6 hS7
 refine af ?_
 have hS8:=Sep.pick hS7 [0] 1 eB eB
 exact ⟨v5,(lL (vs:=[v5]) rfl (jU (Sep.arg (i:=0) hS7 rfl) kE)),v5,(([]:List lj)++a0.l),fe,Sep.cH hS8 _,rfl⟩
def P82 (_a0:jS lU) (v:AV):Prop:=∃ r0:Row lU,(r0.l = _a0.l)/\v=nQ r0
def t82 (a0:jS lU) (q1:a0.l.length<=1000):Ct 82 [jS.av lU.ag a0] (P82 a0):=by
 refine j9 MA ?_
 refine aY ?_
 refine lS (b:=a0.isNil) rfl (λ_=>nS rfl rfl rfl rfl) (λh1=>?_) (λh1=>?_)
 refine aW ?_
 exact xG ⟨(lZ:Row lU),e9,rfl⟩
 refine dz ?_
 have hS2:=Sep.oq kV 4
 refine kn rfl (kZ (i:=0) (l:=([]:List lU)) (enc:=lU.ag) a0.l hS2 rfl rfl rfl rfl rfl rfl rfl rfl rfl (λ_=>rfl) (.inl rfl) eE (λ_=>rfl)) ?_
 rintro v3 H4 hS5
 refine af ?_
 obtain ⟨r6,hl7,hf8⟩:=lK (H:=H4) (i:=0) (l:=(([]:List lU)++a0.l)) (enc:=lU.ag) hS5 rfl eA
 have hlq:=hl7; have hln10:=congrArg List.length hl7
 have hz9:∀ m,freeze false { H4 with cH:=[] } (m+2) v3=some (nQ r6):=λm=>hf8 _ _ (λ_=>rfl)
 exact ⟨v3,(lL (vs:=[v3]) rfl (jU (Sep.arg (i:=0) hS5 rfl) kE)),nQ r6,(show freeze false { H4 with cH:=[] } 8 v3=some (nQ r6) by simp only [FZ,hz9]),r6,e9,rfl⟩
def P33 (_a0:jV) (v:AV):Prop:=∃ r0:jV,(r0.runs.l.length = _a0.runs.l.length/\∀ r∈r0.runs.l,r.kH.l.length<=12)/\v=.agg (jV.ag r0)
def t33 (a0:jV) (q1:tv a0) (q2:a0.j3.l.length<=10):Ct 33 [.agg (jV.ag a0)] (P33 a0):=by
 refine j9 Na ?_
 have q3:=q1.1
 refine bT ?_
 refine aL ?_
 refine cZ ?_
 refine rC (t80 (Row.mg a0.j3) ey) ?_
 rintro _ ⟨r2,hc1,rfl⟩
 refine rV ?_
 refine BJ (H:=aT.empty) (args:=[mc a0.runs]) (p:=[]) (r:=[]) rfl rfl rfl rfl rfl rfl rfl rfl (u81 (Row.mg a0.runs) ([]) kV ey) ?_
 rintro ov7 H4 ⟨_,ol8,hc6,hS5,rfl⟩
 have hqF:ol8.length=(Row.mg a0.runs).l.length:=by rw [hc6]
 try simp only [Row.mg] at hqF
 have hOl:=hc6
 refine aI ?_
 refine kp rfl rfl (λ_=>qi rfl rfl rfl (mF rfl rfl (Sep.cell (i:=0) hS5 rfl)) (jU (Sep.cell (i:=0) hS5 rfl) kE) rfl rfl) ?_
 refine rN ?_
 refine aX ?_
 refine jP rfl (λ_=>nb (i:=0) (l:=ol8) (enc:=lj.ag) hS5 rfl rfl rfl rfl rfl rfl rfl) ?_
 refine aC ?_
 refine jW ol8.length (λk9 e h=>∃ v10:AV,∃ l11:List lj,∃ H12:aT,(l11.length=a0.runs.l.length)/\(∀ r∈(l11:List lj),r.kH.l.length<=12)/\Sep H12 (my lj.ag 5 v10 l11::[])/\At [1,2,14,15] [.la 1 0,.la 2 0,bY ol8.length,bY k9] H12 [(1,[iv a0.mR,kj r2,v10]),(2,[iv 0,iN,iN])] e h) ?_ (k0:=0) eG ⟨ov7,ol8,H4,gR,(by (rw [hOl]; exact λr hr=>(q1.2 r hr).1)),hS5,atR⟩
 rintro k9 e h hkk9 ⟨v10,l11,H12,hL,hR,hS13,hA⟩
 refine aA ?_
 refine kx (λh14=>?_) (λh14=>?_)
 refine ak ?_
 refine wz [.la 1 0,.la 2 0,bY ol8.length,bY k9] H12 [(1,[iv a0.mR,kj r2,v10]),(2,[iv 0,iN,iN])] ?_
 refine dA ?_
 refine qd ?_
 refine dp ?_
 have hx15:k9<l11.length:=by first | omega | (simp<;>omega) | (simp_all; omega)
 obtain ⟨x16,hqx16⟩:∃ x,l11[k9]=x:=⟨_,rfl⟩
 have hinx16:x16∈l11:=by rw [<- hqx16]; exact List.getElem_mem _
 have hkx16:=hR _ hinx16
 refine nk rfl rfl (lO (i:=0) (m:=k9) (cs:=lj.ag x16) hS13 rfl rfl rfl rfl rfl rfl rfl (lA hx15 hqx16)) ?_
 rintro a17 ⟨ha18,hea19⟩
 refine kp rfl rfl (λ_=>EA.yq hea19 rfl rfl rfl ha18) ?_
 refine kp rfl rfl (λ_=>mK (i:=0) (m:=k9) (o:=4) (r:=nQ x16.kH) (cs:=lj.ag x16) hS13 rfl (lA hx15 hqx16) hea19 rfl rfl rfl) ?_
 refine rC (t82 (Row.mg x16.kH) ey) ?_
 rintro _ ⟨r21,hc20,rfl⟩
 have hC82:=congrArg List.length hc20; try simp only [Row.mg] at hC82
 have hx22:k9<l11.length:=by first | omega | (simp<;>omega) | (simp_all; omega)
 refine nk rfl rfl (lO (i:=0) (m:=k9) (cs:=lj.ag x16) hS13 rfl rfl rfl rfl rfl rfl rfl (lA hx22 hqx16)) ?_
 rintro a23 ⟨ha24,hea25⟩
 refine kp rfl rfl (λ_=>EA.yq hea25 rfl rfl rfl ha24) ?_
 refine lH rfl rfl (nH (i:=0) (m:=k9) (o:=4) x16 (⟨x16.name,x16.j3,x16.from_,x16.left,r21⟩:lj) hS13 rfl hx22 hqx16 hea25 rfl rfl rfl rfl rfl rfl) ?_
 rintro _ H26 ⟨rfl,hS27⟩
 refine rN ?_
 refine wz [.la 1 0,.la 2 0,bY ol8.length,bY k9] H26 [(1,[iv a0.mR,kj r2,v10]),(2,[iv 0,iN,iN])] ?_
 refine qg ?_
 refine kD ?_
 refine ab ?_
 exact ⟨by omega,v10,((l11.set k9 (⟨x16.name,x16.j3,x16.from_,x16.left,r21⟩:lj))),H26,gf,(by exact wP hR (by show List.length (Row.l _)<=12; rw [hC82]; assumption)),hS27,atR⟩
 refine aj ?_
 refine wz [.la 1 0,.la 2 0,.la 2 0] H12 [(1,[iv a0.mR,kj r2,v10]),(2,[iv 0,iN,iN]),(2,[iv 0,iN,iN])] ?_
 refine ai ?_
 refine jP rfl (λ_=>qi rfl rfl rfl rfl (jU rfl (jU rfl (jU (Sep.cell (i:=0) hS13 rfl) kE))) rfl rfl) ?_
 refine dg ?_
 obtain ⟨r28,hl29,hf30⟩:=lK (H:=H12) (i:=0) (l:=l11) (enc:=lj.ag) hS13 rfl eA
 have hlq:=hl29; have hln32:=congrArg List.length hl29
 have hz31:∀ m,freeze false { H12 with cH:=[(1,[iv a0.mR,kj r2,v10]),(2,[iv a0.mR,kj r2,v10])] } (m+2) v10=some (mc r28):=λm=>hf30 _ _ (λ_=>by simp only [lj.ag,kG,m0,nf,np,mY,nj])
 exact ⟨.agg [iv a0.mR,kj r2,v10],(lL (vs:=[.agg [iv a0.mR,kj r2,v10]]) rfl rfl),.agg [iv a0.mR,kj r2,mc r28],(show freeze false { H12 with cH:=[(1,[iv a0.mR,kj r2,v10]),(2,[iv a0.mR,kj r2,v10])] } 8 (.agg [iv a0.mR,kj r2,v10])=some (.agg [iv a0.mR,kj r2,mc r28]) by simp only [FZ,hz31]),(⟨a0.mR,r2,r28⟩:jV),(by exact ⟨by simp_all,by simp_all⟩),rfl⟩
def UZ (k:Nat) (h:aT):∀ m:Nat,m<=8->nM cfg FT ko (k+60) false 34 [.sl [[iv (-1)]] (.exact 1),bY m] h=some (.sl (List.replicate m [iv (-1)]) .oH,h)
 | 0,_=>by kernel_rfl
 | 1,_=>by kernel_rfl
 | 2,_=>by kernel_rfl
 | 3,_=>by kernel_rfl
 | 4,_=>by kernel_rfl
 | 5,_=>by kernel_rfl
 | 6,_=>by kernel_rfl
 | 7,_=>by kernel_rfl
 | 8,_=>by kernel_rfl
 | m+9,hm=>by omega
def P34 (m:Nat) (v:AV):Prop:=∃ r0:Row Int,(r0.l=List.replicate m (-1))/\v=kN r0
def t34 (m:Nat) (q1:m<=8) (h:aT):∃ v,ka cfg FT ko false 34 [.sl [[iv (-1)]] (.exact 1),bY m] h v h/\P34 m v:=by
 refine ⟨_,⟨60,λk hk=>by obtain ⟨j,rfl⟩:=Nat.exists_eq_add_of_le' hk; exact UZ j h m q1⟩,⟨List.replicate m (-1),.oH,by simp [ry]; omega,rfl,λh=>by cases h⟩,rfl,?_⟩
 simp [Row.av,j6]
def Q0 {H:aT} (a0:jS kP) (F:List lC) (hS:Sep H F) (q1:a0.l.length<=1000):∃ v H',ka cfg FT ko true 114 [jS.av kP.ag a0] { H with cH:=[] } v H'/\(∃ ov:AV,∃ ol:List kP,(ol=a0.l)/\Sep H' (my kP.ag 2 ov ol::F)/\v=ov):=by
 refine kW Hx ?_
 refine aY ?_
 refine lS (b:=a0.isNil) rfl (λ_=>nS rfl rfl rfl rfl) (λh1=>?_) (λh1=>?_)
 refine aW ?_
 have hS2:=Sep.mf hS 2
 have hS3:=Sep.pick hS2 [0] 1 eB eB
 exact ⟨iN,rfl,iN,([]:List kP),fe,Sep.cH hS3 _,rfl⟩
 refine ah ?_
 refine wz [jS.av kP.ag a0] H [] ?_
 refine ae ?_
 have hS4:=Sep.oq hS 2
 refine kn rfl (kZ (i:=0) (l:=([]:List kP)) (enc:=kP.ag) a0.l hS4 rfl rfl rfl rfl rfl rfl rfl rfl rfl (λ_=>rfl) (.inl rfl) eE (λ_=>rfl)) ?_
 rintro v5 H6 hS7
 refine af ?_
 have hS8:=Sep.pick hS7 [0] 1 eB eB
 exact ⟨v5,(lL (vs:=[v5]) rfl (jU (Sep.arg (i:=0) hS7 rfl) kE)),v5,(([]:List kP)++a0.l),fe,Sep.cH hS8 _,rfl⟩
def PZ {H:aT} (b:Bool) (F:List lC) (hS:Sep H F) :∃ v H',ka cfg FT ko true 163 [.bool b] { H with cH:=[] } v H'/\(∃ r0:Bool,(r0=!b)/\Sep H' (F)/\v=.bool r0):=by
 refine kW FQ ?_
 refine bI ?_
 refine aa ?_
 refine lS (b:=b) rfl (λ_=>rfl) (λh1=>?_) (λh1=>?_)
 refine aR ?_
 have hS2:=Sep.pick hS [] 0 eB eB
 exact ⟨.bool false,rfl,false,gq,Sep.cH hS2 _,rfl⟩
 refine aR ?_
 have hS3:=Sep.pick hS [] 0 eB eB
 exact ⟨.bool true,rfl,true,gq,Sep.cH hS3 _,rfl⟩
def Yw {H:aT} (vb:AV) (bl:List Bool) (F:List lC) (hS:Sep H (my mI 1 vb bl::F)) (q1:bl.length<=8):∃ v H',ka cfg FT ko true 162 [vb,.kY 163 [] []] { H with cH:=[] } v H'/\(∃ r0:Int,((-1<=r0/\(r0<0->∀ x∈bl,x=true)/\r0<(bl.length:Int)))/\Sep H' (my mI 1 vb bl::F)/\v=iv r0):=by
 refine kW F5 ?_
 refine eq ?_
 refine aC ?_
 refine jW bl.length (λk1 e h=>∃ H2:aT,(∀ (i:Nat) (h:i<bl.length),i<k1->bl[i]=true)/\Sep H2 (my mI 1 vb bl::F)/\At [0,1,7,8] [vb,.kY 163 [] [],bY bl.length,bY k1] H2 [] e h) ?_ (k0:=0) eG ⟨H,fT,hS,(kh hS [(0,0)])⟩
 rintro k1 e h hkk1 ⟨H2,hP,hS3,hA⟩
 refine aA ?_
 refine kx (λh4=>?_) (λh4=>?_)
 refine ak ?_
 refine wz [vb,.kY 163 [] [],bY bl.length,bY k1] H2 [] ?_ (kh hS3 [(0,0)])
 refine dA ?_
 refine a6 ?_
 have hx5:k1<bl.length:=by first | omega | (simp<;>omega) | (simp_all; omega)
 obtain ⟨x6,hqx6⟩:∃ x,bl[k1]=x:=⟨_,rfl⟩
 refine mv rfl (lO (i:=0) (m:=k1) (cs:=mI x6) hS3 rfl rfl rfl rfl rfl rfl rfl (lA hx5 hqx6)) ?_
 rintro a7 ⟨ha8,hea9⟩
 refine lS (b:=x6) rfl (λ_=>mK (i:=0) (m:=k1) (o:=0) (r:=.bool x6) (cs:=mI x6) hS3 rfl (lA hx5 hqx6) hea9 rfl rfl ha8) (λh10=>?_) (λh10=>?_)
 have hS11:=Sep.pick hS3 [0] 1 eB eB
 refine kI (H:=H2) (args:=[.bool true]) (p:=[]) (r:=[]) rfl rfl rfl rfl rfl rfl rfl (PZ true (my mI 1 vb bl::F) hS11) ?_
 rintro _ H12 ⟨r15,hc14,hS13,rfl⟩
 have hO1:=hc14
 cases r15
 refine ah ?_
 refine wz [vb,.kY 163 [] [],bY bl.length,bY k1] H12 [] ?_ (kh hS13 [(0,0)])
 refine qg ?_
 refine kD ?_
 refine ab ?_
 exact ⟨by omega,H12,gC,hS13,(kh hS13 [(0,0)])⟩
 refine aJ ?_
 have hS16:=Sep.pick hS13 [0] 1 eB eB
 exact ⟨bY k1,rfl,((k1:Int)),fV,Sep.cH hS16 _,rfl⟩
 have hS17:=Sep.pick hS3 [0] 1 eB eB
 refine kI (H:=H2) (args:=[jZ]) (p:=[]) (r:=[]) rfl rfl rfl rfl rfl rfl rfl (PZ false (my mI 1 vb bl::F) hS17) ?_
 rintro _ H18 ⟨r21,hc20,hS19,rfl⟩
 have hO1:=hc20
 cases r21
 refine ah ?_
 refine wz [vb,.kY 163 [] [],bY bl.length,bY k1] H18 [] ?_ (kh hS19 [(0,0)])
 refine qg ?_
 refine kD ?_
 refine ab ?_
 exact ⟨by omega,H18,gC,hS19,(kh hS19 [(0,0)])⟩
 refine aJ ?_
 have hS22:=Sep.pick hS19 [0] 1 eB eB
 exact ⟨bY k1,rfl,((k1:Int)),fV,Sep.cH hS22 _,rfl⟩
 refine aS ?_
 have hS23:=Sep.pick hS3 [0] 1 eB eB
 exact ⟨iv (-1),rfl,(-1),fV,Sep.cH hS23 _,rfl⟩
def aa3 (_a0:Row Int) (v:AV):Prop:=∃ r0:Int,(True)/\v=.int .u64 (r0)
def t183 (a0:Row Int) :Ct 183 [kN a0] (aa3 a0):=by
 refine j9 Jf ?_
 refine bI ?_
 refine aY ?_
 have hL1:=a0.lk
 refine cN ?_
 have hNk2:=a0.lk
 refine jW a0.l.length (λk2 e h=>∃ n3:Int,At [3,6,7,8] [.int .u64 n3,kN a0,bY a0.l.length,bY k2] aT.empty [] e h) ?_ (k0:=0) eG ⟨0,atR⟩
 rintro k2 e h hkk2 ⟨n3,hA⟩
 refine aA ?_
 refine kx (λh4=>?_) (λh4=>?_)
 refine bC ?_
 have hx5:k2<a0.l.length:=by omega
 refine ml k2 a0 hx5 ?_
 generalize hqx6:a0.l[k2]=x6
 refine oV ?_
 refine aZ ?_
 refine mV (λh7=>?_) (λh7=>?_)
 refine am ?_
 refine kx (λh8=>?_) (λh8=>?_)
 refine be ?_
 refine cu ?_
 obtain ⟨z9,hz10⟩:=QL (k:=.u64) (x:=1) (y:=x6) eC
 refine jP rfl (λ_=>DE rfl rfl rfl hz10) ?_
 obtain ⟨z11,hz12⟩:=Hh .u64 n3 (z9)
 refine jP rfl (λ_=>me rfl rfl rfl hz12) ?_
 refine oV ?_
 refine dY ?_
 refine kD ?_
 refine ab ?_
 exact ⟨by omega,z11,atR⟩
 refine cU ?_
 refine kD ?_
 refine ab ?_
 exact ⟨by omega,n3,atR⟩
 refine bv ?_
 refine cU ?_
 refine kD ?_
 refine ab ?_
 exact ⟨by omega,n3,atR⟩
 refine aj ?_
 refine bR ?_
 exact xB ⟨n3,zt⟩
def Qm (_a0:jS kP) (_a1:Int) (v:AV):Prop:=∃ r0:Int,(True)/\v=.int .u64 (r0)
def t164 (a0:jS kP) (a1:Int) :Ct 164 [jS.av kP.ag a0,iv a1] (Qm a0 a1):=by
 refine j9 Ju ?_
 refine bI ?_
 refine aY ?_
 have hL1:=a0.lk
 refine ed ?_
 have hNk2:=a0.lk
 refine jW a0.l.length (λk2 e h=>∃ n3:Int,At [1,5,8,9,10] [iv a1,.int .u64 n3,jS.av kP.ag a0,bY a0.l.length,bY k2] aT.empty [] e h) ?_ (k0:=0) eG ⟨0,atR⟩
 rintro k2 e h hkk2 ⟨n3,hA⟩
 refine aA ?_
 refine kx (λh4=>?_) (λh4=>?_)
 refine d7 ?_
 have hx5:k2<a0.l.length:=by omega
 refine jP rfl (λ_=>mJ (n:=k2) (r:=a0) (enc:=kP.ag) rfl rfl rfl rfl rfl hx5 rfl) ?_
 generalize hqx6:a0.l[k2]=x6
 refine oV ?_
 refine dM ?_
 refine lR (λh7=>?_) (λh7=>?_)
 refine az ?_
 refine bz ?_
 refine oC (t183 x6.at_) ?_
 rintro _ ⟨r9,hc8,rfl⟩
 obtain ⟨z10,hz11⟩:=Hh .u64 n3 (r9)
 refine jP rfl (λ_=>me rfl rfl rfl hz11) ?_
 refine oV ?_
 refine dY ?_
 refine kD ?_
 refine ab ?_
 exact ⟨by omega,z10,atR⟩
 refine bU ?_
 refine kD ?_
 refine ab ?_
 exact ⟨by omega,n3,atR⟩
 refine aj ?_
 refine bR ?_
 exact xB ⟨n3,zt⟩
def XY (_a0:kP) (v:AV):Prop:=∃ r0:Int,(True)/\v=.int .u64 (r0)
def t165 (a0:kP) :Ct 165 [.agg (kP.ag a0)] (XY a0):=by
 refine j9 IZ ?_
 refine bT ?_
 refine dJ ?_
 have hL1:=a0.kH.lk
 refine lu a0.kH ?_
 refine aC ?_
 have hNk2:=a0.kH.lk
 refine jW a0.kH.l.length (λk2 e h=>∃ n3:Int,At [3,7,8,9] [.int .u64 n3,oE a0.kH,bY a0.kH.l.length,bY k2] aT.empty [] e h) ?_ (k0:=0) eG ⟨0,atR⟩
 rintro k2 e h hkk2 ⟨n3,hA⟩
 refine aA ?_
 refine kx (λh4=>?_) (λh4=>?_)
 refine bC ?_
 have hx5:k2<a0.kH.l.length:=by omega
 refine ml k2 a0.kH hx5 ?_
 generalize hqx6:a0.kH.l[k2]=x6
 refine bu ?_
 refine bz ?_
 refine oC (t183 x6.free) ?_
 rintro _ ⟨r8,hc7,rfl⟩
 obtain ⟨z9,hz10⟩:=Hh .u64 n3 (r8)
 refine jP rfl (λ_=>me rfl rfl rfl hz10) ?_
 refine oV ?_
 refine dY ?_
 refine kD ?_
 refine ab ?_
 exact ⟨by omega,z9,atR⟩
 refine aj ?_
 refine bR ?_
 exact xB ⟨n3,zt⟩
end Go.Sx
