/- Proves what some functions of the program answer, by walking through them. -/
import Derived.Test.YtihofefpkjfmnaaGreatTaj
import Derived.Test.YtihofefpkjfmnaaGreatTam
set_option linter.all false
set_option maxRecDepth 100000
set_option maxHeartbeats 0
namespace Go.Sx
open Go Go.Proofs
def P96 (_a0:jV) (_a1:Int) (_a2:Int) (v:AV):Prop:=∃ r0:Row lU,∃ r1:Bool,((((r1=true->0<=_a1/\_a1<(_a0.runs.l.length:Int)/\0<=_a2/\(∀ h : _a1.toNat < _a0.runs.l.length,r0=(_a0.runs.l[_a1.toNat]).kH)/\_a2<=(r0.l.length:Int))/\(r1=false->Fg _a0 _a1 _a2))/\r0.l.length<=9223372036854775807))/\v=.kq [nQ r0,.bool r1]
def t96 (a0:jV) (a1:Int) (a2:Int) :Ct 96 [.agg (jV.ag a0),iv a1,iv a2] (P96 a0 a1 a2):=by
 refine j9 NB ?_
 refine ae ?_
 refine ao ?_
 refine kx (λh1=>?_) (λh1=>?_)
 refine ck ?_
 refine bi ?_
 refine cD ?_
 refine cO ?_
 exact jO
 refine aK ?_
 have hL2:=a0.runs.lk
 refine lu a0.runs ?_
 refine mV (λh3=>?_) (λh3=>?_)
 refine bi ?_
 refine cD ?_
 refine cO ?_
 exact jO
 refine aF ?_
 refine kx (λh4=>?_) (λh4=>?_)
 refine cD ?_
 refine cO ?_
 exact jO
 refine cr ?_
 have hx5:(a1).toNat<a0.runs.l.length:=by omega
 refine jP rfl (λ_=>ld (n:=a1) (r:=a0.runs) (enc:=lj.ag) rfl rfl rfl rfl rfl eG hx5 rfl) ?_
 generalize hqx6:a0.runs.l[(a1).toNat]=x6
 refine am ?_
 have hL7:=x6.kH.lk
 refine lu x6.kH ?_
 refine ma (λh8=>?_) (λh8=>?_)
 refine cO ?_
 exact jO
 refine aH ?_
 refine a6 ?_
 have hx9:(a1).toNat<a0.runs.l.length:=by omega
 refine jP rfl (λ_=>ld (n:=a1) (r:=a0.runs) (enc:=lj.ag) rfl rfl rfl rfl rfl eG hx9 rfl) ?_
 rw [hqx6]
 refine ci ?_
 exact xG ⟨x6.kH,true,eT,rfl⟩
def XE (_a0:iS) (_a1:Int) (v:AV):Prop:=∃ r0:lV,(r0.kind=qh _a0.p _a1)/\v=.agg (lV.ag r0)
def t174 (a0:iS) (a1:Int) :Ct 174 [.ip (iS.ag a0) 0 false,iv a1] (XE a0 a1):=by
 refine j9 Iq ?_
 refine aY ?_
 refine kx (λh1=>?_) (λh1=>?_)
 refine oV ?_
 refine cw ?_
 refine cO ?_
 exact jd
 iterate 7 refine oV ?_
 have hL2:=a0.p.elems.lk
 refine lu a0.p.elems ?_
 refine mV (λh3=>?_) (λh3=>?_)
 refine cO ?_
 exact jd
 refine aH ?_
 refine aa ?_
 refine cr ?_
 have hx4:(a1).toNat<a0.p.elems.l.length:=by omega
 refine jP rfl (λ_=>ld (n:=a1) (r:=a0.p.elems) (enc:=lV.ag) rfl rfl rfl rfl rfl eG hx4 rfl) ?_
 generalize hqx5:a0.p.elems.l[(a1).toNat]=x5
 refine aR ?_
 exact xG ⟨x5,fC,rfl⟩
def aax (_a0:iS) (_a1:Int) (v:AV):Prop:=∃ r0:Int,(r0=qh _a0.p _a1)/\v=iv r0
def t102 (a0:iS) (a1:Int) :Ct 102 [.ip (iS.ag a0) 0 false,iv a1] (aax a0 a1):=by
 refine j9 Ho ?_
 refine cX ?_
 refine oC (t174 a0 a1) ?_
 rintro _ ⟨r2,hc1,rfl⟩
 refine aR ?_
 exact xB ⟨r2.kind,ez,rfl⟩
def P97 (_a0:iS) (_a1:Int) (v:AV):Prop:=∃ r0:Int,(True)/\v=iv r0
def t97 (a0:iS) (a1:Int) :Ct 97 [.ip (iS.ag a0) 0 false,iv a1] (P97 a0 a1):=by
 refine j9 Lj ?_
 refine dJ ?_
 refine oC (t102 a0 a1) ?_
 rintro _ ⟨r2,hc1,rfl⟩
 have hK:=hc1
 refine kR (λh3=>?_) (λh3=>?_)
 refine aW ?_
 exact jc
 refine ah ?_
 refine bR ?_
 exact xB ⟨a1,zt⟩
def ZF (_a0:iS) (_a1:Int) (v:AV):Prop:=∃ r0:jT,∃ r1:Bool,((((r1=true->q8 _a0.p.signals.l _a1=some r0)/\(r1=false->q8 _a0.p.signals.l _a1=none))/\(r1=false->r0=⟨0,0⟩)))/\v=.kq [.agg (jT.ag r0),.bool r1]
def t101 (a0:iS) (a1:Int) :Ct 101 [.ip (iS.ag a0) 0 false,iv a1] (ZF a0 a1):=by
 refine j9 Hf ?_
 refine ai ?_
 refine ao ?_
 refine kx (λh1=>?_) (λh1=>?_)
 refine oV ?_
 refine cw ?_
 refine cI ?_
 exact xG ⟨(⟨0,0⟩:jT),false,fE,rfl⟩
 iterate 7 refine oV ?_
 have hL2:=a0.p.signals.lk
 refine lu a0.p.signals ?_
 refine mV (λh3=>?_) (λh3=>?_)
 refine cI ?_
 exact xG ⟨(⟨0,0⟩:jT),false,fE,rfl⟩
 refine aH ?_
 refine aa ?_
 refine cr ?_
 have hx4:(a1).toNat<a0.p.signals.l.length:=by omega
 refine jP rfl (λ_=>ld (n:=a1) (r:=a0.p.signals) (enc:=lP.ag) rfl rfl rfl rfl rfl eG hx4 rfl) ?_
 generalize hqx5:a0.p.signals.l[(a1).toNat]=x5
 refine ci ?_
 exact xG ⟨x5.at_,true,fE,rfl⟩
def ZT (_a0:iS) (_a1:Int) (v:AV):Prop:=∃ r0:Int,∃ r1:Bool,(True)/\v=.kq [iv r0,.bool r1]
def t217 (a0:iS) (a1:Int) :Ct 217 [.ip (iS.ag a0) 0 false,iv a1] (ZT a0 a1):=by
 refine j9 Gu ?_
 refine dE ?_
 refine oC (t101 a0 a1) ?_
 rintro _ ⟨r2,r3,hc1,rfl⟩
 have hA:=hc1.1; have hA0:=hc1.2
 cases r3
 refine bM ?_
 refine ci ?_
 exact xG ⟨r2.elem,false,zt⟩
 refine bM ?_
 refine ci ?_
 exact xG ⟨r2.elem,true,zt⟩
def Zz (_a0:iS) (_a1:Int) (v:AV):Prop:=∃ r0:Int,(True)/\v=iv r0
def t168 (a0:iS) (a1:Int) :Ct 168 [.ip (iS.ag a0) 0 false,iv a1] (Zz a0 a1):=by
 refine j9 Ge ?_
 refine cX ?_
 refine oC (t217 a0 a1) ?_
 rintro _ ⟨r2,r3,hc1,rfl⟩
 cases r3
 refine bV ?_
 refine au ?_
 exact jc
 refine bV ?_
 refine aH ?_
 refine bR ?_
 exact xB ⟨r2,zt⟩
def P98 (_a0:iS) (_a1:jV) (_a2:Int) (_a3:Int) (v:AV):Prop:=∃ r0:Int,(True)/\v=iv r0
def t98 (a0:iS) (a1:jV) (a2:Int) (a3:Int) :Ct 98 [.ip (iS.ag a0) 0 false,.agg (jV.ag a1),iv a2,iv a3] (P98 a0 a1 a2 a3):=by
 refine j9 Ms ?_
 refine bT ?_
 refine a6 ?_
 refine oC (t96 a1 a2 a3) ?_
 rintro _ ⟨r2,r3,hc1,rfl⟩
 have hL:=hc1.1; have hLz:=hc1.2
 cases r3
 refine bV ?_
 refine au ?_
 exact jc
 have hLt:=hL.1 rfl; have hLL:=hLt.2.2.2.1
 refine bV ?_
 refine oV ?_
 refine dS ?_
 refine kR (λh4=>?_) (λh4=>?_)
 refine az ?_
 refine bL ?_
 have hx5:(a2).toNat<a1.runs.l.length:=by omega
 refine jP rfl (λ_=>ld (n:=a2) (r:=a1.runs) (enc:=lj.ag) rfl rfl rfl rfl rfl eG hx5 rfl) ?_
 generalize hqx6:a1.runs.l[(a2).toNat]=x6
 refine am ?_
 refine oC (t168 a0 x6.from_) ?_
 rintro _ ⟨r8,hc7,rfl⟩
 refine af ?_
 exact xB ⟨r8,zt⟩
 refine ah ?_
 refine aX ?_
 refine pL ?_
 have hx9:(a3 - 1).toNat<r2.l.length:=by omega
 refine jP rfl (λ_=>ld (n:=a3 - 1) (r:=r2) (enc:=lU.ag) rfl rfl rfl rfl rfl eG hx9 rfl) ?_
 generalize hqx10:r2.l[(a3 - 1).toNat]=x10
 refine dM ?_
 refine dv ?_
 refine kR (λh11=>?_) (λh11=>?_)
 refine be ?_
 refine a6 ?_
 refine oC (t168 a0 x10.to) ?_
 rintro _ ⟨r13,hc12,rfl⟩
 refine af ?_
 exact xB ⟨r13,zt⟩
 refine br ?_
 refine kR (λh14=>?_) (λh14=>?_)
 refine cI ?_
 exact xB ⟨x10.to,zt⟩
 refine aH ?_
 refine aU ?_
 exact jc
def YB (_a0:jS Int) (v:AV):Prop:=∃ r0:Row Int,((r0.l = _a0.l/\(r0.c=.nil↔_a0.c=.nil)))/\v=kN r0
def YV (a0:jS Int) (q1:a0.l.length<=1000):Fh 43 [ly a0] (YB a0):=by
 refine xc BH ?_
 refine aY ?_
 refine lS (b:=a0.isNil) rfl (λ_=>nS rfl rfl rfl rfl) (λh1=>?_) (λh1=>?_)
 refine aW ?_
 exact xG ⟨(lZ:Row Int),eM,rfl⟩
 refine ah ?_
 refine wy [ly a0] [] ?_
 refine ae ?_
 have hS2:=Sep.oq kV 1
 refine kn rfl (vd (i:=0) (l:=([]:List Int)) (enc:=j6) a0.l hS2 rfl rfl rfl rfl rfl rfl rfl rfl rfl (λ_=>rfl) (.inl rfl) eE (λ_=>rfl)) ?_
 rintro v3 H4 ⟨hS5,hNN⟩
 refine af ?_
 obtain ⟨r6,hl7,hnn,hf8⟩:=ve (H:=H4) (i:=0) (l:=(([]:List Int)++a0.l)) (enc:=j6) hS5 rfl eA
 have hlq:=hl7; have hln10:=congrArg List.length hl7
 have hz9:∀ m,freeze false { H4 with cH:=[] } (m+2) v3=some (kN r6):=λm=>hf8 _ _ (λ_=>rfl)
 exact ⟨v3,(lL (vs:=[v3]) rfl (jU (Sep.arg (i:=0) hS5 rfl) kE)),kN r6,(show freeze false { H4 with cH:=[] } 8 v3=some (kN r6) by simp only [FZ,hz9]),r6,eM,rfl⟩
def VS (_a0:jS lV) (v:AV):Prop:=∃ r0:Row lV,((r0.l = _a0.l/\(r0.c=.nil↔_a0.c=.nil)))/\v=kB r0
def R4 (a0:jS lV) (q1:a0.l.length<=1000):Fh 156 [jS.av lV.ag a0] (VS a0):=by
 refine xc Iv ?_
 refine aY ?_
 refine lS (b:=a0.isNil) rfl (λ_=>nS rfl rfl rfl rfl) (λh1=>?_) (λh1=>?_)
 refine aW ?_
 exact xG ⟨(lZ:Row lV),eM,rfl⟩
 refine dz ?_
 have hS2:=Sep.oq kV 3
 refine kn rfl (vd (i:=0) (l:=([]:List lV)) (enc:=lV.ag) a0.l hS2 rfl rfl rfl rfl rfl rfl rfl rfl rfl (λ_=>rfl) (.inl rfl) eE (λ_=>rfl)) ?_
 rintro v3 H4 ⟨hS5,hNN⟩
 refine af ?_
 obtain ⟨r6,hl7,hnn,hf8⟩:=ve (H:=H4) (i:=0) (l:=(([]:List lV)++a0.l)) (enc:=lV.ag) hS5 rfl eA
 have hlq:=hl7; have hln10:=congrArg List.length hl7
 have hz9:∀ m,freeze false { H4 with cH:=[] } (m+2) v3=some (kB r6):=λm=>hf8 _ _ (λ_=>rfl)
 exact ⟨v3,(lL (vs:=[v3]) rfl (jU (Sep.arg (i:=0) hS5 rfl) kE)),kB r6,(show freeze false { H4 with cH:=[] } 8 v3=some (kB r6) by simp only [FZ,hz9]),r6,eM,rfl⟩
def Sl (_a0:jS lQ) (v:AV):Prop:=∃ r0:Row lQ,((r0.l = _a0.l/\(r0.c=.nil↔_a0.c=.nil)))/\v=kC r0
def Sy (a0:jS lQ) (q1:a0.l.length<=1000):Fh 157 [jS.av lQ.ag a0] (Sl a0):=by
 refine xc If ?_
 refine aY ?_
 refine lS (b:=a0.isNil) rfl (λ_=>nS rfl rfl rfl rfl) (λh1=>?_) (λh1=>?_)
 refine aW ?_
 exact xG ⟨(lZ:Row lQ),eM,rfl⟩
 refine dz ?_
 have hS2:=Sep.oq kV 4
 refine kn rfl (vd (i:=0) (l:=([]:List lQ)) (enc:=lQ.ag) a0.l hS2 rfl rfl rfl rfl rfl rfl rfl rfl rfl (λ_=>rfl) (.inl rfl) eE (λ_=>rfl)) ?_
 rintro v3 H4 ⟨hS5,hNN⟩
 refine af ?_
 obtain ⟨r6,hl7,hnn,hf8⟩:=ve (H:=H4) (i:=0) (l:=(([]:List lQ)++a0.l)) (enc:=lQ.ag) hS5 rfl eA
 have hlq:=hl7; have hln10:=congrArg List.length hl7
 have hz9:∀ m,freeze false { H4 with cH:=[] } (m+2) v3=some (kC r6):=λm=>hf8 _ _ (λ_=>rfl)
 exact ⟨v3,(lL (vs:=[v3]) rfl (jU (Sep.arg (i:=0) hS5 rfl) kE)),kC r6,(show freeze false { H4 with cH:=[] } 8 v3=some (kC r6) by simp only [FZ,hz9]),r6,eM,rfl⟩
def VP (_a0:jS lP) (v:AV):Prop:=∃ r0:Row lP,((r0.l = _a0.l/\(r0.c=.nil↔_a0.c=.nil)))/\v=kF r0
def UG (a0:jS lP) (q1:a0.l.length<=1000):Fh 158 [jS.av lP.ag a0] (VP a0):=by
 refine xc HH ?_
 refine aY ?_
 refine lS (b:=a0.isNil) rfl (λ_=>nS rfl rfl rfl rfl) (λh1=>?_) (λh1=>?_)
 refine aW ?_
 exact xG ⟨(lZ:Row lP),eM,rfl⟩
 refine dz ?_
 have hS2:=Sep.oq kV 4
 refine kn rfl (vd (i:=0) (l:=([]:List lP)) (enc:=lP.ag) a0.l hS2 rfl rfl rfl rfl rfl rfl rfl rfl rfl (λ_=>rfl) (.inl rfl) eE (λ_=>rfl)) ?_
 rintro v3 H4 ⟨hS5,hNN⟩
 refine af ?_
 obtain ⟨r6,hl7,hnn,hf8⟩:=ve (H:=H4) (i:=0) (l:=(([]:List lP)++a0.l)) (enc:=lP.ag) hS5 rfl eA
 have hlq:=hl7; have hln10:=congrArg List.length hl7
 have hz9:∀ m,freeze false { H4 with cH:=[] } (m+2) v3=some (kF r6):=λm=>hf8 _ _ (λ_=>rfl)
 exact ⟨v3,(lL (vs:=[v3]) rfl (jU (Sep.arg (i:=0) hS5 rfl) kE)),kF r6,(show freeze false { H4 with cH:=[] } 8 v3=some (kF r6) by simp only [FZ,hz9]),r6,eM,rfl⟩
def VT {H:aT} (a0:jS lr) (F:List lC) (hS:Sep H F) (q1:a0.l.length<=1000):∃ v H',ka cfg FT oU true 159 [jS.av lr.ag a0] { H with cH:=[] } v H'/\(∃ ov:AV,∃ ol:List lr,(ol=a0.l/\(ov=.sl [] .nil↔a0.c=.nil))/\Sep H' (my lr.ag 2 ov ol::F)/\v=ov):=by
 refine KK Jn ?_
 refine aY ?_
 refine lS (b:=a0.isNil) rfl (λ_=>nS rfl rfl rfl rfl) (λh1=>?_) (λh1=>?_)
 refine aW ?_
 have hS2:=Sep.mf hS 2
 have hS3:=Sep.pick hS2 [0] 1 eB eB
 exact ⟨iN,rfl,iN,([]:List lr),gd,Sep.cH hS3 _,rfl⟩
 refine ah ?_
 refine wz [jS.av lr.ag a0] H [] ?_
 refine ae ?_
 have hS4:=Sep.oq hS 2
 refine kn rfl (vd (i:=0) (l:=([]:List lr)) (enc:=lr.ag) a0.l hS4 rfl rfl rfl rfl rfl rfl rfl rfl rfl (λ_=>rfl) (.inl rfl) eE (λ_=>rfl)) ?_
 rintro v5 H6 ⟨hS7,hNN⟩
 refine af ?_
 have hS8:=Sep.pick hS7 [0] 1 eB eB
 exact ⟨v5,(lL (vs:=[v5]) rfl (jU (Sep.arg (i:=0) hS7 rfl) kE)),v5,(([]:List lr)++a0.l),gd,Sep.cH hS8 _,rfl⟩
def Yr (_a0:iF) (v:AV):Prop:=∃ r0:iF,((Gz r0 _a0/\∀ x∈r0.lines.l,x.elems.l.length<=60))/\v=.agg (iF.ag r0)
def XS (a0:iF) (q1:mB a0):Fh 76 [.agg (iF.ag a0)] (Yr a0):=by
 refine xc M5 ?_
 have q2:=q1.elems; have q3:=q1.kg; have q4:=q1.signals; have q5:=q1.lines
 refine bT ?_
 refine bS ?_
 refine rC (R4 (Row.mg a0.elems) ey) ?_
 rintro _ ⟨r2,hc1,rfl⟩
 refine aI ?_
 refine rC (Sy (Row.mg a0.kg) ey) ?_
 rintro _ ⟨r4,hc3,rfl⟩
 refine aI ?_
 refine rC (UG (Row.mg a0.signals) ey) ?_
 rintro _ ⟨r6,hc5,rfl⟩
 refine bP ?_
 refine ae ?_
 refine kI (H:=aT.empty) (args:=[j8 a0.lines]) (p:=[]) (r:=[]) rfl rfl rfl rfl rfl rfl rfl (VT (Row.mg a0.lines) ([]) kV ey) ?_
 rintro ov11 H8 ⟨_,ol12,hc10,hS9,rfl⟩
 have hqF:ol12.length=(Row.mg a0.lines).l.length:=by rw [hc10.1]
 try simp only [Row.mg] at hqF
 have hLn:=hc10
 refine oV ?_
 refine jP rfl (λ_=>qi rfl rfl rfl (mF rfl rfl (Sep.cell (i:=0) hS9 rfl)) (jU (Sep.cell (i:=0) hS9 rfl) kE) rfl rfl) ?_
 refine oN ?_
 refine aX ?_
 refine jP rfl (λ_=>nb (i:=0) (l:=ol12) (enc:=lr.ag) hS9 rfl rfl rfl rfl rfl rfl rfl) ?_
 refine aC ?_
 refine jW ol12.length (λk13 e h=>∃ v14:AV,∃ l15:List lr,∃ H16:aT,(l15.length=a0.lines.l.length)/\(∀ x∈l15,x.elems.l.length<=60)/\(∀ (i:Nat) (h:i<(l15).length) (h2:i<a0.lines.l.length),tC (l15)[i] a0.lines.l[i])/\((v14=.sl [] .nil↔a0.lines.c=.nil))/\Sep H16 (my lr.ag 2 v14 l15::[])/\At [1,2,22,23] [.la 1 0,.la 2 0,bY ol12.length,bY k13] H16 [(1,[kB r2,kC r4,kF r6,v14,iv a0.top,iv a0.kU,iv a0.kK,iv a0.kM,.bool a0.lq]),(2,[iN,iN,iN,iN,iv 0,iv 0,iv 0,iv 0,jZ])] e h) ?_ (k0:=0) eG ⟨ov11,ol12,H8,(by (simp_all [Row.mg])),(by (intro x hx; exact q1.line x (by simp_all [Row.mg]))),(by (rw [hLn.1]; exact λi h h2=>⟨rfl,rfl,Iff.rfl⟩)),(by exact hLn.2),hS9,atR⟩
 rintro k13 e h hkk13 ⟨v14,l15,H16,hL,hE,hN,hV,hS17,hA⟩
 refine aA ?_
 refine kx (λh18=>?_) (λh18=>?_)
 refine ak ?_
 refine wz [.la 1 0,.la 2 0,bY ol12.length,bY k13] H16 [(1,[kB r2,kC r4,kF r6,v14,iv a0.top,iv a0.kU,iv a0.kK,iv a0.kM,.bool a0.lq]),(2,[iN,iN,iN,iN,iv 0,iv 0,iv 0,iv 0,jZ])] ?_
 refine dA ?_
 refine qd ?_
 refine dp ?_
 have hx19:k13<l15.length:=by first | omega | (simp<;>omega) | (simp_all; omega)
 obtain ⟨x20,hqx20⟩:∃ x,l15[k13]=x:=⟨_,rfl⟩
 have hinx20:x20∈l15:=by rw [<- hqx20]; exact List.getElem_mem _
 have hsx20:=hE _ hinx20
 refine nk rfl rfl (lO (i:=0) (m:=k13) (cs:=lr.ag x20) hS17 rfl rfl rfl rfl rfl rfl rfl (lA hx19 hqx20)) ?_
 rintro a21 ⟨ha22,hea23⟩
 refine kp rfl rfl (λ_=>EA.yq hea23 rfl rfl rfl ha22) ?_
 refine kp rfl rfl (λ_=>mK (i:=0) (m:=k13) (o:=1) (r:=kN x20.elems) (cs:=lr.ag x20) hS17 rfl (lA hx19 hqx20) hea23 rfl rfl rfl) ?_
 refine rC (YV (Row.mg x20.elems) ey) ?_
 rintro _ ⟨r25,hc24,rfl⟩
 have hRN:=hc24
 have hx26:k13<l15.length:=by first | omega | (simp<;>omega) | (simp_all; omega)
 refine nk rfl rfl (lO (i:=0) (m:=k13) (cs:=lr.ag x20) hS17 rfl rfl rfl rfl rfl rfl rfl (lA hx26 hqx20)) ?_
 rintro a27 ⟨ha28,hea29⟩
 refine kp rfl rfl (λ_=>EA.yq hea29 rfl rfl rfl ha28) ?_
 refine lH rfl rfl (nH (i:=0) (m:=k13) (o:=1) x20 (⟨x20.name,r25⟩:lr) hS17 rfl hx26 hqx20 hea29 rfl rfl rfl rfl rfl rfl) ?_
 rintro _ H30 ⟨rfl,hS31⟩
 refine rN ?_
 refine wz [.la 1 0,.la 2 0,bY ol12.length,bY k13] H30 [(1,[kB r2,kC r4,kF r6,v14,iv a0.top,iv a0.kU,iv a0.kK,iv a0.kM,.bool a0.lq]),(2,[iN,iN,iN,iN,iv 0,iv 0,iv 0,iv 0,jZ])] ?_
 refine qg ?_
 refine kD ?_
 refine ab ?_
 exact ⟨by omega,v14,((l15.set k13 (⟨x20.name,r25⟩:lr))),H30,fu,(by exact wP hE (by show List.length (Row.l _)<=60; rw [hRN.1]; assumption)),(by (refine JU (x:=?x) hN ?h1 ?h2 ?h3; (case h2=>assumption); exact ⟨rfl,hRN⟩)),(by exact hV),hS31,atR⟩
 refine aj ?_
 refine wz [.la 1 0,.la 2 0,.la 2 0] H16 [(1,[kB r2,kC r4,kF r6,v14,iv a0.top,iv a0.kU,iv a0.kK,iv a0.kM,.bool a0.lq]),(2,[iN,iN,iN,iN,iv 0,iv 0,iv 0,iv 0,jZ]),(2,[iN,iN,iN,iN,iv 0,iv 0,iv 0,iv 0,jZ])] ?_
 refine ai ?_
 refine jP rfl (λ_=>qi rfl rfl rfl rfl (jU rfl (jU rfl (jU rfl (jU (Sep.cell (i:=0) hS17 rfl) (jU rfl (jU rfl (jU rfl (jU rfl (jU rfl kE))))))))) rfl rfl) ?_
 refine dg ?_
 obtain ⟨r32,hl33,hnn,hf34⟩:=ve (H:=H16) (i:=0) (l:=l15) (enc:=lr.ag) hS17 rfl eA
 have hlq:=hl33; have hln36:=congrArg List.length hl33
 have hz35:∀ m,freeze false { H16 with cH:=[(1,[kB r2,kC r4,kF r6,v14,iv a0.top,iv a0.kU,iv a0.kK,iv a0.kM,.bool a0.lq]),(2,[kB r2,kC r4,kF r6,v14,iv a0.top,iv a0.kU,iv a0.kK,iv a0.kM,.bool a0.lq])] } (m+2) v14=some (j8 r32):=λm=>hf34 _ _ (λ_=>by simp only [lr.ag,kG,m0,nf,np,mY,nj])
 exact ⟨.agg [kB r2,kC r4,kF r6,v14,iv a0.top,iv a0.kU,iv a0.kK,iv a0.kM,.bool a0.lq],(lL (vs:=[.agg [kB r2,kC r4,kF r6,v14,iv a0.top,iv a0.kU,iv a0.kK,iv a0.kM,.bool a0.lq]]) rfl rfl),.agg [kB r2,kC r4,kF r6,j8 r32,iv a0.top,iv a0.kU,iv a0.kK,iv a0.kM,.bool a0.lq],(show freeze false { H16 with cH:=[(1,[kB r2,kC r4,kF r6,v14,iv a0.top,iv a0.kU,iv a0.kK,iv a0.kM,.bool a0.lq]),(2,[kB r2,kC r4,kF r6,v14,iv a0.top,iv a0.kU,iv a0.kK,iv a0.kM,.bool a0.lq])] } 8 (.agg [kB r2,kC r4,kF r6,v14,iv a0.top,iv a0.kU,iv a0.kK,iv a0.kM,.bool a0.lq])=some (.agg [kB r2,kC r4,kF r6,j8 r32,iv a0.top,iv a0.kU,iv a0.kK,iv a0.kM,.bool a0.lq]) by simp only [FZ,hz35]),(⟨r2,r4,r6,r32,a0.top,a0.kU,a0.kK,a0.kM,a0.lq⟩:iF),(by refine ⟨⟨by assumption,by assumption,by assumption,hnn.trans hV,by simp_all,?_,rfl,rfl,rfl,rfl,rfl⟩,by simp_all⟩; simp_all),rfl⟩
def Q5:ko 76=some (tE cfg FT oU 76):=by rfl
def P76 (_a0:iF) (v:AV):Prop:=∃ r0:iF,(r0.elems.l = _a0.elems.l/\r0.kg.l = _a0.kg.l/\r0.signals.l = _a0.signals.l/\r0.lines.l.length = _a0.lines.l.length/\(∀ x∈r0.lines.l,x.elems.l.length<=60)/\r0 = _a0.canon)/\v=.agg (iF.ag r0)
def t76 (a0:iF) (q1:mB a0) (h:aT):∃ v,ka cfg FT ko false 76 [.agg (iF.ag a0)] h v h/\P76 a0 v:=by
 obtain ⟨v,hc,r0,⟨h1,h2⟩,rfl⟩:=XS a0 q1 h
 refine ⟨_,Gw Q5 hc,a0.canon,⟨rfl,rfl,rfl,by simp [iF.canon,Row.canon,Row.xP],?_,rfl⟩,FB h1⟩
 intro x hx
 simp only [iF.canon,Row.canon,Row.xP,List.mem_map] at hx
 obtain ⟨y,hy,rfl⟩:=hx
 exact q1.line y hy
def P99 (_a0:iS) (v:AV):Prop:=∃ r0:iF,(r0.elems.l = _a0.p.elems.l/\r0.kg.l = _a0.p.kg.l/\r0.signals.l = _a0.p.signals.l/\r0.lines.l.length = _a0.p.lines.l.length/\(∀ x∈r0.lines.l,x.elems.l.length<=60)/\r0 = _a0.p.canon)/\v=.agg (iF.ag r0)
def t99 (a0:iS) (q1:mB a0.p):Ct 99 [.ip (iS.ag a0) 0 false] (P99 a0):=by
 refine j9 Nf ?_
 refine bI ?_
 refine bL ?_
 refine oC (t76 a0.p ey) ?_
 rintro _ ⟨r2,hc1,rfl⟩
 have hC90:=hc1
 refine af ?_
 exact xG ⟨r2,ez,rfl⟩
def Yi (_a0:iS) (_a1:jT) (v:AV):Prop:=∃ r0:jT,∃ r1:Bool,(((r1=true->look _a1 _a0.next=some r0)/\(r1=false->look _a1 _a0.next=none)/\(r1=false->r0=⟨0,0⟩)))/\v=.kq [.agg (jT.ag r0),.bool r1]
def t188 (a0:iS) (a1:jT) :Ct 188 [.ip (iS.ag a0) 0 false,.agg (jT.ag a1)] (Yi a0 a1):=by
 refine j9 Hy ?_
 refine co ?_
 refine dj ?_
 refine Et (key:=a1) (l:=a0.next) (ek:=pK) (ev:=pK) rfl rfl rfl rfl rfl rfl rfl rfl rfl rfl nD (λy1 h2=>?_) (λh3=>?_)
 refine bP ?_
 refine dq ?_
 exact xG ⟨y1,true,gD,rfl⟩
 refine bP ?_
 refine dq ?_
 exact xG ⟨(⟨0,0⟩:jT),false,gD,rfl⟩
def WG (_a0:iS) (_a1:jV) (_a2:Int) (_a3:Int) (v:AV):Prop:=∃ r0:jT,∃ r1:Bool,(((r1=true->pd false (q8 _a0.p.signals.l) (λx=>look x _a0.next) _a1 _a2 _a3=some r0)/\(r1=false->pd false (q8 _a0.p.signals.l) (λx=>look x _a0.next) _a1 _a2 _a3=none)))/\v=.kq [.agg (jT.ag r0),.bool r1]
def t180 (a0:iS) (a1:jV) (a2:Int) (a3:Int) (q1:0<=a2) (q2:a2<(a1.runs.l.length:Int)) (q3:0<=a3) (q4:∀ h:a2.toNat<a1.runs.l.length,a3<=((a1.runs.l[a2.toNat]).kH.l.length:Int)):Ct 180 [.ip (iS.ag a0) 0 false,.agg (jV.ag a1),iv a2,iv a3] (WG a0 a1 a2 a3):=by
 refine j9 G8 ?_
 refine ae ?_
 refine ao ?_
 refine kR (λh1=>?_) (λh1=>?_)
 refine az ?_
 refine bL ?_
 have hx2:(a2).toNat<a1.runs.l.length:=by omega
 refine jP rfl (λ_=>ld (n:=a2) (r:=a1.runs) (enc:=lj.ag) rfl rfl rfl rfl rfl eG hx2 rfl) ?_
 generalize hqx3:a1.runs.l[(a2).toNat]=x3
 have hinx3:x3∈a1.runs.l:=by rw [<- hqx3]; exact List.getElem_mem _
 have hsx3:=q4 ez; rw [hqx3] at hsx3; have hkx3:=x3.kH.ok; simp only [ry] at hkx3
 refine am ?_
 refine oC (t101 a0 x3.from_) ?_
 rintro _ ⟨r5,r6,hc4,rfl⟩
 have hA:=hc4.1; have hA0:=hc4.2
 cases r6
 refine ci ?_
 exact xG ⟨r5,false,eQ,rfl⟩
 refine ci ?_
 exact xG ⟨r5,true,eQ,rfl⟩
 refine ah ?_
 refine cW ?_
 have hx7:(a2).toNat<a1.runs.l.length:=by omega
 refine jP rfl (λ_=>ld (n:=a2) (r:=a1.runs) (enc:=lj.ag) rfl rfl rfl rfl rfl eG hx7 rfl) ?_
 generalize hqx8:a1.runs.l[(a2).toNat]=x8
 have hinx8:x8∈a1.runs.l:=by rw [<- hqx8]; exact List.getElem_mem _
 have hsx8:=q4 ez; rw [hqx8] at hsx8; have hkx8:=x8.kH.ok; simp only [ry] at hkx8
 refine aF ?_
 refine pL ?_
 have hx9:(a3 - 1).toNat<x8.kH.l.length:=by omega
 refine jP rfl (λ_=>ld (n:=a3 - 1) (r:=x8.kH) (enc:=lU.ag) rfl rfl rfl rfl rfl eG hx9 rfl) ?_
 generalize hqx10:x8.kH.l[(a3 - 1).toNat]=x10
 refine dM ?_
 refine dv ?_
 refine kR (λh11=>?_) (λh11=>?_)
 refine be ?_
 refine a6 ?_
 refine oC (t101 a0 x10.to) ?_
 rintro _ ⟨r13,r14,hc12,rfl⟩
 have hA:=hc12.1; have hA0:=hc12.2
 cases r14
 refine ci ?_
 exact xG ⟨r13,false,eQ,rfl⟩
 refine ci ?_
 exact xG ⟨r13,true,eQ,rfl⟩
 refine br ?_
 refine kR (λh15=>?_) (λh15=>?_)
 refine be ?_
 refine bL ?_
 refine oC (t188 a0 (⟨x10.to,0⟩:jT)) ?_
 rintro _ ⟨r17,r18,hc16,rfl⟩
 have hN:=hc16
 cases r18
 refine dN ?_
 refine oC (t188 a0 (⟨x10.to,1⟩:jT)) ?_
 rintro _ ⟨r20,r21,hc19,rfl⟩
 have hN:=hc19
 cases r21
 refine dl ?_
 refine cW ?_
 refine dt ?_
 refine a6 ?_
 refine bi ?_
 refine bO ?_
 exact xG ⟨(⟨x10.to,1⟩:jT),false,eQ,rfl⟩
 refine cQ ?_
 refine aF ?_
 refine be ?_
 refine ai ?_
 refine ci ?_
 exact xG ⟨(⟨x10.to,0⟩:jT),true,eQ,rfl⟩
 refine dN ?_
 refine oC (t188 a0 (⟨x10.to,1⟩:jT)) ?_
 rintro _ ⟨r23,r24,hc22,rfl⟩
 have hN:=hc22
 cases r24
 refine dl ?_
 refine cW ?_
 refine oS ?_
 refine aH ?_
 refine aa ?_
 refine cr ?_
 refine ci ?_
 exact xG ⟨(⟨x10.to,1⟩:jT),true,eQ,rfl⟩
 refine dl ?_
 refine cW ?_
 refine oS ?_
 refine aH ?_
 refine aa ?_
 refine cr ?_
 refine ci ?_
 exact xG ⟨(⟨x10.to,1⟩:jT),false,eQ,rfl⟩
 refine oV ?_
 refine bB ?_
 exact xG ⟨(⟨0,0⟩:jT),false,eQ,rfl⟩
def XQ (_a0:iS) (_a1:jT) (v:AV):Prop:=∃ r0:Int,(r0=(look _a1 _a0.reads).getD (-1))/\v=iv r0
def t181 (a0:iS) (a1:jT) :Ct 181 [.ip (iS.ag a0) 0 false,.agg (jT.ag a1)] (XQ a0 a1):=by
 refine j9 IU ?_
 refine ai ?_
 refine ap ?_
 refine dj ?_
 refine Et (key:=a1) (l:=a0.reads) (ek:=pK) (ev:=iK) rfl rfl rfl rfl rfl rfl rfl rfl rfl rfl nD (λy1 h2=>?_) (λh3=>?_)
 refine cZ ?_
 refine aO ?_
 refine aa ?_
 refine cO ?_
 exact xB ⟨y1,gz,rfl⟩
 refine cZ ?_
 refine aO ?_
 refine aa ?_
 refine aH ?_
 refine aU ?_
 exact xB ⟨(-1),gz,rfl⟩
def Zt (_a0:iS) (_a1:jV) (_a2:Int) (_a3:Int) (v:AV):Prop:=∃ r0:Int,(((0<=r0->0<=_a2/\_a2<(_a1.runs.l.length:Int)/\0<=_a3/\∀ h : _a2.toNat < _a1.runs.l.length,_a3<((_a1.runs.l[_a2.toNat]).kH.l.length:Int))/\r0=rh false (q8 _a0.p.signals.l) (λx=>look x _a0.next) (qh _a0.p) (λx=>(look x _a0.reads).getD (-1)) _a1 _a2 _a3))/\v=iv r0
def t107 (a0:iS) (a1:jV) (a2:Int) (a3:Int) :Ct 107 [.ip (iS.ag a0) 0 false,.agg (jV.ag a1),iv a2,iv a3] (Zt a0 a1 a2 a3):=by
 refine j9 GV ?_
 refine bT ?_
 refine a6 ?_
 refine oC (t96 a1 a2 a3) ?_
 rintro _ ⟨r2,r3,hc1,rfl⟩
 have hL:=hc1.1; have hLz:=hc1.2
 cases r3
 refine bV ?_
 refine ce ?_
 exact ia
 have hLt:=hL.1 rfl; have hLL:=hLt.2.2.2.1
 refine bV ?_
 refine aK ?_
 have hL4:=r2.lk
 refine lu r2 ?_
 refine kR (λh5=>?_) (λh5=>?_)
 refine au ?_
 exact ia
 refine aH ?_
 refine wy [.ip (iS.ag a0) 0 false,iv a2,iv a3,.la 5 0,nQ r2] [(5,(jV.ag a1))] ?_
 refine bL ?_
 refine oC (t180 a0 a1 a2 a3 ey ey ey ey) ?_
 rintro _ ⟨r7,r8,hc6,rfl⟩
 have hG:=hc6
 cases r8
 refine cQ ?_
 refine aQ ?_
 refine cw ?_
 refine au ?_
 exact ia
 refine cQ ?_
 refine aK ?_
 have hx9:(a3).toNat<r2.l.length:=by omega
 refine jP rfl (λ_=>ld (n:=a3) (r:=r2) (enc:=lU.ag) rfl rfl rfl rfl rfl eG hx9 rfl) ?_
 generalize hqx10:r2.l[(a3).toNat]=x10
 refine oV ?_
 refine lS (b:=x10.xW) rfl (λ_=>rfl) (λh11=>?_) (λh11=>?_)
 refine aK ?_
 refine oC (t102 a0 r7.elem) ?_
 rintro _ ⟨r13,hc12,rfl⟩
 have hK:=hc12
 refine lR (λh14=>?_) (λh14=>?_)
 refine bJ ?_
 exact ia
 refine dt ?_
 refine wy [.ip (iS.ag a0) 0 false,iv a3,nQ r2,.la 11 0] [(11,(jT.ag r7))] ?_
 refine aX ?_
 have hx15:(a3).toNat<r2.l.length:=by omega
 refine jP rfl (λ_=>ld (n:=a3) (r:=r2) (enc:=lU.ag) rfl rfl rfl rfl rfl eG hx15 rfl) ?_
 rw [hqx10]
 refine oV ?_
 refine lS (b:=x10.xW) rfl (λ_=>rfl) (λh17=>?_) (λh17=>?_)
 refine ct ?_
 rintro _ ⟨r19,hc18,rfl⟩
 have hR:=hc18
 refine af ?_
 exact xB ⟨r19,eR,rfl⟩
 refine ah ?_
 refine d9 ?_
 rintro _ ⟨r21,hc20,rfl⟩
 have hR:=hc20
 refine af ?_
 exact xB ⟨r21,eR,rfl⟩
 refine ck ?_
 refine dt ?_
 refine wy [.ip (iS.ag a0) 0 false,iv a3,nQ r2,.la 11 0] [(11,(jT.ag r7))] ?_
 refine aX ?_
 have hx22:(a3).toNat<r2.l.length:=by omega
 refine jP rfl (λ_=>ld (n:=a3) (r:=r2) (enc:=lU.ag) rfl rfl rfl rfl rfl eG hx22 rfl) ?_
 rw [hqx10]
 refine oV ?_
 refine lS (b:=x10.xW) rfl (λ_=>rfl) (λh24=>?_) (λh24=>?_)
 refine ct ?_
 rintro _ ⟨r26,hc25,rfl⟩
 have hR:=hc25
 refine af ?_
 exact xB ⟨r26,eR,rfl⟩
 refine ah ?_
 refine d9 ?_
 rintro _ ⟨r28,hc27,rfl⟩
 have hR:=hc27
 refine af ?_
 exact xB ⟨r28,eR,rfl⟩
def WA (_a0:jS Int) (_a1:Int) (v:AV):Prop:=∃ r0:Int,(True)/\v=iv r0
def t184 (a0:jS Int) (a1:Int) :Ct 184 [ly a0,iv a1] (WA a0 a1):=by
 refine j9 HY ?_
 refine aY ?_
 have hL1:=a0.lk
 refine jP rfl (λ_=>m8 (r:=a0) (enc:=j6) rfl rfl rfl rfl rfl rfl) ?_
 refine aC ?_
 have hNk2:=a0.lk
 refine jW a0.l.length (λk2 e h=>At [0,1,7,8] [ly a0,iv a1,bY a0.l.length,bY k2] aT.empty [] e h) ?_ (k0:=0) eG atR
 rintro k2 e h hkk2 hA
 refine aA ?_
 refine kx (λh3=>?_) (λh3=>?_)
 refine cT ?_
 refine a6 ?_
 have hx4:k2<a0.l.length:=by omega
 refine jP rfl (λ_=>mJ (n:=k2) (r:=a0) (enc:=j6) rfl rfl rfl rfl rfl hx4 rfl) ?_
 generalize hqx5:a0.l[k2]=x5
 refine oV ?_
 refine kR (λh6=>?_) (λh6=>?_)
 refine aJ ?_
 exact xB ⟨((k2:Int)),zt⟩
 refine bU ?_
 refine kD ?_
 refine ab ?_
 exact ic
 refine aS ?_
 exact jc
def La (_a0:jS Int) (_a1:Int) (v:AV):Prop:=∃ r0:Bool,(True)/\v=.bool r0
def t113 (a0:jS Int) (a1:Int) :Ct 113 [ly a0,iv a1] (La a0 a1):=by
 refine j9 Gc ?_
 refine cX ?_
 refine oC (t184 a0 a1) ?_
 rintro _ ⟨r2,hc1,rfl⟩
 refine mV (λh3=>?_) (λh3=>?_)
 refine af ?_
 exact io
 refine af ?_
 exact iq
def aa1 (_a0:kz) (_a1:lU) (v:AV):Prop:=∃ r0:Bool,((r0=true->0 < _a0.steps.l.length))/\v=.bool r0
def t116 (a0:kz) (a1:lU) :Ct 116 [.agg (kz.ag a0),.agg (lU.ag a1)] (aa1 a0 a1):=by
 refine j9 Gp ?_
 refine ae ?_
 refine ap ?_
 refine bL ?_
 refine lR (λh1=>?_) (λh1=>?_)
 refine bp ?_
 refine au ?_
 exact ir
 refine aF ?_
 have hL2:=a0.steps.lk
 refine lu a0.steps ?_
 refine kR (λh3=>?_) (λh3=>?_)
 refine au ?_
 exact ir
 refine aH ?_
 refine aX ?_
 refine kR (λh4=>?_) (λh4=>?_)
 refine az ?_
 refine bL ?_
 refine kR (λh5=>?_) (λh5=>?_)
 refine af ?_
 exact iu
 refine af ?_
 exact ir
 refine ah ?_
 refine aL ?_
 refine cZ ?_
 have hL6:=a0.steps.lk
 refine vx a0.steps ?_
 have hL7:=a0.steps.lk
 refine Ru ?_
 have hx8:((a0.steps.l.length:Int) - 1).toNat<a0.steps.l.length:=by omega
 refine kp rfl rfl (λ_=>ld (n:=(a0.steps.l.length:Int) - 1) (r:=a0.steps) (enc:=kL.ag) rfl rfl rfl rfl rfl eG hx8 rfl) ?_
 generalize hqx9:a0.steps.l[((a0.steps.l.length:Int) - 1).toNat]=x9
 refine cZ ?_
 refine xA (λh10=>?_) (λh10=>?_)
 refine dL ?_
 exact iu
 refine dL ?_
 exact ir
def Zn (_a0:iS) (_a1:Int) (v:AV):Prop:=∃ r0:Int,(True)/\v=iv r0
def t185 (a0:iS) (a1:Int) :Ct 185 [.ip (iS.ag a0) 0 false,iv a1] (Zn a0 a1):=by
 refine j9 HO ?_
 refine cX ?_
 refine oC (t174 a0 a1) ?_
 rintro _ ⟨r2,hc1,rfl⟩
 refine aR ?_
 exact xB ⟨r2.len,zt⟩
def Zv (_a0:iS) (_a1:j4) (_a2:Int) (v:AV):Prop:=∃ r0:Bool,(True)/\v=.bool r0
def t117 (a0:iS) (a1:j4) (a2:Int) (q1:mB a0.p):Ct 117 [.ip (iS.ag a0) 0 false,.agg (j4.ag a1),iv a2] (Zv a0 a1 a2):=by
 refine j9 GX ?_
 refine bT ?_
 refine aX ?_
 refine oC (t102 a0 a2) ?_
 rintro _ ⟨r2,hc1,rfl⟩
 have hK:=hc1
 refine dv ?_
 refine kR (λh3=>?_) (λh3=>?_)
 refine au ?_
 exact io
 refine br ?_
 refine kR (λh4=>?_) (λh4=>?_)
 refine be ?_
 refine bS ?_
 refine rC (t185 a0 a2) ?_
 rintro _ ⟨r6,hc5,rfl⟩
 refine bj ?_
 refine rC (t99 a0 ey) ?_
 rintro _ ⟨r8,hc7,rfl⟩
 have hPl:=hc7.2.2.2.2.2
 refine rV ?_
 refine kp rfl rfl (λ_=>me rfl rfl rfl (tR .i64 a1.len r8.kK)) ?_
 refine uO (λh9=>?_) (λh9=>?_)
 refine dL ?_
 exact io
 refine dL ?_
 exact iq
 refine aH ?_
 refine aU ?_
 exact iq
def aah (_a0:iS) (_a1:Row kz) (_a2:jV) (_a3:Int) (_a4:Int) (v:AV):Prop:=∃ r0:Row Int,((r0.l.length<=_a1.l.length/\∀ x∈r0.l,0<=x/\x<(_a1.l.length:Int)))/\v=kN r0
def Xc (a0:iS) (a1:Row kz) (a2:jV) (a3:Int) (a4:Int) (q1:mB a0.p) (q2:a1.l.length<=64):Ct 56 [.ip (iS.ag a0) 0 false,ki a1,.agg (jV.ag a2),iv a3,iv a4] (aah a0 a1 a2 a3 a4):=by
 refine j9 MU ?_
 refine bT ?_
 refine aL ?_
 refine cZ ?_
 refine rC (t107 a0 a2 a3 a4) ?_
 rintro _ ⟨r2,hc1,rfl⟩
 have hFd:=hc1.1
 refine cZ ?_
 refine rC (t98 a0 a2 a3 a4) ?_
 rintro _ ⟨r4,hc3,rfl⟩
 refine rV ?_
 refine aO ?_
 refine qs ?_
 refine cF ?_
 refine qO (λh5=>?_) (λh5=>?_)
 refine d5 ?_
 refine rS ?_
 refine dc ?_
 refine dW ?_
 refine aO ?_
 refine ac ?_
 exact jH
 refine cZ ?_
 have hx6:(a3).toNat<a2.runs.l.length:=by omega
 refine kp rfl rfl (λ_=>ld (n:=a3) (r:=a2.runs) (enc:=lj.ag) rfl rfl rfl rfl rfl eG hx6 rfl) ?_
 generalize hqx7:a2.runs.l[(a3).toNat]=x7
 have hinx7:x7∈a2.runs.l:=by rw [<- hqx7]; exact List.getElem_mem _
 have hlx7:=(hFd eG).2.2.2 ez; rw [hqx7] at hlx7
 refine aI ?_
 refine qO (λh8=>?_) (λh8=>?_)
 refine dc ?_
 refine dW ?_
 refine aO ?_
 refine ac ?_
 exact jH
 refine bQ ?_
 have hx9:(a3).toNat<a2.runs.l.length:=by omega
 refine kp rfl rfl (λ_=>ld (n:=a3) (r:=a2.runs) (enc:=lj.ag) rfl rfl rfl rfl rfl eG hx9 rfl) ?_
 rw [hqx7]
 refine cZ ?_
 have hL11:=a2.j3.lk
 refine vx a2.j3 ?_
 refine uO (λh12=>?_) (λh12=>?_)
 refine aO ?_
 refine ac ?_
 exact jH
 refine bA ?_
 refine dj ?_
 have hx13:(a3).toNat<a2.runs.l.length:=by omega
 refine kp rfl rfl (λ_=>ld (n:=a3) (r:=a2.runs) (enc:=lj.ag) rfl rfl rfl rfl rfl eG hx13 rfl) ?_
 rw [hqx7]
 refine aI ?_
 have hx15:(x7.j3).toNat<a2.j3.l.length:=by omega
 refine kp rfl rfl (λ_=>ld (n:=x7.j3) (r:=a2.j3) (enc:=j4.ag) rfl rfl rfl rfl rfl eG hx15 rfl) ?_
 generalize hqx16:a2.j3.l[(x7.j3).toNat]=x16
 refine aI ?_
 refine aO ?_
 refine aY ?_
 have hL17:=a1.lk
 refine lu a1 ?_
 refine aC ?_
 have hS18:=Sep.mf kV 1
 have hNk19:=a1.lk
 refine jW a1.l.length (λk19 e h=>∃ v20:AV,∃ l21:List Int,∃ H22:aT,(l21.length<=0+k19)/\(∀ x∈(l21:List Int),0<=x/\x<(a1.l.length:Int))/\Sep H22 (lG v20 l21::[])/\At [0,3,4,7,11,12,13,14,60,61,62] [.ip (iS.ag a0) 0 false,iv a3,iv a4,.la 7 0,iv r2,iv r4,.la 13 0,v20,ki a1,bY a1.l.length,bY k19] H22 [(7,(jV.ag a2)),(13,(j4.ag x16))] e h) ?_ (k0:=0) eG ⟨iN,(([]:List Int)),aT.empty,ff,fS,hS18,atR⟩
 rintro k19 e h hkk19 ⟨v20,l21,H22,hl24,hRi,hS23,hA⟩
 refine aA ?_
 refine kx (λh25=>?_) (λh25=>?_)
 refine ak ?_
 refine wz [.ip (iS.ag a0) 0 false,iv a3,iv a4,.la 7 0,iv r2,iv r4,.la 13 0,v20,ki a1,bY a1.l.length,bY k19] H22 [(7,(jV.ag a2)),(13,(j4.ag x16))] ?_ (kh hS23 [(14,0)])
 refine aw ?_
 have hx26:k19<a1.l.length:=by omega
 refine ml k19 a1 hx26 ?_
 generalize hqx27:a1.l[k19]=x27
 refine bZ ?_
 refine da ?_
 refine xA (λh28=>?_) (λh28=>?_)
 refine bQ ?_
 have hx29:(a3).toNat<a2.runs.l.length:=by omega
 refine kp rfl rfl (λ_=>ld (n:=a3) (r:=a2.runs) (enc:=lj.ag) rfl rfl rfl rfl rfl eG hx29 rfl) ?_
 rw [hqx7]
 refine bj ?_
 have hx31:(a4).toNat<x7.kH.l.length:=by omega
 refine kp rfl rfl (λ_=>ld (n:=a4) (r:=x7.kH) (enc:=lU.ag) rfl rfl rfl rfl rfl eG hx31 rfl) ?_
 generalize hqx32:x7.kH.l[(a4).toNat]=x32
 refine rV ?_
 refine rC (t116 x27 x32) ?_
 rintro _ ⟨r34,hc33,rfl⟩
 cases r34
 clear hc33
 refine bW ?_
 refine dP ?_
 refine bA ?_
 refine wz [.ip (iS.ag a0) 0 false,iv a3,iv a4,.la 7 0,iv r2,iv r4,.la 13 0,v20,ki a1,bY a1.l.length,bY k19] H22 [(7,(jV.ag a2)),(13,(j4.ag x16))] ?_ (kh hS23 [(14,0)])
 refine qg ?_
 refine kD ?_
 refine ab ?_
 exact jI
 have hc33t:=hc33 rfl
 refine bj ?_
 refine Em (b:=x27.bare) rfl rfl (λ_=>rfl) (λh35=>?_) (λh35=>?_)
 refine bj ?_
 refine dP ?_
 refine bA ?_
 refine wz [.ip (iS.ag a0) 0 false,iv a3,iv a4,.la 7 0,iv r2,iv r4,.la 13 0,v20,ki a1,bY a1.l.length,bY k19] H22 [(7,(jV.ag a2)),(13,(j4.ag x16))] ?_ (kh hS23 [(14,0)])
 refine qg ?_
 refine kD ?_
 refine ab ?_
 exact jI
 refine dp ?_
 refine rC (t113 (Row.mg x27.nr) r4) ?_
 rintro _ ⟨r37,hc36,rfl⟩
 cases r37
 iterate 9 refine rV ?_
 have hL38:=x27.steps.lk
 refine vx x27.steps ?_
 have hL39:=x27.steps.lk
 refine Ru ?_
 have hx40:((x27.steps.l.length:Int) - 1).toNat<x27.steps.l.length:=by omega
 refine kp rfl rfl (λ_=>ld (n:=(x27.steps.l.length:Int) - 1) (r:=x27.steps) (enc:=kL.ag) rfl rfl rfl rfl rfl eG hx40 rfl) ?_
 generalize hqx41:x27.steps.l[((x27.steps.l.length:Int) - 1).toNat]=x41
 refine aI ?_
 refine rC (t117 a0 x16 x41.elem ey) ?_
 rintro _ ⟨r43,hc42,rfl⟩
 cases r43
 refine bA ?_
 refine wz [.ip (iS.ag a0) 0 false,iv a3,iv a4,.la 7 0,iv r2,iv r4,.la 13 0,v20,ki a1,bY a1.l.length,bY k19] H22 [(7,(jV.ag a2)),(13,(j4.ag x16))] ?_ (kh hS23 [(14,0)])
 refine qg ?_
 refine kD ?_
 refine ab ?_
 exact jI
 refine c8 ?_
 refine bz ?_
 refine kn rfl (kZ (H:=H22) (i:=0) (l:=l21) (enc:=j6) [((k19:Int))] hS23 rfl rfl rfl rfl rfl rfl rfl rfl rfl (λ_=>rfl) (.inl rfl) eE (λ_=>rfl)) ?_
 rintro v44 H45 hS46
 refine ab ?_
 refine wz [.ip (iS.ag a0) 0 false,iv a3,iv a4,.la 7 0,iv r2,iv r4,.la 13 0,v44,ki a1,bY a1.l.length,bY k19] H45 [(7,(jV.ag a2)),(13,(j4.ag x16))] ?_ (kh hS46 [(14,0)])
 refine qg ?_
 refine kD ?_
 refine ab ?_
 exact ⟨by omega,v44,((l21++[((k19:Int))])),H45,eC,fW,hS46,(kh hS46 [(14,0)])⟩
 refine bj ?_
 iterate 12 refine rS ?_
 refine bA ?_
 refine wz [.ip (iS.ag a0) 0 false,iv a3,iv a4,.la 7 0,iv r2,iv r4,.la 13 0,v20,ki a1,bY a1.l.length,bY k19] H22 [(7,(jV.ag a2)),(13,(j4.ag x16))] ?_ (kh hS23 [(14,0)])
 refine qg ?_
 refine kD ?_
 refine ab ?_
 exact jI
 refine d5 ?_
 iterate 5 refine rS ?_
 refine bW ?_
 refine dP ?_
 refine bA ?_
 refine wz [.ip (iS.ag a0) 0 false,iv a3,iv a4,.la 7 0,iv r2,iv r4,.la 13 0,v20,ki a1,bY a1.l.length,bY k19] H22 [(7,(jV.ag a2)),(13,(j4.ag x16))] ?_ (kh hS23 [(14,0)])
 refine qg ?_
 refine kD ?_
 refine ab ?_
 exact jI
 refine aj ?_
 refine wz [v20] H22 [] ?_ (kh hS23 [(14,0)])
 refine bR ?_
 obtain ⟨r47,hl48,hf49⟩:=lK (H:=H22) (i:=0) (l:=l21) (enc:=j6) hS23 rfl eA
 have hlq:=hl48; have hln51:=congrArg List.length hl48
 have hz50:∀ m,freeze false { H22 with cH:=[] } (m+2) v20=some (kN r47):=λm=>hf49 _ _ (λ_=>rfl)
 exact ⟨v20,(lL (vs:=[v20]) rfl (jU (Sep.arg (i:=0) hS23 rfl) kE)),kN r47,(show freeze false { H22 with cH:=[] } 8 v20=some (kN r47) by simp only [FZ,hz50]),r47,fX,rfl⟩
def P56 (_a0:iS) (_a1:Row kz) (_a2:jV) (_a3:Int) (_a4:Int) (v:AV):Prop:=∃ r0:Row Int,(((r0.l.length<=_a1.l.length/\∀ x∈r0.l,0<=x/\x<(_a1.l.length:Int)))/\rs 56 [.ip (iS.ag _a0) 0 false,ki _a1,.agg (jV.ag _a2),iv _a3,iv _a4]=kN r0)/\v=kN r0
def t56 (a0:iS) (a1:Row kz) (a2:jV) (a3:Int) (a4:Int) (q1:mB a0.p) (q2:a1.l.length<=64) (h:aT):∃ v,ka cfg FT ko false 56 [.ip (iS.ag a0) 0 false,ki a1,.agg (jV.ag a2),iv a3,iv a4] h v h/\P56 a0 a1 a2 a3 a4 v:=by
 obtain ⟨v,hc,hP,hr⟩:=nC pF (Xc a0 a1 a2 a3 a4 q1 q2) h
 obtain ⟨r0,hp,rfl⟩:=hP
 exact iB
def Z1 (_a0:iS) (_a1:Int) (v:AV):Prop:=∃ r0:Int,∃ r1:Int,(True)/\v=.kq [iv r0,iv r1]
def t170 (a0:iS) (a1:Int) :Ct 170 [.ip (iS.ag a0) 0 false,iv a1] (Z1 a0 a1):=by
 refine j9 HI ?_
 refine ai ?_
 refine ap ?_
 refine dD ?_
 refine vv (key:=(a1)) (l:=a0.line) (ek:=iK) (ev:=tg) rfl rfl rfl rfl rfl rfl rfl rfl rfl pB (λy1 h2=>?_) (λh3=>?_)
 refine bM ?_
 refine az ?_
 refine dj ?_
 refine dL ?_
 exact xG ⟨y1.1,y1.2,zt⟩
 refine bM ?_
 refine ah ?_
 refine bR ?_
 exact xG ⟨(-1),(-1),zt⟩
def Qt {H:aT} (x:Int) (bs:Nat) (bm:Nat) (m:List (Int×Bool)) (b:Nat) (nn:iS) (bl:Nat) (ll:Row lr) (F:List lC) (hS:Sep H (kO bs [(.hm bm)]::ng bm iK bK m::kO b [.ip (iS.ag nn) 0 false]::kO bl [j8 ll]::F)) (q1:oc m) (q2:∀ y∈m,m4 y.1) (q3:m4 x) (q4:∀ y∈ll.l,LG y):∃ v H',ka cfg FT ko true 169 [iv x,(jQ bs),(jQ b),(jQ bl)] { H with cH:=[] } v H'/\(∃ mo:List (Int×Bool),(oc mo/\(∀ y∈mo,m4 y.1)/\mo.length<=m.length+61)/\Sep H' (kO bs [(.hm bm)]::ng bm iK bK mo::kO b [.ip (iS.ag nn) 0 false]::kO bl [j8 ll]::F)/\v=.kq []):=by
 refine kW I8 ?_
 have hNd:=q1; have hRg:=q2
 refine aa ?_
 refine jP rfl (λ_=>mj (i:=0) (o:=0) (r:=(.hm bm)) hS rfl rfl rfl rfl) ?_
 refine oV ?_
 have hNd:oc (put x true m):=J0 hNd
 have hLp:((put x true m)).length<=(m).length+1:=BP
 have hRg:∀ y∈(put x true m),m4 y.1:=Fi hRg ez
 refine kn rfl (oY (i:=1) (ek:=iK) (ev:=bK) (l:=m) x true hS rfl rfl rfl rfl rfl rfl pB) ?_
 rintro _ H1 ⟨rfl,hS2⟩
 refine oN ?_
 refine aa ?_
 refine jP rfl (λ_=>mj (i:=2) (o:=0) (r:=.ip (iS.ag nn) 0 false) hS2 rfl rfl rfl rfl) ?_
 refine oV ?_
 refine oC (t170 nn x) ?_
 rintro _ ⟨r4,r5,hc3,rfl⟩
 refine aK ?_
 refine aZ ?_
 refine mV (λh6=>?_) (λh6=>?_)
 refine am ?_
 refine jP rfl (λ_=>mj (i:=3) (o:=0) (r:=j8 ll) hS2 rfl rfl rfl rfl) ?_
 have hL7:=ll.lk
 refine lu ll ?_
 refine kx (λh8=>?_) (λh8=>?_)
 refine be ?_
 refine aa ?_
 refine jP rfl (λ_=>mj (i:=3) (o:=0) (r:=j8 ll) hS2 rfl rfl rfl rfl) ?_
 refine oV ?_
 have hx9:(r4).toNat<ll.l.length:=by omega
 refine jP rfl (λ_=>ld (n:=r4) (r:=ll) (enc:=lr.ag) rfl rfl rfl rfl rfl eG hx9 rfl) ?_
 generalize hqx10:ll.l[(r4).toNat]=x10
 have hinx10:x10∈ll.l:=by rw [<- hqx10]; exact List.getElem_mem _
 obtain ⟨hlx10,hgE⟩:=q4 x10 hinx10
 refine am ?_
 have hL11:=x10.elems.lk
 refine lu x10.elems ?_
 refine aC ?_
 have hNk12:=x10.elems.lk
 refine jW x10.elems.l.length (λk12 e h=>∃ l13:List (Int×Bool),∃ H14:aT,(oc l13)/\(∀ y∈(l13:List (Int×Bool)),m4 y.1)/\(l13.length<=m.length+1+k12)/\Sep H14 (kO bs [(.hm bm)]::ng bm iK bK l13::kO b [.ip (iS.ag nn) 0 false]::kO bl [j8 ll]::F)/\At [1,29,30,31] [(jQ bs),kN x10.elems,bY x10.elems.l.length,bY k12] H14 [] e h) ?_ (k0:=0) eG ⟨((put x true m)),H1,gQ,gP,eG,hS2,atR⟩
 rintro k12 e h hkk12 ⟨l13,H14,hNd,hRg,hLm,hS15,hA⟩
 refine aA ?_
 refine kx (λh16=>?_) (λh16=>?_)
 refine ak ?_
 refine wz [(jQ bs),kN x10.elems,bY x10.elems.l.length,bY k12] H14 [] ?_
 refine bd ?_
 have hx17:k12<x10.elems.l.length:=by omega
 refine ml k12 x10.elems hx17 ?_
 generalize hqx18:x10.elems.l[k12]=x18
 have hinx18:x18∈x10.elems.l:=by rw [<- hqx18]; exact List.getElem_mem _
 have hgx18:=hgE x18 hinx18
 refine am ?_
 refine dY ?_
 refine jP rfl (λ_=>mj (i:=0) (o:=0) (r:=(.hm bm)) hS15 rfl rfl rfl rfl) ?_
 refine oV ?_
 have hNd:oc (put x18 true l13):=J0 hNd
 have hLp:((put x18 true l13)).length<=(l13).length+1:=BP
 have hRg:∀ y∈(put x18 true l13),m4 y.1:=Fi hRg ez
 refine kn rfl (oY (i:=1) (ek:=iK) (ev:=bK) (l:=l13) x18 true hS15 rfl rfl rfl rfl rfl rfl pB) ?_
 rintro _ H19 ⟨rfl,hS20⟩
 refine oN ?_
 refine wz [(jQ bs),kN x10.elems,bY x10.elems.l.length,bY k12] H19 [] ?_
 refine qg ?_
 refine kD ?_
 refine ab ?_
 exact ⟨by omega,((put x18 true l13)),H19,gQ,gP,eG,hS20,atR⟩
 refine aj ?_
 have hS21:=Sep.pick hS15 [0,1,2,3] 4 eB eB
 exact ⟨.kq [],rfl,l13,gW,Sep.cH hS21 _,rfl⟩
 refine aH ?_
 have hS22:=Sep.pick hS2 [0,1,2,3] 4 eB eB
 exact ⟨.kq [],rfl,(put x true m),gW,Sep.cH hS22 _,rfl⟩
 refine bp ?_
 refine aH ?_
 have hS23:=Sep.pick hS2 [0,1,2,3] 4 eB eB
 exact ⟨.kq [],rfl,(put x true m),gW,Sep.cH hS23 _,rfl⟩
def Qc {H:aT} (x:Int) (b:Nat) (nn:iS) (F:List lC) (hS:Sep H (kO b [.ip (iS.ag nn) 0 false]::F)) :∃ v H',ka cfg FT ko true 173 [iv x,(jQ b)] { H with cH:=[] } v H'/\(∃ r0:Bool,(True)/\Sep H' (kO b [.ip (iS.ag nn) 0 false]::F)/\v=.bool r0):=by
 refine kW Im ?_
 refine bI ?_
 refine aa ?_
 refine jP rfl (λ_=>mj (i:=0) (o:=0) (r:=.ip (iS.ag nn) 0 false) hS rfl rfl rfl rfl) ?_
 refine oV ?_
 refine oC (t102 nn x) ?_
 rintro _ ⟨r2,hc1,rfl⟩
 have hK:=hc1
 refine kR (λh3=>?_) (λh3=>?_)
 refine af ?_
 have hS4:=Sep.pick hS [0] 1 eB eB
 exact iz
 refine af ?_
 have hS5:=Sep.pick hS [0] 1 eB eB
 exact iA
def Y3 {H:aT} (vs:AV) (l:List Int) (b:Nat) (nn:iS) (F:List lC) (hS:Sep H (lG vs l::kO b [.ip (iS.ag nn) 0 false]::F)) (q1:l.length<=1000000):∃ v H',ka cfg FT ko true 218 [vs,.kY 173 [] [(jQ b)]] { H with cH:=[] } v H'/\(∃ r0:Int,((-1<=r0/\r0<(l.length:Int)))/\Sep H' (lG vs l::kO b [.ip (iS.ag nn) 0 false]::F)/\v=iv r0):=by
 refine kW GS ?_
 refine eq ?_
 refine aC ?_
 refine jW l.length (λk1 e h=>∃ H2:aT,Sep H2 (lG vs l::kO b [.ip (iS.ag nn) 0 false]::F)/\At [0,1,7,8] [vs,.kY 173 [] [(jQ b)],bY l.length,bY k1] H2 [] e h) ?_ (k0:=0) eG ⟨H,hS,(kh hS [(0,0)])⟩
 rintro k1 e h hkk1 ⟨H2,hS3,hA⟩
 refine aA ?_
 refine kx (λh4=>?_) (λh4=>?_)
 refine ak ?_
 refine wz [vs,.kY 173 [] [(jQ b)],bY l.length,bY k1] H2 [] ?_ (kh hS3 [(0,0)])
 refine dA ?_
 refine a6 ?_
 have hx5:k1<l.length:=by first | omega | (simp<;>omega) | (simp_all; omega)
 obtain ⟨x6,hqx6⟩:∃ x,l[k1]=x:=⟨_,rfl⟩
 refine mv rfl (lO (i:=0) (m:=k1) (cs:=j6 x6) hS3 rfl rfl rfl rfl rfl rfl rfl (lA hx5 hqx6)) ?_
 rintro a7 ⟨ha8,hea9⟩
 refine jP rfl (λ_=>mK (i:=0) (m:=k1) (o:=0) (r:=iv x6) (cs:=j6 x6) hS3 rfl (lA hx5 hqx6) hea9 rfl rfl ha8) ?_
 have hS10:=Sep.pick hS3 [1,0] 2 eB eB
 refine kI (H:=H2) (args:=[iv x6]) (p:=[]) (r:=[(jQ b)]) rfl rfl rfl rfl rfl rfl rfl (Qc x6 b nn (lG vs l::F) hS10) ?_
 rintro _ H11 ⟨r14,hc13,hS12,rfl⟩
 cases r14
 refine ah ?_
 refine wz [vs,.kY 173 [] [(jQ b)],bY l.length,bY k1] H11 [] ?_ (kh hS12 [(0,1)])
 refine qg ?_
 refine kD ?_
 refine ab ?_
 have hS15:=Sep.pick hS12 [1,0] 2 eB eB
 exact ⟨by omega,H11,hS15,(kh hS15 [(0,0)])⟩
 refine aJ ?_
 have hS16:=Sep.pick hS12 [1,0] 2 eB eB
 exact ⟨bY k1,rfl,((k1:Int)),(by exact ⟨by omega,by omega⟩),Sep.cH hS16 _,rfl⟩
 refine aS ?_
 have hS17:=Sep.pick hS3 [0,1] 2 eB eB
 exact ⟨iv (-1),rfl,(-1),(by exact ⟨by omega,by omega⟩),Sep.cH hS17 _,rfl⟩
def Wu {H:aT} (vs:AV) (l:List Int) (b:Nat) (nn:iS) (F:List lC) (hS:Sep H (lG vs l::kO b [.ip (iS.ag nn) 0 false]::F)) (q1:l.length<=1000000):∃ v H',ka cfg FT ko true 171 [vs,.kY 173 [] [(jQ b)]] { H with cH:=[] } v H'/\(∃ vo:AV,∃ lo:List Int,(lo.length<=l.length)/\Sep H' (m6 j6 1 vo lo::kO b [.ip (iS.ag nn) 0 false]::F)/\v=vo):=by
 refine kW Jq ?_
 refine cX ?_
 have hS1:=Sep.pick hS [0,1] 2 eB eB
 refine kI (H:=H) (args:=[vs,.kY 173 [] [(jQ b)]]) (p:=[]) (r:=[]) rfl rfl rfl rfl rfl (jU (Sep.arg (i:=0) hS rfl) (jU rfl kE)) rfl (Y3 vs l b nn F hS1 ey) ?_
 rintro _ H2 ⟨r5,hc4,hS3,rfl⟩
 refine ao ?_
 refine kR (λh6=>?_) (λh6=>?_)
 refine aJ ?_
 have hS7:=Sep.pf (i:=0) hS3 rfl
 have hS8:=Sep.pick hS7 [0,1] 2 eB eB
 exact ⟨vs,(lL (vs:=[vs]) rfl (jU (Sep.arg (i:=0) hS7 rfl) kE)),vs,l,gw,Sep.cH hS8 _,rfl⟩
 refine ah ?_
 refine wz [vs,.kY 173 [] [(jQ b)],iv r5] H2 [] ?_ (kh hS3 [(0,0)])
 refine aq ?_
 refine kD ?_
 refine aC ?_
 refine oe (λm15 e h=>∃ v9:AV,∃ l10:List Int,∃ n11:Int,∃ n12:Int,∃ H13:aT,m15=((l.length:Int) - n12).toNat/\(l10.length=l.length)/\(0<=n11/\n11<n12/\n12<=(l.length:Int))/\Sep H13 (lG v9 l10::kO b [.ip (iS.ag nn) 0 false]::F)/\At [0,1,5,6] [v9,.kY 173 [] [(jQ b)],iv n11,iv n12] H13 [] e h) ?_ _ _ _ ⟨vs,l,r5,(r5+1),H2,rfl,gm,eG,hS3,(kh hS3 [(0,0)])⟩
 rintro m15 e h ⟨v9,l10,n11,n12,H13,hmm15,hLl,hij,hS14,hA⟩
 refine cC ?_
 refine jP rfl (λ_=>nb (i:=0) hS14 rfl rfl rfl rfl rfl rfl rfl) ?_
 refine kx (λh16=>?_) (λh16=>?_)
 refine cE ?_
 refine wz [v9,.kY 173 [] [(jQ b)],iv n11,iv n12] H13 [] ?_ (kh hS14 [(0,0)])
 refine ay ?_
 refine ae ?_
 have hk17:(((n12).toNat:Nat):Int)=n12:=Int.toNat_of_nonneg eC
 have hx18:(n12).toNat<l10.length:=by first | omega | (simp<;>omega) | (simp_all; omega)
 obtain ⟨x19,hqx19⟩:∃ x,l10[(n12).toNat]=x:=⟨_,rfl⟩
 refine mv rfl (lO (i:=0) (m:=(n12).toNat) (cs:=j6 x19) hS14 rfl rfl rfl rfl rfl rfl (congrArg (AV.int .i64) hk17.symm) (lA hx18 hqx19)) ?_
 rintro a20 ⟨ha21,hea22⟩
 refine jP rfl (λ_=>mK (i:=0) (m:=(n12).toNat) (o:=0) (r:=iv x19) (cs:=j6 x19) hS14 rfl (lA hx18 hqx19) hea22 rfl rfl ha21) ?_
 refine aG ?_
 have hS23:=Sep.pick hS14 [1,0] 2 eB eB
 refine kI (H:=H13) (args:=[iv x19]) (p:=[]) (r:=[(jQ b)]) rfl rfl rfl rfl rfl rfl rfl (Qc x19 b nn (lG v9 l10::F) hS23) ?_
 rintro _ H24 ⟨r27,hc26,hS25,rfl⟩
 cases r27
 refine be ?_
 refine a6 ?_
 have hk28:(((n11).toNat:Nat):Int)=n11:=Int.toNat_of_nonneg eC
 have hx29:(n11).toNat<l10.length:=by first | omega | (simp<;>omega) | (simp_all; omega)
 obtain ⟨x30,hqx30⟩:∃ x,l10[(n11).toNat]=x:=⟨_,rfl⟩
 refine mv rfl (lO (i:=1) (m:=(n11).toNat) (cs:=j6 x30) hS25 rfl rfl rfl rfl rfl rfl (congrArg (AV.int .i64) hk28.symm) (lA hx29 hqx30)) ?_
 rintro a31 ⟨ha32,hea33⟩
 refine kn rfl (nH (i:=1) (m:=(n11).toNat) (o:=0) x30 x19 hS25 rfl hx29 hqx30 hea33 rfl ha32 rfl rfl rfl rfl) ?_
 rintro _ H34 ⟨rfl,hS35⟩
 refine oN ?_
 refine aM ?_
 refine kD ?_
 refine ab ?_
 refine wz [v9,.kY 173 [] [(jQ b)],iv (n11+1),iv n12] H34 [] ?_ (kh hS35 [(0,1)])
 refine aM ?_
 refine kD ?_
 refine ab ?_
 have hS36:=Sep.pick hS35 [1,0] 2 eB eB
 refine ⟨_,?_,v9,((l10.set ((n11).toNat) x19)),(n11+1),(n12+1),H34,rfl,eN,eG,hS36,(kh hS36 [(0,0)])⟩
 omega
 refine aH ?_
 refine wz [v9,.kY 173 [] [(jQ b)],iv n11,iv n12] H24 [] ?_ (kh hS25 [(0,1)])
 refine aM ?_
 refine kD ?_
 refine ab ?_
 have hS37:=Sep.pick hS25 [1,0] 2 eB eB
 refine ⟨_,?_,v9,l10,n11,(n12+1),H24,rfl,eN,eG,hS37,(kh hS37 [(0,0)])⟩
 omega
 refine aN ?_
 refine wz [v9,iv n11] H13 [] ?_ (kh hS14 [(0,0)])
 refine ae ?_
 have hk38:(((n11).toNat:Nat):Int)=n11:=Int.toNat_of_nonneg eC
 have hx41:(n11).toNat<l10.length:=by first | omega | (simp<;>omega) | (simp_all; omega)
 refine mv rfl (NQ (i:=0) (k:=(n11).toNat) hS14 rfl rfl rfl rfl rfl rfl (congrArg (AV.int .i64) hk38.symm) (by simpa using hx41)) ?_
 rintro v39 ht40
 refine kn rfl (Pg (i:=0) (l:=l10) (enc:=j6) (z:=(0)) hS14 rfl ht40 rfl rfl rfl rfl rfl rfl rfl rfl eC) ?_
 rintro _ H42 ⟨rfl,hS43⟩
 refine oN ?_
 refine ae ?_
 have hk44:(((n11).toNat:Nat):Int)=n11:=Int.toNat_of_nonneg eC
 have hx45:(n11).toNat<=((l10.take ((n11).toNat)++List.replicate (l10.length - ((n11).toNat)) 0)).length:=by first | omega | (simp<;>omega) | (simp_all; omega)
 refine kn rfl (tn (i:=0) (k:=(n11).toNat) hS43 rfl rfl rfl rfl rfl rfl (congrArg (AV.int .i64) hk44.symm) hx45) ?_
 rintro v46 H47 ⟨hc48,hS49⟩
 refine af ?_
 have hS50:=Sep.pick hS49 [0,1] 2 eB eB
 exact ⟨v46,(lL (vs:=[v46]) rfl (jU (Sep.arg (i:=0) hS49 rfl) kE)),v46,((((l10.take ((n11).toNat)++List.replicate (l10.length - ((n11).toNat)) 0)).take ((n11).toNat))),gw,Sep.cH hS50 _,rfl⟩
def O6:ko 172=some pC:=by rfl
def X8 {H:aT} (bm:Nat) (m:List (Int×Bool)) (F:List lC) (hS:Sep H (ng bm iK bK m::F)) (q1:oc m) (q2:m.length<=1000000) (q3:∀ y∈m,m4 y.1):∃ v H',ka cfg FT ko true 172 [.hm bm] { H with cH:=[] } v H'/\(∃ ro:AV,∃ lo:List Int,(lo.length=m.length)/\Sep H' (lG ro lo::ng bm iK bK m::F)/\v=ro):=by
 obtain ⟨v,H',hc,lo,hl,hS'⟩:=Lq O6 hS q1 q2 q3
 exact ⟨v,H',hc,v,lo,hl,hS',rfl⟩
def aaU (_a0:iS) (_a1:Row lr) (_a2:Row kz) (_a3:jV) (_a4:Int) (_a5:Int) (v:AV):Prop:=∃ r0:Row Int,(r0.l.length<=1000000)/\v=kN r0
def t100 (a0:iS) (a1:Row lr) (a2:Row kz) (a3:jV) (a4:Int) (a5:Int) (q1:mB a0.p) (q2:a2.l.length<=64) (q3:(∀ r∈(a2.l:List kz),rb r)) (q4:∀ y∈a1.l,LG y):Ct 100 [.ip (iS.ag a0) 0 false,j8 a1,ki a2,.agg (jV.ag a3),iv a4,iv a5] (aaU a0 a1 a2 a3 a4 a5):=by
 refine j9 Jx ?_
 refine aa ?_
 refine kn (H:=aT.empty) rfl (mP (cs:=[.ip (iS.ag a0) 0 false]) kV rfl rfl rfl rfl rfl) ?_
 rintro _ H2 ⟨b1,rfl,hS3⟩
 refine kn (H:=H2) rfl (mP (cs:=[j8 a1]) hS3 rfl rfl rfl rfl rfl) ?_
 rintro _ H5 ⟨b4,rfl,hS6⟩
 refine bh ?_
 refine aa ?_
 refine kn (H:=H5) rfl (nP hS6) ?_
 rintro _ H8 ⟨b7,rfl,hS9⟩
 refine kn (H:=H8) rfl (rz hS9 rfl rfl) ?_
 rintro _ H11 ⟨b10,rfl,hS12⟩
 refine DN 0 hS12 ((.hm b7)) λH13 hS14=>?_
 refine oN ?_
 refine du ?_
 refine ab ?_
 refine dK ?_
 refine m5 3 hS14 (.ip (iS.ag a0) 0 false) ?_
 refine aK ?_
 refine oC (t56 a0 a2 a3 a4 a5 ey ey) ?_
 rintro _ ⟨r16,⟨hc15,hc15r⟩,rfl⟩
 have hRo:=hc15.2; have hRl:=hc15.1
 have hL17:=r16.lk
 refine lu r16 ?_
 refine aC ?_
 have hNk18:=r16.lk
 refine jW r16.l.length (λk18 e h=>∃ l19:List (Int×Bool),∃ H20:aT,(oc l19)/\(∀ y∈(l19:List (Int×Bool)),m4 y.1)/\(l19.length<=1464*k18)/\Sep H20 (kO b10 [(.hm b7)]::ng b7 iK bK l19::kO b4 [j8 a1]::kO b1 [.ip (iS.ag a0) 0 false]::[])/\At [2,4,5,6,9,13,14,28,29,30] [ki a2,iv a4,iv a5,(jQ b1),.la 9 0,(jQ b10),.kY 169 [] [(jQ b10),(jQ b1),(jQ b4)],kN r16,bY r16.l.length,bY k18] H20 [(9,(jV.ag a3))] e h) ?_ (k0:=0) eG ⟨([]),H13,(by simp [oc]),fS,gV,hS14,atR⟩
 rintro k18 e h hkk18 ⟨l19,H20,hNd,hRg,hLm,hS21,hA⟩
 refine aA ?_
 refine kx (λh22=>?_) (λh22=>?_)
 refine ak ?_
 refine wz [ki a2,iv a4,iv a5,(jQ b1),.la 9 0,(jQ b10),.kY 169 [] [(jQ b10),(jQ b1),(jQ b4)],kN r16,bY r16.l.length,bY k18] H20 [(9,(jV.ag a3))] ?_
 refine bd ?_
 have hx23:k18<r16.l.length:=by omega
 refine ml k18 r16 hx23 ?_
 generalize hqx24:r16.l[k18]=x24
 have hinx24:x24∈r16.l:=by rw [<- hqx24]; exact List.getElem_mem _
 first | have hgx24:=hgE x24 hinx24 | have hgx24:=hRo x24 hinx24
 refine bh ?_
 refine aX ?_
 have hx25:(x24).toNat<a2.l.length:=by omega
 refine jP rfl (λ_=>ld (n:=x24) (r:=a2) (enc:=kz.ag) rfl rfl rfl rfl rfl eG hx25 rfl) ?_
 generalize hqx26:a2.l[(x24).toNat]=x26
 have hinx26:x26∈a2.l:=by rw [<- hqx26]; exact List.getElem_mem _
 obtain ⟨hk1x26,hk2x26,hk3x26,hgS,hk5x26,hgE,hk7x26⟩:=q3 x26 hinx26
 refine am ?_
 have hL27:=x26.steps.lk
 refine lu x26.steps ?_
 refine aC ?_
 have hNk28:=x26.steps.lk
 refine jW x26.steps.l.length (λk28 e h=>∃ l29:List (Int×Bool),∃ H30:aT,(oc l29)/\(∀ y∈(l29:List (Int×Bool)),m4 y.1)/\(l29.length<=1464*k18+61*k28)/\Sep H30 (kO b10 [(.hm b7)]::ng b7 iK bK l29::kO b4 [j8 a1]::kO b1 [.ip (iS.ag a0) 0 false]::[])/\At [2,4,5,6,9,13,14,16,28,29,30,38,39,40] [ki a2,iv a4,iv a5,(jQ b1),.la 9 0,(jQ b10),.kY 169 [] [(jQ b10),(jQ b1),(jQ b4)],iv x24,kN r16,bY r16.l.length,bY k18,kQ x26.steps,bY x26.steps.l.length,bY k28] H30 [(9,(jV.ag a3))] e h) ?_ (k0:=0) eG ⟨l19,H20,gQ,gP,gV,hS21,atR⟩
 rintro k28 e h hkk28 ⟨l29,H30,hNd,hRg,hLm,hS31,hA⟩
 refine aA ?_
 refine kx (λh32=>?_) (λh32=>?_)
 refine ak ?_
 refine wz [ki a2,iv a4,iv a5,(jQ b1),.la 9 0,(jQ b10),.kY 169 [] [(jQ b10),(jQ b1),(jQ b4)],iv x24,kN r16,bY r16.l.length,bY k18,kQ x26.steps,bY x26.steps.l.length,bY k28] H30 [(9,(jV.ag a3))] ?_
 refine bd ?_
 have hx33:k28<x26.steps.l.length:=by omega
 refine ml k28 x26.steps hx33 ?_
 generalize hqx34:x26.steps.l[k28]=x34
 have hinx34:x34∈x26.steps.l:=by rw [<- hqx34]; exact List.getElem_mem _
 have hgx34:=hgS x34 hinx34
 refine bu ?_
 refine bz ?_
 have hS35:=Sep.pick hS31 [0,1,3,2] 4 eB eB
 refine kI (H:=H30) (args:=[iv x34.elem]) (p:=[]) (r:=[(jQ b10),(jQ b1),(jQ b4)]) rfl rfl rfl rfl rfl rfl rfl (Qt x34.elem b10 b7 l29 b1 a0 b4 a1 ([]) hS35 ey ey ey ey) ?_
 rintro _ H36 ⟨mo39,hc38,hS37,rfl⟩
 obtain ⟨hNd,hRg,hLp⟩:=hc38
 refine oN ?_
 refine wz [ki a2,iv a4,iv a5,(jQ b1),.la 9 0,(jQ b10),.kY 169 [] [(jQ b10),(jQ b1),(jQ b4)],iv x24,kN r16,bY r16.l.length,bY k18,kQ x26.steps,bY x26.steps.l.length,bY k28] H36 [(9,(jV.ag a3))] ?_
 refine qg ?_
 refine kD ?_
 refine ab ?_
 have hS40:=Sep.pick hS37 [0,1,3,2] 4 eB eB
 exact ⟨by omega,mo39,H36,gQ,gP,eG,hS40,atR⟩
 refine aj ?_
 refine wz [ki a2,iv a4,iv a5,(jQ b1),.la 9 0,(jQ b10),.kY 169 [] [(jQ b10),(jQ b1),(jQ b4)],iv x24,kN r16,bY r16.l.length,bY k18] H30 [(9,(jV.ag a3))] ?_
 refine ae ?_
 have hx41:(x24).toNat<a2.l.length:=by omega
 refine jP rfl (λ_=>ld (n:=x24) (r:=a2) (enc:=kz.ag) rfl rfl rfl rfl rfl eG hx41 rfl) ?_
 rw [hqx26]
 refine am ?_
 have hL43:=x26.nr.lk
 refine lu x26.nr ?_
 refine aC ?_
 have hNk44:=x26.nr.lk
 refine jW x26.nr.l.length (λk44 e h=>∃ l45:List (Int×Bool),∃ H46:aT,(oc l45)/\(∀ y∈(l45:List (Int×Bool)),m4 y.1)/\(l45.length<=1464*k18+732+61*k44)/\Sep H46 (kO b10 [(.hm b7)]::ng b7 iK bK l45::kO b4 [j8 a1]::kO b1 [.ip (iS.ag a0) 0 false]::[])/\At [2,4,5,6,9,13,14,28,29,30,53,54,55] [ki a2,iv a4,iv a5,(jQ b1),.la 9 0,(jQ b10),.kY 169 [] [(jQ b10),(jQ b1),(jQ b4)],kN r16,bY r16.l.length,bY k18,kN x26.nr,bY x26.nr.l.length,bY k44] H46 [(9,(jV.ag a3))] e h) ?_ (k0:=0) eG ⟨l29,H30,gQ,gP,gV,hS31,atR⟩
 rintro k44 e h hkk44 ⟨l45,H46,hNd,hRg,hLm,hS47,hA⟩
 refine aA ?_
 refine kx (λh48=>?_) (λh48=>?_)
 refine ak ?_
 refine wz [ki a2,iv a4,iv a5,(jQ b1),.la 9 0,(jQ b10),.kY 169 [] [(jQ b10),(jQ b1),(jQ b4)],kN r16,bY r16.l.length,bY k18,kN x26.nr,bY x26.nr.l.length,bY k44] H46 [(9,(jV.ag a3))] ?_
 refine bd ?_
 have hx49:k44<x26.nr.l.length:=by omega
 refine ml k44 x26.nr hx49 ?_
 generalize hqx50:x26.nr.l[k44]=x50
 have hinx50:x50∈x26.nr.l:=by rw [<- hqx50]; exact List.getElem_mem _
 first | have hgx50:=hgE x50 hinx50 | have hgx50:=hRo x50 hinx50
 refine bh ?_
 refine cu ?_
 have hS51:=Sep.pick hS47 [0,1,3,2] 4 eB eB
 refine kI (H:=H46) (args:=[iv x50]) (p:=[]) (r:=[(jQ b10),(jQ b1),(jQ b4)]) rfl rfl rfl rfl rfl rfl rfl (Qt x50 b10 b7 l45 b1 a0 b4 a1 ([]) hS51 ey ey ey ey) ?_
 rintro _ H52 ⟨mo55,hc54,hS53,rfl⟩
 obtain ⟨hNd,hRg,hLp⟩:=hc54
 refine oN ?_
 refine wz [ki a2,iv a4,iv a5,(jQ b1),.la 9 0,(jQ b10),.kY 169 [] [(jQ b10),(jQ b1),(jQ b4)],kN r16,bY r16.l.length,bY k18,kN x26.nr,bY x26.nr.l.length,bY k44] H52 [(9,(jV.ag a3))] ?_
 refine qg ?_
 refine kD ?_
 refine ab ?_
 have hS56:=Sep.pick hS53 [0,1,3,2] 4 eB eB
 exact ⟨by omega,mo55,H52,gQ,gP,eG,hS56,atR⟩
 refine aj ?_
 refine wz [ki a2,iv a4,iv a5,(jQ b1),.la 9 0,(jQ b10),.kY 169 [] [(jQ b10),(jQ b1),(jQ b4)],kN r16,bY r16.l.length,bY k18] H46 [(9,(jV.ag a3))] ?_
 refine qg ?_
 refine kD ?_
 refine ab ?_
 exact ⟨by omega,l45,H46,gQ,gP,eG,hS47,atR⟩
 refine aj ?_
 refine wz [iv a4,iv a5,(jQ b1),.la 9 0,(jQ b10)] H20 [(9,(jV.ag a3))] ?_
 refine aL ?_
 refine nX 0 hS21 ((.hm b7)) ?_
 refine nX 3 hS21 (.ip (iS.ag a0) 0 false) ?_
 refine bj ?_
 refine rC (t98 a0 a3 a4 a5) ?_
 rintro _ ⟨r58,hc57,rfl⟩
 refine lH (H:=H20) rfl rfl (PL (H:=H20) (i:=1) (ek:=iK) (ev:=bK) (l:=l19) r58 hS21 rfl rfl rfl rfl rfl rfl rfl pB) ?_
 rintro _ H59 ⟨rfl,l61,hd62,hS60⟩
 have hNd:=Qu hd62 hNd; have hRg:=Pf hd62 hRg; have hLd:=hd62.length_le
 refine rN ?_
 refine aa ?_
 refine m5 0 hS60 ((.hm b7)) ?_
 have hS63:=Sep.pick hS60 [1,0,2,3] 4 eB eB
 refine kI (H:=H59) (args:=[(.hm b7)]) (p:=[]) (r:=[]) rfl rfl rfl rfl rfl rfl rfl (X8 b7 l61 (kO b10 [(.hm b7)]::kO b4 [j8 a1]::kO b1 [.ip (iS.ag a0) 0 false]::[]) hS63 ey ey ey) ?_
 rintro ro67 H64 ⟨_,lo68,hc66,hS65,rfl⟩
 have hRs:=hc66
 refine jP rfl (λ_=>sf rfl rfl (rY rfl rfl)) ?_
 have hS69:=Sep.pick hS65 [0,4,1,2,3] 5 eB eB
 refine kI (H:=H64) (args:=[ro67,.kY 173 [] [(jQ b1)]]) (p:=[]) (r:=[]) rfl rfl rfl rfl rfl (jU (Sep.arg (i:=0) hS65 rfl) (jU rfl kE)) rfl (Wu ro67 lo68 b1 a0 (ng b7 iK bK l61::kO b10 [(.hm b7)]::kO b4 [j8 a1]::[]) hS69 ey) ?_
 rintro vo73 H70 ⟨_,lo74,hc72,hS71,rfl⟩
 refine af ?_
 obtain ⟨r75,hl76,hf77⟩:=lK (H:=H70) (i:=0) (l:=lo74) (enc:=j6) hS71 rfl eA
 have hlq:=hl76; have hln79:=congrArg List.length hl76
 have hz78:∀ ls m,freeze false { H70 with cH:=ls } (m+2) vo73=some (kN r75):=λls m=>hf77 _ _ (λ_=>rfl)
 exact ⟨vo73,(lL (vs:=[vo73]) rfl (jU (Sep.arg (i:=0) hS71 rfl) kE)),kN r75,(show freeze false { H70 with cH:=[(9,(jV.ag a3))] } 8 vo73=some (kN r75) by simp only [FZ,hz78]),r75,gO,rfl⟩
def P45 (_a0:iS) (_a1:Row kz) (_a2:jV) (_a3:Int) (_a4:Int) (v:AV):Prop:=∃ r0:kP,(s8 r0)/\v=.agg (kP.ag r0)
def t45 (a0:iS) (a1:Row kz) (a2:jV) (a3:Int) (a4:Int) (q1:mB a0.p) (q2:a1.l.length<=64) (q3:(∀ r∈(a1.l:List kz),rb r)) (q5:(∀ r∈a2.runs.l,r.kH.l.length<=12)):Ct 45 [.ip (iS.ag a0) 0 false,ki a1,.agg (jV.ag a2),iv a3,iv a4] (P45 a0 a1 a2 a3 a4):=by
 refine j9 LM ?_
 refine ae ?_
 iterate 2 refine oN (qq (qg (oV ?_)))
 refine am ?_
 refine oC (t96 a2 a3 a4) ?_
 rintro _ ⟨r2,r3,hc1,rfl⟩
 have hL:=hc1.1; have hLz:=hc1.2
 have hLe:r3=true->(r2).l.length<=12/\0<=a4/\a4<=((r2).l.length:Int):=λz=>by have hz:=hL.1 z; refine ⟨?_,hz.2.2.1,hz.2.2.2.2⟩; rw [hz.2.2.2.1 eG]; exact q5 _ (List.getElem_mem _)
 cases r3
 refine bV ?_
 refine cO ?_
 exact xG ⟨(⟨(lZ:Row Int),(lZ:Row mq)⟩:kP),fQ,rfl⟩
 have hLt:=hL.1 rfl; have hLL:=hLt.2.2.2.1
 refine bV ?_
 refine aH ?_
 refine wy [.ip (iS.ag a0) 0 false,ki a1,iv a3,iv a4,.la 7 0,.la 10 0,.la 11 0,nQ r2] [(7,(jV.ag a2)),(10,[iN,iN]),(11,[iN,iN])] ?_
 refine qs ?_
 refine dD ?_
 refine oC (t98 a0 a2 a3 a4) ?_
 rintro _ ⟨r5,hc4,rfl⟩
 refine oC (t97 a0 r5) ?_
 rintro _ ⟨r7,hc6,rfl⟩
 refine aZ ?_
 refine mV (λh8=>?_) (λh8=>?_)
 refine dm ?_
 refine bZ ?_
 refine wy [.ip (iS.ag a0) 0 false,ki a1,iv a3,iv a4,.la 7 0,.la 10 0,.la 11 0,nQ r2] [(7,(jV.ag a2)),(10,[iN,iN]),(11,[.sl [[iv r7]] (.exact 1),iN])] ?_
 refine ai ?_
 refine oC (t99 a0 ey) ?_
 rintro _ ⟨r10,hc9,rfl⟩
 have hPl:=hc9.2.2.2.2.2
 have hLG:=Di hPl q1; obtain ⟨hLe1,hLe2,hLe3⟩:=hLe rfl
 refine oV ?_
 refine ao ?_
 refine aC ?_
 have hS11:=Sep.mf kV 2
 refine oe (λm17 e h=>∃ v12:AV,∃ l13:List mq,∃ n14:Int,∃ H15:aT,m17=((r2.l.length:Int) - n14).toNat/\(0<=n14/\n14<=(r2.l.length:Int))/\((l13.length:Int)<=n14)/\(∀ x∈(l13:List mq),x.free.l.length<=1000000)/\Sep H15 (my mq.ag 2 v12 l13::[])/\At [0,1,3,7,10,11,12,15,16] [.ip (iS.ag a0) 0 false,ki a1,iv a3,.la 7 0,.la 10 0,.la 11 0,nQ r2,j8 r10.lines,iv n14] H15 [(7,(jV.ag a2)),(10,[iN,iN]),(11,[.sl [[iv r7]] (.exact 1),v12])] e h) ?_ _ _ _ ⟨iN,(([]:List mq)),a4,aT.empty,rfl,eG,gB,fS,hS11,atR⟩
 rintro m17 e h ⟨v12,l13,n14,H15,hmm17,hi0,hi1,hW,hS16,hA⟩
 refine cC ?_
 have hL18:=r2.lk
 refine lu r2 ?_
 refine kx (λh19=>?_) (λh19=>?_)
 refine cE ?_
 refine wz [.ip (iS.ag a0) 0 false,ki a1,iv a3,.la 7 0,.la 10 0,.la 11 0,nQ r2,j8 r10.lines,iv n14] H15 [(7,(jV.ag a2)),(10,[iN,iN]),(11,[.sl [[iv r7]] (.exact 1),v12])] ?_
 refine ay ?_
 refine qd ?_
 iterate 8 refine rV ?_
 refine rC (t100 a0 r10.lines a1 a2 a3 n14 ey ey ey ey) ?_
 rintro _ ⟨r21,hc20,rfl⟩
 have hFr:=hc20
 refine bQ ?_
 refine Wj ?_
 refine rC (t98 a0 a2 a3 (n14+1)) ?_
 rintro _ ⟨r23,hc22,rfl⟩
 refine rC (t97 a0 r23) ?_
 rintro _ ⟨r25,hc24,rfl⟩
 refine rV ?_
 refine kp rfl rfl (λ_=>sA (xs:=[[kN r21,iv r25]]) rfl rfl rfl rfl (yp (jU (mZ _) (jU rfl kE)) rfl)) ?_
 refine lH rfl rfl (kZ (i:=0) (l:=l13) (enc:=mq.ag) [(⟨r21,r25⟩:mq)] hS16 rfl rfl rfl rfl rfl rfl rfl rfl rfl (λ_=>rfl) (.inl rfl) eE (λ_=>rfl)) ?_
 rintro v26 H27 hS28
 refine rV ?_
 refine kp rfl rfl (λ_=>qi rfl rfl rfl (mF rfl rfl (Sep.cell (i:=0) hS28 rfl)) (jU (Sep.cell (i:=0) hS28 rfl) kE) rfl rfl) ?_
 refine rN ?_
 refine wz [.ip (iS.ag a0) 0 false,ki a1,iv a3,.la 7 0,.la 10 0,.la 11 0,nQ r2,j8 r10.lines,iv n14] H27 [(7,(jV.ag a2)),(10,[iN,iN]),(11,[.sl [[iv r7]] (.exact 1),v26])] ?_
 refine aM ?_
 refine kD ?_
 refine ab ?_
 refine ⟨_,?_,v26,((l13++[(⟨r21,r25⟩:mq)])),(n14+1),H27,rfl,eG,gB,(by exact pI hW hFr),hS28,atR⟩
 omega
 refine aN ?_
 refine wz [.la 10 0,.la 10 0,.la 11 0] H15 [(10,[iN,iN]),(10,[iN,iN]),(11,[.sl [[iv r7]] (.exact 1),v12])] ?_
 refine ai ?_
 refine jP rfl (λ_=>qi rfl rfl rfl rfl (jU rfl (jU (Sep.cell (i:=0) hS16 rfl) kE)) rfl rfl) ?_
 refine dg ?_
 obtain ⟨r29,hl30,hf31⟩:=lK (H:=H15) (i:=0) (l:=l13) (enc:=mq.ag) hS16 rfl eA
 have hlq:=hl30; have hln33:=congrArg List.length hl30
 have hz32:∀ m,freeze false { H15 with cH:=[(10,[.sl [[iv r7]] (.exact 1),v12]),(11,[.sl [[iv r7]] (.exact 1),v12])] } (m+2) v12=some (oE r29):=λm=>hf31 _ _ (λ_=>by simp only [mq.ag,kG,m0,nf,np,mY,nj])
 exact ⟨.agg [.sl [[iv r7]] (.exact 1),v12],(lL (vs:=[.agg [.sl [[iv r7]] (.exact 1),v12]]) rfl rfl),.agg [.sl [[iv r7]] (.exact 1),oE r29],(show freeze false { H15 with cH:=[(10,[.sl [[iv r7]] (.exact 1),v12]),(11,[.sl [[iv r7]] (.exact 1),v12])] } 8 (.agg [.sl [[iv r7]] (.exact 1),v12])=some (.agg [.sl [[iv r7]] (.exact 1),oE r29]) by simp only [FZ,hz32]),(⟨(⟨[r7],.exact 1,pR,rfl,nE⟩:Row Int),r29⟩:kP),fQ,rfl⟩
 refine ah ?_
 refine wy [.ip (iS.ag a0) 0 false,ki a1,iv a3,iv a4,.la 7 0,.la 10 0,.la 11 0,nQ r2] [(7,(jV.ag a2)),(10,[iN,iN]),(11,[iN,iN])] ?_
 refine ai ?_
 refine oC (t99 a0 ey) ?_
 rintro _ ⟨r35,hc34,rfl⟩
 have hPl:=hc34.2.2.2.2.2
 have hLG:=Di hPl q1; obtain ⟨hLe1,hLe2,hLe3⟩:=hLe rfl
 refine oV ?_
 refine ao ?_
 refine aC ?_
 have hS36:=Sep.mf kV 2
 refine oe (λm42 e h=>∃ v37:AV,∃ l38:List mq,∃ n39:Int,∃ H40:aT,m42=((r2.l.length:Int) - n39).toNat/\(0<=n39/\n39<=(r2.l.length:Int))/\((l38.length:Int)<=n39)/\(∀ x∈(l38:List mq),x.free.l.length<=1000000)/\Sep H40 (my mq.ag 2 v37 l38::[])/\At [0,1,3,7,10,11,12,15,16] [.ip (iS.ag a0) 0 false,ki a1,iv a3,.la 7 0,.la 10 0,.la 11 0,nQ r2,j8 r35.lines,iv n39] H40 [(7,(jV.ag a2)),(10,[iN,iN]),(11,[iN,v37])] e h) ?_ _ _ _ ⟨iN,(([]:List mq)),a4,aT.empty,rfl,eG,gB,fS,hS36,atR⟩
 rintro m42 e h ⟨v37,l38,n39,H40,hmm42,hi0,hi1,hW,hS41,hA⟩
 refine cC ?_
 have hL43:=r2.lk
 refine lu r2 ?_
 refine kx (λh44=>?_) (λh44=>?_)
 refine cE ?_
 refine wz [.ip (iS.ag a0) 0 false,ki a1,iv a3,.la 7 0,.la 10 0,.la 11 0,nQ r2,j8 r35.lines,iv n39] H40 [(7,(jV.ag a2)),(10,[iN,iN]),(11,[iN,v37])] ?_
 refine ay ?_
 refine qd ?_
 iterate 8 refine rV ?_
 refine rC (t100 a0 r35.lines a1 a2 a3 n39 ey ey ey ey) ?_
 rintro _ ⟨r46,hc45,rfl⟩
 have hFr:=hc45
 refine bQ ?_
 refine Wj ?_
 refine rC (t98 a0 a2 a3 (n39+1)) ?_
 rintro _ ⟨r48,hc47,rfl⟩
 refine rC (t97 a0 r48) ?_
 rintro _ ⟨r50,hc49,rfl⟩
 refine rV ?_
 refine kp rfl rfl (λ_=>sA (xs:=[[kN r46,iv r50]]) rfl rfl rfl rfl (yp (jU (mZ _) (jU rfl kE)) rfl)) ?_
 refine lH rfl rfl (kZ (i:=0) (l:=l38) (enc:=mq.ag) [(⟨r46,r50⟩:mq)] hS41 rfl rfl rfl rfl rfl rfl rfl rfl rfl (λ_=>rfl) (.inl rfl) eE (λ_=>rfl)) ?_
 rintro v51 H52 hS53
 refine rV ?_
 refine kp rfl rfl (λ_=>qi rfl rfl rfl (mF rfl rfl (Sep.cell (i:=0) hS53 rfl)) (jU (Sep.cell (i:=0) hS53 rfl) kE) rfl rfl) ?_
 refine rN ?_
 refine wz [.ip (iS.ag a0) 0 false,ki a1,iv a3,.la 7 0,.la 10 0,.la 11 0,nQ r2,j8 r35.lines,iv n39] H52 [(7,(jV.ag a2)),(10,[iN,iN]),(11,[iN,v51])] ?_
 refine aM ?_
 refine kD ?_
 refine ab ?_
 refine ⟨_,?_,v51,((l38++[(⟨r46,r50⟩:mq)])),(n39+1),H52,rfl,eG,gB,(by exact pI hW hFr),hS53,atR⟩
 omega
 refine aN ?_
 refine wz [.la 10 0,.la 10 0,.la 11 0] H40 [(10,[iN,iN]),(10,[iN,iN]),(11,[iN,v37])] ?_
 refine ai ?_
 refine jP rfl (λ_=>qi rfl rfl rfl rfl (jU rfl (jU (Sep.cell (i:=0) hS41 rfl) kE)) rfl rfl) ?_
 refine dg ?_
 obtain ⟨r54,hl55,hf56⟩:=lK (H:=H40) (i:=0) (l:=l38) (enc:=mq.ag) hS41 rfl eA
 have hlq:=hl55; have hln58:=congrArg List.length hl55
 have hz57:∀ m,freeze false { H40 with cH:=[(10,[iN,v37]),(11,[iN,v37])] } (m+2) v37=some (oE r54):=λm=>hf56 _ _ (λ_=>by simp only [mq.ag,kG,m0,nf,np,mY,nj])
 exact ⟨.agg [iN,v37],(lL (vs:=[.agg [iN,v37]]) rfl rfl),.agg [iN,oE r54],(show freeze false { H40 with cH:=[(10,[iN,v37]),(11,[iN,v37])] } 8 (.agg [iN,v37])=some (.agg [iN,oE r54]) by simp only [FZ,hz57]),(⟨(lZ:Row Int),r54⟩:kP),fQ,rfl⟩
def WU (n:iS) (c:j5) (d:jV) (lg:jS Int) (rd:jS Int) (ca:jS Int) (ow:jS Int) (v:AV):Prop:=∃ r0:Row kP,(r0.l.length=lg.l.length/\∀ x∈r0.l,s8 x)/\v=kS r0
def YP (n:iS) (c:j5) (d:jV) (lg:jS Int) (rd:jS Int) (ca:jS Int) (ow:jS Int) (o1:mB n.p) (o2:c.roads.l.length<=64) (o3:(∀ r∈(c.roads.l:List kz),rb r)) (o4:(∀ r∈d.runs.l,r.kH.l.length<=12)) (o5:rd.l.length=lg.l.length) (o6:lg.l.length<=8) (o7:∀ x∈lg.l,x=0) (o8:∀ x∈rd.l,x = -1):Ct 15 [.ip (mE n c d (ly lg) (ly rd) (ly ca) (ly ow)) 0 true] (WU n c d lg rd ca ow):=by
 refine j9 Mn ?_
 refine bI ?_
 refine aY ?_
 refine aF ?_
 have hL1:=lg.lk
 refine jP rfl (λ_=>m8 (r:=lg) (enc:=j6) rfl rfl rfl rfl rfl rfl) ?_
 refine aC ?_
 have hS2:=Sep.mf kV 2
 have hNk3:=lg.lk
 refine jW lg.l.length (λk3 e h=>∃ v4:AV,∃ l5:List kP,∃ H6:aT,(l5.length=k3)/\(∀ x∈(l5:List kP),s8 x)/\Sep H6 (my kP.ag 2 v4 l5::[])/\At [0,3,9,10,11] [.ip (mE n c d (ly lg) (ly rd) (ly ca) (ly ow)) 0 true,v4,ly lg,bY lg.l.length,bY k3] H6 [] e h) ?_ (k0:=0) eG ⟨iN,(([]:List kP)),aT.empty,gm,fS,hS2,atR⟩
 rintro k3 e h hkk3 ⟨v4,l5,H6,hLn,hCo,hS7,hA⟩
 refine aA ?_
 refine kx (λh8=>?_) (λh8=>?_)
 refine ak ?_
 refine wz [.ip (mE n c d (ly lg) (ly rd) (ly ca) (ly ow)) 0 true,v4,ly lg,bY lg.l.length,bY k3] H6 [] ?_ (kh hS7 [(3,0)])
 refine aw ?_
 have hx9:k3<lg.l.length:=by omega
 refine jP rfl (λ_=>mJ (n:=k3) (r:=lg) (enc:=j6) rfl rfl rfl rfl rfl hx9 rfl) ?_
 generalize hqx10:lg.l[k3]=x10
 have hinx10:x10∈lg.l:=by rw [<- hqx10]; exact List.getElem_mem _
 have hzx10:=o7 x10 hinx10
 refine am ?_
 refine ap ?_
 refine dD ?_
 have hx11:k3<rd.l.length:=by omega
 refine jP rfl (λ_=>mJ (n:=k3) (r:=rd) (enc:=j6) rfl rfl rfl rfl rfl hx11 rfl) ?_
 generalize hqx12:rd.l[k3]=x12
 have hinx12:x12∈rd.l:=by rw [<- hqx12]; exact List.getElem_mem _
 have hzx12:=o8 x12 hinx12
 refine oV ?_
 refine mV (λh13=>?_) (λh13=>?_)
 exfalso; omega
 refine ah ?_
 refine wz [.ip (mE n c d (ly lg) (ly rd) (ly ca) (ly ow)) 0 true,v4,bY k3,iv x10,ly lg,bY lg.l.length,bY k3] H6 [] ?_ (kh hS7 [(3,0)])
 refine qd ?_
 iterate 16 refine rV ?_
 refine rC (t45 n c.roads d ((k3:Int)) x10 ey ey ey ey) ?_
 rintro _ ⟨r15,hc14,rfl⟩
 have hCk:=hc14
 refine kp rfl rfl (λ_=>sA (xs:=[(kP.ag r15)]) rfl rfl rfl rfl (yp (jU (mZ _) (jU (mZ _) kE)) rfl)) ?_
 refine lH rfl rfl (kZ (i:=0) [r15] hS7 rfl rfl rfl rfl rfl rfl rfl rfl rfl (λ_=>rfl) (.inl rfl) eE (λ_=>rfl)) ?_
 rintro v16 H17 hS18
 refine aO ?_
 refine wz [.ip (mE n c d (ly lg) (ly rd) (ly ca) (ly ow)) 0 true,v16,ly lg,bY lg.l.length,bY k3] H17 [] ?_ (kh hS18 [(3,0)])
 refine qg ?_
 refine kD ?_
 refine ab ?_
 exact ⟨by omega,v16,((l5++[r15])),H17,fu,(by exact pI hCo hCk),hS18,(kh hS18 [(3,0)])⟩
 refine aj ?_
 refine wz [v4] H6 [] ?_ (kh hS7 [(3,0)])
 refine bR ?_
 obtain ⟨r19,hl20,hf21⟩:=lK (H:=H6) (i:=0) (l:=l5) (enc:=kP.ag) hS7 rfl eA
 have hlq:=hl20; have hln23:=congrArg List.length hl20
 have hz22:∀ m,freeze false { H6 with cH:=[] } (m+2) v4=some (kS r19):=λm=>hf21 _ _ (λ_=>by simp only [kP.ag,kG,m0,nf,np,mY,nj])
 exact ⟨v4,(lL (vs:=[v4]) rfl (jU (Sep.arg (i:=0) hS7 rfl) kE)),kS r19,(show freeze false { H6 with cH:=[] } 8 v4=some (kS r19) by simp only [FZ,hz22]),r19,(by exact ⟨by omega,by simp_all⟩),rfl⟩
def Rv (n:iS) (c:j5) (d:jV) (lg:jS Int) (rd:jS Int) (ca:jS Int) (ow:jS Int) (v:AV):Prop:=∃ r0:Row kP,((r0.l.length=lg.l.length/\∀ x∈r0.l,s8 x)/\rs 15 [.ip (mE n c d (ly lg) (ly rd) (ly ca) (ly ow)) 0 true]=kS r0)/\v=kS r0
def t15 (n:iS) (c:j5) (d:jV) (lg:jS Int) (rd:jS Int) (ca:jS Int) (ow:jS Int) (o1:mB n.p) (o2:c.roads.l.length<=64) (o3:(∀ r∈(c.roads.l:List kz),rb r)) (o4:(∀ r∈d.runs.l,r.kH.l.length<=12)) (o5:rd.l.length=lg.l.length) (o6:lg.l.length<=8) (o7:∀ x∈lg.l,x=0) (o8:∀ x∈rd.l,x = -1) (h:aT):∃ v,ka cfg FT ko false 15 [.ip (mE n c d (ly lg) (ly rd) (ly ca) (ly ow)) 0 true] h v h/\Rv n c d lg rd ca ow v:=by
 obtain ⟨v,hc,hP,hr⟩:=nC pF (YP n c d lg rd ca ow o1 o2 o3 o4 o5 o6 o7 o8) h
 obtain ⟨r0,hp,rfl⟩:=hP
 exact iB
def Y9 (_a0:Int) (v:AV):Prop:=∃ r0:Bool,(True)/\v=.bool r0
def t199 (a0:Int) :Ct 199 [.int .u8 a0] (Y9 a0):=by
 refine j9 Hz ?_
 refine aa ?_
 refine aZ ?_
 refine mV (λh1=>?_) (λh1=>?_)
 refine am ?_
 refine s5 (λh2=>?_) (λh2=>?_)
 refine oV ?_
 refine db ?_
 refine aR ?_
 exact io
 refine aF ?_
 refine mV (λh3=>?_) (λh3=>?_)
 refine am ?_
 refine s5 (λh4=>?_) (λh4=>?_)
 refine bO ?_
 exact io
 refine bO ?_
 exact iq
 refine bv ?_
 refine bO ?_
 exact iq
 refine bv ?_
 refine aF ?_
 refine mV (λh5=>?_) (λh5=>?_)
 refine am ?_
 refine s5 (λh6=>?_) (λh6=>?_)
 refine bO ?_
 exact io
 refine bO ?_
 exact iq
 refine bv ?_
 refine bO ?_
 exact iq
def Um (_a0:pv) (v:AV):Prop:=∃ r0:Bool,(True)/\v=.bool r0
def OT (a0:pv) :Ct 127 [.str a0.l] (Um a0):=by
 refine j9 I0 ?_
 refine aY ?_
 refine oZ rfl (λ_=>sv rfl rfl) (λh2=>?_) (λh2=>?_)
 refine cm ?_
 refine ce ?_
 exact iq
 have hp1:0<a0.l.length:=List.length_pos_iff.mpr h2
 refine aF ?_
 refine ma (λh3=>?_) (λh3=>?_)
 refine ce ?_
 exact iq
 refine aF ?_
 have hx4:0<a0.l.length:=by omega
 refine jP rfl (λ_=>yy (n:=0) (s:=a0.l) rfl rfl rfl rfl hx4) ?_
 generalize hqc5:a0.l[0]=c5
 refine oC (t199 ((c5.toNat:Int))) ?_
 rintro _ ⟨r7,hc6,rfl⟩
 cases r7
 refine bJ ?_
 exact iq
 refine dt ?_
 refine bG ?_
 have hNk8:=a0.lk
 refine jW a0.l.length (λk8 e h=>(1<=k8)/\At [0,3] [.str a0.l,bY k8] aT.empty [] e h) ?_ (k0:=1) eG ⟨eG,atR⟩
 rintro k8 e h hkk8 ⟨hw9,hA⟩
 refine bo ?_
 refine kx (λh10=>?_) (λh10=>?_)
 refine bg ?_
 refine ae ?_
 have hx11:k8<a0.l.length:=by omega
 refine jP rfl (λ_=>yy (n:=k8) (s:=a0.l) rfl rfl rfl rfl hx11) ?_
 generalize hqc12:a0.l[k8]=c12
 refine oC (t199 ((c12.toNat:Int))) ?_
 rintro _ ⟨r14,hc13,rfl⟩
 cases r14
 refine aK ?_
 have hx15:k8<a0.l.length:=by omega
 refine jP rfl (λ_=>yy (n:=k8) (s:=a0.l) rfl rfl rfl rfl hx15) ?_
 generalize hqc16:a0.l[k8]=c16
 refine kx (λh17=>?_) (λh17=>?_)
 refine bp ?_
 refine bJ ?_
 exact iq
 refine aF ?_
 have hx18:k8<a0.l.length:=by omega
 refine jP rfl (λ_=>yy (n:=k8) (s:=a0.l) rfl rfl rfl rfl hx18) ?_
 generalize hqc19:a0.l[k8]=c19
 refine ma (λh20=>?_) (λh20=>?_)
 refine bJ ?_
 exact iq
 refine oV ?_
 refine cq ?_
 refine kD ?_
 refine ab ?_
 exact ⟨by omega,eG,atR⟩
 refine bi ?_
 refine cw ?_
 refine cq ?_
 refine kD ?_
 refine ab ?_
 exact ⟨by omega,eG,atR⟩
 refine dB ?_
 exact io
def YW (_a0:pv) (v:AV):Prop:=∃ r0:Bool,((True)/\rs 127 [.str _a0.l]=.bool r0)/\v=.bool r0
def t127 (a0:pv)  (h:aT):∃ v,ka cfg FT ko false 127 [.str a0.l] h v h/\YW a0 v:=by
 obtain ⟨v,hc,hP,hr⟩:=nC pF (OT a0) h
 obtain ⟨r0,hp,rfl⟩:=hP
 exact iB
def UI (a0:pv)  {V:AV} (hV:rs 127 [.str a0.l]=V) (h:aT):∃ v,ka cfg FT ko false 127 [.str a0.l] h v h/\v=V:=by
 obtain ⟨v,hc,hP,hr⟩:=nC pF (OT a0) h
 exact iC
def Xd (_a0:Int) (v:AV):Prop:=∃ r0:Int,(((_a0=1->r0=2)/\(_a0=2->r0=3)/\(_a0=3->r0=4)/\(_a0=4->r0=1)/\0<=r0/\r0<=4))/\v=iv r0
def t213 (a0:Int) :Ct 213 [iv a0] (Xd a0):=by
 refine j9 GD ?_
 refine aY ?_
 refine dv ?_
 refine kR (λh1=>?_) (λh1=>?_)
 refine au ?_
 exact xB ⟨2,eG,rfl⟩
 refine br ?_
 refine kR (λh2=>?_) (λh2=>?_)
 refine au ?_
 exact xB ⟨3,eG,rfl⟩
 refine br ?_
 refine kR (λh3=>?_) (λh3=>?_)
 refine au ?_
 exact xB ⟨4,eG,rfl⟩
 refine br ?_
 refine kR (λh4=>?_) (λh4=>?_)
 refine au ?_
 exact xB ⟨1,eG,rfl⟩
 refine aH ?_
 refine aU ?_
 exact xB ⟨0,eG,rfl⟩
def Yb (_a0:iF) (v:AV):Prop:=∃ r0:Bool,(True)/\v=.bool r0
def t147 (a0:iF) :Ct 147 [.agg (iF.ag a0)] (Yb a0):=by
 refine j9 F2 ?_
 refine bT ?_
 refine tW ?_
 refine aX ?_
 refine kx (λh1=>?_) (λh1=>?_)
 refine cm ?_
 refine aE ?_
 refine aE ?_
 refine aE ?_
 refine ce ?_
 exact iq
 refine aF ?_
 refine ma (λh2=>?_) (λh2=>?_)
 refine aE ?_
 refine aE ?_
 refine aE ?_
 refine ce ?_
 exact iq
 refine aK ?_
 refine kx (λh3=>?_) (λh3=>?_)
 refine cg ?_
 refine aE ?_
 refine aE ?_
 refine ce ?_
 exact iq
 refine aK ?_
 refine ma (λh4=>?_) (λh4=>?_)
 refine aE ?_
 refine aE ?_
 refine ce ?_
 exact iq
 refine aK ?_
 refine kx (λh5=>?_) (λh5=>?_)
 refine cg ?_
 refine aE ?_
 refine ce ?_
 exact iq
 refine aK ?_
 refine ma (λh6=>?_) (λh6=>?_)
 refine aE ?_
 refine ce ?_
 exact iq
 refine aK ?_
 refine kx (λh7=>?_) (λh7=>?_)
 refine cg ?_
 refine ce ?_
 exact iq
 refine aK ?_
 refine ma (λh8=>?_) (λh8=>?_)
 refine ce ?_
 exact iq
 refine aK ?_
 have hL9:=a0.elems.lk
 refine lu a0.elems ?_
 refine kR (λh10=>?_) (λh10=>?_)
 refine au ?_
 exact iq
 refine aH ?_
 refine qq ?_
 refine ql ?_
 refine aX ?_
 have hL11:=a0.elems.lk
 refine lu a0.elems ?_
 refine aC ?_
 have hNk12:=a0.elems.lk
 refine jW a0.elems.l.length (λk12 e h=>At [1,54,55,56] [.la 1 0,kB a0.elems,bY a0.elems.l.length,bY k12] aT.empty [(1,(iF.ag a0))] e h) ?_ (k0:=0) eG atR
 rintro k12 e h hkk12 hA
 refine aA ?_
 refine kx (λh13=>?_) (λh13=>?_)
 refine bC ?_
 have hx14:k12<a0.elems.l.length:=by omega
 refine ml k12 a0.elems hx14 ?_
 generalize hqx15:a0.elems.l[k12]=x15
 refine am ?_
 refine aC ?_
 refine ae ?_
 refine oC (t127 x15.name) ?_
 rintro _ ⟨r17,⟨hc16,hc16r⟩,rfl⟩
 cases r17
 refine aQ ?_
 refine bJ ?_
 exact iq
 refine aK ?_
 refine oC (t213 x15.kind) ?_
 rintro _ ⟨r19,hc18,rfl⟩
 refine kR (λh20=>?_) (λh20=>?_)
 refine bJ ?_
 exact iq
 refine bh ?_
 refine qF ?_
 refine ae ?_
 refine kR (λh21=>?_) (λh21=>?_)
 refine be ?_
 refine aX ?_
 refine lR (λh22=>?_) (λh22=>?_)
 refine aW ?_
 exact iq
 refine ah ?_
 refine qe ?_
 refine qg ?_
 refine kD ?_
 refine ab ?_
 exact ic
 refine br ?_
 refine am ?_
 refine kx (λh23=>?_) (λh23=>?_)
 refine cm ?_
 refine bJ ?_
 exact iq
 refine aF ?_
 refine ma (λh24=>?_) (λh24=>?_)
 refine bJ ?_
 exact iq
 refine oV ?_
 refine cU ?_
 refine kD ?_
 refine ab ?_
 exact ic
 refine aj ?_
 refine aX ?_
 have hL25:=a0.signals.lk
 refine dT ?_
 have hNk26:=a0.signals.lk
 refine jW a0.signals.l.length (λk26 e h=>At [1,89,90,91] [.la 1 0,kF a0.signals,bY a0.signals.l.length,bY k26] aT.empty [(1,(iF.ag a0))] e h) ?_ (k0:=0) eG atR
 rintro k26 e h hkk26 hA
 refine aA ?_
 refine kx (λh27=>?_) (λh27=>?_)
 refine bC ?_
 have hx28:k26<a0.signals.l.length:=by omega
 refine ml k26 a0.signals hx28 ?_
 generalize hqx29:a0.signals.l[k26]=x29
 refine dM ?_
 refine oC (t127 x29.name) ?_
 rintro _ ⟨r31,⟨hc30,hc30r⟩,rfl⟩
 cases r31
 refine au ?_
 exact iq
 refine cU ?_
 refine kD ?_
 refine ab ?_
 exact ic
 refine aj ?_
 refine aX ?_
 have hL32:=a0.lines.lk
 refine lu a0.lines ?_
 refine aC ?_
 have hNk33:=a0.lines.lk
 refine jW a0.lines.l.length (λk33 e h=>At [101,102,103] [j8 a0.lines,bY a0.lines.l.length,bY k33] aT.empty [] e h) ?_ (k0:=0) eG atR
 rintro k33 e h hkk33 hA
 refine aA ?_
 refine kx (λh34=>?_) (λh34=>?_)
 refine bC ?_
 have hx35:k33<a0.lines.l.length:=by omega
 refine ml k33 a0.lines hx35 ?_
 generalize hqx36:a0.lines.l[k33]=x36
 refine dM ?_
 refine oC (t127 x36.name) ?_
 rintro _ ⟨r38,⟨hc37,hc37r⟩,rfl⟩
 cases r38
 refine au ?_
 exact iq
 refine cU ?_
 refine kD ?_
 refine ab ?_
 exact ic
 refine aS ?_
 exact io
def LX {H:aT} (b:Nat) (pp:iF) (i:Int) (F:List lC) (hS:Sep H (kO b (iF.ag pp)::F)) (q1:0<=i) (q2:i<(pp.elems.l.length:Int)):∃ v H',ka cfg FT ko true 149 [iv i,(jQ b)] { H with cH:=[] } v H'/\(∃ r0:pv,(True)/\Sep H' (kO b (iF.ag pp)::F)/\v=.str r0.l):=by
 refine kW G4 ?_
 refine bI ?_
 refine dk ?_
 refine jP rfl (λ_=>mj (i:=0) (o:=0) (r:=kB pp.elems) hS rfl rfl rfl rfl) ?_
 refine oV ?_
 have hx1:(i).toNat<pp.elems.l.length:=by omega
 refine jP rfl (λ_=>ld (n:=i) (r:=pp.elems) (enc:=lV.ag) rfl rfl rfl rfl rfl eG hx1 rfl) ?_
 generalize hqx2:pp.elems.l[(i).toNat]=x2
 refine bO ?_
 have hS3:=Sep.pick hS [0] 1 eB eB
 exact i9
def LQ {H:aT} (b:Nat) (pp:iF) (i:Int) (F:List lC) (hS:Sep H (kO b (iF.ag pp)::F)) (q1:0<=i) (q2:i<(pp.signals.l.length:Int)):∃ v H',ka cfg FT ko true 150 [iv i,(jQ b)] { H with cH:=[] } v H'/\(∃ r0:pv,(True)/\Sep H' (kO b (iF.ag pp)::F)/\v=.str r0.l):=by
 refine kW IL ?_
 refine bI ?_
 refine dk ?_
 refine jP rfl (λ_=>mj (i:=0) (o:=2) (r:=kF pp.signals) hS rfl rfl rfl rfl) ?_
 refine oV ?_
 have hx1:(i).toNat<pp.signals.l.length:=by omega
 refine jP rfl (λ_=>ld (n:=i) (r:=pp.signals) (enc:=lP.ag) rfl rfl rfl rfl rfl eG hx1 rfl) ?_
 generalize hqx2:pp.signals.l[(i).toNat]=x2
 refine bO ?_
 have hS3:=Sep.pick hS [0] 1 eB eB
 exact i9
def MW {H:aT} (b:Nat) (pp:iF) (i:Int) (F:List lC) (hS:Sep H (kO b (iF.ag pp)::F)) (q1:0<=i) (q2:i<(pp.lines.l.length:Int)):∃ v H',ka cfg FT ko true 151 [iv i,(jQ b)] { H with cH:=[] } v H'/\(∃ r0:pv,(True)/\Sep H' (kO b (iF.ag pp)::F)/\v=.str r0.l):=by
 refine kW HN ?_
 refine bI ?_
 refine dk ?_
 refine jP rfl (λ_=>mj (i:=0) (o:=3) (r:=j8 pp.lines) hS rfl rfl rfl rfl) ?_
 refine oV ?_
 have hx1:(i).toNat<pp.lines.l.length:=by omega
 refine jP rfl (λ_=>ld (n:=i) (r:=pp.lines) (enc:=lr.ag) rfl rfl rfl rfl rfl eG hx1 rfl) ?_
 generalize hqx2:pp.lines.l[(i).toNat]=x2
 refine bO ?_
 have hS3:=Sep.pick hS [0] 1 eB eB
 exact i9
def LI {H:aT} (n:Int) (b:Nat) (pp:iF) (F:List lC) (hS:Sep H (kO b (iF.ag pp)::F)) (q2:n<=(pp.elems.l.length:Int)):∃ v H',ka cfg FT ko true 148 [iv n,.kY 149 [] [(jQ b)]] { H with cH:=[] } v H'/\(∃ r0:Bool,(True)/\Sep H' (kO b (iF.ag pp)::F)/\v=.bool r0):=by
 refine kW Bz ?_
 have hqb:=pp.elems.ok
 simp only [ry] at hqb
 refine bI ?_
 refine eu ?_
 rintro _ H2 ⟨b1,rfl,hS3⟩
 refine ao ?_
 refine aC ?_
 refine jW ((n).toNat) (λk4 e h=>∃ l5:List (List UInt8×Bool),∃ H6:aT,Sep H6 (ng b1 sK bK l5::kO b (iF.ag pp)::F)/\At [1,5,8,9] [.kY 149 [] [(jQ b)],(.hm b1),iv n,bY k4] H6 [] e h) ?_ (k0:=0) eG ⟨([]),H2,hS3,atR⟩
 rintro k4 e h hkk4 ⟨l5,H6,hS7,hA⟩
 refine aA ?_
 refine kx (λh8=>?_) (λh8=>?_)
 refine cT ?_
 refine cW ?_
 have hS9:=Sep.pick hS7 [1,0] 2 eB eB
 refine kI (H:=H6) (args:=[bY k4]) (p:=[]) (r:=[(jQ b)]) rfl rfl rfl rfl rfl rfl rfl (LX b pp ((k4:Int)) (ng b1 sK bK l5::F) hS9 ey ey) ?_
 rintro _ H10 ⟨r13,hc12,hS11,rfl⟩
 refine nW (H:=H10) (i:=1) (ek:=sK) (ev:=bK) (l:=l5) r13.l rfl rfl hS11 rfl rfl rfl rfl rfl rfl rfl rfl rH (λy14 h15=>?_) (λh16=>?_)
 cases y14
 refine ah ?_
 refine bz ?_
 have hS17:=Sep.pick hS11 [0,1] 2 eB eB
 refine kI (H:=H10) (args:=[bY k4]) (p:=[]) (r:=[(jQ b)]) rfl rfl rfl rfl rfl rfl rfl (LX b pp ((k4:Int)) (ng b1 sK bK l5::F) hS17 ey ey) ?_
 rintro _ H18 ⟨r21,hc20,hS19,rfl⟩
 refine kn rfl (oY (i:=1) (ek:=sK) (ev:=bK) r21.l true hS19 rfl rfl rfl rfl rfl rfl rH) ?_
 rintro _ H22 ⟨rfl,hS23⟩
 refine dY ?_
 refine kD ?_
 refine ab ?_
 have hS24:=Sep.pick hS23 [1,0] 2 eB eB
 exact iW
 refine aW ?_
 have hS25:=Sep.pick hS11 [0] 2 eB eB
 exact iX
 refine ah ?_
 refine bz ?_
 have hS26:=Sep.pick hS11 [0,1] 2 eB eB
 refine kI (H:=H10) (args:=[bY k4]) (p:=[]) (r:=[(jQ b)]) rfl rfl rfl rfl rfl rfl rfl (LX b pp ((k4:Int)) (ng b1 sK bK l5::F) hS26 ey ey) ?_
 rintro _ H27 ⟨r30,hc29,hS28,rfl⟩
 refine kn rfl (oY (i:=1) (ek:=sK) (ev:=bK) r30.l true hS28 rfl rfl rfl rfl rfl rfl rH) ?_
 rintro _ H31 ⟨rfl,hS32⟩
 refine dY ?_
 refine kD ?_
 refine ab ?_
 have hS33:=Sep.pick hS32 [1,0] 2 eB eB
 exact iY
 refine aS ?_
 have hS34:=Sep.pick hS7 [1] 2 eB eB
 exact iZ
def Nn {H:aT} (n:Int) (b:Nat) (pp:iF) (F:List lC) (hS:Sep H (kO b (iF.ag pp)::F)) (q2:n<=(pp.signals.l.length:Int)):∃ v H',ka cfg FT ko true 148 [iv n,.kY 150 [] [(jQ b)]] { H with cH:=[] } v H'/\(∃ r0:Bool,(True)/\Sep H' (kO b (iF.ag pp)::F)/\v=.bool r0):=by
 refine kW Bz ?_
 have hqb:=pp.signals.ok
 simp only [ry] at hqb
 refine bI ?_
 refine eu ?_
 rintro _ H2 ⟨b1,rfl,hS3⟩
 refine ao ?_
 refine aC ?_
 refine jW ((n).toNat) (λk4 e h=>∃ l5:List (List UInt8×Bool),∃ H6:aT,Sep H6 (ng b1 sK bK l5::kO b (iF.ag pp)::F)/\At [1,5,8,9] [.kY 150 [] [(jQ b)],(.hm b1),iv n,bY k4] H6 [] e h) ?_ (k0:=0) eG ⟨([]),H2,hS3,atR⟩
 rintro k4 e h hkk4 ⟨l5,H6,hS7,hA⟩
 refine aA ?_
 refine kx (λh8=>?_) (λh8=>?_)
 refine cT ?_
 refine cW ?_
 have hS9:=Sep.pick hS7 [1,0] 2 eB eB
 refine kI (H:=H6) (args:=[bY k4]) (p:=[]) (r:=[(jQ b)]) rfl rfl rfl rfl rfl rfl rfl (LQ b pp ((k4:Int)) (ng b1 sK bK l5::F) hS9 ey ey) ?_
 rintro _ H10 ⟨r13,hc12,hS11,rfl⟩
 refine nW (H:=H10) (i:=1) (ek:=sK) (ev:=bK) (l:=l5) r13.l rfl rfl hS11 rfl rfl rfl rfl rfl rfl rfl rfl rH (λy14 h15=>?_) (λh16=>?_)
 cases y14
 refine ah ?_
 refine bz ?_
 have hS17:=Sep.pick hS11 [0,1] 2 eB eB
 refine kI (H:=H10) (args:=[bY k4]) (p:=[]) (r:=[(jQ b)]) rfl rfl rfl rfl rfl rfl rfl (LQ b pp ((k4:Int)) (ng b1 sK bK l5::F) hS17 ey ey) ?_
 rintro _ H18 ⟨r21,hc20,hS19,rfl⟩
 refine kn rfl (oY (i:=1) (ek:=sK) (ev:=bK) r21.l true hS19 rfl rfl rfl rfl rfl rfl rH) ?_
 rintro _ H22 ⟨rfl,hS23⟩
 refine dY ?_
 refine kD ?_
 refine ab ?_
 have hS24:=Sep.pick hS23 [1,0] 2 eB eB
 exact iW
 refine aW ?_
 have hS25:=Sep.pick hS11 [0] 2 eB eB
 exact iX
 refine ah ?_
 refine bz ?_
 have hS26:=Sep.pick hS11 [0,1] 2 eB eB
 refine kI (H:=H10) (args:=[bY k4]) (p:=[]) (r:=[(jQ b)]) rfl rfl rfl rfl rfl rfl rfl (LQ b pp ((k4:Int)) (ng b1 sK bK l5::F) hS26 ey ey) ?_
 rintro _ H27 ⟨r30,hc29,hS28,rfl⟩
 refine kn rfl (oY (i:=1) (ek:=sK) (ev:=bK) r30.l true hS28 rfl rfl rfl rfl rfl rfl rH) ?_
 rintro _ H31 ⟨rfl,hS32⟩
 refine dY ?_
 refine kD ?_
 refine ab ?_
 have hS33:=Sep.pick hS32 [1,0] 2 eB eB
 exact iY
 refine aS ?_
 have hS34:=Sep.pick hS7 [1] 2 eB eB
 exact iZ
def Nz {H:aT} (n:Int) (b:Nat) (pp:iF) (F:List lC) (hS:Sep H (kO b (iF.ag pp)::F)) (q2:n<=(pp.lines.l.length:Int)):∃ v H',ka cfg FT ko true 148 [iv n,.kY 151 [] [(jQ b)]] { H with cH:=[] } v H'/\(∃ r0:Bool,(True)/\Sep H' (kO b (iF.ag pp)::F)/\v=.bool r0):=by
 refine kW Bz ?_
 have hqb:=pp.lines.ok
 simp only [ry] at hqb
 refine bI ?_
 refine eu ?_
 rintro _ H2 ⟨b1,rfl,hS3⟩
 refine ao ?_
 refine aC ?_
 refine jW ((n).toNat) (λk4 e h=>∃ l5:List (List UInt8×Bool),∃ H6:aT,Sep H6 (ng b1 sK bK l5::kO b (iF.ag pp)::F)/\At [1,5,8,9] [.kY 151 [] [(jQ b)],(.hm b1),iv n,bY k4] H6 [] e h) ?_ (k0:=0) eG ⟨([]),H2,hS3,atR⟩
 rintro k4 e h hkk4 ⟨l5,H6,hS7,hA⟩
 refine aA ?_
 refine kx (λh8=>?_) (λh8=>?_)
 refine cT ?_
 refine cW ?_
 have hS9:=Sep.pick hS7 [1,0] 2 eB eB
 refine kI (H:=H6) (args:=[bY k4]) (p:=[]) (r:=[(jQ b)]) rfl rfl rfl rfl rfl rfl rfl (MW b pp ((k4:Int)) (ng b1 sK bK l5::F) hS9 ey ey) ?_
 rintro _ H10 ⟨r13,hc12,hS11,rfl⟩
 refine nW (H:=H10) (i:=1) (ek:=sK) (ev:=bK) (l:=l5) r13.l rfl rfl hS11 rfl rfl rfl rfl rfl rfl rfl rfl rH (λy14 h15=>?_) (λh16=>?_)
 cases y14
 refine ah ?_
 refine bz ?_
 have hS17:=Sep.pick hS11 [0,1] 2 eB eB
 refine kI (H:=H10) (args:=[bY k4]) (p:=[]) (r:=[(jQ b)]) rfl rfl rfl rfl rfl rfl rfl (MW b pp ((k4:Int)) (ng b1 sK bK l5::F) hS17 ey ey) ?_
 rintro _ H18 ⟨r21,hc20,hS19,rfl⟩
 refine kn rfl (oY (i:=1) (ek:=sK) (ev:=bK) r21.l true hS19 rfl rfl rfl rfl rfl rfl rH) ?_
 rintro _ H22 ⟨rfl,hS23⟩
 refine dY ?_
 refine kD ?_
 refine ab ?_
 have hS24:=Sep.pick hS23 [1,0] 2 eB eB
 exact iW
 refine aW ?_
 have hS25:=Sep.pick hS11 [0] 2 eB eB
 exact iX
 refine ah ?_
 refine bz ?_
 have hS26:=Sep.pick hS11 [0,1] 2 eB eB
 refine kI (H:=H10) (args:=[bY k4]) (p:=[]) (r:=[(jQ b)]) rfl rfl rfl rfl rfl rfl rfl (MW b pp ((k4:Int)) (ng b1 sK bK l5::F) hS26 ey ey) ?_
 rintro _ H27 ⟨r30,hc29,hS28,rfl⟩
 refine kn rfl (oY (i:=1) (ek:=sK) (ev:=bK) r30.l true hS28 rfl rfl rfl rfl rfl rfl rH) ?_
 rintro _ H31 ⟨rfl,hS32⟩
 refine dY ?_
 refine kD ?_
 refine ab ?_
 have hS33:=Sep.pick hS32 [1,0] 2 eB eB
 exact iY
 refine aS ?_
 have hS34:=Sep.pick hS7 [1] 2 eB eB
 exact iZ
def Y2 (_a0:iF) (_a1:jT) (v:AV):Prop:=∃ r0:Bool,((r0=true->0<=_a1.elem/\_a1.elem<(_a0.elems.l.length:Int)/\0<=_a1.en/\_a1.en<4))/\v=.bool r0
def t214 (a0:iF) (a1:jT) :Ct 214 [.agg (iF.ag a0),.agg (jT.ag a1)] (Y2 a0 a1):=by
 refine j9 Js ?_
 refine co ?_
 refine bS ?_
 refine uO (λh1=>?_) (λh1=>?_)
 refine bQ ?_
 have hL2:=a0.elems.lk
 refine vx a0.elems ?_
 refine qO (λh3=>?_) (λh3=>?_)
 refine cZ ?_
 refine uO (λh4=>?_) (λh4=>?_)
 iterate 8 refine rV ?_
 have hx5:(a1.elem).toNat<a0.elems.l.length:=by omega
 refine kp rfl rfl (λ_=>ld (n:=a1.elem) (r:=a0.elems) (enc:=lV.ag) rfl rfl rfl rfl rfl eG hx5 rfl) ?_
 generalize hqx6:a0.elems.l[(a1.elem).toNat]=x6
 refine aI ?_
 refine rC (t213 x6.kind) ?_
 rintro _ ⟨r8,hc7,rfl⟩
 refine qO (λh9=>?_) (λh9=>?_)
 refine aV ?_
 exact iu
 refine aV ?_
 exact ir
 refine dc ?_
 iterate 5 refine rS ?_
 refine aV ?_
 exact ir
 refine bW ?_
 iterate 11 refine rS ?_
 refine aV ?_
 exact ir
 refine d5 ?_
 refine bW ?_
 iterate 11 refine rS ?_
 refine aV ?_
 exact ir
def Yl (_a0:iF) (v:AV):Prop:=(∃ r0:List (jT×jT),((∀ y∈(r0:List (jT×jT)),0<=y.2.elem/\y.2.elem<(_a0.elems.l.length:Int))/\zI _a0.kg.l)/\v=.kq [.fm (lE pK pK r0) false,.bool true])\/((True)/\v=.kq [.mD,jZ])
def t152 (a0:iF) :Ct 152 [.agg (iF.ag a0)] (Yl a0):=by
 refine j9 GN ?_
 refine co ?_
 refine di ?_
 rintro _ H2 ⟨b1,rfl,hS3⟩
 refine ab ?_
 refine aX ?_
 have hL4:=a0.kg.lk
 refine lu a0.kg ?_
 refine aC ?_
 have hNk5:=a0.kg.lk
 refine jW a0.kg.l.length (λk5 e h=>∃ l6:List (jT×jT),∃ H7:aT,((∀ y∈(l6:List (jT×jT)),0<=y.2.elem/\y.2.elem<(a0.elems.l.length:Int)))/\(∀ x:jT,look x l6=nN (a0.kg.l.take k5) x)/\(∀ (i:Nat) (h:i<a0.kg.l.length),i<k5->nN (a0.kg.l.take i) (a0.kg.l[i]).a=none/\nN (a0.kg.l.take i) (a0.kg.l[i]).b=none/\(a0.kg.l[i]).a≠(a0.kg.l[i]).b)/\Sep H7 (ng b1 pK pK l6::[])/\At [1,4,17,18,19] [.la 1 0,(.hm b1),kC a0.kg,bY a0.kg.l.length,bY k5] H7 [(1,(iF.ag a0))] e h) ?_ (k0:=0) eG ⟨([]),H2,fS,(by (intro x; rfl)),fT,hS3,atR⟩
 rintro k5 e h hkk5 ⟨l6,H7,hV,hD,hJ,hS8,hA⟩
 refine aA ?_
 refine kx (λh9=>?_) (λh9=>?_)
 refine ak ?_
 refine wz [.la 1 0,(.hm b1),kC a0.kg,bY a0.kg.l.length,bY k5] H7 [(1,(iF.ag a0))] ?_
 refine bd ?_
 have hx10:k5<a0.kg.l.length:=by omega
 refine ml k5 a0.kg hx10 ?_
 generalize hqx11:a0.kg.l[k5]=x11
 refine bu ?_
 refine a6 ?_
 refine nW (H:=H7) (i:=0) (ek:=pK) (ev:=pK) (l:=l6) x11.a rfl rfl hS8 rfl rfl rfl rfl rfl rfl rfl rfl nD (λy12 h13=>?_) (λh14=>?_)
 have hvy12:0<=y12.elem/\y12.elem<(a0.elems.l.length:Int):=hV _ (pJ h13)
 refine dl ?_
 refine a6 ?_
 refine nW (H:=H7) (i:=0) (ek:=pK) (ev:=pK) (l:=l6) x11.b rfl rfl hS8 rfl rfl rfl rfl rfl rfl rfl rfl nD (λy15 h16=>?_) (λh17=>?_)
 have hvy15:0<=y15.elem/\y15.elem<(a0.elems.l.length:Int):=hV _ (pJ h16)
 refine dl ?_
 refine aX ?_
 refine oS ?_
 refine cz ?_
 refine aD ?_
 refine cO ?_
 refine xG (.inr (⟨zT,rfl⟩))
 refine dl ?_
 refine aX ?_
 refine oS ?_
 refine cz ?_
 refine aD ?_
 refine cO ?_
 refine xG (.inr (⟨zT,rfl⟩))
 refine dl ?_
 refine a6 ?_
 refine nW (H:=H7) (i:=0) (ek:=pK) (ev:=pK) (l:=l6) x11.b rfl rfl hS8 rfl rfl rfl rfl rfl rfl rfl rfl nD (λy18 h19=>?_) (λh20=>?_)
 have hvy18:0<=y18.elem/\y18.elem<(a0.elems.l.length:Int):=hV _ (pJ h19)
 refine dl ?_
 refine cW ?_
 refine cz ?_
 refine aD ?_
 refine cO ?_
 refine xG (.inr (⟨zT,rfl⟩))
 refine cQ ?_
 iterate 8 refine oV ?_
 refine oZ rfl (λ_=>tY rfl rfl rfl (λ_ _=>rfl)) (λh21=>?_) (λh21=>?_)
 refine aD ?_
 refine cO ?_
 refine xG (.inr (⟨zT,rfl⟩))
 refine aP ?_
 refine oC (t214 a0 x11.a) ?_
 rintro _ ⟨r23,hc22,rfl⟩
 cases r23
 clear hc22
 refine oV ?_
 refine cz ?_
 refine cO ?_
 refine xG (.inr (⟨zT,rfl⟩))
 have hc22t:=hc22 rfl
 refine cr ?_
 refine oC (t214 a0 x11.b) ?_
 rintro _ ⟨r25,hc24,rfl⟩
 cases r25
 clear hc24
 refine oV ?_
 refine cO ?_
 refine xG (.inr (⟨zT,rfl⟩))
 have hc24t:=hc24 rfl
 refine dt ?_
 refine wz [.la 1 0,(.hm b1),.la 6 0,kC a0.kg,bY a0.kg.l.length,bY k5] H7 [(1,(iF.ag a0)),(6,(lQ.ag x11))] ?_
 refine qd ?_
 iterate 10 refine rV ?_
 refine sm rfl rfl (oY (i:=0) (ek:=pK) (ev:=pK) (l:=l6) x11.a x11.b hS8 rfl rfl rfl rfl rfl rfl nD) ?_
 rintro _ H26 ⟨rfl,hS27⟩
 refine ⟨λcall=>(ze (nB rfl rfl rfl rfl rfl fR) (ug (nB rfl rfl rfl rfl rfl fR))),?_⟩
 refine lH rfl rfl (oY (i:=0) (ek:=pK) (ev:=pK) (l:=(put x11.a x11.b l6)) x11.b x11.a hS27 rfl rfl rfl rfl rfl rfl nD) ?_
 rintro _ H28 ⟨rfl,hS29⟩
 refine rN ?_
 refine wz [.la 1 0,(.hm b1),kC a0.kg,bY a0.kg.l.length,bY k5] H28 [(1,(iF.ag a0))] ?_
 refine qg ?_
 refine kD ?_
 refine ab ?_
 exact ⟨by omega,((put x11.b x11.a (put x11.a x11.b l6))),H28,(by exact sw (P:=λy:jT=>0<=y.elem/\y.elem<(a0.elems.l.length:Int)) (sw (P:=λy:jT=>0<=y.elem/\y.elem<(a0.elems.l.length:Int)) hV eG) eG),(by exact zX ez ez hD ez ez ez),(by exact Dq ez ez hD hJ ez ez ez),hS29,atR⟩
 refine aj ?_
 refine wz [.la 1 0,(.hm b1)] H7 [(1,(iF.ag a0))] ?_
 refine aX ?_
 have hL30:=a0.elems.lk
 refine lu a0.elems ?_
 refine aC ?_
 have hNk31:=a0.elems.lk
 refine jW a0.elems.l.length (λk31 e h=>At [1,4,74,75,76] [.la 1 0,(.hm b1),kB a0.elems,bY a0.elems.l.length,bY k31] H7 [(1,(iF.ag a0))] e h) ?_ (k0:=0) eG atR
 rintro k31 e h hkk31 hA
 refine aA ?_
 refine kx (λh32=>?_) (λh32=>?_)
 refine ak ?_
 refine wz [.la 1 0,(.hm b1),kB a0.elems,bY a0.elems.l.length,bY k31] H7 [(1,(iF.ag a0))] ?_
 refine aw ?_
 have hx33:k31<a0.elems.l.length:=by omega
 refine ml k31 a0.elems hx33 ?_
 generalize hqx34:a0.elems.l[k31]=x34
 refine bZ ?_
 refine aX ?_
 refine lR (λh35=>?_) (λh35=>?_)
 refine az ?_
 refine qe ?_
 refine dy ?_
 refine kD ?_
 refine ab ?_
 exact ic
 refine ah ?_
 refine wz [.la 1 0,(.hm b1),bY k31,kB a0.elems,bY a0.elems.l.length,bY k31] H7 [(1,(iF.ag a0))] ?_
 refine a6 ?_
 refine nW (H:=H7) (i:=0) (ek:=pK) (ev:=pK) (l:=l6) ((⟨((k31:Int)),0⟩:jT)) rfl rfl hS8 rfl rfl rfl rfl rfl rfl rfl rfl nD (λy36 h37=>?_) (λh38=>?_)
 have hvy36:0<=y36.elem/\y36.elem<(a0.elems.l.length:Int):=hV _ (pJ h37)
 refine bM ?_
 refine cr ?_
 have hx39:(y36.elem).toNat<a0.elems.l.length:=by omega
 refine jP rfl (λ_=>ld (n:=y36.elem) (r:=a0.elems) (enc:=lV.ag) rfl rfl rfl rfl rfl eG hx39 rfl) ?_
 generalize hqx40:a0.elems.l[(y36.elem).toNat]=x40
 refine am ?_
 refine kR (λh41=>?_) (λh41=>?_)
 refine cO ?_
 refine xG (.inr (⟨zT,rfl⟩))
 refine aH ?_
 refine dy ?_
 refine kD ?_
 refine ab ?_
 exact ic
 refine bM ?_
 refine cY ?_
 refine cO ?_
 refine xG (.inr (⟨zT,rfl⟩))
 refine aj ?_
 refine wz [(.hm b1)] H7 [] ?_
 refine dh ?_
 have hz42:∀ m,freeze false { H7 with cH:=[] } (m+3) (.hm b1)=some (.fm (lE pK pK l6) false):=λm=>qt (i:=0) hS8 rfl _ _ (wT λ_=>rfl)
 refine ⟨.kq [(.hm b1),.bool true],rfl,.kq [.fm (lE pK pK l6) false,.bool true],(show freeze false { H7 with cH:=[] } 8 (.kq [(.hm b1),.bool true])=some (.kq [.fm (lE pK pK l6) false,.bool true]) by simp only [FZ,hz42]),.inl ⟨l6,(by exact ⟨hV,λi h=>hJ i h eG⟩),rfl⟩⟩
def aa4 (_a0:iF) (_a1:List (jT×jT)) (v:AV):Prop:=∃ r0:Bool,((r0=true->(∀ s∈_a0.signals.l,0<=s.at_.elem/\s.at_.elem<(_a0.elems.l.length:Int)/\0<=s.at_.en)/\yS _a0.signals.l))/\v=.bool r0
def t153 (a0:iF) (a1:List (jT×jT)) (q1:(∀ y∈(a1:List (jT×jT)),0<=y.2.elem/\y.2.elem<(a0.elems.l.length:Int))):Ct 153 [.agg (iF.ag a0),.fm (lE pK pK a1) false] (aa4 a0 a1):=by
 refine j9 Gm ?_
 refine bT ?_
 refine di ?_
 rintro _ H2 ⟨b1,rfl,hS3⟩
 refine ab ?_
 refine aX ?_
 have hL4:=a0.signals.lk
 refine dT ?_
 have hNk5:=a0.signals.lk
 refine jW a0.signals.l.length (λk5 e h=>∃ l6:List (jT×Bool),∃ H7:aT,(∀ (i:Nat) (h:i<a0.signals.l.length),i<k5->0<=(a0.signals.l[i]).at_.elem/\(a0.signals.l[i]).at_.elem<(a0.elems.l.length:Int)/\0<=(a0.signals.l[i]).at_.en)/\(∀ x:jT,(∃ y,y∈a0.signals.l.take k5/\y.at_=x)->look x l6=some true)/\(∀ (i:Nat) (h:i<a0.signals.l.length),i<k5->∀ y∈a0.signals.l.take i,y.at_≠(a0.signals.l[i]).at_)/\(∀ y∈(l6:List (jT×Bool)),y.2=true)/\Sep H7 (ng b1 pK bK l6::[])/\At [1,2,5,15,16,17] [.fm (lE pK pK a1) false,.la 2 0,(.hm b1),kF a0.signals,bY a0.signals.l.length,bY k5] H7 [(2,(iF.ag a0))] e h) ?_ (k0:=0) eG ⟨([]),H2,fT,(by (rintro x ⟨y,h,_⟩; simp at h)),fT,fS,hS3,atR⟩
 rintro k5 e h hkk5 ⟨l6,H7,hV,hD,hJ,hT,hS8,hA⟩
 refine aA ?_
 refine kx (λh9=>?_) (λh9=>?_)
 refine ak ?_
 refine wz [.fm (lE pK pK a1) false,.la 2 0,(.hm b1),kF a0.signals,bY a0.signals.l.length,bY k5] H7 [(2,(iF.ag a0))] ?_
 refine bd ?_
 have hx10:k5<a0.signals.l.length:=by omega
 refine ml k5 a0.signals hx10 ?_
 generalize hqx11:a0.signals.l[k5]=x11
 refine bu ?_
 refine cW ?_
 refine oC (t214 a0 x11.at_) ?_
 rintro _ ⟨r13,hc12,rfl⟩
 cases r13
 clear hc12
 refine ce ?_
 exact ja
 have hc12t:=hc12 rfl
 refine aP ?_
 refine nW (H:=H7) (i:=0) (ek:=pK) (ev:=bK) (l:=l6) x11.at_ rfl rfl hS8 rfl rfl rfl rfl rfl rfl rfl rfl nD (λy14 h15=>?_) (λh16=>?_)
 cases y14
 exact absurd (hT _ (pJ h15)) fS
 refine au ?_
 exact ja
 refine bk ?_
 refine qs ?_
 refine dD ?_
 have hx17:(x11.at_.elem).toNat<a0.elems.l.length:=by omega
 refine jP rfl (λ_=>ld (n:=x11.at_.elem) (r:=a0.elems) (enc:=lV.ag) rfl rfl rfl rfl rfl eG hx17 rfl) ?_
 generalize hqx18:a0.elems.l[(x11.at_.elem).toNat]=x18
 refine am ?_
 refine aZ ?_
 refine lR (λh19=>?_) (λh19=>?_)
 refine am ?_
 refine lR (λh20=>?_) (λh20=>?_)
 refine au ?_
 exact ja
 refine bk ?_
 refine a6 ?_
 refine vv (key:=x11.at_) (l:=a1) (ek:=pK) (ev:=pK) rfl rfl rfl rfl rfl rfl rfl rfl rfl nD (λy21 h22=>?_) (λh23=>?_)
 have hvy21:0<=y21.elem/\y21.elem<(a0.elems.l.length:Int):=q1 _ (pJ h22)
 refine cQ ?_
 refine cr ?_
 have hx24:(y21.elem).toNat<a0.elems.l.length:=by omega
 refine jP rfl (λ_=>ld (n:=y21.elem) (r:=a0.elems) (enc:=lV.ag) rfl rfl rfl rfl rfl eG hx24 rfl) ?_
 generalize hqx25:a0.elems.l[(y21.elem).toNat]=x25
 refine am ?_
 refine kR (λh26=>?_) (λh26=>?_)
 refine au ?_
 exact ja
 refine bk ?_
 refine dI ?_
 rintro _ H27 ⟨rfl,hS28⟩
 refine oN ?_
 refine wz [.fm (lE pK pK a1) false,.la 2 0,(.hm b1),kF a0.signals,bY a0.signals.l.length,bY k5] H27 [(2,(iF.ag a0))] ?_
 refine qg ?_
 refine kD ?_
 refine ab ?_
 exact ⟨by omega,((put x11.at_ true l6)),H27,(by exact Cj ez hV eG),(by exact B7 ez ez hD),(by exact Cc ez ez hD hJ ez),g9,hS28,atR⟩
 refine cQ ?_
 refine cY ?_
 refine au ?_
 exact ja
 refine bv ?_
 refine bk ?_
 refine a6 ?_
 refine vv (key:=x11.at_) (l:=a1) (ek:=pK) (ev:=pK) rfl rfl rfl rfl rfl rfl rfl rfl rfl nD (λy29 h30=>?_) (λh31=>?_)
 have hvy29:0<=y29.elem/\y29.elem<(a0.elems.l.length:Int):=q1 _ (pJ h30)
 refine cQ ?_
 refine cr ?_
 have hx32:(y29.elem).toNat<a0.elems.l.length:=by omega
 refine jP rfl (λ_=>ld (n:=y29.elem) (r:=a0.elems) (enc:=lV.ag) rfl rfl rfl rfl rfl eG hx32 rfl) ?_
 generalize hqx33:a0.elems.l[(y29.elem).toNat]=x33
 refine am ?_
 refine kR (λh34=>?_) (λh34=>?_)
 refine au ?_
 exact ja
 refine bk ?_
 refine dI ?_
 rintro _ H35 ⟨rfl,hS36⟩
 refine oN ?_
 refine wz [.fm (lE pK pK a1) false,.la 2 0,(.hm b1),kF a0.signals,bY a0.signals.l.length,bY k5] H35 [(2,(iF.ag a0))] ?_
 refine qg ?_
 refine kD ?_
 refine ab ?_
 exact ⟨by omega,((put x11.at_ true l6)),H35,(by exact Cj ez hV eG),(by exact B7 ez ez hD),(by exact Cc ez ez hD hJ ez),g9,hS36,atR⟩
 refine cQ ?_
 refine cY ?_
 refine au ?_
 exact ja
 refine aj ?_
 refine wz [.la 2 0,(.hm b1)] H7 [(2,(iF.ag a0))] ?_
 refine aX ?_
 have hL37:=a0.elems.lk
 refine lu a0.elems ?_
 refine aC ?_
 have hNk38:=a0.elems.lk
 refine jW a0.elems.l.length (λk38 e h=>At [5,70,71,72] [(.hm b1),kB a0.elems,bY a0.elems.l.length,bY k38] H7 [] e h) ?_ (k0:=0) eG atR
 rintro k38 e h hkk38 hA
 refine aA ?_
 refine kx (λh39=>?_) (λh39=>?_)
 refine ak ?_
 refine wz [(.hm b1),kB a0.elems,bY a0.elems.l.length,bY k38] H7 [] ?_
 refine aw ?_
 have hx40:k38<a0.elems.l.length:=by omega
 refine ml k38 a0.elems hx40 ?_
 generalize hqx41:a0.elems.l[k38]=x41
 refine oV ?_
 refine dM ?_
 refine kR (λh42=>?_) (λh42=>?_)
 refine aK ?_
 refine nW (H:=H7) (i:=0) (ek:=pK) (ev:=bK) (l:=l6) ((⟨((k38:Int)),0⟩:jT)) rfl rfl hS8 rfl rfl rfl rfl rfl rfl rfl rfl nD (λy43 h44=>?_) (λh45=>?_)
 cases y43
 exact absurd (hT _ (pJ h44)) fS
 refine dt ?_
 refine dV ?_
 refine kD ?_
 refine ab ?_
 exact ic
 refine bJ ?_
 exact ja
 refine ck ?_
 refine aH ?_
 refine dV ?_
 refine kD ?_
 refine ab ?_
 exact ic
 refine aj ?_
 refine wz [] H7 [] ?_
 refine aU ?_
 exact xB ⟨true,fi,rfl⟩
def YU (_a0:Row Int) (_a1:List (jT×jT)) (v:AV):Prop:=∃ r0:Bool,(True)/\v=.bool r0
def t215 (a0:Row Int) (a1:List (jT×jT)) :Ct 215 [kN a0,.fm (lE pK pK a1) false] (YU a0 a1):=by
 refine j9 IY ?_
 refine aY ?_
 have hL1:=a0.lk
 refine lu a0 ?_
 refine kx (λh2=>?_) (λh2=>?_)
 refine aW ?_
 exact io
 refine ah ?_
 refine bI ?_
 refine bG ?_
 refine oe (λm7 e h=>∃ n3:Int,∃ n4:Int,m7=(n4+1).toNat/\(-1<=n4)/\(n4<=1)/\At [0,1,5,6] [kN a0,.fm (lE pK pK a1) false,iv n3,iv n4] aT.empty [] e h) ?_ _ _ _ ⟨(-1),1,rfl,eG,eG,atR⟩
 rintro m7 e h ⟨n3,n4,hmm7,hi5,hi6,hA⟩
 refine rP hA ?_
 refine aq ?_
 refine mV (λh8=>?_) (λh8=>?_)
 refine bg ?_
 refine ae ?_
 have hx9:0<a0.l.length:=by omega
 refine ml 0 a0 hx9 ?_
 generalize hqx10:a0.l[0]=x10
 refine aF ?_
 refine vv (key:=(⟨x10,n4⟩:jT)) (l:=a1) (ek:=pK) (ev:=pK) rfl rfl rfl rfl rfl rfl rfl rfl rfl nD (λy11 h12=>?_) (λh13=>?_)
 refine dl ?_
 refine dj ?_
 have hx14:1<a0.l.length:=by omega
 refine ph 1 a0 hx14 ?_
 generalize hqx15:a0.l[1]=x15
 refine rV ?_
 refine xA (λh16=>?_) (λh16=>?_)
 refine c8 ?_
 refine qg ?_
 refine bh ?_
 refine aM ?_
 refine pL ?_
 refine ab ?_
 refine ⟨_,?_,n4,(n4 - 1),rfl,eG,eG,atR⟩
 omega
 refine bA ?_
 refine aM ?_
 refine pL ?_
 refine ab ?_
 refine ⟨_,?_,n3,(n4 - 1),rfl,eG,eG,atR⟩
 omega
 refine dl ?_
 refine aL ?_
 refine dc ?_
 refine bA ?_
 refine aM ?_
 refine pL ?_
 refine ab ?_
 refine ⟨_,?_,n3,(n4 - 1),rfl,eG,eG,atR⟩
 omega
 refine aN ?_
 refine aq ?_
 refine kx (λh17=>?_) (λh17=>?_)
 refine aW ?_
 exact iq
 refine ah ?_
 refine bG ?_
 have hNk18:=a0.lk
 refine jW a0.l.length (λk18 e h=>∃ n19:Int,(1<=k18)/\At [0,1,5,9] [kN a0,.fm (lE pK pK a1) false,iv n19,bY k18] aT.empty [] e h) ?_ (k0:=1) eG ⟨n3,eG,atR⟩
 rintro k18 e h hkk18 ⟨n19,hw20,hA⟩
 refine cC ?_
 have hL21:=a0.lk
 refine lu a0 ?_
 refine kx (λh22=>?_) (λh22=>?_)
 refine bg ?_
 refine a6 ?_
 refine pL ?_
 have hx23:((k18:Int) - 1).toNat<a0.l.length:=by omega
 refine jP rfl (λ_=>ld (n:=(k18:Int) - 1) (r:=a0) (enc:=j6) rfl rfl rfl rfl rfl eG hx23 rfl) ?_
 generalize hqx24:a0.l[((k18:Int) - 1).toNat]=x24
 refine aF ?_
 refine vv (key:=(⟨x24,n19⟩:jT)) (l:=a1) (ek:=pK) (ev:=pK) rfl rfl rfl rfl rfl rfl rfl rfl rfl nD (λy25 h26=>?_) (λh27=>?_)
 refine aP ?_
 refine ap ?_
 refine cF ?_
 refine dp ?_
 have hx28:k18<a0.l.length:=by omega
 refine ph k18 a0 hx28 ?_
 generalize hqx29:a0.l[k18]=x29
 refine rV ?_
 refine u6 (λh30=>?_) (λh30=>?_)
 refine aO ?_
 refine ac ?_
 exact iq
 refine bA ?_
 refine cu ?_
 refine jP rfl (λ_=>me rfl rfl rfl (ru .i64 1 y25.en)) ?_
 refine ab ?_
 refine aM ?_
 refine kD ?_
 refine ab ?_
 exact ⟨by omega,(IntKind.i64.wrap (1 - y25.en)),eG,atR⟩
 refine aP ?_
 refine ap ?_
 refine da ?_
 iterate 7 refine rS ?_
 refine aO ?_
 refine ac ?_
 exact iq
 refine dB ?_
 exact io
def Ws (_a0:iF) (_a1:List (jT×jT)) (v:AV):Prop:=∃ r0:Bool,(True)/\v=.bool r0
def t154 (a0:iF) (a1:List (jT×jT)) :Ct 154 [.agg (iF.ag a0),.fm (lE pK pK a1) false] (Ws a0 a1):=by
 refine j9 HL ?_
 refine bT ?_
 refine di ?_
 rintro _ H2 ⟨b1,rfl,hS3⟩
 refine ab ?_
 refine aX ?_
 have hL4:=a0.lines.lk
 refine lu a0.lines ?_
 refine aC ?_
 have hNk5:=a0.lines.lk
 refine jW a0.lines.l.length (λk5 e h=>∃ l6:List (Int×Bool),∃ H7:aT,Sep H7 (ng b1 iK bK l6::[])/\At [1,2,5,12,13,14] [.fm (lE pK pK a1) false,.la 2 0,(.hm b1),j8 a0.lines,bY a0.lines.l.length,bY k5] H7 [(2,(iF.ag a0))] e h) ?_ (k0:=0) eG ⟨([]),H2,hS3,atR⟩
 rintro k5 e h hkk5 ⟨l6,H7,hS8,hA⟩
 refine aA ?_
 refine kx (λh9=>?_) (λh9=>?_)
 refine ak ?_
 refine wz [.fm (lE pK pK a1) false,.la 2 0,(.hm b1),j8 a0.lines,bY a0.lines.l.length,bY k5] H7 [(2,(iF.ag a0))] ?_
 refine bd ?_
 have hx10:k5<a0.lines.l.length:=by omega
 refine ml k5 a0.lines hx10 ?_
 generalize hqx11:a0.lines.l[k5]=x11
 refine bu ?_
 refine aX ?_
 have hL12:=x11.elems.lk
 refine lu x11.elems ?_
 refine kR (λh13=>?_) (λh13=>?_)
 refine aW ?_
 exact iq
 refine ah ?_
 refine wz [.fm (lE pK pK a1) false,.la 2 0,(.hm b1),.la 7 0,j8 a0.lines,bY a0.lines.l.length,bY k5] H7 [(2,(iF.ag a0)),(7,(lr.ag x11))] ?_
 refine aX ?_
 have hL14:=x11.elems.lk
 refine lu x11.elems ?_
 refine aC ?_
 have hNk15:=x11.elems.lk
 refine jW x11.elems.l.length (λk15 e h=>∃ l16:List (Int×Bool),∃ H17:aT,Sep H17 (ng b1 iK bK l16::[])/\At [1,2,5,7,12,13,14,23,24,25] [.fm (lE pK pK a1) false,.la 2 0,(.hm b1),.la 7 0,j8 a0.lines,bY a0.lines.l.length,bY k5,kN x11.elems,bY x11.elems.l.length,bY k15] H17 [(2,(iF.ag a0)),(7,(lr.ag x11))] e h) ?_ (k0:=0) eG ⟨l6,H7,hS8,atR⟩
 rintro k15 e h hkk15 ⟨l16,H17,hS18,hA⟩
 refine aA ?_
 refine kx (λh19=>?_) (λh19=>?_)
 refine ak ?_
 refine wz [.fm (lE pK pK a1) false,.la 2 0,(.hm b1),.la 7 0,j8 a0.lines,bY a0.lines.l.length,bY k5,kN x11.elems,bY x11.elems.l.length,bY k15] H17 [(2,(iF.ag a0)),(7,(lr.ag x11))] ?_
 refine bd ?_
 have hx20:k15<x11.elems.l.length:=by omega
 refine ml k15 x11.elems hx20 ?_
 generalize hqx21:x11.elems.l[k15]=x21
 refine oV ?_
 refine ao ?_
 refine kx (λh22=>?_) (λh22=>?_)
 refine ck ?_
 refine am ?_
 iterate 7 refine oS ?_
 refine cg ?_
 refine au ?_
 exact iq
 refine aK ?_
 have hL23:=a0.elems.lk
 refine lu a0.elems ?_
 refine mV (λh24=>?_) (λh24=>?_)
 refine am ?_
 iterate 7 refine oS ?_
 refine cg ?_
 refine au ?_
 exact iq
 refine aP ?_
 have hx25:(x21).toNat<a0.elems.l.length:=by omega
 refine jP rfl (λ_=>ld (n:=x21) (r:=a0.elems) (enc:=lV.ag) rfl rfl rfl rfl rfl eG hx25 rfl) ?_
 generalize hqx26:a0.elems.l[(x21).toNat]=x26
 refine am ?_
 refine lR (λh27=>?_) (λh27=>?_)
 refine cg ?_
 refine au ?_
 exact iq
 refine aK ?_
 refine nW (H:=H17) (i:=0) (ek:=iK) (ev:=bK) (l:=l16) x21 rfl rfl hS18 rfl rfl rfl rfl rfl rfl rfl rfl pB (λy28 h29=>?_) (λh30=>?_)
 cases y28
 refine b8 ?_
 rintro _ H31 ⟨rfl,hS32⟩
 refine oN ?_
 refine wz [.fm (lE pK pK a1) false,.la 2 0,(.hm b1),.la 7 0,j8 a0.lines,bY a0.lines.l.length,bY k5,kN x11.elems,bY x11.elems.l.length,bY k15] H31 [(2,(iF.ag a0)),(7,(lr.ag x11))] ?_
 refine qg ?_
 refine kD ?_
 refine ab ?_
 exact ⟨by omega,((put x21 true l16)),H31,hS32,atR⟩
 refine au ?_
 exact iq
 refine b8 ?_
 rintro _ H33 ⟨rfl,hS34⟩
 refine oN ?_
 refine wz [.fm (lE pK pK a1) false,.la 2 0,(.hm b1),.la 7 0,j8 a0.lines,bY a0.lines.l.length,bY k5,kN x11.elems,bY x11.elems.l.length,bY k15] H33 [(2,(iF.ag a0)),(7,(lr.ag x11))] ?_
 refine qg ?_
 refine kD ?_
 refine ab ?_
 exact ⟨by omega,((put x21 true l16)),H33,hS34,atR⟩
 refine aj ?_
 refine wz [.fm (lE pK pK a1) false,.la 2 0,(.hm b1),.la 7 0,j8 a0.lines,bY a0.lines.l.length,bY k5] H17 [(2,(iF.ag a0)),(7,(lr.ag x11))] ?_
 refine a6 ?_
 refine oC (t215 x11.elems a1) ?_
 rintro _ ⟨r36,hc35,rfl⟩
 cases r36
 refine au ?_
 exact iq
 refine aH ?_
 refine wz [.fm (lE pK pK a1) false,.la 2 0,(.hm b1),j8 a0.lines,bY a0.lines.l.length,bY k5] H17 [(2,(iF.ag a0))] ?_
 refine qg ?_
 refine kD ?_
 refine ab ?_
 exact ⟨by omega,l16,H17,hS18,atR⟩
 refine aj ?_
 refine wz [] H7 [] ?_
 refine aU ?_
 exact io
def WW (_a0:Int) (_a1:Int) (v:AV):Prop:=∃ r0:Int,(True)/\v=iv r0
def t216 (a0:Int) (a1:Int) :Ct 216 [iv a0,iv a1] (WW a0 a1):=by
 refine j9 GH ?_
 refine aY ?_
 refine kx (λh1=>?_) (λh1=>?_)
 refine bv ?_
 refine bi ?_
 refine bi ?_
 refine au ?_
 exact iQ
 refine am ?_
 refine ma (λh2=>?_) (λh2=>?_)
 refine bi ?_
 refine bi ?_
 refine au ?_
 exact iQ
 refine aF ?_
 refine kx (λh3=>?_) (λh3=>?_)
 refine bi ?_
 refine au ?_
 exact iQ
 refine aF ?_
 refine ma (λh4=>?_) (λh4=>?_)
 refine au ?_
 exact iQ
 refine aH ?_
 refine dJ ?_
 refine pL ?_
 refine aC ?_
 refine oe (λm9 e h=>∃ n5:Int,∃ n6:Int,m9=(n5+10).toNat/\(-10<=n5)/\(n5<=60)/\At [0,1,5] [iv n5,iv a1,iv n6] aT.empty [] e h) ?_ _ _ _ ⟨(a0 - a1),0,rfl,eG,eG,atR⟩
 rintro m9 e h ⟨n5,n6,hmm9,hi7,hi8,hA⟩
 refine rP hA ?_
 refine aq ?_
 refine ma (λh10=>?_) (λh10=>?_)
 refine bg ?_
 refine cu ?_
 refine jP rfl (λ_=>me rfl rfl rfl (tR .i64 n6 n5)) ?_
 refine ab ?_
 refine cu ?_
 refine pL ?_
 refine ab ?_
 refine ⟨_,?_,(n5 - a1),(IntKind.i64.wrap (n6+(n5))),rfl,eG,eG,atR⟩
 omega
 refine aN ?_
 refine bR ?_
 exact xB ⟨n6,zt⟩
end Go.Sx
