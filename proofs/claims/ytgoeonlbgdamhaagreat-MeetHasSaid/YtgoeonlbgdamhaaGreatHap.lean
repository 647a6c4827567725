/- Proves what some functions of the program answer, by walking through them. -/
import Derived.Test.YtgoeonlbgdamhaaGreatHag
import Derived.Test.YtgoeonlbgdamhaaGreatHaj
import Derived.Test.YtgoeonlbgdamhaaGreatHal
import Derived.Test.YtgoeonlbgdamhaaGreatHam
import Derived.Test.YtgoeonlbgdamhaaGreatHan
import Derived.Test.YtgoeonlbgdamhaaGreatHao
set_option linter.all false
set_option maxRecDepth 100000
set_option maxHeartbeats 0
namespace Go.Sx
open Go Go.Proofs
def P39 (_a0:bS) (_a1:Int) (_a2:iL) (v:AV):Prop:=∃ r0:Bool,((r0=true->sY _a0 _a2))/\v=.bool r0
def t39 (a0:bS) (a1:Int) (a2:iL) :Ct 39 [.agg (bS.af a0),iv a1,.agg (iL.af a2)] (P39 a0 a1 a2):=by
 refine ja LG ?_
 have hqb:=a2.dO.ok
 simp only [rl] at hqb
 refine bR ?_
 refine ah ?_
 refine iV (λh1=>?_) (λh1=>?_)
 refine be ?_
 refine aq ?_
 exact gP
 refine aj ?_
 refine jI (λh2=>?_) (λh2=>?_)
 refine aq ?_
 exact gP
 refine bz ?_
 refine ae ?_
 refine iY (λh3=>?_) (λh3=>?_)
 refine aK ?_
 refine iY (λh4=>?_) (λh4=>?_)
 refine bk ?_
 refine iY (λh5=>?_) (λh5=>?_)
 refine bo ?_
 refine aQ ?_
 refine cT ?_
 refine iY (λh6=>?_) (λh6=>?_)
 refine aN ?_
 refine aH ?_
 refine a7 ?_
 have hL7:=a2.dO.lk
 refine Ca a2.dO ?_
 refine lE (λh8=>?_) (λh8=>?_)
 refine a7 ?_
 have hx9:0<a2.dO.l.length:=by omega
 refine lh 0 a2.dO hx9 ?_
 generalize hqx10:a2.dO.l[0]=x10
 refine ay ?_
 refine lE (λh11=>?_) (λh11=>?_)
 refine cu ?_
 have hx12:0<a2.dO.l.length:=by omega
 refine lh 0 a2.dO hx12 ?_
 rw [hqx10]
 refine ay ?_
 refine rC (t54 a0 x10.elem) ?_
 rintro _ ⟨r15,hc14,rfl⟩
 have hK:=hc14
 refine lE (λh16=>?_) (λh16=>?_)
 refine br ?_
 exact gQ
 refine br ?_
 exact gP
 refine cP ?_
 exact gP
 refine bM ?_
 refine cP ?_
 exact gP
 refine aS ?_
 refine iY (λh17=>?_) (λh17=>?_)
 refine aN ?_
 refine bp ?_
 have hL18:=a2.dO.lk
 refine jb a2.dO ?_
 refine iY (λh19=>?_) (λh19=>?_)
 refine bE ?_
 exact gQ
 refine bE ?_
 exact gP
 refine aS ?_
 refine iY (λh20=>?_) (λh20=>?_)
 refine aN ?_
 refine aE ?_
 refine bz ?_
 refine aW ?_
 refine oC (t82 a0 a2.dO) ?_
 rintro _ ⟨r22,hc21,rfl⟩
 have hCd:=hc21
 cases r22
 clear hc21
 refine aq ?_
 exact gP
 have hc21t:=hc21 rfl
 refine bz ?_
 refine bp ?_
 have hL23:=a2.dO.lk
 refine jb a2.dO ?_
 have hL24:=a2.dO.lk
 refine jT ?_
 have hx25:((a2.dO.l.length:Int) - 1).toNat<a2.dO.l.length:=by omega
 refine iz rfl (λ_=>jh (n:=(a2.dO.l.length:Int) - 1) (r:=a2.dO) (enc:=iu.af) rfl rfl rfl rfl rfl dT hx25 rfl) ?_
 generalize hqx26:a2.dO.l[((a2.dO.l.length:Int) - 1).toNat]=x26
 refine ba ?_
 refine qs ?_
 refine bX ?_
 refine mK (λh27=>?_) (λh27=>?_)
 refine bU ?_
 refine aw ?_
 refine aY ?_
 exact gP
 refine cJ ?_
 refine rC (t83 a0 x26.elem) ?_
 rintro _ ⟨r29,hc28,rfl⟩
 have hLen:=hc28
 refine kN (λh30=>?_) (λh30=>?_)
 refine bV ?_
 refine aY ?_
 exact gP
 refine a7 ?_
 refine mK (λh31=>?_) (λh31=>?_)
 refine aw ?_
 refine aY ?_
 exact gP
 refine a7 ?_
 refine zG (λh32=>?_) (λh32=>?_)
 refine au ?_
 refine aY ?_
 exact gP
 refine a7 ?_
 refine mK (λh33=>?_) (λh33=>?_)
 refine ay ?_
 refine aY ?_
 exact gP
 refine cu ?_
 refine kN (λh34=>?_) (λh34=>?_)
 refine c8 ?_
 exact gP
 refine bD ?_
 refine wy [iv a1,.la 3 0,.la 5 0,.la 8 0] [(3,(bS.af a0)),(5,(iL.af a2)),(8,(iu.af x26))] ?_
 refine ae ?_
 refine oC (t84 a0 x26) ?_
 rintro _ ⟨r36,r37,hc35,rfl⟩
 have hN:=hc35
 cases r37
 refine ct ?_
 refine jI (λh38=>?_) (λh38=>?_)
 refine aK ?_
 refine jI (λh39=>?_) (λh39=>?_)
 refine cQ ?_
 exact gP
 refine aK ?_
 refine bw ?_
 refine bc ?_
 exact gP
 refine cb ?_
 refine ak ?_
 have hL40:=a2.dO.lk
 refine jb a2.dO ?_
 have hL41:=a2.dO.lk
 refine jT ?_
 refine aL ?_
 refine kF (λm46 e h=>∃ n42:Int,∃ n43:Int,m46=(n43+1).toNat/\(-1<=n43)/\(n43<(a2.dO.l.length:Int))/\At [3,5,11,12] [.la 3 0,.la 5 0,iv n42,iv n43] aT.empty [(3,(bS.af a0)),(5,(iL.af a2))] e h) ?_ _ _ _ ⟨(IntKind.i64.wrap (a1 - a2.nt)),((a2.dO.l.length:Int) - 1),rfl,dT,dT,atR⟩
 rintro m46 e h ⟨n42,n43,hmm46,hi44,hi45,hA⟩
 refine bL ?_
 refine kL (λh47=>?_) (λh47=>?_)
 refine a8 ?_
 refine wy [.la 3 0,.la 5 0,iv n42,iv n43] [(3,(bS.af a0)),(5,(iL.af a2))] ?_
 refine bH ?_
 have hx48:(n43).toNat<a2.dO.l.length:=by omega
 refine iN rfl rfl (λ_=>jh (n:=n43) (r:=a2.dO) (enc:=iu.af) rfl rfl rfl rfl rfl dT hx48 rfl) ?_
 generalize hqx49:a2.dO.l[(n43).toNat]=x49
 refine ay ?_
 refine rC (t83 a0 x49.elem) ?_
 rintro _ ⟨r51,hc50,rfl⟩
 have hLen:=hc50
 refine cz ?_
 have hL52:=a2.dO.lk
 refine jb a2.dO ?_
 have hL53:=a2.dO.lk
 refine jT ?_
 refine iY (λh54=>?_) (λh54=>?_)
 refine ce ?_
 refine iz rfl (λ_=>iZ rfl rfl rfl (jF .i64 r51 a2.left)) ?_
 refine ab ?_
 refine wy [.la 3 0,.la 5 0,iv n42,iv n43,iv (IntKind.i64.wrap (r51 - a2.left))] [(3,(bS.af a0)),(5,(iL.af a2))] ?_
 refine ah ?_
 refine iY (λh55=>?_) (λh55=>?_)
 refine aZ ?_
 refine kN (λh56=>?_) (λh56=>?_)
 refine bf ?_
 refine mz (λh57=>?_) (λh57=>?_)
 refine aR ?_
 exact gQ
 refine a7 ?_
 have hx58:0<a2.dO.l.length:=by omega
 refine lh 0 a2.dO hx58 ?_
 generalize hqx59:a2.dO.l[0]=x59
 refine ay ?_
 refine rC (t54 a0 x59.elem) ?_
 rintro _ ⟨r61,hc60,rfl⟩
 have hK:=hc60
 refine lE (λh62=>?_) (λh62=>?_)
 refine ag ?_
 exact gQ
 refine ag ?_
 exact gP
 refine aB ?_
 exact gP
 refine aC ?_
 refine wy [.la 3 0,.la 5 0,iv n42,iv n43,iv (IntKind.i64.wrap (r51 - a2.left))] [(3,(bS.af a0)),(5,(iL.af a2))] ?_
 refine bh ?_
 refine iz rfl (λ_=>iZ rfl rfl rfl (jF .i64 n42 (IntKind.i64.wrap (r51 - a2.left)))) ?_
 refine ab ?_
 refine wy [.la 3 0,.la 5 0,iv (IntKind.i64.wrap (n42 - (IntKind.i64.wrap (r51 - a2.left)))),iv n43] [(3,(bS.af a0)),(5,(iL.af a2))] ?_
 refine aM ?_
 refine jT ?_
 refine ab ?_
 refine ⟨_,?_,(IntKind.i64.wrap (n42 - (IntKind.i64.wrap (r51 - a2.left)))),(n43 - 1),rfl,dT,dT,atR⟩
 omega
 refine dB ?_
 refine ah ?_
 refine iY (λh63=>?_) (λh63=>?_)
 refine aZ ?_
 refine kN (λh64=>?_) (λh64=>?_)
 refine bf ?_
 refine mz (λh65=>?_) (λh65=>?_)
 refine aR ?_
 exact gQ
 refine a7 ?_
 have hx66:0<a2.dO.l.length:=by omega
 refine lh 0 a2.dO hx66 ?_
 generalize hqx67:a2.dO.l[0]=x67
 refine ay ?_
 refine rC (t54 a0 x67.elem) ?_
 rintro _ ⟨r69,hc68,rfl⟩
 have hK:=hc68
 refine lE (λh70=>?_) (λh70=>?_)
 refine ag ?_
 exact gQ
 refine ag ?_
 exact gP
 refine aB ?_
 exact gP
 refine dB ?_
 refine bh ?_
 refine iz rfl (λ_=>iZ rfl rfl rfl (jF .i64 n42 r51)) ?_
 refine ab ?_
 refine wy [.la 3 0,.la 5 0,iv (IntKind.i64.wrap (n42 - r51)),iv n43] [(3,(bS.af a0)),(5,(iL.af a2))] ?_
 refine aM ?_
 refine jT ?_
 refine ab ?_
 refine ⟨_,?_,(IntKind.i64.wrap (n42 - r51)),(n43 - 1),rfl,dT,dT,atR⟩
 omega
 refine bC ?_
 exact gP
 refine ct ?_
 refine jI (λh71=>?_) (λh71=>?_)
 refine aK ?_
 refine jI (λh72=>?_) (λh72=>?_)
 refine cQ ?_
 exact gP
 iterate 8 refine oV ?_
 refine oC (t54 a0 r36.elem) ?_
 rintro _ ⟨r74,hc73,rfl⟩
 have hK:=hc73
 refine kE (λh75=>?_) (λh75=>?_)
 refine bc ?_
 exact gP
 refine oV ?_
 refine ak ?_
 have hL76:=a2.dO.lk
 refine jb a2.dO ?_
 have hL77:=a2.dO.lk
 refine jT ?_
 refine aL ?_
 refine kF (λm82 e h=>∃ n78:Int,∃ n79:Int,m82=(n79+1).toNat/\(-1<=n79)/\(n79<(a2.dO.l.length:Int))/\At [3,5,11,12] [.la 3 0,.la 5 0,iv n78,iv n79] aT.empty [(3,(bS.af a0)),(5,(iL.af a2))] e h) ?_ _ _ _ ⟨(IntKind.i64.wrap (a1 - a2.nt)),((a2.dO.l.length:Int) - 1),rfl,dT,dT,atR⟩
 rintro m82 e h ⟨n78,n79,hmm82,hi80,hi81,hA⟩
 refine bL ?_
 refine kL (λh83=>?_) (λh83=>?_)
 refine a8 ?_
 refine wy [.la 3 0,.la 5 0,iv n78,iv n79] [(3,(bS.af a0)),(5,(iL.af a2))] ?_
 refine bH ?_
 have hx84:(n79).toNat<a2.dO.l.length:=by omega
 refine iN rfl rfl (λ_=>jh (n:=n79) (r:=a2.dO) (enc:=iu.af) rfl rfl rfl rfl rfl dT hx84 rfl) ?_
 generalize hqx85:a2.dO.l[(n79).toNat]=x85
 refine ay ?_
 refine rC (t83 a0 x85.elem) ?_
 rintro _ ⟨r87,hc86,rfl⟩
 have hLen:=hc86
 refine cz ?_
 have hL88:=a2.dO.lk
 refine jb a2.dO ?_
 have hL89:=a2.dO.lk
 refine jT ?_
 refine iY (λh90=>?_) (λh90=>?_)
 refine ce ?_
 refine iz rfl (λ_=>iZ rfl rfl rfl (jF .i64 r87 a2.left)) ?_
 refine ab ?_
 refine wy [.la 3 0,.la 5 0,iv n78,iv n79,iv (IntKind.i64.wrap (r87 - a2.left))] [(3,(bS.af a0)),(5,(iL.af a2))] ?_
 refine ah ?_
 refine iY (λh91=>?_) (λh91=>?_)
 refine aZ ?_
 refine kN (λh92=>?_) (λh92=>?_)
 refine bf ?_
 refine mz (λh93=>?_) (λh93=>?_)
 refine aR ?_
 exact gQ
 refine a7 ?_
 have hx94:0<a2.dO.l.length:=by omega
 refine lh 0 a2.dO hx94 ?_
 generalize hqx95:a2.dO.l[0]=x95
 refine ay ?_
 refine rC (t54 a0 x95.elem) ?_
 rintro _ ⟨r97,hc96,rfl⟩
 have hK:=hc96
 refine lE (λh98=>?_) (λh98=>?_)
 refine ag ?_
 exact gQ
 refine ag ?_
 exact gP
 refine aB ?_
 exact gP
 refine aC ?_
 refine wy [.la 3 0,.la 5 0,iv n78,iv n79,iv (IntKind.i64.wrap (r87 - a2.left))] [(3,(bS.af a0)),(5,(iL.af a2))] ?_
 refine bh ?_
 refine iz rfl (λ_=>iZ rfl rfl rfl (jF .i64 n78 (IntKind.i64.wrap (r87 - a2.left)))) ?_
 refine ab ?_
 refine wy [.la 3 0,.la 5 0,iv (IntKind.i64.wrap (n78 - (IntKind.i64.wrap (r87 - a2.left)))),iv n79] [(3,(bS.af a0)),(5,(iL.af a2))] ?_
 refine aM ?_
 refine jT ?_
 refine ab ?_
 refine ⟨_,?_,(IntKind.i64.wrap (n78 - (IntKind.i64.wrap (r87 - a2.left)))),(n79 - 1),rfl,dT,dT,atR⟩
 omega
 refine dC ?_
 refine ah ?_
 refine iY (λh99=>?_) (λh99=>?_)
 refine aZ ?_
 refine kN (λh100=>?_) (λh100=>?_)
 refine bf ?_
 refine mz (λh101=>?_) (λh101=>?_)
 refine aR ?_
 exact gQ
 refine a7 ?_
 have hx102:0<a2.dO.l.length:=by omega
 refine lh 0 a2.dO hx102 ?_
 generalize hqx103:a2.dO.l[0]=x103
 refine ay ?_
 refine rC (t54 a0 x103.elem) ?_
 rintro _ ⟨r105,hc104,rfl⟩
 have hK:=hc104
 refine lE (λh106=>?_) (λh106=>?_)
 refine ag ?_
 exact gQ
 refine ag ?_
 exact gP
 refine aB ?_
 exact gP
 refine dC ?_
 refine bh ?_
 refine iz rfl (λ_=>iZ rfl rfl rfl (jF .i64 n78 r87)) ?_
 refine ab ?_
 refine wy [.la 3 0,.la 5 0,iv (IntKind.i64.wrap (n78 - r87)),iv n79] [(3,(bS.af a0)),(5,(iL.af a2))] ?_
 refine aM ?_
 refine jT ?_
 refine ab ?_
 refine ⟨_,?_,(IntKind.i64.wrap (n78 - r87)),(n79 - 1),rfl,dT,dT,atR⟩
 omega
 refine bC ?_
 exact gP
 refine cb ?_
 refine ak ?_
 have hL107:=a2.dO.lk
 refine jb a2.dO ?_
 have hL108:=a2.dO.lk
 refine jT ?_
 refine aL ?_
 refine kF (λm113 e h=>∃ n109:Int,∃ n110:Int,m113=(n110+1).toNat/\(-1<=n110)/\(n110<(a2.dO.l.length:Int))/\At [3,5,11,12] [.la 3 0,.la 5 0,iv n109,iv n110] aT.empty [(3,(bS.af a0)),(5,(iL.af a2))] e h) ?_ _ _ _ ⟨(IntKind.i64.wrap (a1 - a2.nt)),((a2.dO.l.length:Int) - 1),rfl,dT,dT,atR⟩
 rintro m113 e h ⟨n109,n110,hmm113,hi111,hi112,hA⟩
 refine bL ?_
 refine kL (λh114=>?_) (λh114=>?_)
 refine a8 ?_
 refine wy [.la 3 0,.la 5 0,iv n109,iv n110] [(3,(bS.af a0)),(5,(iL.af a2))] ?_
 refine bH ?_
 have hx115:(n110).toNat<a2.dO.l.length:=by omega
 refine iN rfl rfl (λ_=>jh (n:=n110) (r:=a2.dO) (enc:=iu.af) rfl rfl rfl rfl rfl dT hx115 rfl) ?_
 generalize hqx116:a2.dO.l[(n110).toNat]=x116
 refine ay ?_
 refine rC (t83 a0 x116.elem) ?_
 rintro _ ⟨r118,hc117,rfl⟩
 have hLen:=hc117
 refine cz ?_
 have hL119:=a2.dO.lk
 refine jb a2.dO ?_
 have hL120:=a2.dO.lk
 refine jT ?_
 refine iY (λh121=>?_) (λh121=>?_)
 refine ce ?_
 refine iz rfl (λ_=>iZ rfl rfl rfl (jF .i64 r118 a2.left)) ?_
 refine ab ?_
 refine wy [.la 3 0,.la 5 0,iv n109,iv n110,iv (IntKind.i64.wrap (r118 - a2.left))] [(3,(bS.af a0)),(5,(iL.af a2))] ?_
 refine ah ?_
 refine iY (λh122=>?_) (λh122=>?_)
 refine aZ ?_
 refine kN (λh123=>?_) (λh123=>?_)
 refine bf ?_
 refine mz (λh124=>?_) (λh124=>?_)
 refine aR ?_
 exact gQ
 refine a7 ?_
 have hx125:0<a2.dO.l.length:=by omega
 refine lh 0 a2.dO hx125 ?_
 generalize hqx126:a2.dO.l[0]=x126
 refine ay ?_
 refine rC (t54 a0 x126.elem) ?_
 rintro _ ⟨r128,hc127,rfl⟩
 have hK:=hc127
 refine lE (λh129=>?_) (λh129=>?_)
 refine ag ?_
 exact gQ
 refine ag ?_
 exact gP
 refine aB ?_
 exact gP
 refine aC ?_
 refine wy [.la 3 0,.la 5 0,iv n109,iv n110,iv (IntKind.i64.wrap (r118 - a2.left))] [(3,(bS.af a0)),(5,(iL.af a2))] ?_
 refine bh ?_
 refine iz rfl (λ_=>iZ rfl rfl rfl (jF .i64 n109 (IntKind.i64.wrap (r118 - a2.left)))) ?_
 refine ab ?_
 refine wy [.la 3 0,.la 5 0,iv (IntKind.i64.wrap (n109 - (IntKind.i64.wrap (r118 - a2.left)))),iv n110] [(3,(bS.af a0)),(5,(iL.af a2))] ?_
 refine aM ?_
 refine jT ?_
 refine ab ?_
 refine ⟨_,?_,(IntKind.i64.wrap (n109 - (IntKind.i64.wrap (r118 - a2.left)))),(n110 - 1),rfl,dT,dT,atR⟩
 omega
 refine di ?_
 refine ah ?_
 refine iY (λh130=>?_) (λh130=>?_)
 refine aZ ?_
 refine kN (λh131=>?_) (λh131=>?_)
 refine bf ?_
 refine mz (λh132=>?_) (λh132=>?_)
 refine aR ?_
 exact gQ
 refine a7 ?_
 have hx133:0<a2.dO.l.length:=by omega
 refine lh 0 a2.dO hx133 ?_
 generalize hqx134:a2.dO.l[0]=x134
 refine ay ?_
 refine rC (t54 a0 x134.elem) ?_
 rintro _ ⟨r136,hc135,rfl⟩
 have hK:=hc135
 refine lE (λh137=>?_) (λh137=>?_)
 refine ag ?_
 exact gQ
 refine ag ?_
 exact gP
 refine aB ?_
 exact gP
 refine di ?_
 refine bh ?_
 refine iz rfl (λ_=>iZ rfl rfl rfl (jF .i64 n109 r118)) ?_
 refine ab ?_
 refine wy [.la 3 0,.la 5 0,iv (IntKind.i64.wrap (n109 - r118)),iv n110] [(3,(bS.af a0)),(5,(iL.af a2))] ?_
 refine aM ?_
 refine jT ?_
 refine ab ?_
 refine ⟨_,?_,(IntKind.i64.wrap (n109 - r118)),(n110 - 1),rfl,dT,dT,atR⟩
 omega
 refine bC ?_
 exact gP
 refine aS ?_
 refine iY (λh138=>?_) (λh138=>?_)
 refine bJ ?_
 rintro _ ⟨r140,hc139,rfl⟩
 have hCd:=hc139
 cases r140
 clear hc139
 refine aq ?_
 exact gP
 have hc139t:=hc139 rfl
 refine bz ?_
 refine bp ?_
 have hL141:=a2.dO.lk
 refine jb a2.dO ?_
 have hL142:=a2.dO.lk
 refine jT ?_
 have hx143:((a2.dO.l.length:Int) - 1).toNat<a2.dO.l.length:=by omega
 refine iz rfl (λ_=>jh (n:=(a2.dO.l.length:Int) - 1) (r:=a2.dO) (enc:=iu.af) rfl rfl rfl rfl rfl dT hx143 rfl) ?_
 generalize hqx144:a2.dO.l[((a2.dO.l.length:Int) - 1).toNat]=x144
 refine ba ?_
 refine qs ?_
 refine bX ?_
 refine mK (λh145=>?_) (λh145=>?_)
 refine bU ?_
 refine aw ?_
 refine aY ?_
 exact gP
 refine cJ ?_
 refine rC (t83 a0 x144.elem) ?_
 rintro _ ⟨r147,hc146,rfl⟩
 have hLen:=hc146
 refine kN (λh148=>?_) (λh148=>?_)
 refine bV ?_
 refine aY ?_
 exact gP
 refine a7 ?_
 refine mK (λh149=>?_) (λh149=>?_)
 refine aw ?_
 refine aY ?_
 exact gP
 refine a7 ?_
 refine zG (λh150=>?_) (λh150=>?_)
 refine au ?_
 refine aY ?_
 exact gP
 refine a7 ?_
 refine mK (λh151=>?_) (λh151=>?_)
 refine ay ?_
 refine aY ?_
 exact gP
 refine cu ?_
 refine kN (λh152=>?_) (λh152=>?_)
 refine c8 ?_
 exact gP
 refine bD ?_
 refine wy [iv a1,.la 3 0,.la 5 0,.la 8 0] [(3,(bS.af a0)),(5,(iL.af a2)),(8,(iu.af x144))] ?_
 refine ae ?_
 refine oC (t84 a0 x144) ?_
 rintro _ ⟨r154,r155,hc153,rfl⟩
 have hN:=hc153
 cases r155
 refine ct ?_
 refine jI (λh156=>?_) (λh156=>?_)
 refine aK ?_
 refine jI (λh157=>?_) (λh157=>?_)
 refine cQ ?_
 exact gP
 refine aK ?_
 refine bw ?_
 refine bc ?_
 exact gP
 refine cb ?_
 refine ak ?_
 have hL158:=a2.dO.lk
 refine jb a2.dO ?_
 have hL159:=a2.dO.lk
 refine jT ?_
 refine aL ?_
 refine kF (λm164 e h=>∃ n160:Int,∃ n161:Int,m164=(n161+1).toNat/\(-1<=n161)/\(n161<(a2.dO.l.length:Int))/\At [3,5,11,12] [.la 3 0,.la 5 0,iv n160,iv n161] aT.empty [(3,(bS.af a0)),(5,(iL.af a2))] e h) ?_ _ _ _ ⟨(IntKind.i64.wrap (a1 - a2.nt)),((a2.dO.l.length:Int) - 1),rfl,dT,dT,atR⟩
 rintro m164 e h ⟨n160,n161,hmm164,hi162,hi163,hA⟩
 refine bL ?_
 refine kL (λh165=>?_) (λh165=>?_)
 refine a8 ?_
 refine wy [.la 3 0,.la 5 0,iv n160,iv n161] [(3,(bS.af a0)),(5,(iL.af a2))] ?_
 refine bH ?_
 have hx166:(n161).toNat<a2.dO.l.length:=by omega
 refine iN rfl rfl (λ_=>jh (n:=n161) (r:=a2.dO) (enc:=iu.af) rfl rfl rfl rfl rfl dT hx166 rfl) ?_
 generalize hqx167:a2.dO.l[(n161).toNat]=x167
 refine ay ?_
 refine rC (t83 a0 x167.elem) ?_
 rintro _ ⟨r169,hc168,rfl⟩
 have hLen:=hc168
 refine cz ?_
 have hL170:=a2.dO.lk
 refine jb a2.dO ?_
 have hL171:=a2.dO.lk
 refine jT ?_
 refine iY (λh172=>?_) (λh172=>?_)
 refine ce ?_
 refine iz rfl (λ_=>iZ rfl rfl rfl (jF .i64 r169 a2.left)) ?_
 refine ab ?_
 refine wy [.la 3 0,.la 5 0,iv n160,iv n161,iv (IntKind.i64.wrap (r169 - a2.left))] [(3,(bS.af a0)),(5,(iL.af a2))] ?_
 refine ah ?_
 refine iY (λh173=>?_) (λh173=>?_)
 refine aZ ?_
 refine kN (λh174=>?_) (λh174=>?_)
 refine bf ?_
 refine mz (λh175=>?_) (λh175=>?_)
 refine aR ?_
 exact gQ
 refine a7 ?_
 have hx176:0<a2.dO.l.length:=by omega
 refine lh 0 a2.dO hx176 ?_
 generalize hqx177:a2.dO.l[0]=x177
 refine ay ?_
 refine rC (t54 a0 x177.elem) ?_
 rintro _ ⟨r179,hc178,rfl⟩
 have hK:=hc178
 refine lE (λh180=>?_) (λh180=>?_)
 refine ag ?_
 exact gQ
 refine ag ?_
 exact gP
 refine aB ?_
 exact gP
 refine aC ?_
 refine wy [.la 3 0,.la 5 0,iv n160,iv n161,iv (IntKind.i64.wrap (r169 - a2.left))] [(3,(bS.af a0)),(5,(iL.af a2))] ?_
 refine bh ?_
 refine iz rfl (λ_=>iZ rfl rfl rfl (jF .i64 n160 (IntKind.i64.wrap (r169 - a2.left)))) ?_
 refine ab ?_
 refine wy [.la 3 0,.la 5 0,iv (IntKind.i64.wrap (n160 - (IntKind.i64.wrap (r169 - a2.left)))),iv n161] [(3,(bS.af a0)),(5,(iL.af a2))] ?_
 refine aM ?_
 refine jT ?_
 refine ab ?_
 refine ⟨_,?_,(IntKind.i64.wrap (n160 - (IntKind.i64.wrap (r169 - a2.left)))),(n161 - 1),rfl,dT,dT,atR⟩
 omega
 refine dj ?_
 refine ah ?_
 refine iY (λh181=>?_) (λh181=>?_)
 refine aZ ?_
 refine kN (λh182=>?_) (λh182=>?_)
 refine bf ?_
 refine mz (λh183=>?_) (λh183=>?_)
 refine aR ?_
 exact gQ
 refine a7 ?_
 have hx184:0<a2.dO.l.length:=by omega
 refine lh 0 a2.dO hx184 ?_
 generalize hqx185:a2.dO.l[0]=x185
 refine ay ?_
 refine rC (t54 a0 x185.elem) ?_
 rintro _ ⟨r187,hc186,rfl⟩
 have hK:=hc186
 refine lE (λh188=>?_) (λh188=>?_)
 refine ag ?_
 exact gQ
 refine ag ?_
 exact gP
 refine aB ?_
 exact gP
 refine dj ?_
 refine bh ?_
 refine iz rfl (λ_=>iZ rfl rfl rfl (jF .i64 n160 r169)) ?_
 refine ab ?_
 refine wy [.la 3 0,.la 5 0,iv (IntKind.i64.wrap (n160 - r169)),iv n161] [(3,(bS.af a0)),(5,(iL.af a2))] ?_
 refine aM ?_
 refine jT ?_
 refine ab ?_
 refine ⟨_,?_,(IntKind.i64.wrap (n160 - r169)),(n161 - 1),rfl,dT,dT,atR⟩
 omega
 refine bC ?_
 exact gP
 refine ct ?_
 refine jI (λh189=>?_) (λh189=>?_)
 refine aK ?_
 refine jI (λh190=>?_) (λh190=>?_)
 refine cQ ?_
 exact gP
 iterate 8 refine oV ?_
 refine oC (t54 a0 r154.elem) ?_
 rintro _ ⟨r192,hc191,rfl⟩
 have hK:=hc191
 refine kE (λh193=>?_) (λh193=>?_)
 refine bc ?_
 exact gP
 refine oV ?_
 refine ak ?_
 have hL194:=a2.dO.lk
 refine jb a2.dO ?_
 have hL195:=a2.dO.lk
 refine jT ?_
 refine aL ?_
 refine kF (λm200 e h=>∃ n196:Int,∃ n197:Int,m200=(n197+1).toNat/\(-1<=n197)/\(n197<(a2.dO.l.length:Int))/\At [3,5,11,12] [.la 3 0,.la 5 0,iv n196,iv n197] aT.empty [(3,(bS.af a0)),(5,(iL.af a2))] e h) ?_ _ _ _ ⟨(IntKind.i64.wrap (a1 - a2.nt)),((a2.dO.l.length:Int) - 1),rfl,dT,dT,atR⟩
 rintro m200 e h ⟨n196,n197,hmm200,hi198,hi199,hA⟩
 refine bL ?_
 refine kL (λh201=>?_) (λh201=>?_)
 refine a8 ?_
 refine wy [.la 3 0,.la 5 0,iv n196,iv n197] [(3,(bS.af a0)),(5,(iL.af a2))] ?_
 refine bH ?_
 have hx202:(n197).toNat<a2.dO.l.length:=by omega
 refine iN rfl rfl (λ_=>jh (n:=n197) (r:=a2.dO) (enc:=iu.af) rfl rfl rfl rfl rfl dT hx202 rfl) ?_
 generalize hqx203:a2.dO.l[(n197).toNat]=x203
 refine ay ?_
 refine rC (t83 a0 x203.elem) ?_
 rintro _ ⟨r205,hc204,rfl⟩
 have hLen:=hc204
 refine cz ?_
 have hL206:=a2.dO.lk
 refine jb a2.dO ?_
 have hL207:=a2.dO.lk
 refine jT ?_
 refine iY (λh208=>?_) (λh208=>?_)
 refine ce ?_
 refine iz rfl (λ_=>iZ rfl rfl rfl (jF .i64 r205 a2.left)) ?_
 refine ab ?_
 refine wy [.la 3 0,.la 5 0,iv n196,iv n197,iv (IntKind.i64.wrap (r205 - a2.left))] [(3,(bS.af a0)),(5,(iL.af a2))] ?_
 refine ah ?_
 refine iY (λh209=>?_) (λh209=>?_)
 refine aZ ?_
 refine kN (λh210=>?_) (λh210=>?_)
 refine bf ?_
 refine mz (λh211=>?_) (λh211=>?_)
 refine aR ?_
 exact gQ
 refine a7 ?_
 have hx212:0<a2.dO.l.length:=by omega
 refine lh 0 a2.dO hx212 ?_
 generalize hqx213:a2.dO.l[0]=x213
 refine ay ?_
 refine rC (t54 a0 x213.elem) ?_
 rintro _ ⟨r215,hc214,rfl⟩
 have hK:=hc214
 refine lE (λh216=>?_) (λh216=>?_)
 refine ag ?_
 exact gQ
 refine ag ?_
 exact gP
 refine aB ?_
 exact gP
 refine aC ?_
 refine wy [.la 3 0,.la 5 0,iv n196,iv n197,iv (IntKind.i64.wrap (r205 - a2.left))] [(3,(bS.af a0)),(5,(iL.af a2))] ?_
 refine bh ?_
 refine iz rfl (λ_=>iZ rfl rfl rfl (jF .i64 n196 (IntKind.i64.wrap (r205 - a2.left)))) ?_
 refine ab ?_
 refine wy [.la 3 0,.la 5 0,iv (IntKind.i64.wrap (n196 - (IntKind.i64.wrap (r205 - a2.left)))),iv n197] [(3,(bS.af a0)),(5,(iL.af a2))] ?_
 refine aM ?_
 refine jT ?_
 refine ab ?_
 refine ⟨_,?_,(IntKind.i64.wrap (n196 - (IntKind.i64.wrap (r205 - a2.left)))),(n197 - 1),rfl,dT,dT,atR⟩
 omega
 refine dl ?_
 refine ah ?_
 refine iY (λh217=>?_) (λh217=>?_)
 refine aZ ?_
 refine kN (λh218=>?_) (λh218=>?_)
 refine bf ?_
 refine mz (λh219=>?_) (λh219=>?_)
 refine aR ?_
 exact gQ
 refine a7 ?_
 have hx220:0<a2.dO.l.length:=by omega
 refine lh 0 a2.dO hx220 ?_
 generalize hqx221:a2.dO.l[0]=x221
 refine ay ?_
 refine rC (t54 a0 x221.elem) ?_
 rintro _ ⟨r223,hc222,rfl⟩
 have hK:=hc222
 refine lE (λh224=>?_) (λh224=>?_)
 refine ag ?_
 exact gQ
 refine ag ?_
 exact gP
 refine aB ?_
 exact gP
 refine dl ?_
 refine bh ?_
 refine iz rfl (λ_=>iZ rfl rfl rfl (jF .i64 n196 r205)) ?_
 refine ab ?_
 refine wy [.la 3 0,.la 5 0,iv (IntKind.i64.wrap (n196 - r205)),iv n197] [(3,(bS.af a0)),(5,(iL.af a2))] ?_
 refine aM ?_
 refine jT ?_
 refine ab ?_
 refine ⟨_,?_,(IntKind.i64.wrap (n196 - r205)),(n197 - 1),rfl,dT,dT,atR⟩
 omega
 refine bC ?_
 exact gP
 refine cb ?_
 refine ak ?_
 have hL225:=a2.dO.lk
 refine jb a2.dO ?_
 have hL226:=a2.dO.lk
 refine jT ?_
 refine aL ?_
 refine kF (λm231 e h=>∃ n227:Int,∃ n228:Int,m231=(n228+1).toNat/\(-1<=n228)/\(n228<(a2.dO.l.length:Int))/\At [3,5,11,12] [.la 3 0,.la 5 0,iv n227,iv n228] aT.empty [(3,(bS.af a0)),(5,(iL.af a2))] e h) ?_ _ _ _ ⟨(IntKind.i64.wrap (a1 - a2.nt)),((a2.dO.l.length:Int) - 1),rfl,dT,dT,atR⟩
 rintro m231 e h ⟨n227,n228,hmm231,hi229,hi230,hA⟩
 refine bL ?_
 refine kL (λh232=>?_) (λh232=>?_)
 refine a8 ?_
 refine wy [.la 3 0,.la 5 0,iv n227,iv n228] [(3,(bS.af a0)),(5,(iL.af a2))] ?_
 refine bH ?_
 have hx233:(n228).toNat<a2.dO.l.length:=by omega
 refine iN rfl rfl (λ_=>jh (n:=n228) (r:=a2.dO) (enc:=iu.af) rfl rfl rfl rfl rfl dT hx233 rfl) ?_
 generalize hqx234:a2.dO.l[(n228).toNat]=x234
 refine ay ?_
 refine rC (t83 a0 x234.elem) ?_
 rintro _ ⟨r236,hc235,rfl⟩
 have hLen:=hc235
 refine cz ?_
 have hL237:=a2.dO.lk
 refine jb a2.dO ?_
 have hL238:=a2.dO.lk
 refine jT ?_
 refine iY (λh239=>?_) (λh239=>?_)
 refine ce ?_
 refine iz rfl (λ_=>iZ rfl rfl rfl (jF .i64 r236 a2.left)) ?_
 refine ab ?_
 refine wy [.la 3 0,.la 5 0,iv n227,iv n228,iv (IntKind.i64.wrap (r236 - a2.left))] [(3,(bS.af a0)),(5,(iL.af a2))] ?_
 refine ah ?_
 refine iY (λh240=>?_) (λh240=>?_)
 refine aZ ?_
 refine kN (λh241=>?_) (λh241=>?_)
 refine bf ?_
 refine mz (λh242=>?_) (λh242=>?_)
 refine aR ?_
 exact gQ
 refine a7 ?_
 have hx243:0<a2.dO.l.length:=by omega
 refine lh 0 a2.dO hx243 ?_
 generalize hqx244:a2.dO.l[0]=x244
 refine ay ?_
 refine rC (t54 a0 x244.elem) ?_
 rintro _ ⟨r246,hc245,rfl⟩
 have hK:=hc245
 refine lE (λh247=>?_) (λh247=>?_)
 refine ag ?_
 exact gQ
 refine ag ?_
 exact gP
 refine aB ?_
 exact gP
 refine aC ?_
 refine wy [.la 3 0,.la 5 0,iv n227,iv n228,iv (IntKind.i64.wrap (r236 - a2.left))] [(3,(bS.af a0)),(5,(iL.af a2))] ?_
 refine bh ?_
 refine iz rfl (λ_=>iZ rfl rfl rfl (jF .i64 n227 (IntKind.i64.wrap (r236 - a2.left)))) ?_
 refine ab ?_
 refine wy [.la 3 0,.la 5 0,iv (IntKind.i64.wrap (n227 - (IntKind.i64.wrap (r236 - a2.left)))),iv n228] [(3,(bS.af a0)),(5,(iL.af a2))] ?_
 refine aM ?_
 refine jT ?_
 refine ab ?_
 refine ⟨_,?_,(IntKind.i64.wrap (n227 - (IntKind.i64.wrap (r236 - a2.left)))),(n228 - 1),rfl,dT,dT,atR⟩
 omega
 refine dm ?_
 refine ah ?_
 refine iY (λh248=>?_) (λh248=>?_)
 refine aZ ?_
 refine kN (λh249=>?_) (λh249=>?_)
 refine bf ?_
 refine mz (λh250=>?_) (λh250=>?_)
 refine aR ?_
 exact gQ
 refine a7 ?_
 have hx251:0<a2.dO.l.length:=by omega
 refine lh 0 a2.dO hx251 ?_
 generalize hqx252:a2.dO.l[0]=x252
 refine ay ?_
 refine rC (t54 a0 x252.elem) ?_
 rintro _ ⟨r254,hc253,rfl⟩
 have hK:=hc253
 refine lE (λh255=>?_) (λh255=>?_)
 refine ag ?_
 exact gQ
 refine ag ?_
 exact gP
 refine aB ?_
 exact gP
 refine dm ?_
 refine bh ?_
 refine iz rfl (λ_=>iZ rfl rfl rfl (jF .i64 n227 r236)) ?_
 refine ab ?_
 refine wy [.la 3 0,.la 5 0,iv (IntKind.i64.wrap (n227 - r236)),iv n228] [(3,(bS.af a0)),(5,(iL.af a2))] ?_
 refine aM ?_
 refine jT ?_
 refine ab ?_
 refine ⟨_,?_,(IntKind.i64.wrap (n227 - r236)),(n228 - 1),rfl,dT,dT,atR⟩
 omega
 refine bC ?_
 exact gP
 refine aS ?_
 refine ai ?_
 exact gP
 refine bo ?_
 refine aQ ?_
 refine cT ?_
 refine iY (λh256=>?_) (λh256=>?_)
 refine aN ?_
 refine bX ?_
 refine c6 ?_
 refine cP ?_
 exact gP
 refine aS ?_
 refine iY (λh257=>?_) (λh257=>?_)
 refine cw ?_
 refine aV ?_
 refine bE ?_
 exact gP
 refine aS ?_
 refine iY (λh258=>?_) (λh258=>?_)
 refine cw ?_
 refine bc ?_
 exact gP
 refine aS ?_
 refine iY (λh259=>?_) (λh259=>?_)
 refine bJ ?_
 rintro _ ⟨r261,hc260,rfl⟩
 have hCd:=hc260
 cases r261
 clear hc260
 refine aq ?_
 exact gP
 have hc260t:=hc260 rfl
 refine bz ?_
 refine bp ?_
 have hL262:=a2.dO.lk
 refine jb a2.dO ?_
 have hL263:=a2.dO.lk
 refine jT ?_
 have hx264:((a2.dO.l.length:Int) - 1).toNat<a2.dO.l.length:=by omega
 refine iz rfl (λ_=>jh (n:=(a2.dO.l.length:Int) - 1) (r:=a2.dO) (enc:=iu.af) rfl rfl rfl rfl rfl dT hx264 rfl) ?_
 generalize hqx265:a2.dO.l[((a2.dO.l.length:Int) - 1).toNat]=x265
 refine ba ?_
 refine qs ?_
 refine bX ?_
 refine mK (λh266=>?_) (λh266=>?_)
 refine bU ?_
 refine aw ?_
 refine aY ?_
 exact gP
 refine cJ ?_
 refine rC (t83 a0 x265.elem) ?_
 rintro _ ⟨r268,hc267,rfl⟩
 have hLen:=hc267
 refine kN (λh269=>?_) (λh269=>?_)
 refine bV ?_
 refine aY ?_
 exact gP
 refine a7 ?_
 refine mK (λh270=>?_) (λh270=>?_)
 refine aw ?_
 refine aY ?_
 exact gP
 refine a7 ?_
 refine zG (λh271=>?_) (λh271=>?_)
 refine au ?_
 refine aY ?_
 exact gP
 refine a7 ?_
 refine mK (λh272=>?_) (λh272=>?_)
 refine ay ?_
 refine aY ?_
 exact gP
 refine cu ?_
 refine kN (λh273=>?_) (λh273=>?_)
 refine c8 ?_
 exact gP
 refine bD ?_
 refine wy [iv a1,.la 3 0,.la 5 0,.la 8 0] [(3,(bS.af a0)),(5,(iL.af a2)),(8,(iu.af x265))] ?_
 refine ae ?_
 refine oC (t84 a0 x265) ?_
 rintro _ ⟨r275,r276,hc274,rfl⟩
 have hN:=hc274
 cases r276
 refine ct ?_
 refine jI (λh277=>?_) (λh277=>?_)
 refine aK ?_
 refine jI (λh278=>?_) (λh278=>?_)
 refine cQ ?_
 exact gP
 refine aK ?_
 refine bw ?_
 refine bc ?_
 exact gP
 refine cb ?_
 refine ak ?_
 have hL279:=a2.dO.lk
 refine jb a2.dO ?_
 have hL280:=a2.dO.lk
 refine jT ?_
 refine aL ?_
 refine kF (λm285 e h=>∃ n281:Int,∃ n282:Int,m285=(n282+1).toNat/\(-1<=n282)/\(n282<(a2.dO.l.length:Int))/\At [3,5,11,12] [.la 3 0,.la 5 0,iv n281,iv n282] aT.empty [(3,(bS.af a0)),(5,(iL.af a2))] e h) ?_ _ _ _ ⟨(IntKind.i64.wrap (a1 - a2.nt)),((a2.dO.l.length:Int) - 1),rfl,dT,dT,atR⟩
 rintro m285 e h ⟨n281,n282,hmm285,hi283,hi284,hA⟩
 refine bL ?_
 refine kL (λh286=>?_) (λh286=>?_)
 refine a8 ?_
 refine wy [.la 3 0,.la 5 0,iv n281,iv n282] [(3,(bS.af a0)),(5,(iL.af a2))] ?_
 refine bH ?_
 have hx287:(n282).toNat<a2.dO.l.length:=by omega
 refine iN rfl rfl (λ_=>jh (n:=n282) (r:=a2.dO) (enc:=iu.af) rfl rfl rfl rfl rfl dT hx287 rfl) ?_
 generalize hqx288:a2.dO.l[(n282).toNat]=x288
 refine ay ?_
 refine rC (t83 a0 x288.elem) ?_
 rintro _ ⟨r290,hc289,rfl⟩
 have hLen:=hc289
 refine cz ?_
 have hL291:=a2.dO.lk
 refine jb a2.dO ?_
 have hL292:=a2.dO.lk
 refine jT ?_
 refine iY (λh293=>?_) (λh293=>?_)
 refine ce ?_
 refine iz rfl (λ_=>iZ rfl rfl rfl (jF .i64 r290 a2.left)) ?_
 refine ab ?_
 refine wy [.la 3 0,.la 5 0,iv n281,iv n282,iv (IntKind.i64.wrap (r290 - a2.left))] [(3,(bS.af a0)),(5,(iL.af a2))] ?_
 refine ah ?_
 refine iY (λh294=>?_) (λh294=>?_)
 refine aZ ?_
 refine kN (λh295=>?_) (λh295=>?_)
 refine bf ?_
 refine mz (λh296=>?_) (λh296=>?_)
 refine aR ?_
 exact gQ
 refine a7 ?_
 have hx297:0<a2.dO.l.length:=by omega
 refine lh 0 a2.dO hx297 ?_
 generalize hqx298:a2.dO.l[0]=x298
 refine ay ?_
 refine rC (t54 a0 x298.elem) ?_
 rintro _ ⟨r300,hc299,rfl⟩
 have hK:=hc299
 refine lE (λh301=>?_) (λh301=>?_)
 refine ag ?_
 exact gQ
 refine ag ?_
 exact gP
 refine aB ?_
 exact gP
 refine aC ?_
 refine wy [.la 3 0,.la 5 0,iv n281,iv n282,iv (IntKind.i64.wrap (r290 - a2.left))] [(3,(bS.af a0)),(5,(iL.af a2))] ?_
 refine bh ?_
 refine iz rfl (λ_=>iZ rfl rfl rfl (jF .i64 n281 (IntKind.i64.wrap (r290 - a2.left)))) ?_
 refine ab ?_
 refine wy [.la 3 0,.la 5 0,iv (IntKind.i64.wrap (n281 - (IntKind.i64.wrap (r290 - a2.left)))),iv n282] [(3,(bS.af a0)),(5,(iL.af a2))] ?_
 refine aM ?_
 refine jT ?_
 refine ab ?_
 refine ⟨_,?_,(IntKind.i64.wrap (n281 - (IntKind.i64.wrap (r290 - a2.left)))),(n282 - 1),rfl,dT,dT,atR⟩
 omega
 refine dn ?_
 refine ah ?_
 refine iY (λh302=>?_) (λh302=>?_)
 refine aZ ?_
 refine kN (λh303=>?_) (λh303=>?_)
 refine bf ?_
 refine mz (λh304=>?_) (λh304=>?_)
 refine aR ?_
 exact gQ
 refine a7 ?_
 have hx305:0<a2.dO.l.length:=by omega
 refine lh 0 a2.dO hx305 ?_
 generalize hqx306:a2.dO.l[0]=x306
 refine ay ?_
 refine rC (t54 a0 x306.elem) ?_
 rintro _ ⟨r308,hc307,rfl⟩
 have hK:=hc307
 refine lE (λh309=>?_) (λh309=>?_)
 refine ag ?_
 exact gQ
 refine ag ?_
 exact gP
 refine aB ?_
 exact gP
 refine dn ?_
 refine bh ?_
 refine iz rfl (λ_=>iZ rfl rfl rfl (jF .i64 n281 r290)) ?_
 refine ab ?_
 refine wy [.la 3 0,.la 5 0,iv (IntKind.i64.wrap (n281 - r290)),iv n282] [(3,(bS.af a0)),(5,(iL.af a2))] ?_
 refine aM ?_
 refine jT ?_
 refine ab ?_
 refine ⟨_,?_,(IntKind.i64.wrap (n281 - r290)),(n282 - 1),rfl,dT,dT,atR⟩
 omega
 refine bC ?_
 exact gP
 refine ct ?_
 refine jI (λh310=>?_) (λh310=>?_)
 refine aK ?_
 refine jI (λh311=>?_) (λh311=>?_)
 refine cQ ?_
 exact gP
 iterate 8 refine oV ?_
 refine oC (t54 a0 r275.elem) ?_
 rintro _ ⟨r313,hc312,rfl⟩
 have hK:=hc312
 refine kE (λh314=>?_) (λh314=>?_)
 refine bc ?_
 exact gP
 refine oV ?_
 refine ak ?_
 have hL315:=a2.dO.lk
 refine jb a2.dO ?_
 have hL316:=a2.dO.lk
 refine jT ?_
 refine aL ?_
 refine kF (λm321 e h=>∃ n317:Int,∃ n318:Int,m321=(n318+1).toNat/\(-1<=n318)/\(n318<(a2.dO.l.length:Int))/\At [3,5,11,12] [.la 3 0,.la 5 0,iv n317,iv n318] aT.empty [(3,(bS.af a0)),(5,(iL.af a2))] e h) ?_ _ _ _ ⟨(IntKind.i64.wrap (a1 - a2.nt)),((a2.dO.l.length:Int) - 1),rfl,dT,dT,atR⟩
 rintro m321 e h ⟨n317,n318,hmm321,hi319,hi320,hA⟩
 refine bL ?_
 refine kL (λh322=>?_) (λh322=>?_)
 refine a8 ?_
 refine wy [.la 3 0,.la 5 0,iv n317,iv n318] [(3,(bS.af a0)),(5,(iL.af a2))] ?_
 refine bH ?_
 have hx323:(n318).toNat<a2.dO.l.length:=by omega
 refine iN rfl rfl (λ_=>jh (n:=n318) (r:=a2.dO) (enc:=iu.af) rfl rfl rfl rfl rfl dT hx323 rfl) ?_
 generalize hqx324:a2.dO.l[(n318).toNat]=x324
 refine ay ?_
 refine rC (t83 a0 x324.elem) ?_
 rintro _ ⟨r326,hc325,rfl⟩
 have hLen:=hc325
 refine cz ?_
 have hL327:=a2.dO.lk
 refine jb a2.dO ?_
 have hL328:=a2.dO.lk
 refine jT ?_
 refine iY (λh329=>?_) (λh329=>?_)
 refine ce ?_
 refine iz rfl (λ_=>iZ rfl rfl rfl (jF .i64 r326 a2.left)) ?_
 refine ab ?_
 refine wy [.la 3 0,.la 5 0,iv n317,iv n318,iv (IntKind.i64.wrap (r326 - a2.left))] [(3,(bS.af a0)),(5,(iL.af a2))] ?_
 refine ah ?_
 refine iY (λh330=>?_) (λh330=>?_)
 refine aZ ?_
 refine kN (λh331=>?_) (λh331=>?_)
 refine bf ?_
 refine mz (λh332=>?_) (λh332=>?_)
 refine aR ?_
 exact gQ
 refine a7 ?_
 have hx333:0<a2.dO.l.length:=by omega
 refine lh 0 a2.dO hx333 ?_
 generalize hqx334:a2.dO.l[0]=x334
 refine ay ?_
 refine rC (t54 a0 x334.elem) ?_
 rintro _ ⟨r336,hc335,rfl⟩
 have hK:=hc335
 refine lE (λh337=>?_) (λh337=>?_)
 refine ag ?_
 exact gQ
 refine ag ?_
 exact gP
 refine aB ?_
 exact gP
 refine aC ?_
 refine wy [.la 3 0,.la 5 0,iv n317,iv n318,iv (IntKind.i64.wrap (r326 - a2.left))] [(3,(bS.af a0)),(5,(iL.af a2))] ?_
 refine bh ?_
 refine iz rfl (λ_=>iZ rfl rfl rfl (jF .i64 n317 (IntKind.i64.wrap (r326 - a2.left)))) ?_
 refine ab ?_
 refine wy [.la 3 0,.la 5 0,iv (IntKind.i64.wrap (n317 - (IntKind.i64.wrap (r326 - a2.left)))),iv n318] [(3,(bS.af a0)),(5,(iL.af a2))] ?_
 refine aM ?_
 refine jT ?_
 refine ab ?_
 refine ⟨_,?_,(IntKind.i64.wrap (n317 - (IntKind.i64.wrap (r326 - a2.left)))),(n318 - 1),rfl,dT,dT,atR⟩
 omega
 refine dp ?_
 refine ah ?_
 refine iY (λh338=>?_) (λh338=>?_)
 refine aZ ?_
 refine kN (λh339=>?_) (λh339=>?_)
 refine bf ?_
 refine mz (λh340=>?_) (λh340=>?_)
 refine aR ?_
 exact gQ
 refine a7 ?_
 have hx341:0<a2.dO.l.length:=by omega
 refine lh 0 a2.dO hx341 ?_
 generalize hqx342:a2.dO.l[0]=x342
 refine ay ?_
 refine rC (t54 a0 x342.elem) ?_
 rintro _ ⟨r344,hc343,rfl⟩
 have hK:=hc343
 refine lE (λh345=>?_) (λh345=>?_)
 refine ag ?_
 exact gQ
 refine ag ?_
 exact gP
 refine aB ?_
 exact gP
 refine dp ?_
 refine bh ?_
 refine iz rfl (λ_=>iZ rfl rfl rfl (jF .i64 n317 r326)) ?_
 refine ab ?_
 refine wy [.la 3 0,.la 5 0,iv (IntKind.i64.wrap (n317 - r326)),iv n318] [(3,(bS.af a0)),(5,(iL.af a2))] ?_
 refine aM ?_
 refine jT ?_
 refine ab ?_
 refine ⟨_,?_,(IntKind.i64.wrap (n317 - r326)),(n318 - 1),rfl,dT,dT,atR⟩
 omega
 refine bC ?_
 exact gP
 refine cb ?_
 refine ak ?_
 have hL346:=a2.dO.lk
 refine jb a2.dO ?_
 have hL347:=a2.dO.lk
 refine jT ?_
 refine aL ?_
 refine kF (λm352 e h=>∃ n348:Int,∃ n349:Int,m352=(n349+1).toNat/\(-1<=n349)/\(n349<(a2.dO.l.length:Int))/\At [3,5,11,12] [.la 3 0,.la 5 0,iv n348,iv n349] aT.empty [(3,(bS.af a0)),(5,(iL.af a2))] e h) ?_ _ _ _ ⟨(IntKind.i64.wrap (a1 - a2.nt)),((a2.dO.l.length:Int) - 1),rfl,dT,dT,atR⟩
 rintro m352 e h ⟨n348,n349,hmm352,hi350,hi351,hA⟩
 refine bL ?_
 refine kL (λh353=>?_) (λh353=>?_)
 refine a8 ?_
 refine wy [.la 3 0,.la 5 0,iv n348,iv n349] [(3,(bS.af a0)),(5,(iL.af a2))] ?_
 refine bH ?_
 have hx354:(n349).toNat<a2.dO.l.length:=by omega
 refine iN rfl rfl (λ_=>jh (n:=n349) (r:=a2.dO) (enc:=iu.af) rfl rfl rfl rfl rfl dT hx354 rfl) ?_
 generalize hqx355:a2.dO.l[(n349).toNat]=x355
 refine ay ?_
 refine rC (t83 a0 x355.elem) ?_
 rintro _ ⟨r357,hc356,rfl⟩
 have hLen:=hc356
 refine cz ?_
 have hL358:=a2.dO.lk
 refine jb a2.dO ?_
 have hL359:=a2.dO.lk
 refine jT ?_
 refine iY (λh360=>?_) (λh360=>?_)
 refine ce ?_
 refine iz rfl (λ_=>iZ rfl rfl rfl (jF .i64 r357 a2.left)) ?_
 refine ab ?_
 refine wy [.la 3 0,.la 5 0,iv n348,iv n349,iv (IntKind.i64.wrap (r357 - a2.left))] [(3,(bS.af a0)),(5,(iL.af a2))] ?_
 refine ah ?_
 refine iY (λh361=>?_) (λh361=>?_)
 refine aZ ?_
 refine kN (λh362=>?_) (λh362=>?_)
 refine bf ?_
 refine mz (λh363=>?_) (λh363=>?_)
 refine aR ?_
 exact gQ
 refine a7 ?_
 have hx364:0<a2.dO.l.length:=by omega
 refine lh 0 a2.dO hx364 ?_
 generalize hqx365:a2.dO.l[0]=x365
 refine ay ?_
 refine rC (t54 a0 x365.elem) ?_
 rintro _ ⟨r367,hc366,rfl⟩
 have hK:=hc366
 refine lE (λh368=>?_) (λh368=>?_)
 refine ag ?_
 exact gQ
 refine ag ?_
 exact gP
 refine aB ?_
 exact gP
 refine aC ?_
 refine wy [.la 3 0,.la 5 0,iv n348,iv n349,iv (IntKind.i64.wrap (r357 - a2.left))] [(3,(bS.af a0)),(5,(iL.af a2))] ?_
 refine bh ?_
 refine iz rfl (λ_=>iZ rfl rfl rfl (jF .i64 n348 (IntKind.i64.wrap (r357 - a2.left)))) ?_
 refine ab ?_
 refine wy [.la 3 0,.la 5 0,iv (IntKind.i64.wrap (n348 - (IntKind.i64.wrap (r357 - a2.left)))),iv n349] [(3,(bS.af a0)),(5,(iL.af a2))] ?_
 refine aM ?_
 refine jT ?_
 refine ab ?_
 refine ⟨_,?_,(IntKind.i64.wrap (n348 - (IntKind.i64.wrap (r357 - a2.left)))),(n349 - 1),rfl,dT,dT,atR⟩
 omega
 refine dq ?_
 refine ah ?_
 refine iY (λh369=>?_) (λh369=>?_)
 refine aZ ?_
 refine kN (λh370=>?_) (λh370=>?_)
 refine bf ?_
 refine mz (λh371=>?_) (λh371=>?_)
 refine aR ?_
 exact gQ
 refine a7 ?_
 have hx372:0<a2.dO.l.length:=by omega
 refine lh 0 a2.dO hx372 ?_
 generalize hqx373:a2.dO.l[0]=x373
 refine ay ?_
 refine rC (t54 a0 x373.elem) ?_
 rintro _ ⟨r375,hc374,rfl⟩
 have hK:=hc374
 refine lE (λh376=>?_) (λh376=>?_)
 refine ag ?_
 exact gQ
 refine ag ?_
 exact gP
 refine aB ?_
 exact gP
 refine dq ?_
 refine bh ?_
 refine iz rfl (λ_=>iZ rfl rfl rfl (jF .i64 n348 r357)) ?_
 refine ab ?_
 refine wy [.la 3 0,.la 5 0,iv (IntKind.i64.wrap (n348 - r357)),iv n349] [(3,(bS.af a0)),(5,(iL.af a2))] ?_
 refine aM ?_
 refine jT ?_
 refine ab ?_
 refine ⟨_,?_,(IntKind.i64.wrap (n348 - r357)),(n349 - 1),rfl,dT,dT,atR⟩
 omega
 refine bC ?_
 exact gP
 refine aS ?_
 refine ai ?_
 exact gP
 refine cH ?_
 refine bo ?_
 refine aQ ?_
 refine cT ?_
 refine iY (λh377=>?_) (λh377=>?_)
 refine aN ?_
 refine bX ?_
 refine c6 ?_
 refine cP ?_
 exact gP
 refine aS ?_
 refine iY (λh378=>?_) (λh378=>?_)
 refine cw ?_
 refine aV ?_
 refine bE ?_
 exact gP
 refine aS ?_
 refine iY (λh379=>?_) (λh379=>?_)
 refine cw ?_
 refine bc ?_
 exact gP
 refine aS ?_
 refine iY (λh380=>?_) (λh380=>?_)
 refine bJ ?_
 rintro _ ⟨r382,hc381,rfl⟩
 have hCd:=hc381
 cases r382
 clear hc381
 refine aq ?_
 exact gP
 have hc381t:=hc381 rfl
 refine bz ?_
 refine bp ?_
 have hL383:=a2.dO.lk
 refine jb a2.dO ?_
 have hL384:=a2.dO.lk
 refine jT ?_
 have hx385:((a2.dO.l.length:Int) - 1).toNat<a2.dO.l.length:=by omega
 refine iz rfl (λ_=>jh (n:=(a2.dO.l.length:Int) - 1) (r:=a2.dO) (enc:=iu.af) rfl rfl rfl rfl rfl dT hx385 rfl) ?_
 generalize hqx386:a2.dO.l[((a2.dO.l.length:Int) - 1).toNat]=x386
 refine ba ?_
 refine qs ?_
 refine bX ?_
 refine mK (λh387=>?_) (λh387=>?_)
 refine bU ?_
 refine aw ?_
 refine aY ?_
 exact gP
 refine cJ ?_
 refine rC (t83 a0 x386.elem) ?_
 rintro _ ⟨r389,hc388,rfl⟩
 have hLen:=hc388
 refine kN (λh390=>?_) (λh390=>?_)
 refine bV ?_
 refine aY ?_
 exact gP
 refine a7 ?_
 refine mK (λh391=>?_) (λh391=>?_)
 refine aw ?_
 refine aY ?_
 exact gP
 refine a7 ?_
 refine zG (λh392=>?_) (λh392=>?_)
 refine au ?_
 refine aY ?_
 exact gP
 refine a7 ?_
 refine mK (λh393=>?_) (λh393=>?_)
 refine ay ?_
 refine aY ?_
 exact gP
 refine cu ?_
 refine kN (λh394=>?_) (λh394=>?_)
 refine c8 ?_
 exact gP
 refine bD ?_
 refine wy [iv a1,.la 3 0,.la 5 0,.la 8 0] [(3,(bS.af a0)),(5,(iL.af a2)),(8,(iu.af x386))] ?_
 refine ae ?_
 refine oC (t84 a0 x386) ?_
 rintro _ ⟨r396,r397,hc395,rfl⟩
 have hN:=hc395
 cases r397
 refine ct ?_
 refine jI (λh398=>?_) (λh398=>?_)
 refine aK ?_
 refine jI (λh399=>?_) (λh399=>?_)
 refine cQ ?_
 exact gP
 refine aK ?_
 refine bw ?_
 refine bc ?_
 exact gP
 refine cb ?_
 refine ak ?_
 have hL400:=a2.dO.lk
 refine jb a2.dO ?_
 have hL401:=a2.dO.lk
 refine jT ?_
 refine aL ?_
 refine kF (λm406 e h=>∃ n402:Int,∃ n403:Int,m406=(n403+1).toNat/\(-1<=n403)/\(n403<(a2.dO.l.length:Int))/\At [3,5,11,12] [.la 3 0,.la 5 0,iv n402,iv n403] aT.empty [(3,(bS.af a0)),(5,(iL.af a2))] e h) ?_ _ _ _ ⟨(IntKind.i64.wrap (a1 - a2.nt)),((a2.dO.l.length:Int) - 1),rfl,dT,dT,atR⟩
 rintro m406 e h ⟨n402,n403,hmm406,hi404,hi405,hA⟩
 refine bL ?_
 refine kL (λh407=>?_) (λh407=>?_)
 refine a8 ?_
 refine wy [.la 3 0,.la 5 0,iv n402,iv n403] [(3,(bS.af a0)),(5,(iL.af a2))] ?_
 refine bH ?_
 have hx408:(n403).toNat<a2.dO.l.length:=by omega
 refine iN rfl rfl (λ_=>jh (n:=n403) (r:=a2.dO) (enc:=iu.af) rfl rfl rfl rfl rfl dT hx408 rfl) ?_
 generalize hqx409:a2.dO.l[(n403).toNat]=x409
 refine ay ?_
 refine rC (t83 a0 x409.elem) ?_
 rintro _ ⟨r411,hc410,rfl⟩
 have hLen:=hc410
 refine cz ?_
 have hL412:=a2.dO.lk
 refine jb a2.dO ?_
 have hL413:=a2.dO.lk
 refine jT ?_
 refine iY (λh414=>?_) (λh414=>?_)
 refine ce ?_
 refine iz rfl (λ_=>iZ rfl rfl rfl (jF .i64 r411 a2.left)) ?_
 refine ab ?_
 refine wy [.la 3 0,.la 5 0,iv n402,iv n403,iv (IntKind.i64.wrap (r411 - a2.left))] [(3,(bS.af a0)),(5,(iL.af a2))] ?_
 refine ah ?_
 refine iY (λh415=>?_) (λh415=>?_)
 refine aZ ?_
 refine kN (λh416=>?_) (λh416=>?_)
 refine bf ?_
 refine mz (λh417=>?_) (λh417=>?_)
 refine aR ?_
 exact gQ
 refine a7 ?_
 have hx418:0<a2.dO.l.length:=by omega
 refine lh 0 a2.dO hx418 ?_
 generalize hqx419:a2.dO.l[0]=x419
 refine ay ?_
 refine rC (t54 a0 x419.elem) ?_
 rintro _ ⟨r421,hc420,rfl⟩
 have hK:=hc420
 refine lE (λh422=>?_) (λh422=>?_)
 refine ag ?_
 exact gQ
 refine ag ?_
 exact gP
 refine aB ?_
 exact gP
 refine aC ?_
 refine wy [.la 3 0,.la 5 0,iv n402,iv n403,iv (IntKind.i64.wrap (r411 - a2.left))] [(3,(bS.af a0)),(5,(iL.af a2))] ?_
 refine bh ?_
 refine iz rfl (λ_=>iZ rfl rfl rfl (jF .i64 n402 (IntKind.i64.wrap (r411 - a2.left)))) ?_
 refine ab ?_
 refine wy [.la 3 0,.la 5 0,iv (IntKind.i64.wrap (n402 - (IntKind.i64.wrap (r411 - a2.left)))),iv n403] [(3,(bS.af a0)),(5,(iL.af a2))] ?_
 refine aM ?_
 refine jT ?_
 refine ab ?_
 refine ⟨_,?_,(IntKind.i64.wrap (n402 - (IntKind.i64.wrap (r411 - a2.left)))),(n403 - 1),rfl,dT,dT,atR⟩
 omega
 refine dr ?_
 refine ah ?_
 refine iY (λh423=>?_) (λh423=>?_)
 refine aZ ?_
 refine kN (λh424=>?_) (λh424=>?_)
 refine bf ?_
 refine mz (λh425=>?_) (λh425=>?_)
 refine aR ?_
 exact gQ
 refine a7 ?_
 have hx426:0<a2.dO.l.length:=by omega
 refine lh 0 a2.dO hx426 ?_
 generalize hqx427:a2.dO.l[0]=x427
 refine ay ?_
 refine rC (t54 a0 x427.elem) ?_
 rintro _ ⟨r429,hc428,rfl⟩
 have hK:=hc428
 refine lE (λh430=>?_) (λh430=>?_)
 refine ag ?_
 exact gQ
 refine ag ?_
 exact gP
 refine aB ?_
 exact gP
 refine dr ?_
 refine bh ?_
 refine iz rfl (λ_=>iZ rfl rfl rfl (jF .i64 n402 r411)) ?_
 refine ab ?_
 refine wy [.la 3 0,.la 5 0,iv (IntKind.i64.wrap (n402 - r411)),iv n403] [(3,(bS.af a0)),(5,(iL.af a2))] ?_
 refine aM ?_
 refine jT ?_
 refine ab ?_
 refine ⟨_,?_,(IntKind.i64.wrap (n402 - r411)),(n403 - 1),rfl,dT,dT,atR⟩
 omega
 refine bC ?_
 exact gP
 refine ct ?_
 refine jI (λh431=>?_) (λh431=>?_)
 refine aK ?_
 refine jI (λh432=>?_) (λh432=>?_)
 refine cQ ?_
 exact gP
 iterate 8 refine oV ?_
 refine oC (t54 a0 r396.elem) ?_
 rintro _ ⟨r434,hc433,rfl⟩
 have hK:=hc433
 refine kE (λh435=>?_) (λh435=>?_)
 refine bc ?_
 exact gP
 refine oV ?_
 refine ak ?_
 have hL436:=a2.dO.lk
 refine jb a2.dO ?_
 have hL437:=a2.dO.lk
 refine jT ?_
 refine aL ?_
 refine kF (λm442 e h=>∃ n438:Int,∃ n439:Int,m442=(n439+1).toNat/\(-1<=n439)/\(n439<(a2.dO.l.length:Int))/\At [3,5,11,12] [.la 3 0,.la 5 0,iv n438,iv n439] aT.empty [(3,(bS.af a0)),(5,(iL.af a2))] e h) ?_ _ _ _ ⟨(IntKind.i64.wrap (a1 - a2.nt)),((a2.dO.l.length:Int) - 1),rfl,dT,dT,atR⟩
 rintro m442 e h ⟨n438,n439,hmm442,hi440,hi441,hA⟩
 refine bL ?_
 refine kL (λh443=>?_) (λh443=>?_)
 refine a8 ?_
 refine wy [.la 3 0,.la 5 0,iv n438,iv n439] [(3,(bS.af a0)),(5,(iL.af a2))] ?_
 refine bH ?_
 have hx444:(n439).toNat<a2.dO.l.length:=by omega
 refine iN rfl rfl (λ_=>jh (n:=n439) (r:=a2.dO) (enc:=iu.af) rfl rfl rfl rfl rfl dT hx444 rfl) ?_
 generalize hqx445:a2.dO.l[(n439).toNat]=x445
 refine ay ?_
 refine rC (t83 a0 x445.elem) ?_
 rintro _ ⟨r447,hc446,rfl⟩
 have hLen:=hc446
 refine cz ?_
 have hL448:=a2.dO.lk
 refine jb a2.dO ?_
 have hL449:=a2.dO.lk
 refine jT ?_
 refine iY (λh450=>?_) (λh450=>?_)
 refine ce ?_
 refine iz rfl (λ_=>iZ rfl rfl rfl (jF .i64 r447 a2.left)) ?_
 refine ab ?_
 refine wy [.la 3 0,.la 5 0,iv n438,iv n439,iv (IntKind.i64.wrap (r447 - a2.left))] [(3,(bS.af a0)),(5,(iL.af a2))] ?_
 refine ah ?_
 refine iY (λh451=>?_) (λh451=>?_)
 refine aZ ?_
 refine kN (λh452=>?_) (λh452=>?_)
 refine bf ?_
 refine mz (λh453=>?_) (λh453=>?_)
 refine aR ?_
 exact gQ
 refine a7 ?_
 have hx454:0<a2.dO.l.length:=by omega
 refine lh 0 a2.dO hx454 ?_
 generalize hqx455:a2.dO.l[0]=x455
 refine ay ?_
 refine rC (t54 a0 x455.elem) ?_
 rintro _ ⟨r457,hc456,rfl⟩
 have hK:=hc456
 refine lE (λh458=>?_) (λh458=>?_)
 refine ag ?_
 exact gQ
 refine ag ?_
 exact gP
 refine aB ?_
 exact gP
 refine aC ?_
 refine wy [.la 3 0,.la 5 0,iv n438,iv n439,iv (IntKind.i64.wrap (r447 - a2.left))] [(3,(bS.af a0)),(5,(iL.af a2))] ?_
 refine bh ?_
 refine iz rfl (λ_=>iZ rfl rfl rfl (jF .i64 n438 (IntKind.i64.wrap (r447 - a2.left)))) ?_
 refine ab ?_
 refine wy [.la 3 0,.la 5 0,iv (IntKind.i64.wrap (n438 - (IntKind.i64.wrap (r447 - a2.left)))),iv n439] [(3,(bS.af a0)),(5,(iL.af a2))] ?_
 refine aM ?_
 refine jT ?_
 refine ab ?_
 refine ⟨_,?_,(IntKind.i64.wrap (n438 - (IntKind.i64.wrap (r447 - a2.left)))),(n439 - 1),rfl,dT,dT,atR⟩
 omega
 refine dt ?_
 refine ah ?_
 refine iY (λh459=>?_) (λh459=>?_)
 refine aZ ?_
 refine kN (λh460=>?_) (λh460=>?_)
 refine bf ?_
 refine mz (λh461=>?_) (λh461=>?_)
 refine aR ?_
 exact gQ
 refine a7 ?_
 have hx462:0<a2.dO.l.length:=by omega
 refine lh 0 a2.dO hx462 ?_
 generalize hqx463:a2.dO.l[0]=x463
 refine ay ?_
 refine rC (t54 a0 x463.elem) ?_
 rintro _ ⟨r465,hc464,rfl⟩
 have hK:=hc464
 refine lE (λh466=>?_) (λh466=>?_)
 refine ag ?_
 exact gQ
 refine ag ?_
 exact gP
 refine aB ?_
 exact gP
 refine dt ?_
 refine bh ?_
 refine iz rfl (λ_=>iZ rfl rfl rfl (jF .i64 n438 r447)) ?_
 refine ab ?_
 refine wy [.la 3 0,.la 5 0,iv (IntKind.i64.wrap (n438 - r447)),iv n439] [(3,(bS.af a0)),(5,(iL.af a2))] ?_
 refine aM ?_
 refine jT ?_
 refine ab ?_
 refine ⟨_,?_,(IntKind.i64.wrap (n438 - r447)),(n439 - 1),rfl,dT,dT,atR⟩
 omega
 refine bC ?_
 exact gP
 refine cb ?_
 refine ak ?_
 have hL467:=a2.dO.lk
 refine jb a2.dO ?_
 have hL468:=a2.dO.lk
 refine jT ?_
 refine aL ?_
 refine kF (λm473 e h=>∃ n469:Int,∃ n470:Int,m473=(n470+1).toNat/\(-1<=n470)/\(n470<(a2.dO.l.length:Int))/\At [3,5,11,12] [.la 3 0,.la 5 0,iv n469,iv n470] aT.empty [(3,(bS.af a0)),(5,(iL.af a2))] e h) ?_ _ _ _ ⟨(IntKind.i64.wrap (a1 - a2.nt)),((a2.dO.l.length:Int) - 1),rfl,dT,dT,atR⟩
 rintro m473 e h ⟨n469,n470,hmm473,hi471,hi472,hA⟩
 refine bL ?_
 refine kL (λh474=>?_) (λh474=>?_)
 refine a8 ?_
 refine wy [.la 3 0,.la 5 0,iv n469,iv n470] [(3,(bS.af a0)),(5,(iL.af a2))] ?_
 refine bH ?_
 have hx475:(n470).toNat<a2.dO.l.length:=by omega
 refine iN rfl rfl (λ_=>jh (n:=n470) (r:=a2.dO) (enc:=iu.af) rfl rfl rfl rfl rfl dT hx475 rfl) ?_
 generalize hqx476:a2.dO.l[(n470).toNat]=x476
 refine ay ?_
 refine rC (t83 a0 x476.elem) ?_
 rintro _ ⟨r478,hc477,rfl⟩
 have hLen:=hc477
 refine cz ?_
 have hL479:=a2.dO.lk
 refine jb a2.dO ?_
 have hL480:=a2.dO.lk
 refine jT ?_
 refine iY (λh481=>?_) (λh481=>?_)
 refine ce ?_
 refine iz rfl (λ_=>iZ rfl rfl rfl (jF .i64 r478 a2.left)) ?_
 refine ab ?_
 refine wy [.la 3 0,.la 5 0,iv n469,iv n470,iv (IntKind.i64.wrap (r478 - a2.left))] [(3,(bS.af a0)),(5,(iL.af a2))] ?_
 refine ah ?_
 refine iY (λh482=>?_) (λh482=>?_)
 refine aZ ?_
 refine kN (λh483=>?_) (λh483=>?_)
 refine bf ?_
 refine mz (λh484=>?_) (λh484=>?_)
 refine aR ?_
 exact gQ
 refine a7 ?_
 have hx485:0<a2.dO.l.length:=by omega
 refine lh 0 a2.dO hx485 ?_
 generalize hqx486:a2.dO.l[0]=x486
 refine ay ?_
 refine rC (t54 a0 x486.elem) ?_
 rintro _ ⟨r488,hc487,rfl⟩
 have hK:=hc487
 refine lE (λh489=>?_) (λh489=>?_)
 refine ag ?_
 exact gQ
 refine ag ?_
 exact gP
 refine aB ?_
 exact gP
 refine aC ?_
 refine wy [.la 3 0,.la 5 0,iv n469,iv n470,iv (IntKind.i64.wrap (r478 - a2.left))] [(3,(bS.af a0)),(5,(iL.af a2))] ?_
 refine bh ?_
 refine iz rfl (λ_=>iZ rfl rfl rfl (jF .i64 n469 (IntKind.i64.wrap (r478 - a2.left)))) ?_
 refine ab ?_
 refine wy [.la 3 0,.la 5 0,iv (IntKind.i64.wrap (n469 - (IntKind.i64.wrap (r478 - a2.left)))),iv n470] [(3,(bS.af a0)),(5,(iL.af a2))] ?_
 refine aM ?_
 refine jT ?_
 refine ab ?_
 refine ⟨_,?_,(IntKind.i64.wrap (n469 - (IntKind.i64.wrap (r478 - a2.left)))),(n470 - 1),rfl,dT,dT,atR⟩
 omega
 refine du ?_
 refine ah ?_
 refine iY (λh490=>?_) (λh490=>?_)
 refine aZ ?_
 refine kN (λh491=>?_) (λh491=>?_)
 refine bf ?_
 refine mz (λh492=>?_) (λh492=>?_)
 refine aR ?_
 exact gQ
 refine a7 ?_
 have hx493:0<a2.dO.l.length:=by omega
 refine lh 0 a2.dO hx493 ?_
 generalize hqx494:a2.dO.l[0]=x494
 refine ay ?_
 refine rC (t54 a0 x494.elem) ?_
 rintro _ ⟨r496,hc495,rfl⟩
 have hK:=hc495
 refine lE (λh497=>?_) (λh497=>?_)
 refine ag ?_
 exact gQ
 refine ag ?_
 exact gP
 refine aB ?_
 exact gP
 refine du ?_
 refine bh ?_
 refine iz rfl (λ_=>iZ rfl rfl rfl (jF .i64 n469 r478)) ?_
 refine ab ?_
 refine wy [.la 3 0,.la 5 0,iv (IntKind.i64.wrap (n469 - r478)),iv n470] [(3,(bS.af a0)),(5,(iL.af a2))] ?_
 refine aM ?_
 refine jT ?_
 refine ab ?_
 refine ⟨_,?_,(IntKind.i64.wrap (n469 - r478)),(n470 - 1),rfl,dT,dT,atR⟩
 omega
 refine bC ?_
 exact gP
 refine aS ?_
 refine ai ?_
 exact gP
 refine cr ?_
 refine cH ?_
 refine bo ?_
 refine aQ ?_
 refine cT ?_
 refine iY (λh498=>?_) (λh498=>?_)
 refine aN ?_
 refine bX ?_
 refine c6 ?_
 refine cP ?_
 exact gP
 refine aS ?_
 refine iY (λh499=>?_) (λh499=>?_)
 refine cw ?_
 refine aV ?_
 refine bE ?_
 exact gP
 refine aS ?_
 refine iY (λh500=>?_) (λh500=>?_)
 refine cw ?_
 refine bc ?_
 exact gP
 refine aS ?_
 refine iY (λh501=>?_) (λh501=>?_)
 refine bJ ?_
 rintro _ ⟨r503,hc502,rfl⟩
 have hCd:=hc502
 cases r503
 clear hc502
 refine aq ?_
 exact gP
 have hc502t:=hc502 rfl
 refine bz ?_
 refine bp ?_
 have hL504:=a2.dO.lk
 refine jb a2.dO ?_
 have hL505:=a2.dO.lk
 refine jT ?_
 have hx506:((a2.dO.l.length:Int) - 1).toNat<a2.dO.l.length:=by omega
 refine iz rfl (λ_=>jh (n:=(a2.dO.l.length:Int) - 1) (r:=a2.dO) (enc:=iu.af) rfl rfl rfl rfl rfl dT hx506 rfl) ?_
 generalize hqx507:a2.dO.l[((a2.dO.l.length:Int) - 1).toNat]=x507
 refine ba ?_
 refine qs ?_
 refine bX ?_
 refine mK (λh508=>?_) (λh508=>?_)
 refine bU ?_
 refine aw ?_
 refine aY ?_
 exact gP
 refine cJ ?_
 refine rC (t83 a0 x507.elem) ?_
 rintro _ ⟨r510,hc509,rfl⟩
 have hLen:=hc509
 refine kN (λh511=>?_) (λh511=>?_)
 refine bV ?_
 refine aY ?_
 exact gP
 refine a7 ?_
 refine mK (λh512=>?_) (λh512=>?_)
 refine aw ?_
 refine aY ?_
 exact gP
 refine a7 ?_
 refine zG (λh513=>?_) (λh513=>?_)
 refine au ?_
 refine aY ?_
 exact gP
 refine a7 ?_
 refine mK (λh514=>?_) (λh514=>?_)
 refine ay ?_
 refine aY ?_
 exact gP
 refine cu ?_
 refine kN (λh515=>?_) (λh515=>?_)
 refine c8 ?_
 exact gP
 refine bD ?_
 refine wy [iv a1,.la 3 0,.la 5 0,.la 8 0] [(3,(bS.af a0)),(5,(iL.af a2)),(8,(iu.af x507))] ?_
 refine ae ?_
 refine oC (t84 a0 x507) ?_
 rintro _ ⟨r517,r518,hc516,rfl⟩
 have hN:=hc516
 cases r518
 refine ct ?_
 refine jI (λh519=>?_) (λh519=>?_)
 refine aK ?_
 refine jI (λh520=>?_) (λh520=>?_)
 refine cQ ?_
 exact gP
 refine aK ?_
 refine bw ?_
 refine bc ?_
 exact gP
 refine cb ?_
 refine ak ?_
 have hL521:=a2.dO.lk
 refine jb a2.dO ?_
 have hL522:=a2.dO.lk
 refine jT ?_
 refine aL ?_
 refine kF (λm527 e h=>∃ n523:Int,∃ n524:Int,m527=(n524+1).toNat/\(-1<=n524)/\(n524<(a2.dO.l.length:Int))/\At [3,5,11,12] [.la 3 0,.la 5 0,iv n523,iv n524] aT.empty [(3,(bS.af a0)),(5,(iL.af a2))] e h) ?_ _ _ _ ⟨(IntKind.i64.wrap (a1 - a2.nt)),((a2.dO.l.length:Int) - 1),rfl,dT,dT,atR⟩
 rintro m527 e h ⟨n523,n524,hmm527,hi525,hi526,hA⟩
 refine bL ?_
 refine kL (λh528=>?_) (λh528=>?_)
 refine a8 ?_
 refine wy [.la 3 0,.la 5 0,iv n523,iv n524] [(3,(bS.af a0)),(5,(iL.af a2))] ?_
 refine bH ?_
 have hx529:(n524).toNat<a2.dO.l.length:=by omega
 refine iN rfl rfl (λ_=>jh (n:=n524) (r:=a2.dO) (enc:=iu.af) rfl rfl rfl rfl rfl dT hx529 rfl) ?_
 generalize hqx530:a2.dO.l[(n524).toNat]=x530
 refine ay ?_
 refine rC (t83 a0 x530.elem) ?_
 rintro _ ⟨r532,hc531,rfl⟩
 have hLen:=hc531
 refine cz ?_
 have hL533:=a2.dO.lk
 refine jb a2.dO ?_
 have hL534:=a2.dO.lk
 refine jT ?_
 refine iY (λh535=>?_) (λh535=>?_)
 refine ce ?_
 refine iz rfl (λ_=>iZ rfl rfl rfl (jF .i64 r532 a2.left)) ?_
 refine ab ?_
 refine wy [.la 3 0,.la 5 0,iv n523,iv n524,iv (IntKind.i64.wrap (r532 - a2.left))] [(3,(bS.af a0)),(5,(iL.af a2))] ?_
 refine ah ?_
 refine iY (λh536=>?_) (λh536=>?_)
 refine aZ ?_
 refine kN (λh537=>?_) (λh537=>?_)
 refine bf ?_
 refine mz (λh538=>?_) (λh538=>?_)
 refine aR ?_
 exact gQ
 refine a7 ?_
 have hx539:0<a2.dO.l.length:=by omega
 refine lh 0 a2.dO hx539 ?_
 generalize hqx540:a2.dO.l[0]=x540
 refine ay ?_
 refine rC (t54 a0 x540.elem) ?_
 rintro _ ⟨r542,hc541,rfl⟩
 have hK:=hc541
 refine lE (λh543=>?_) (λh543=>?_)
 refine ag ?_
 exact gQ
 refine ag ?_
 exact gP
 refine aB ?_
 exact gP
 refine aC ?_
 refine wy [.la 3 0,.la 5 0,iv n523,iv n524,iv (IntKind.i64.wrap (r532 - a2.left))] [(3,(bS.af a0)),(5,(iL.af a2))] ?_
 refine bh ?_
 refine iz rfl (λ_=>iZ rfl rfl rfl (jF .i64 n523 (IntKind.i64.wrap (r532 - a2.left)))) ?_
 refine ab ?_
 refine wy [.la 3 0,.la 5 0,iv (IntKind.i64.wrap (n523 - (IntKind.i64.wrap (r532 - a2.left)))),iv n524] [(3,(bS.af a0)),(5,(iL.af a2))] ?_
 refine aM ?_
 refine jT ?_
 refine ab ?_
 refine ⟨_,?_,(IntKind.i64.wrap (n523 - (IntKind.i64.wrap (r532 - a2.left)))),(n524 - 1),rfl,dT,dT,atR⟩
 omega
 refine dv ?_
 refine ah ?_
 refine iY (λh544=>?_) (λh544=>?_)
 refine aZ ?_
 refine kN (λh545=>?_) (λh545=>?_)
 refine bf ?_
 refine mz (λh546=>?_) (λh546=>?_)
 refine aR ?_
 exact gQ
 refine a7 ?_
 have hx547:0<a2.dO.l.length:=by omega
 refine lh 0 a2.dO hx547 ?_
 generalize hqx548:a2.dO.l[0]=x548
 refine ay ?_
 refine rC (t54 a0 x548.elem) ?_
 rintro _ ⟨r550,hc549,rfl⟩
 have hK:=hc549
 refine lE (λh551=>?_) (λh551=>?_)
 refine ag ?_
 exact gQ
 refine ag ?_
 exact gP
 refine aB ?_
 exact gP
 refine dv ?_
 refine bh ?_
 refine iz rfl (λ_=>iZ rfl rfl rfl (jF .i64 n523 r532)) ?_
 refine ab ?_
 refine wy [.la 3 0,.la 5 0,iv (IntKind.i64.wrap (n523 - r532)),iv n524] [(3,(bS.af a0)),(5,(iL.af a2))] ?_
 refine aM ?_
 refine jT ?_
 refine ab ?_
 refine ⟨_,?_,(IntKind.i64.wrap (n523 - r532)),(n524 - 1),rfl,dT,dT,atR⟩
 omega
 refine bC ?_
 exact gP
 refine ct ?_
 refine jI (λh552=>?_) (λh552=>?_)
 refine aK ?_
 refine jI (λh553=>?_) (λh553=>?_)
 refine cQ ?_
 exact gP
 iterate 8 refine oV ?_
 refine oC (t54 a0 r517.elem) ?_
 rintro _ ⟨r555,hc554,rfl⟩
 have hK:=hc554
 refine kE (λh556=>?_) (λh556=>?_)
 refine bc ?_
 exact gP
 refine oV ?_
 refine ak ?_
 have hL557:=a2.dO.lk
 refine jb a2.dO ?_
 have hL558:=a2.dO.lk
 refine jT ?_
 refine aL ?_
 refine kF (λm563 e h=>∃ n559:Int,∃ n560:Int,m563=(n560+1).toNat/\(-1<=n560)/\(n560<(a2.dO.l.length:Int))/\At [3,5,11,12] [.la 3 0,.la 5 0,iv n559,iv n560] aT.empty [(3,(bS.af a0)),(5,(iL.af a2))] e h) ?_ _ _ _ ⟨(IntKind.i64.wrap (a1 - a2.nt)),((a2.dO.l.length:Int) - 1),rfl,dT,dT,atR⟩
 rintro m563 e h ⟨n559,n560,hmm563,hi561,hi562,hA⟩
 refine bL ?_
 refine kL (λh564=>?_) (λh564=>?_)
 refine a8 ?_
 refine wy [.la 3 0,.la 5 0,iv n559,iv n560] [(3,(bS.af a0)),(5,(iL.af a2))] ?_
 refine bH ?_
 have hx565:(n560).toNat<a2.dO.l.length:=by omega
 refine iN rfl rfl (λ_=>jh (n:=n560) (r:=a2.dO) (enc:=iu.af) rfl rfl rfl rfl rfl dT hx565 rfl) ?_
 generalize hqx566:a2.dO.l[(n560).toNat]=x566
 refine ay ?_
 refine rC (t83 a0 x566.elem) ?_
 rintro _ ⟨r568,hc567,rfl⟩
 have hLen:=hc567
 refine cz ?_
 have hL569:=a2.dO.lk
 refine jb a2.dO ?_
 have hL570:=a2.dO.lk
 refine jT ?_
 refine iY (λh571=>?_) (λh571=>?_)
 refine ce ?_
 refine iz rfl (λ_=>iZ rfl rfl rfl (jF .i64 r568 a2.left)) ?_
 refine ab ?_
 refine wy [.la 3 0,.la 5 0,iv n559,iv n560,iv (IntKind.i64.wrap (r568 - a2.left))] [(3,(bS.af a0)),(5,(iL.af a2))] ?_
 refine ah ?_
 refine iY (λh572=>?_) (λh572=>?_)
 refine aZ ?_
 refine kN (λh573=>?_) (λh573=>?_)
 refine bf ?_
 refine mz (λh574=>?_) (λh574=>?_)
 refine aR ?_
 exact gQ
 refine a7 ?_
 have hx575:0<a2.dO.l.length:=by omega
 refine lh 0 a2.dO hx575 ?_
 generalize hqx576:a2.dO.l[0]=x576
 refine ay ?_
 refine rC (t54 a0 x576.elem) ?_
 rintro _ ⟨r578,hc577,rfl⟩
 have hK:=hc577
 refine lE (λh579=>?_) (λh579=>?_)
 refine ag ?_
 exact gQ
 refine ag ?_
 exact gP
 refine aB ?_
 exact gP
 refine aC ?_
 refine wy [.la 3 0,.la 5 0,iv n559,iv n560,iv (IntKind.i64.wrap (r568 - a2.left))] [(3,(bS.af a0)),(5,(iL.af a2))] ?_
 refine bh ?_
 refine iz rfl (λ_=>iZ rfl rfl rfl (jF .i64 n559 (IntKind.i64.wrap (r568 - a2.left)))) ?_
 refine ab ?_
 refine wy [.la 3 0,.la 5 0,iv (IntKind.i64.wrap (n559 - (IntKind.i64.wrap (r568 - a2.left)))),iv n560] [(3,(bS.af a0)),(5,(iL.af a2))] ?_
 refine aM ?_
 refine jT ?_
 refine ab ?_
 refine ⟨_,?_,(IntKind.i64.wrap (n559 - (IntKind.i64.wrap (r568 - a2.left)))),(n560 - 1),rfl,dT,dT,atR⟩
 omega
 refine dw ?_
 refine ah ?_
 refine iY (λh580=>?_) (λh580=>?_)
 refine aZ ?_
 refine kN (λh581=>?_) (λh581=>?_)
 refine bf ?_
 refine mz (λh582=>?_) (λh582=>?_)
 refine aR ?_
 exact gQ
 refine a7 ?_
 have hx583:0<a2.dO.l.length:=by omega
 refine lh 0 a2.dO hx583 ?_
 generalize hqx584:a2.dO.l[0]=x584
 refine ay ?_
 refine rC (t54 a0 x584.elem) ?_
 rintro _ ⟨r586,hc585,rfl⟩
 have hK:=hc585
 refine lE (λh587=>?_) (λh587=>?_)
 refine ag ?_
 exact gQ
 refine ag ?_
 exact gP
 refine aB ?_
 exact gP
 refine dw ?_
 refine bh ?_
 refine iz rfl (λ_=>iZ rfl rfl rfl (jF .i64 n559 r568)) ?_
 refine ab ?_
 refine wy [.la 3 0,.la 5 0,iv (IntKind.i64.wrap (n559 - r568)),iv n560] [(3,(bS.af a0)),(5,(iL.af a2))] ?_
 refine aM ?_
 refine jT ?_
 refine ab ?_
 refine ⟨_,?_,(IntKind.i64.wrap (n559 - r568)),(n560 - 1),rfl,dT,dT,atR⟩
 omega
 refine bC ?_
 exact gP
 refine cb ?_
 refine ak ?_
 have hL588:=a2.dO.lk
 refine jb a2.dO ?_
 have hL589:=a2.dO.lk
 refine jT ?_
 refine aL ?_
 refine kF (λm594 e h=>∃ n590:Int,∃ n591:Int,m594=(n591+1).toNat/\(-1<=n591)/\(n591<(a2.dO.l.length:Int))/\At [3,5,11,12] [.la 3 0,.la 5 0,iv n590,iv n591] aT.empty [(3,(bS.af a0)),(5,(iL.af a2))] e h) ?_ _ _ _ ⟨(IntKind.i64.wrap (a1 - a2.nt)),((a2.dO.l.length:Int) - 1),rfl,dT,dT,atR⟩
 rintro m594 e h ⟨n590,n591,hmm594,hi592,hi593,hA⟩
 refine bL ?_
 refine kL (λh595=>?_) (λh595=>?_)
 refine a8 ?_
 refine wy [.la 3 0,.la 5 0,iv n590,iv n591] [(3,(bS.af a0)),(5,(iL.af a2))] ?_
 refine bH ?_
 have hx596:(n591).toNat<a2.dO.l.length:=by omega
 refine iN rfl rfl (λ_=>jh (n:=n591) (r:=a2.dO) (enc:=iu.af) rfl rfl rfl rfl rfl dT hx596 rfl) ?_
 generalize hqx597:a2.dO.l[(n591).toNat]=x597
 refine ay ?_
 refine rC (t83 a0 x597.elem) ?_
 rintro _ ⟨r599,hc598,rfl⟩
 have hLen:=hc598
 refine cz ?_
 have hL600:=a2.dO.lk
 refine jb a2.dO ?_
 have hL601:=a2.dO.lk
 refine jT ?_
 refine iY (λh602=>?_) (λh602=>?_)
 refine ce ?_
 refine iz rfl (λ_=>iZ rfl rfl rfl (jF .i64 r599 a2.left)) ?_
 refine ab ?_
 refine wy [.la 3 0,.la 5 0,iv n590,iv n591,iv (IntKind.i64.wrap (r599 - a2.left))] [(3,(bS.af a0)),(5,(iL.af a2))] ?_
 refine ah ?_
 refine iY (λh603=>?_) (λh603=>?_)
 refine aZ ?_
 refine kN (λh604=>?_) (λh604=>?_)
 refine bf ?_
 refine mz (λh605=>?_) (λh605=>?_)
 refine aR ?_
 exact gQ
 refine a7 ?_
 have hx606:0<a2.dO.l.length:=by omega
 refine lh 0 a2.dO hx606 ?_
 generalize hqx607:a2.dO.l[0]=x607
 refine ay ?_
 refine rC (t54 a0 x607.elem) ?_
 rintro _ ⟨r609,hc608,rfl⟩
 have hK:=hc608
 refine lE (λh610=>?_) (λh610=>?_)
 refine ag ?_
 exact gQ
 refine ag ?_
 exact gP
 refine aB ?_
 exact gP
 refine aC ?_
 refine wy [.la 3 0,.la 5 0,iv n590,iv n591,iv (IntKind.i64.wrap (r599 - a2.left))] [(3,(bS.af a0)),(5,(iL.af a2))] ?_
 refine bh ?_
 refine iz rfl (λ_=>iZ rfl rfl rfl (jF .i64 n590 (IntKind.i64.wrap (r599 - a2.left)))) ?_
 refine ab ?_
 refine wy [.la 3 0,.la 5 0,iv (IntKind.i64.wrap (n590 - (IntKind.i64.wrap (r599 - a2.left)))),iv n591] [(3,(bS.af a0)),(5,(iL.af a2))] ?_
 refine aM ?_
 refine jT ?_
 refine ab ?_
 refine ⟨_,?_,(IntKind.i64.wrap (n590 - (IntKind.i64.wrap (r599 - a2.left)))),(n591 - 1),rfl,dT,dT,atR⟩
 omega
 refine dx ?_
 refine ah ?_
 refine iY (λh611=>?_) (λh611=>?_)
 refine aZ ?_
 refine kN (λh612=>?_) (λh612=>?_)
 refine bf ?_
 refine mz (λh613=>?_) (λh613=>?_)
 refine aR ?_
 exact gQ
 refine a7 ?_
 have hx614:0<a2.dO.l.length:=by omega
 refine lh 0 a2.dO hx614 ?_
 generalize hqx615:a2.dO.l[0]=x615
 refine ay ?_
 refine rC (t54 a0 x615.elem) ?_
 rintro _ ⟨r617,hc616,rfl⟩
 have hK:=hc616
 refine lE (λh618=>?_) (λh618=>?_)
 refine ag ?_
 exact gQ
 refine ag ?_
 exact gP
 refine aB ?_
 exact gP
 refine dx ?_
 refine bh ?_
 refine iz rfl (λ_=>iZ rfl rfl rfl (jF .i64 n590 r599)) ?_
 refine ab ?_
 refine wy [.la 3 0,.la 5 0,iv (IntKind.i64.wrap (n590 - r599)),iv n591] [(3,(bS.af a0)),(5,(iL.af a2))] ?_
 refine aM ?_
 refine jT ?_
 refine ab ?_
 refine ⟨_,?_,(IntKind.i64.wrap (n590 - r599)),(n591 - 1),rfl,dT,dT,atR⟩
 omega
 refine bC ?_
 exact gP
 refine aS ?_
 refine ai ?_
 exact gP
def P15 (_a0:bS) (_a1:jR) (_a2:iI) (_a3:Row jz) (v:AV):Prop:=∃ r0:Bool,((r0=true->∀ t∈_a3.l,uS _a0 t))/\v=.bool r0
def t15 (a0:bS) (a1:jR) (a2:iI) (a3:Row jz) (q1:∀ t∈a3.l,ue t) (q2:∀ r∈a2.runs.l,0<=r.iW/\r.iW<(a2.iW.l.length:Int)) (q3:a3.l.length<=10):Ct 15 [.agg (bS.af a0),.agg (jR.af a1),.agg (iI.af a2),jQ a3] (P15 a0 a1 a2 a3):=by
 refine ja LP ?_
 refine aa ?_
 refine cg ?_
 refine ah ?_
 have hL1:=a3.lk
 refine jb a3 ?_
 refine aj ?_
 have hL2:=a2.runs.lk
 refine jb a2.runs ?_
 refine kE (λh3=>?_) (λh3=>?_)
 refine bu ?_
 exact gi
 refine aC ?_
 refine wy [jQ a3,.la 4 0,.la 5 0,.la 6 0] [(4,(bS.af a0)),(5,(jR.af a1)),(6,(iI.af a2))] ?_
 refine ah ?_
 have hL4:=a3.lk
 refine jb a3 ?_
 refine aL ?_
 have hNk5:=a3.lk
 refine iF a3.l.length (λk5 e h=>∃ H6:aT,(∀ (i:Nat) (h:i<a3.l.length),i<k5->uS a0 (a3.l[i]))/\Sep H6 ([])/\At [4,5,6,21,22,23] [.la 4 0,.la 5 0,.la 6 0,jQ a3,ir a3.l.length,ir k5] H6 [(4,(bS.af a0)),(5,(jR.af a1)),(6,(iI.af a2))] e h) ?_ (k0:=0) dT ⟨aT.empty,eE,j1,atR⟩
 rintro k5 e h hkk5 ⟨H6,hTr,hS7,hA⟩
 refine aO ?_
 refine iV (λh8=>?_) (λh8=>?_)
 refine ap ?_
 refine wz [.la 4 0,.la 5 0,.la 6 0,jQ a3,ir a3.l.length,ir k5] H6 [(4,(bS.af a0)),(5,(jR.af a1)),(6,(iI.af a2))] ?_
 refine bT ?_
 have hx9:k5<a3.l.length:=by omega
 refine kH k5 a3 hx9 ?_
 generalize hqx10:a3.l[k5]=x10
 have hinx10:x10∈a3.l:=by rw [<- hqx10]; exact List.getElem_mem _
 obtain ⟨hs1x10,hs2x10,hs3x10,hs4x10,hsA5,hsA6⟩:=q1 x10 hinx10
 refine cg ?_
 refine aQ ?_
 have hL11:=x10.iC.lk
 refine jb x10.iC ?_
 refine iY (λh12=>?_) (λh12=>?_)
 refine oV ?_
 iterate 7 refine oS ?_
 refine cE ?_
 refine cE ?_
 refine aq ?_
 exact gi
 refine aK ?_
 have hL13:=x10.roads.lk
 refine jb x10.roads ?_
 refine aj ?_
 have hL14:=x10.iC.lk
 refine jb x10.iC ?_
 refine kE (λh15=>?_) (λh15=>?_)
 refine cE ?_
 refine cE ?_
 refine aq ?_
 exact gi
 refine bk ?_
 have hL16:=x10.steps.lk
 refine jb x10.steps ?_
 refine aj ?_
 have hL17:=x10.iC.lk
 refine jb x10.iC ?_
 refine kE (λh18=>?_) (λh18=>?_)
 refine cE ?_
 refine aq ?_
 exact gi
 refine bk ?_
 have hL19:=x10.lj.lk
 refine jb x10.lj ?_
 refine aj ?_
 have hL20:=x10.iC.lk
 refine jb x10.iC ?_
 refine kE (λh21=>?_) (λh21=>?_)
 refine aq ?_
 exact gi
 refine aA ?_
 refine wz [.la 4 0,.la 5 0,.la 6 0,ir k5,.la 10 0,jQ a3,ir a3.l.length,ir k5] H6 [(4,(bS.af a0)),(5,(jR.af a1)),(6,(iI.af a2)),(10,(jz.af x10))] ?_
 refine ae ?_
 have hL22:=x10.iC.lk
 refine jb x10.iC ?_
 refine aL ?_
 have hNk23:=x10.iC.lk
 refine iF x10.iC.l.length (λnV e h=>∃ H24:aT,(∀ (i:Nat) (h:i<x10.iC.l.length),i<nV->sY a0 (x10.iC.l[i]))/\(∀ (i:Nat) (h:i<x10.steps.l.length),i<nV->∀ e∈(x10.steps.l[i]).l,pS a0 e)/\Sep H24 ([])/\At [4,5,6,9,10,21,22,23,60,61,62] [.la 4 0,.la 5 0,.la 6 0,ir k5,.la 10 0,jQ a3,ir a3.l.length,ir k5,od x10.iC,ir x10.iC.l.length,ir nV] H24 [(4,(bS.af a0)),(5,(jR.af a1)),(6,(iI.af a2)),(10,(jz.af x10))] e h) ?_ (k0:=0) dT ⟨H6,eE,eE,hS7,atR⟩
 rintro nV e h hkk23 ⟨H24,hBo,hRo2,hS25,hA⟩
 refine aO ?_
 refine iV (λh26=>?_) (λh26=>?_)
 refine ap ?_
 refine wz [.la 4 0,.la 5 0,.la 6 0,ir k5,.la 10 0,jQ a3,ir a3.l.length,ir k5,od x10.iC,ir x10.iC.l.length,ir nV] H24 [(4,(bS.af a0)),(5,(jR.af a1)),(6,(iI.af a2)),(10,(jz.af x10))] ?_
 refine bT ?_
 have hx27:nV<x10.iC.l.length:=by omega
 refine kH nV x10.iC hx27 ?_
 generalize hqx28:x10.iC.l[nV]=x28
 refine cg ?_
 refine bZ ?_
 refine cJ ?_
 have hx29:k5<a2.runs.l.length:=by omega
 refine lh k5 a2.runs hx29 ?_
 generalize hqx30:a2.runs.l[k5]=x30
 have hinx30:x30∈a2.runs.l:=by rw [<- hqx30]; exact List.getElem_mem _
 have hsx30:=q2 x30 hinx30
 refine ay ?_
 have hx31:(x30.iW).toNat<a2.iW.l.length:=by omega
 refine iN rfl rfl (λ_=>jh (n:=x30.iW) (r:=a2.iW) (enc:=jW.af) rfl rfl rfl rfl rfl dT hx31 rfl) ?_
 generalize hqx32:a2.iW.l[(x30.iW).toNat]=x32
 refine bf ?_
 refine rC (t39 a0 x32.len x28) ?_
 rintro _ ⟨r34,hc33,rfl⟩
 have hMb:=hc33
 cases r34
 clear hc33
 refine bM ?_
 refine ay ?_
 iterate 5 refine rS ?_
 refine aY ?_
 exact gi
 have hc33t:=hc33 rfl
 have hMbT:=hc33t
 refine cu ?_
 have hx35:nV<x10.roads.l.length:=by omega
 refine lh nV x10.roads hx35 ?_
 generalize hqx36:x10.roads.l[nV]=x36
 refine rV ?_
 refine mK (λh37=>?_) (λh37=>?_)
 refine ay ?_
 iterate 5 refine rS ?_
 refine aY ?_
 exact gi
 refine cu ?_
 have hx38:nV<x10.roads.l.length:=by omega
 refine lh nV x10.roads hx38 ?_
 rw [hqx36]
 refine bf ?_
 have hL40:=a1.roads.lk
 refine Ca a1.roads ?_
 refine kN (λh41=>?_) (λh41=>?_)
 refine c8 ?_
 exact gi
 refine bD ?_
 refine wz [.la 4 0,.la 5 0,.la 6 0,ir k5,.la 10 0,ir nV,jQ a3,ir a3.l.length,ir k5,od x10.iC,ir x10.iC.l.length,ir nV] H24 [(4,(bS.af a0)),(5,(jR.af a1)),(6,(iI.af a2)),(10,(jz.af x10))] ?_
 refine aH ?_
 refine a7 ?_
 have hx42:nV<x10.steps.l.length:=by omega
 refine lh nV x10.steps hx42 ?_
 generalize hqx43:x10.steps.l[nV]=x43
 have hinx43:x43∈x10.steps.l:=by rw [<- hqx43]; exact List.getElem_mem _
 have hsx43:x43.l.length<=60:=by first | exact hsA5 x43 hinx43 | exact hsA6 x43 hinx43
 refine a7 ?_
 have hx44:nV<x10.lj.l.length:=by omega
 refine lh nV x10.lj hx44 ?_
 generalize hqx45:x10.lj.l[nV]=x45
 have hinx45:x45∈x10.lj.l:=by rw [<- hqx45]; exact List.getElem_mem _
 have hsx45:x45.l.length<=60:=by first | exact hsA5 x45 hinx45 | exact hsA6 x45 hinx45
 refine ay ?_
 have hS46:=Sep.qZ hS25 1
 have hL47:=x43.lk
 refine qN rfl rfl (jZ (i:=0) (l:=([]:List Int)) (enc:=iP) x43.l hS46 rfl rfl rfl rfl rfl rfl rfl rfl rfl (λ_=>rfl) (.inl rfl) dW (λ_=>rfl)) ?_
 rintro v48 H49 hS50
 refine ⟨λcall=>(zE (l8 rfl rfl rfl rfl rfl E6) (zE (l8 (v:=.ip [jV x45] 0 false) rfl rfl rfl ((rF (n:=nV) (r:=x10.lj) (enc:=(kp iP)) rfl rfl rfl rfl rfl dT rfl).trans (by rw [hqx45]; rfl)) rfl (Ud CG)) (wM (l8 rfl rfl rfl rfl rfl MU)))),?_⟩
 have hL51:=x45.lk
 refine l3 rfl rfl (jZ (i:=0) (l:=(([]:List Int)++x43.l)) (enc:=iP) x45.l hS50 rfl rfl rfl rfl rfl rfl rfl rfl rfl (λ_=>rfl) (.inl rfl) dW (λ_=>rfl)) ?_
 rintro v52 H53 hS54
 refine iN rfl rfl (λ_=>oJ (i:=0) (l:=((([]:List Int)++x43.l)++x45.l)) (enc:=iP) hS54 rfl rfl rfl rfl rfl rfl rfl) ?_
 refine rN ?_
 refine qb ?_
 refine iF (((([]:List Int)++x43.l)++x45.l).length) (λxo e h=>(∀ (i:Nat) (h:i<((([]:List Int)++x43.l)++x45.l).length),i<xo->pS a0 (((([]:List Int)++x43.l)++x45.l)[i]))/\At [4,5,6,9,10,21,22,23,60,61,62,113,114,115] [.la 4 0,.la 5 0,.la 6 0,ir k5,.la 10 0,jQ a3,ir a3.l.length,ir k5,od x10.iC,ir x10.iC.l.length,ir nV,v52,iv (((([]:List Int)++x43.l)++x45.l).length:Int),ir xo] H53 [(4,(bS.af a0)),(5,(jR.af a1)),(6,(iI.af a2)),(10,(jz.af x10))] e h) ?_ (k0:=0) dT ⟨eE,(jd hS54 [(113,0)])⟩
 rintro xo e h hkk55 ⟨hEe,hA⟩
 refine s6 hA ?_
 have hla:((([]:List Int)++x43.l)++x45.l).length<=120:=by simp only [List.length_append,List.length_nil]; omega
 refine aa ?_
 refine iV (λh56=>?_) (λh56=>?_)
 refine ap ?_
 refine wz [.la 4 0,.la 5 0,.la 6 0,ir k5,.la 10 0,jQ a3,ir a3.l.length,ir k5,od x10.iC,ir x10.iC.l.length,ir nV,v52,iv (((([]:List Int)++x43.l)++x45.l).length:Int),ir xo] H53 [(4,(bS.af a0)),(5,(jR.af a1)),(6,(iI.af a2)),(10,(jz.af x10))] ?_ (jd hS54 [(113,0)])
 refine bi ?_
 have hx57:xo<((([]:List Int)++x43.l)++x45.l).length:=by first | omega | (simp<;>omega) | (simp_all; omega)
 obtain ⟨x58,hqx58⟩:∃ x,((([]:List Int)++x43.l)++x45.l)[xo]=x:=⟨_,rfl⟩
 refine sa rfl (nd (i:=0) (m:=xo) (cs:=iP x58) hS54 rfl rfl rfl rfl rfl rfl rfl (lO hx57 hqx58)) ?_
 rintro a59 ⟨ha60,hea61⟩
 refine iz rfl (λ_=>o9 (i:=0) (m:=xo) (o:=0) (r:=iv x58) (cs:=iP x58) hS54 rfl (lO hx57 hqx58) hea61 rfl rfl ha60) ?_
 refine cR ?_
 refine iV (λh62=>?_) (λh62=>?_)
 refine bB ?_
 refine aq ?_
 exact gi
 refine bk ?_
 have hL63:=a0.elems.lk
 refine jb a0.elems ?_
 refine kL (λh64=>?_) (λh64=>?_)
 refine aq ?_
 exact gi
 refine aA ?_
 refine wz [.la 4 0,.la 5 0,.la 6 0,ir k5,.la 10 0,jQ a3,ir a3.l.length,ir k5,od x10.iC,ir x10.iC.l.length,ir nV,v52,iv (((([]:List Int)++x43.l)++x45.l).length:Int),ir xo] H53 [(4,(bS.af a0)),(5,(jR.af a1)),(6,(iI.af a2)),(10,(jz.af x10))] ?_ (jd hS54 [(113,0)])
 refine qg ?_
 refine jc ?_
 refine ab ?_
 exact ⟨by omega,(by exact lC (P:=pS a0) dS hEe ⟨by omega,by omega⟩),(jd hS54 [(113,0)])⟩
 refine ao ?_
 refine wz [.la 4 0,.la 5 0,.la 6 0,ir k5,.la 10 0,jQ a3,ir a3.l.length,ir k5,od x10.iC,ir x10.iC.l.length,ir nV] H53 [(4,(bS.af a0)),(5,(jR.af a1)),(6,(iI.af a2)),(10,(jz.af x10))] ?_
 refine qg ?_
 refine jc ?_
 refine ab ?_
 have hS65:=Sep.pick hS54 [] 1 dX dX
 exact ⟨by omega,H53,(by exact lC (P:=sY a0) dS hBo hMbT),(by exact lC (P:=λs:Row Int=>∀ e∈s.l,pS a0 e) dS hRo2 (Uo hEe dT)),hS65,atR⟩
 refine ao ?_
 refine wz [.la 4 0,.la 5 0,.la 6 0,jQ a3,ir a3.l.length,ir k5] H24 [(4,(bS.af a0)),(5,(jR.af a1)),(6,(iI.af a2))] ?_
 refine qg ?_
 refine jc ?_
 refine ab ?_
 exact ⟨by omega,H24,(by exact lC (P:=uS a0) dS hTr (Mv dT dT dT dT hBo dT hRo2)),hS25,atR⟩
 refine ao ?_
 refine wz [] H6 [] ?_
 refine a6 ?_
 exact xB ⟨true,eC,rfl⟩
def P40 (_a0:bS) (_a1:iL) (v:AV):Prop:=∃ r0:Row Int,((mL r0.l/\∀ y,y∈r0.l↔m3 _a0 _a1.dO.l y))/\v=jV r0
def t40 (a0:bS) (a1:iL) (q1:sY a0 a1) (q3:a0.elems.l.length<=40):Ct 40 [.agg (bS.af a0),.agg (iL.af a1)] (P40 a0 a1):=by
 refine ja Lf ?_
 refine bR ?_
 refine aQ ?_
 refine kE (λh1=>?_) (λh1=>?_)
 refine aK ?_
 refine kE (λh2=>?_) (λh2=>?_)
 refine aq ?_
 exact xG ⟨(kI:Row Int),fh,rfl⟩
 refine aA ?_
 refine aU ?_
 refine aQ ?_
 have hL3:=a1.dO.lk
 refine jb a1.dO ?_
 refine aL ?_
 have hNk4:=a1.dO.lk
 refine iF a1.dO.l.length (λk4 e h=>∃ l5:List Bool,(l5.length=40)/\(∀ y,mC l5 y↔m3 a0 (a1.dO.l.take k4) y)/\At [2,5,20,21,22] [.la 2 0,.la 5 0,ld a1.dO,ir a1.dO.l.length,ir k4] aT.empty [(2,(bS.af a0)),(5,(List.map AV.bool l5))] e h) ?_ (k0:=0) dT ⟨((List.replicate 40 false)),fz,(by exact PS),atR⟩
 rintro k4 e h hkk4 ⟨l5,hLb,hTm,hA⟩
 refine aO ?_
 refine iV (λh6=>?_) (λh6=>?_)
 refine b5 ?_
 have hx7:k4<a1.dO.l.length:=by omega
 refine kH k4 a1.dO hx7 ?_
 generalize hqx8:a1.dO.l[k4]=x8
 have hinx8:x8∈a1.dO.l:=by rw [<- hqx8]; exact List.getElem_mem _
 have hgx8:=q1.1 x8 hinx8; have hgax8:=hgx8.1; have hgbx8:=hgx8.2
 refine ba ?_
 refine qd ?_
 refine cu ?_
 refine rC (t54 a0 x8.elem) ?_
 rintro _ ⟨r10,hc9,rfl⟩
 have hK:=hc9
 refine vx (λh11=>?_) (λh11=>?_)
 have hk12:(((x8.elem).toNat:Nat):Int)=x8.elem:=Int.toNat_of_nonneg dP
 have hx13:(x8.elem).toNat<l5.length:=by first | omega | (simp<;>omega) | (simp_all; omega)
 refine iN rfl rfl (λ_=>yK (k:=(x8.elem).toNat) rfl rfl rfl rfl rfl (congrArg (AV.int .i64) hk12.symm) (by have:=hx13; first | omega | (simp at this; omega))) ?_
 refine iN rfl rfl (λ_=>yG (l:=l5) (b:=true) rfl rfl rfl rfl rfl rfl hx13) ?_
 refine rN ?_
 refine qg ?_
 refine jc ?_
 refine ab ?_
 exact ⟨by omega,((l5.set ((x8.elem).toNat) true)),eH,eX,atR⟩
 have hk14:(((x8.elem).toNat:Nat):Int)=x8.elem:=Int.toNat_of_nonneg dP
 have hx15:(x8.elem).toNat<l5.length:=by first | omega | (simp<;>omega) | (simp_all; omega)
 refine iN rfl rfl (λ_=>yK (k:=(x8.elem).toNat) rfl rfl rfl rfl rfl (congrArg (AV.int .i64) hk14.symm) (by have:=hx15; first | omega | (simp at this; omega))) ?_
 refine iN rfl rfl (λ_=>yG (l:=l5) (b:=false) rfl rfl rfl rfl rfl rfl hx15) ?_
 refine rN ?_
 refine qg ?_
 refine jc ?_
 refine ab ?_
 exact ⟨by omega,((l5.set ((x8.elem).toNat) false)),eH,eX,atR⟩
 refine ao ?_
 refine aU ?_
 refine cy ?_
 refine iz rfl (λ_=>AA (n:=40) (l:=l5) rfl rfl rfl rfl rfl dP) ?_
 refine aL ?_
 have hS16:=Sep.mn j1 1
 refine iF 40 (λmF e h=>∃ v18:AV,∃ l19:List Int,∃ H20:aT,(l19.length<=0+mF)/\(si l5 (λ_=>True) mF l19)/\Sep H20 (ot v18 l19::[])/\At [8,35,36] [v18,.agg (List.map AV.bool l5),ir mF] H20 [] e h) ?_ (k0:=0) dT ⟨iE,(([]:List Int)),aT.empty,ew,(by exact C9),hS16,atR⟩
 rintro mF e h hkk17 ⟨v18,l19,H20,hl22,hTk,hS21,hA⟩
 refine aO ?_
 refine iV (λh23=>?_) (λh23=>?_)
 refine ap ?_
 refine wz [v18,.agg (List.map AV.bool l5),ir mF] H20 [] ?_ (jd hS21 [(8,0)])
 refine bT ?_
 have hx24:mF<l5.length:=by first | omega | (simp<;>omega) | (simp_all; omega)
 obtain ⟨b25,hqb25⟩:∃ x,l5[mF]=x:=⟨_,rfl⟩
 refine kS (b:=b25) rfl (λ_=>C1 (k:=mF) (l:=l5) rfl rfl rfl rfl rfl rfl rfl (by have:=hx24; first | omega | (simp at this; omega)) hx24 hqb25) (λh26=>?_) (λh26=>?_)
 refine oV ?_
 refine cR ?_
 refine ce ?_
 refine jq rfl (jZ (i:=0) [((mF:Int))] hS21 rfl rfl rfl rfl rfl rfl rfl rfl rfl (λ_=>rfl) (.inl rfl) dW (λ_=>rfl)) ?_
 rintro v27 H28 hS29
 refine ab ?_
 refine wz [v27,.agg (List.map AV.bool l5),ir mF] H28 [] ?_ (jd hS29 [(8,0)])
 refine qg ?_
 refine jc ?_
 refine ab ?_
 exact ⟨by omega,v27,((l19++[((mF:Int))])),H28,dP,eD,hS29,(jd hS29 [(8,0)])⟩
 refine c9 ?_
 refine aA ?_
 refine wz [v18,.agg (List.map AV.bool l5),ir mF] H20 [] ?_ (jd hS21 [(8,0)])
 refine qg ?_
 refine jc ?_
 refine ab ?_
 exact ⟨by omega,v18,l19,H20,dP,eD,hS21,(jd hS21 [(8,0)])⟩
 refine ao ?_
 refine wz [v18] H20 [] ?_ (jd hS21 [(8,0)])
 refine bv ?_
 obtain ⟨r30,hl31,hf32⟩:=lS (H:=H20) (i:=0) (l:=l19) (enc:=iP) hS21 rfl dQ
 have hlq:=hl31; have hln34:=congrArg List.length hl31
 have hz33:∀ m,freeze false { H20 with iq:=[] } (m+2) v18=some (jV r30):=λm=>hf32 _ _ (λ_=>rfl)
 exact ⟨v18,(kY (vs:=[v18]) rfl (iM (Sep.arg (i:=0) hS21 rfl) jP)),jV r30,(show freeze false { H20 with iq:=[] } 8 v18=some (jV r30) by simp only [FZ,hz33]),r30,fh,rfl⟩
 refine cr ?_
 refine aA ?_
 refine aU ?_
 refine aQ ?_
 have hL35:=a1.dO.lk
 refine jb a1.dO ?_
 refine aL ?_
 have hNk36:=a1.dO.lk
 refine iF a1.dO.l.length (λta e h=>∃ l37:List Bool,(l37.length=40)/\(∀ y,mC l37 y↔m3 a0 (a1.dO.l.take ta) y)/\At [2,5,20,21,22] [.la 2 0,.la 5 0,ld a1.dO,ir a1.dO.l.length,ir ta] aT.empty [(2,(bS.af a0)),(5,(List.map AV.bool l37))] e h) ?_ (k0:=0) dT ⟨((List.replicate 40 false)),fz,(by exact PS),atR⟩
 rintro ta e h hkk36 ⟨l37,hLb,hTm,hA⟩
 refine aO ?_
 refine iV (λh38=>?_) (λh38=>?_)
 refine b5 ?_
 have hx39:ta<a1.dO.l.length:=by omega
 refine kH ta a1.dO hx39 ?_
 generalize hqx40:a1.dO.l[ta]=x40
 have hinx40:x40∈a1.dO.l:=by rw [<- hqx40]; exact List.getElem_mem _
 have hgx40:=q1.1 x40 hinx40; have hgax40:=hgx40.1; have hgbx40:=hgx40.2
 refine ba ?_
 refine qd ?_
 refine cu ?_
 refine rC (t54 a0 x40.elem) ?_
 rintro _ ⟨r42,hc41,rfl⟩
 have hK:=hc41
 refine vx (λh43=>?_) (λh43=>?_)
 have hk44:(((x40.elem).toNat:Nat):Int)=x40.elem:=Int.toNat_of_nonneg dP
 have hx45:(x40.elem).toNat<l37.length:=by first | omega | (simp<;>omega) | (simp_all; omega)
 refine iN rfl rfl (λ_=>yK (k:=(x40.elem).toNat) rfl rfl rfl rfl rfl (congrArg (AV.int .i64) hk44.symm) (by have:=hx45; first | omega | (simp at this; omega))) ?_
 refine iN rfl rfl (λ_=>yG (l:=l37) (b:=true) rfl rfl rfl rfl rfl rfl hx45) ?_
 refine rN ?_
 refine qg ?_
 refine jc ?_
 refine ab ?_
 exact ⟨by omega,((l37.set ((x40.elem).toNat) true)),eH,eX,atR⟩
 have hk46:(((x40.elem).toNat:Nat):Int)=x40.elem:=Int.toNat_of_nonneg dP
 have hx47:(x40.elem).toNat<l37.length:=by first | omega | (simp<;>omega) | (simp_all; omega)
 refine iN rfl rfl (λ_=>yK (k:=(x40.elem).toNat) rfl rfl rfl rfl rfl (congrArg (AV.int .i64) hk46.symm) (by have:=hx47; first | omega | (simp at this; omega))) ?_
 refine iN rfl rfl (λ_=>yG (l:=l37) (b:=false) rfl rfl rfl rfl rfl rfl hx47) ?_
 refine rN ?_
 refine qg ?_
 refine jc ?_
 refine ab ?_
 exact ⟨by omega,((l37.set ((x40.elem).toNat) false)),eH,eX,atR⟩
 refine ao ?_
 refine aU ?_
 refine cy ?_
 refine iz rfl (λ_=>AA (n:=40) (l:=l37) rfl rfl rfl rfl rfl dP) ?_
 refine aL ?_
 have hS48:=Sep.mn j1 1
 refine iF 40 (λs8 e h=>∃ v50:AV,∃ l51:List Int,∃ H52:aT,(l51.length<=0+s8)/\(si l37 (λ_=>True) s8 l51)/\Sep H52 (ot v50 l51::[])/\At [8,35,36] [v50,.agg (List.map AV.bool l37),ir s8] H52 [] e h) ?_ (k0:=0) dT ⟨iE,(([]:List Int)),aT.empty,ew,(by exact C9),hS48,atR⟩
 rintro s8 e h hkk49 ⟨v50,l51,H52,hl54,hTk,hS53,hA⟩
 refine aO ?_
 refine iV (λh55=>?_) (λh55=>?_)
 refine ap ?_
 refine wz [v50,.agg (List.map AV.bool l37),ir s8] H52 [] ?_ (jd hS53 [(8,0)])
 refine bT ?_
 have hx56:s8<l37.length:=by first | omega | (simp<;>omega) | (simp_all; omega)
 obtain ⟨b57,hqb57⟩:∃ x,l37[s8]=x:=⟨_,rfl⟩
 refine kS (b:=b57) rfl (λ_=>C1 (k:=s8) (l:=l37) rfl rfl rfl rfl rfl rfl rfl (by have:=hx56; first | omega | (simp at this; omega)) hx56 hqb57) (λh58=>?_) (λh58=>?_)
 refine oV ?_
 refine cR ?_
 refine ce ?_
 refine jq rfl (jZ (i:=0) [((s8:Int))] hS53 rfl rfl rfl rfl rfl rfl rfl rfl rfl (λ_=>rfl) (.inl rfl) dW (λ_=>rfl)) ?_
 rintro v59 H60 hS61
 refine ab ?_
 refine wz [v59,.agg (List.map AV.bool l37),ir s8] H60 [] ?_ (jd hS61 [(8,0)])
 refine qg ?_
 refine jc ?_
 refine ab ?_
 exact ⟨by omega,v59,((l51++[((s8:Int))])),H60,dP,eD,hS61,(jd hS61 [(8,0)])⟩
 refine c9 ?_
 refine aA ?_
 refine wz [v50,.agg (List.map AV.bool l37),ir s8] H52 [] ?_ (jd hS53 [(8,0)])
 refine qg ?_
 refine jc ?_
 refine ab ?_
 exact ⟨by omega,v50,l51,H52,dP,eD,hS53,(jd hS53 [(8,0)])⟩
 refine ao ?_
 refine wz [v50] H52 [] ?_ (jd hS53 [(8,0)])
 refine bv ?_
 obtain ⟨r62,hl63,hf64⟩:=lS (H:=H52) (i:=0) (l:=l51) (enc:=iP) hS53 rfl dQ
 have hlq:=hl63; have hln66:=congrArg List.length hl63
 have hz65:∀ m,freeze false { H52 with iq:=[] } (m+2) v50=some (jV r62):=λm=>hf64 _ _ (λ_=>rfl)
 exact ⟨v50,(kY (vs:=[v50]) rfl (iM (Sep.arg (i:=0) hS53 rfl) jP)),jV r62,(show freeze false { H52 with iq:=[] } 8 v50=some (jV r62) by simp only [FZ,hz65]),r62,fh,rfl⟩
def P16 (_a0:bS) (_a1:jz) (_a2:Int) (v:AV):Prop:=∃ r0:Row Int,∃ r1:Row Int,∃ r2:Int,((mL r0.l/\∀ y,y∈r0.l↔rm _a0 _a1 _a2 y))/\v=.je [jV r0,jV r1,iv r2]
def t16 (a0:bS) (a1:jz) (a2:Int) (q1:uS a0 a1) (q2:ue a1) (q3:a0.elems.l.length<=40) (q4:a2<=9223372036854775807):Ct 16 [.agg (bS.af a0),.agg (jz.af a1),iv a2] (P16 a0 a1 a2):=by
 refine ja L9 ?_
 have hp1:=q1.pos; have hp2:=q1.Vy; have hp3:=q1.zon; have hp4:=q1.roa; have hp5:=q2.Dw
 refine aa ?_
 refine cF ?_
 refine bN ?_
 refine iV (λh1=>?_) (λh1=>?_)
 refine bF ?_
 refine co ?_
 exact gj
 refine aK ?_
 have hL2:=a1.iC.lk
 refine jb a1.iC ?_
 refine iY (λh3=>?_) (λh3=>?_)
 refine co ?_
 exact gj
 refine aA ?_
 refine aW ?_
 have hL4:=a1.iC.lk
 refine jb a1.iC ?_
 have hL5:=a1.iC.lk
 refine jT ?_
 obtain ⟨m6,hqm6⟩:∃ m:Int,(if (a1.iC.l.length:Int) - 1<a2 then (a1.iC.l.length:Int) - 1 else a2)=m:=⟨_,rfl⟩
 have hem6:m6=min a2 ((a1.iC.l.length:Int) - 1):=by rw [<- hqm6,Int.min_def]; split<;>split<;>omega
 have him6:(m6<=a2/\m6<=(a1.iC.l.length:Int) - 1)/\(m6=a2\/m6=(a1.iC.l.length:Int) - 1):=by rw [<- hqm6]; split<;>omega
 refine iz (v:=iv m6) rfl (λ_=>(by subst hqm6; rfl)) ?_
 clear hqm6
 refine oV ?_
 refine jT ?_
 obtain ⟨m7,hqm7⟩:∃ m:Int,(if 0 > a2 - 1 then 0 else a2 - 1)=m:=⟨_,rfl⟩
 have hem7:m7=max (a2 - 1) 0:=by rw [<- hqm7,Int.max_def]; split<;>split<;>omega
 have him7:(m7>=a2 - 1/\m7>=0)/\(m7=a2 - 1\/m7=0):=by rw [<- hqm7]; split<;>omega
 refine iz (v:=iv m7) rfl (λ_=>(by subst hqm7; rfl)) ?_
 clear hqm7
 refine aj ?_
 have hL8:=a1.iC.lk
 refine jb a1.iC ?_
 have hL9:=a1.iC.lk
 refine jT ?_
 obtain ⟨m10,hqm10⟩:∃ m:Int,(if (a1.iC.l.length:Int) - 1<m7 then (a1.iC.l.length:Int) - 1 else m7)=m:=⟨_,rfl⟩
 have hem10:m10=min m7 ((a1.iC.l.length:Int) - 1):=by rw [<- hqm10,Int.min_def]; split<;>split<;>omega
 have him10:(m10<=m7/\m10<=(a1.iC.l.length:Int) - 1)/\(m10=m7\/m10=(a1.iC.l.length:Int) - 1):=by rw [<- hqm10]; split<;>omega
 refine iz (v:=iv m10) rfl (λ_=>(by subst hqm10; rfl)) ?_
 clear hqm10
 refine aj ?_
 refine aL ?_
 refine iF 2 (λiU e h=>∃ l12:List Bool,(l12.length=40)/\(∀ y,mC l12 y↔pJ a0 a1 [m6,m10] iU y)/\At [2,3,4,9,43,44,45] [iv a2,.la 3 0,.la 4 0,.la 9 0,.sl [[iv m6],[iv m10]] (.exact 2),iv 2,ir iU] aT.empty [(3,(bS.af a0)),(4,(jz.af a1)),(9,(List.map AV.bool l12))] e h) ?_ (k0:=0) dT ⟨((List.replicate 40 false)),fz,(by exact SX),atR⟩
 rintro iU e h hkk11 ⟨l12,hLb,hS0,hA⟩
 refine aO ?_
 refine iV (λh13=>?_) (λh13=>?_)
 refine b5 ?_
 have hx14:iU<(⟨[m6,m10],.exact 2,nM,rfl,lN⟩:Row Int).l.length:=by show iU<2; omega
 refine iz rfl (λ_=>rF (n:=iU) (r:=(⟨[m6,m10],.exact 2,nM,rfl,lN⟩:Row Int)) (enc:=iP) rfl rfl rfl rfl rfl hx14 rfl) ?_
 generalize hqx15:(⟨[m6,m10],.exact 2,nM,rfl,lN⟩:Row Int).l[iU]=x15
 have hzx15:=aee hqx15 rfl; have hltx15:=U6 hzx15
 refine bo ?_
 refine aH ?_
 refine a7 ?_
 have hx16:(x15).toNat<a1.iC.l.length:=by omega
 refine iN rfl rfl (λ_=>jh (n:=x15) (r:=a1.iC) (enc:=iL.af) rfl rfl rfl rfl rfl dT hx16 rfl) ?_
 generalize hqx17:a1.iC.l[(x15).toNat]=x17
 have hinx17:x17∈a1.iC.l:=by rw [<- hqx17]; exact List.getElem_mem _
 have hMbX:=q1.Dw x17 hinx17; have hsx17:=q2.tra x17 hinx17
 refine rV ?_
 refine rC (t40 a0 x17 dK dK) ?_
 rintro _ ⟨r19,hc18,rfl⟩
 have hLi:=hc18
 have hLi:=hc18; have hgL1:=Ku hc18 hMbX
 have hL20:=r19.lk
 refine Ca r19 ?_
 refine aI ?_
 refine qb ?_
 have hNk21:=r19.lk
 refine iF r19.l.length (λkq e h=>∃ l22:List Bool,(l22.length=40)/\(∀ y,mC l22 y↔pJ a0 a1 [m6,m10] iU y\/y∈(r19.l).take kq)/\At [2,3,4,9,43,44,45,55,56,57] [iv a2,.la 3 0,.la 4 0,.la 9 0,.sl [[iv m6],[iv m10]] (.exact 2),iv 2,ir iU,jV r19,ir r19.l.length,ir kq] aT.empty [(3,(bS.af a0)),(4,(jz.af a1)),(9,(List.map AV.bool l22))] e h) ?_ (k0:=0) dT ⟨l12,fz,(by exact F2 hS0),atR⟩
 rintro kq e h hkk21 ⟨l22,hLb,hS1,hA⟩
 refine aO ?_
 refine iV (λh23=>?_) (λh23=>?_)
 refine b5 ?_
 have hx24:kq<r19.l.length:=by omega
 refine kH kq r19 hx24 ?_
 generalize hqx25:r19.l[kq]=x25
 have hinx25:x25∈r19.l:=by rw [<- hqx25]; exact List.getElem_mem _
 first | have hgx25:=hgS1 x25 hinx25 | have hgx25:=hgL1 x25 hinx25
 have hgax25:=hgx25.1; have hgbx25:=hgx25.2
 refine bo ?_
 refine aM ?_
 have hk26:(((x25).toNat:Nat):Int)=x25:=Int.toNat_of_nonneg dP
 have hx27:(x25).toNat<l22.length:=by first | omega | (simp<;>omega) | (simp_all; omega)
 refine iz rfl (λ_=>yK (k:=(x25).toNat) rfl rfl rfl rfl rfl (congrArg (AV.int .i64) hk26.symm) (by have:=hx27; first | omega | (simp at this; omega))) ?_
 refine iz rfl (λ_=>yG (l:=l22) (b:=true) rfl rfl rfl rfl rfl rfl hx27) ?_
 refine cV ?_
 refine jc ?_
 refine ab ?_
 exact ⟨by omega,((l22.set ((x25).toNat) true)),eH,(by exact Ka dS hS1 dT dT),atR⟩
 refine ao ?_
 refine qg ?_
 refine jc ?_
 refine ab ?_
 exact ⟨by omega,l22,eH,(by exact JI hS1 dT dS dS hLi),atR⟩
 refine ao ?_
 refine aU ?_
 refine aU ?_
 refine aW ?_
 have hL28:=a1.iC.lk
 refine jb a1.iC ?_
 refine iV (λh29=>?_) (λh29=>?_)
 refine az ?_
 refine aW ?_
 have hx30:(a2).toNat<a1.steps.l.length:=by omega
 refine iz rfl (λ_=>jh (n:=a2) (r:=a1.steps) (enc:=(kp iP)) rfl rfl rfl rfl rfl dT hx30 rfl) ?_
 generalize hqx31:a1.steps.l[(a2).toNat]=x31
 have hinx31:x31∈a1.steps.l:=by rw [<- hqx31]; exact List.getElem_mem _
 have hsx31:=q2.row x31 hinx31; have hgS1:=q1.row x31 hinx31
 refine oV ?_
 have hL32:=x31.lk
 refine jb x31 ?_
 refine aL ?_
 have hNk33:=x31.lk
 refine iF x31.l.length (λkW e h=>∃ l34:List Bool,(l34.length=40)/\(∀ y,mC l34 y↔pJ a0 a1 [m6,m10] 2 y\/y∈(x31.l).take kW)/\At [2,4,9,74,75,76] [iv a2,.la 4 0,.la 9 0,jV x31,ir x31.l.length,ir kW] aT.empty [(4,(jz.af a1)),(9,(List.map AV.bool l34))] e h) ?_ (k0:=0) dT ⟨l12,fz,(by exact F2 (Xd hS0 dT dT)),atR⟩
 rintro kW e h hkk33 ⟨l34,hLb,hS2,hA⟩
 refine aO ?_
 refine iV (λh35=>?_) (λh35=>?_)
 refine b5 ?_
 have hx36:kW<x31.l.length:=by omega
 refine kH kW x31 hx36 ?_
 generalize hqx37:x31.l[kW]=x37
 have hinx37:x37∈x31.l:=by rw [<- hqx37]; exact List.getElem_mem _
 first | have hgx37:=hgS1 x37 hinx37 | have hgx37:=hgL1 x37 hinx37
 have hgax37:=hgx37.1; have hgbx37:=hgx37.2
 refine bo ?_
 refine aM ?_
 have hk38:(((x37).toNat:Nat):Int)=x37:=Int.toNat_of_nonneg dP
 have hx39:(x37).toNat<l34.length:=by first | omega | (simp<;>omega) | (simp_all; omega)
 refine iz rfl (λ_=>yK (k:=(x37).toNat) rfl rfl rfl rfl rfl (congrArg (AV.int .i64) hk38.symm) (by have:=hx39; first | omega | (simp at this; omega))) ?_
 refine iz rfl (λ_=>yG (l:=l34) (b:=true) rfl rfl rfl rfl rfl rfl hx39) ?_
 refine cV ?_
 refine jc ?_
 refine ab ?_
 exact ⟨by omega,((l34.set ((x37).toNat) true)),eH,(by exact Ka dS hS2 dT dT),atR⟩
 refine ao ?_
 refine qd ?_
 refine bf ?_
 have hx40:(a2).toNat<a1.lj.l.length:=by omega
 refine iN rfl rfl (λ_=>jh (n:=a2) (r:=a1.lj) (enc:=(kp iP)) rfl rfl rfl rfl rfl dT hx40 rfl) ?_
 generalize hqx41:a1.lj.l[(a2).toNat]=x41
 refine a7 ?_
 have hx42:(a2).toNat<a1.roads.l.length:=by omega
 refine iN rfl rfl (λ_=>jh (n:=a2) (r:=a1.roads) (enc:=iP) rfl rfl rfl rfl rfl dT hx42 rfl) ?_
 generalize hqx43:a1.roads.l[(a2).toNat]=x43
 have hinx43:x43∈a1.roads.l:=by rw [<- hqx43]; exact List.getElem_mem _
 have hzx43:=True.intro
 refine ay ?_
 refine aI ?_
 refine aU ?_
 refine cy ?_
 refine iz rfl (λ_=>AA (n:=40) (l:=l34) rfl rfl rfl rfl rfl dP) ?_
 refine aL ?_
 have hS44:=Sep.mn j1 1
 refine iF 40 (λlH e h=>∃ v46:AV,∃ l47:List Int,∃ H48:aT,(l47.length<=0+lH)/\(si l34 (λ_=>True) lH l47)/\Sep H48 (ot v46 l47::[])/\At [14,15,18,93,94] [jV x41,iv x43,v46,.agg (List.map AV.bool l34),ir lH] H48 [] e h) ?_ (k0:=0) dT ⟨iE,(([]:List Int)),aT.empty,ew,(by exact C9),hS44,atR⟩
 rintro lH e h hkk45 ⟨v46,l47,H48,hl50,hTk,hS49,hA⟩
 refine aO ?_
 refine iV (λh51=>?_) (λh51=>?_)
 refine ap ?_
 refine wz [jV x41,iv x43,v46,.agg (List.map AV.bool l34),ir lH] H48 [] ?_ (jd hS49 [(18,0)])
 refine bT ?_
 have hx52:lH<l34.length:=by first | omega | (simp<;>omega) | (simp_all; omega)
 obtain ⟨b53,hqb53⟩:∃ x,l34[lH]=x:=⟨_,rfl⟩
 refine kS (b:=b53) rfl (λ_=>C1 (k:=lH) (l:=l34) rfl rfl rfl rfl rfl rfl rfl (by have:=hx52; first | omega | (simp at this; omega)) hx52 hqb53) (λh54=>?_) (λh54=>?_)
 refine oV ?_
 refine cR ?_
 refine ce ?_
 refine jq rfl (jZ (i:=0) [((lH:Int))] hS49 rfl rfl rfl rfl rfl rfl rfl rfl rfl (λ_=>rfl) (.inl rfl) dW (λ_=>rfl)) ?_
 rintro v55 H56 hS57
 refine ab ?_
 refine wz [jV x41,iv x43,v55,.agg (List.map AV.bool l34),ir lH] H56 [] ?_ (jd hS57 [(18,0)])
 refine qg ?_
 refine jc ?_
 refine ab ?_
 exact ⟨by omega,v55,((l47++[((lH:Int))])),H56,dP,eD,hS57,(jd hS57 [(18,0)])⟩
 refine c9 ?_
 refine aA ?_
 refine wz [jV x41,iv x43,v46,.agg (List.map AV.bool l34),ir lH] H48 [] ?_ (jd hS49 [(18,0)])
 refine qg ?_
 refine jc ?_
 refine ab ?_
 exact ⟨by omega,v46,l47,H48,dP,eD,hS49,(jd hS49 [(18,0)])⟩
 refine ao ?_
 refine wz [jV x41,iv x43,v46] H48 [] ?_ (jd hS49 [(18,0)])
 refine ae ?_
 refine ck ?_
 obtain ⟨r58,hl59,hf60⟩:=lS (H:=H48) (i:=0) (l:=l47) (enc:=iP) hS49 rfl dQ
 have hlq:=hl59; have hln62:=congrArg List.length hl59
 have hz61:∀ m,freeze false { H48 with iq:=[] } (m+2) v46=some (jV r58):=λm=>hf60 _ _ (λ_=>rfl)
 exact ⟨.je [v46,jV x41,iv x43],(kY (vs:=[v46,jV x41,iv x43]) rfl (iM (Sep.arg (i:=0) hS49 rfl) (iM rfl (iM rfl jP)))),.je [jV r58,jV x41,iv x43],(show freeze false { H48 with iq:=[] } 8 (.je [v46,jV x41,iv x43])=some (.je [jV r58,jV x41,iv x43]) by simp only [FZ,hz61]),r58,x41,x43,eB,rfl⟩
 refine aC ?_
 refine aU ?_
 refine cy ?_
 refine iz rfl (λ_=>AA (n:=40) (l:=l12) rfl rfl rfl rfl rfl dP) ?_
 refine aL ?_
 have hS63:=Sep.mn j1 1
 refine iF 40 (λsE e h=>∃ v65:AV,∃ l66:List Int,∃ H67:aT,(l66.length<=0+sE)/\(si l12 (λ_=>True) sE l66)/\Sep H67 (ot v65 l66::[])/\At [14,15,18,93,94] [iE,iv (-1),v65,.agg (List.map AV.bool l12),ir sE] H67 [] e h) ?_ (k0:=0) dT ⟨iE,(([]:List Int)),aT.empty,ew,(by exact C9),hS63,atR⟩
 rintro sE e h hkk64 ⟨v65,l66,H67,hl69,hTk,hS68,hA⟩
 refine aO ?_
 refine iV (λh70=>?_) (λh70=>?_)
 refine ap ?_
 refine wz [iE,iv (-1),v65,.agg (List.map AV.bool l12),ir sE] H67 [] ?_ (jd hS68 [(18,0)])
 refine bT ?_
 have hx71:sE<l12.length:=by first | omega | (simp<;>omega) | (simp_all; omega)
 obtain ⟨b72,hqb72⟩:∃ x,l12[sE]=x:=⟨_,rfl⟩
 refine kS (b:=b72) rfl (λ_=>C1 (k:=sE) (l:=l12) rfl rfl rfl rfl rfl rfl rfl (by have:=hx71; first | omega | (simp at this; omega)) hx71 hqb72) (λh73=>?_) (λh73=>?_)
 refine oV ?_
 refine cR ?_
 refine ce ?_
 refine jq rfl (jZ (i:=0) [((sE:Int))] hS68 rfl rfl rfl rfl rfl rfl rfl rfl rfl (λ_=>rfl) (.inl rfl) dW (λ_=>rfl)) ?_
 rintro v74 H75 hS76
 refine ab ?_
 refine wz [iE,iv (-1),v74,.agg (List.map AV.bool l12),ir sE] H75 [] ?_ (jd hS76 [(18,0)])
 refine qg ?_
 refine jc ?_
 refine ab ?_
 exact ⟨by omega,v74,((l66++[((sE:Int))])),H75,dP,eD,hS76,(jd hS76 [(18,0)])⟩
 refine c9 ?_
 refine aA ?_
 refine wz [iE,iv (-1),v65,.agg (List.map AV.bool l12),ir sE] H67 [] ?_ (jd hS68 [(18,0)])
 refine qg ?_
 refine jc ?_
 refine ab ?_
 exact ⟨by omega,v65,l66,H67,dP,eD,hS68,(jd hS68 [(18,0)])⟩
 refine ao ?_
 refine wz [iE,iv (-1),v65] H67 [] ?_ (jd hS68 [(18,0)])
 refine ae ?_
 refine ck ?_
 obtain ⟨r77,hl78,hf79⟩:=lS (H:=H67) (i:=0) (l:=l66) (enc:=iP) hS68 rfl dQ
 have hlq:=hl78; have hln81:=congrArg List.length hl78
 have hz80:∀ m,freeze false { H67 with iq:=[] } (m+2) v65=some (jV r77):=λm=>hf79 _ _ (λ_=>rfl)
 exact ⟨.je [v65,iE,iv (-1)],(kY (vs:=[v65,iE,iv (-1)]) rfl (iM (Sep.arg (i:=0) hS68 rfl) (iM rfl (iM rfl jP)))),.je [jV r77,iE,iv (-1)],(show freeze false { H67 with iq:=[] } 8 (.je [v65,iE,iv (-1)])=some (.je [jV r77,iE,iv (-1)]) by simp only [FZ,hz80]),r77,(kI:Row Int),(-1),eB,rfl⟩
def P17 (_a0:Row Int) (_a1:jo Int) (v:AV):Prop:=∃ r0:Bool,((_a0.l = _a1.l->r0=true))/\v=.bool r0
def t17 (a0:Row Int) (a1:jo Int) :Ct 17 [jV a0,py a1] (P17 a0 a1):=by
 refine ja Lv ?_
 refine bN ?_
 have hL1:=a0.lk
 refine jb a0 ?_
 refine oV ?_
 have hL2:=a1.lk
 refine iz rfl (λ_=>pP (r:=a1) (enc:=iP) rfl rfl rfl rfl rfl rfl) ?_
 refine kE (λh3=>?_) (λh3=>?_)
 refine bu ?_
 exact xB ⟨false,fc,rfl⟩
 refine aC ?_
 refine aX ?_
 have hNk4:=a0.lk
 refine iF a0.l.length (λk4 e h=>At [0,1,5] [jV a0,py a1,ir k4] aT.empty [] e h) ?_ (k0:=0) dT atR
 rintro k4 e h hkk4 hA
 refine cZ ?_
 have hL5:=a0.lk
 refine jb a0 ?_
 refine iV (λh6=>?_) (λh6=>?_)
 refine bP ?_
 refine bX ?_
 have hx7:k4<a0.l.length:=by omega
 refine lh k4 a0 hx7 ?_
 generalize hqx8:a0.l[k4]=x8
 refine bf ?_
 have hx9:k4<a1.l.length:=by omega
 refine iN rfl rfl (λ_=>pV (n:=k4) (r:=a1) (enc:=iP) rfl rfl rfl rfl rfl hx9 rfl) ?_
 generalize hqx10:a1.l[k4]=x10
 refine rV ?_
 refine vx (λh11=>?_) (λh11=>?_)
 refine rN ?_
 refine ac ?_
 exact xB ⟨false,fc,rfl⟩
 refine cO ?_
 refine aM ?_
 refine jc ?_
 refine ab ?_
 exact gm
 refine c7 ?_
 exact xB ⟨true,fc,rfl⟩
def P41 (_a0:jz) (_a1:Int) (v:AV):Prop:=∃ r0:iL,∃ r1:Bool,(((r1=true->0<=_a1/\_a0.iC.l[(min _a1 ((_a0.iC.l.length:Int) - 1)).toNat]?=some r0)/\(r1=false->_a1<0\/_a0.iC.l.length=0)))/\v=.je [.agg (iL.af r0),.bool r1]
def t41 (a0:jz) (a1:Int) :Ct 41 [.agg (jz.af a0),iv a1] (P41 a0 a1):=by
 refine ja Ma ?_
 refine bR ?_
 refine ah ?_
 refine iV (λh1=>?_) (λh1=>?_)
 refine bF ?_
 refine co ?_
 exact gS
 refine aK ?_
 have hL2:=a0.iC.lk
 refine jb a0.iC ?_
 refine iY (λh3=>?_) (λh3=>?_)
 refine co ?_
 exact gS
 refine dE ?_
 refine bk ?_
 have hL4:=a0.iC.lk
 refine jb a0.iC ?_
 have hL5:=a0.iC.lk
 refine jT ?_
 obtain ⟨m6,hqm6⟩:∃ m:Int,(if (a0.iC.l.length:Int) - 1<a1 then (a0.iC.l.length:Int) - 1 else a1)=m:=⟨_,rfl⟩
 have hem6:m6=min a1 ((a0.iC.l.length:Int) - 1):=by rw [<- hqm6,Int.min_def]; split<;>split<;>omega
 have him6:(m6<=a1/\m6<=(a0.iC.l.length:Int) - 1)/\(m6=a1\/m6=(a0.iC.l.length:Int) - 1):=by rw [<- hqm6]; split<;>omega
 refine iz (v:=iv m6) rfl (λ_=>(by subst hqm6; rfl)) ?_
 clear hqm6
 have hx7:(m6).toNat<a0.iC.l.length:=by omega
 refine iz rfl (λ_=>jh (n:=m6) (r:=a0.iC) (enc:=iL.af) rfl rfl rfl rfl rfl dT hx7 rfl) ?_
 generalize hqx8:a0.iC.l[(m6).toNat]=x8
 refine b8 ?_
 exact xG ⟨x8,true,eV,rfl⟩
def TL:jA 86=some pj:=by rfl
def u86 {H:aT} (vs:AV) (l:List Int) (F:List jL) (hS:Sep H (ot vs l::F)) (q1:l.length<=1000000) (q2:∀ x∈l,mf x):∃ v H',jf cfg FT jA true 86 [vs] { H with iq:=[] } v H'/\(∃ lo:List Int,(lo=jG l)/\Sep H' (ot vs lo::F)/\v=.je []):=by
 obtain ⟨v,H',hc,hv,hS'⟩:=L4 TL hS q1 q2
 exact ⟨v,H',hc,_,rfl,hS',hv⟩
def S4:jA 87=some pB:=by rfl
def u87 {H:aT} (vs:AV) (l:List Int) (F:List jL) (hS:Sep H (ot vs l::F)) (q1:l.length<=1000000) (q2:∀ x∈l,mf x):∃ v H',jf cfg FT jA true 87 [vs] { H with iq:=[] } v H'/\(∃ vo:AV,∃ lo:List Int,(lo=Lib.compact l)/\Sep H' (oa iP 1 vo lo::F)/\v=vo):=by
 obtain ⟨v,H',hc,hS'⟩:=LL S4 hS q1 q2
 exact ⟨v,H',hc,v,_,rfl,hS',rfl⟩
def P42 (_a0:iR) (_a1:iL) (v:AV):Prop:=∃ r0:Row Int,((r0.l.length<=60/\(mL r0.l/\∀ y,y∈r0.l↔m3 _a0.p _a1.dO.l y)))/\v=jV r0
def t42 (a0:iR) (a1:iL) (q1:a1.dO.l.length<=60) (q2:∀ h∈a1.dO.l,pS a0.p h.elem) (q3:a0.p.elems.l.length<=40):Ct 42 [.ip (iR.af a0) 0 false,.agg (iL.af a1)] (P42 a0 a1):=by
 refine ja L8 ?_
 refine bb ?_
 refine aU ?_
 refine aQ ?_
 have hL1:=a1.dO.lk
 refine jb a1.dO ?_
 refine aL ?_
 have hS2:=Sep.mn j1 1
 have hNk3:=a1.dO.lk
 refine iF a1.dO.l.length (λk3 e h=>∃ v4:AV,∃ l5:List Int,∃ H6:aT,(l5=qj a0.p (a1.dO.l.take k3))/\(l5.length<=k3)/\Sep H6 (ot v4 l5::[])/\At [0,5,9,10,11] [.ip (iR.af a0) 0 false,v4,ld a1.dO,ir a1.dO.l.length,ir k3] H6 [] e h) ?_ (k0:=0) dT ⟨iE,(([]:List Int)),aT.empty,(by rfl),fp,hS2,atR⟩
 rintro k3 e h hkk3 ⟨v4,l5,H6,hI,hI2,hS7,hA⟩
 refine aO ?_
 refine iV (λh8=>?_) (λh8=>?_)
 refine ap ?_
 refine wz [.ip (iR.af a0) 0 false,v4,ld a1.dO,ir a1.dO.l.length,ir k3] H6 [] ?_ (jd hS7 [(5,0)])
 refine bi ?_
 have hx9:k3<a1.dO.l.length:=by omega
 refine kH k3 a1.dO hx9 ?_
 generalize hqx10:a1.dO.l[k3]=x10
 refine ba ?_
 refine aP ?_
 refine oC (t85 a0 x10.elem) ?_
 rintro _ ⟨r12,hc11,rfl⟩
 have hK:=hc11
 refine kE (λh13=>?_) (λh13=>?_)
 refine ce ?_
 refine oV ?_
 refine jq rfl (jZ (H:=H6) (i:=0) (l:=l5) (enc:=iP) [x10.elem] hS7 rfl rfl rfl rfl rfl rfl rfl rfl rfl (λ_=>rfl) (.inl rfl) dW (λ_=>rfl)) ?_
 rintro v14 H15 hS16
 refine ab ?_
 refine wz [.ip (iR.af a0) 0 false,v14,ld a1.dO,ir a1.dO.l.length,ir k3] H15 [] ?_ (jd hS16 [(5,0)])
 refine qg ?_
 refine jc ?_
 refine ab ?_
 exact ⟨by omega,v14,((l5++[x10.elem])),H15,fW,dU,hS16,(jd hS16 [(5,0)])⟩
 refine aC ?_
 refine wz [.ip (iR.af a0) 0 false,v4,ld a1.dO,ir a1.dO.l.length,ir k3] H6 [] ?_ (jd hS7 [(5,0)])
 refine qg ?_
 refine jc ?_
 refine ab ?_
 exact ⟨by omega,v4,l5,H6,fW,dU,hS7,(jd hS7 [(5,0)])⟩
 refine ao ?_
 refine wz [v4] H6 [] ?_ (jd hS7 [(5,0)])
 refine aE ?_
 have hrg:=Sa hI q2 dT
 have hS17:=Sep.pick hS7 [0] 1 dX dX
 refine kj (H:=H6) (args:=[v4]) (p:=[]) (r:=[]) rfl rfl rfl rfl rfl (iM (Sep.arg (i:=0) hS7 rfl) jP) rfl (u86 v4 l5 ([]) hS17 dK dK) ?_
 rintro _ H18 ⟨lo21,hc20,hS19,rfl⟩
 have hSo:=hc20
 have hrg2:=LU hSo dS
 have hsl2:=Li hSo
 refine oN ?_
 refine aE ?_
 have hS22:=Sep.pick hS19 [0] 1 dX dX
 refine kj (H:=H18) (args:=[v4]) (p:=[]) (r:=[]) rfl rfl rfl rfl rfl (iM (Sep.arg (i:=0) hS19 rfl) jP) rfl (u87 v4 lo21 ([]) hS22 dK dK) ?_
 rintro vo26 H23 ⟨_,lo27,hc25,hS24,rfl⟩
 have hCo:=hc25
 have hcl2:=K0 hc25
 refine ai ?_
 obtain ⟨r28,hl29,hf30⟩:=lS (H:=H23) (i:=0) (l:=lo27) (enc:=iP) hS24 rfl dQ
 have hlq:=hl29; have hln32:=congrArg List.length hl29
 have hz31:∀ m,freeze false { H23 with iq:=[] } (m+2) vo26=some (jV r28):=λm=>hf30 _ _ (λ_=>rfl)
 exact ⟨vo26,(kY (vs:=[vo26]) rfl (iM (Sep.arg (i:=0) hS24 rfl) jP)),jV r28,(show freeze false { H23 with iq:=[] } 8 vo26=some (jV r28) by simp only [FZ,hz31]),r28,(by exact ⟨by omega,Lc hI dT hSo hCo (by first | rfl | assumption)⟩),rfl⟩
end Go.Sx
namespace Go.Sx
open Go Go.Proofs
def P18 (_a0:iR) (_a1:jz) (_a2:Int) (v:AV):Prop:=∃ r0:Row Int,((mL r0.l/\∀ y,y∈r0.l↔rm _a0.p _a1 _a2 y))/\v=jV r0
def t18 (a0:iR) (a1:jz) (a2:Int) (q1:uS a0.p a1) (q2:ue a1) (q3:a0.p.elems.l.length<=40):Ct 18 [.ip (iR.af a0) 0 false,.agg (jz.af a1),iv a2] (P18 a0 a1 a2):=by
 refine ja Lt ?_
 have hp1:=q1.pos; have hp2:=q1.Vy; have hp5:=q2.Dw
 refine bb ?_
 refine cI ?_
 rintro _ H2 ⟨b1,rfl,hS3⟩
 refine ab ?_
 refine aP ?_
 have hL4:=a1.iC.lk
 refine jb a1.iC ?_
 obtain ⟨m5,hqm5⟩:∃ m:Int,(if (a1.iC.l.length:Int)<a2 then (a1.iC.l.length:Int) else a2)=m:=⟨_,rfl⟩
 have hem5:m5=min a2 (a1.iC.l.length:Int):=by rw [<- hqm5,Int.min_def]; split<;>split<;>omega
 have him5:(m5<=a2/\m5<=(a1.iC.l.length:Int))/\(m5=a2\/m5=(a1.iC.l.length:Int)):=by rw [<- hqm5]; split<;>omega
 refine iz (v:=iv m5) rfl (λ_=>(by subst hqm5; rfl)) ?_
 clear hqm5
 refine ab ?_
 refine ah ?_
 refine iz rfl (λ_=>iZ rfl rfl rfl (jF .i64 m5 1)) ?_
 refine aL ?_
 refine kF (λm10 e h=>∃ l6:List (Int×Bool),∃ n7:Int,∃ H8:aT,m10=(m5+1 - n7).toNat/\(0<=m5->m5 - 1<=n7/\n7<=m5+1)/\(lR l6)/\(∀ y∈(l6:List (Int×Bool)),mf y.1)/\(0<=m5->(l6.length:Int)<=60*(n7 - m5+1))/\(m5<0->l6.length=0)/\(0<=m5->∀ y,pa l6 y↔po a0.p a1 (m5 - 1) n7 y)/\Sep H8 (lJ b1 iK bK l6::[])/\At [0,2,4,7,8] [.ip (iR.af a0) 0 false,iv m5,.la 4 0,(.hm b1),iv n7] H8 [(4,(jz.af a1))] e h) ?_ _ _ _ ⟨([]),(IntKind.i64.wrap (m5 - 1)),H2,rfl,(by (intro hz; rw [BH hz dT]; omega)),(by simp [lR]),fp,(by (intro hz; rw [BH hz dT]; simp<;>omega)),(by (intro _; rfl)),(by (intro hz; rw [BH hz dT]; exact SE)),hS3,atR⟩
 rintro m10 e h ⟨l6,n7,H8,hmm10,hk0,hNd,hRg,hLm,hLz,hH0,hS9,hA⟩
 refine cZ ?_
 refine ux (λh11=>?_) (λh11=>?_)
 refine aj ?_
 refine kL (λh12=>?_) (λh12=>?_)
 refine oV ?_
 refine a8 ?_
 refine wz [.ip (iR.af a0) 0 false,iv m5,.la 4 0,(.hm b1),iv n7] H8 [(4,(jz.af a1))] ?_
 refine aD ?_
 refine ae ?_
 refine oC (t41 a1 n7) ?_
 rintro _ ⟨r14,r15,hc13,rfl⟩
 have hAt:=hc13
 cases r15
 refine cW ?_
 refine aC ?_
 refine wz [.ip (iR.af a0) 0 false,iv m5,.la 4 0,(.hm b1),iv n7] H8 [(4,(jz.af a1))] ?_
 refine aM ?_
 refine jc ?_
 refine ab ?_
 refine ⟨_,?_,l6,(n7+1),H8,rfl,dT,fU,fT,dT,(by first | assumption | (intro _; omega)),fD,hS9,atR⟩
 omega
 refine cW ?_
 refine az ?_
 refine ae ?_
 obtain ⟨hA1,hA2⟩:=hAt.1 rfl
 have hbm:=List.mem_of_getElem? hA2
 have hb1:=q2.tra _ hbm
 have hb2:=(q1.Dw _ hbm).1
 refine oC (t42 a0 r14 dK dK dK) ?_
 rintro _ ⟨r17,hc16,rfl⟩
 have hLil:=hc16.1; have hLie:=hc16.2
 have hLil:=hc16.1; have hLie:=hc16.2; have hgL:=λz hz=>BU (Ku hc16.2 (q1.Dw _ hbm) z hz) dT
 have hL18:=r17.lk
 refine jb r17 ?_
 refine aL ?_
 have hNk19:=r17.lk
 refine iF r17.l.length (λnh e h=>∃ l20:List (Int×Bool),∃ H21:aT,(lR l20)/\(∀ y∈(l20:List (Int×Bool)),mf y.1)/\((l20.length:Int)<=60*(n7 - m5+1)+nh)/\(∀ y,pa l20 y↔po a0.p a1 (m5 - 1) n7 y\/y∈(r17.l).take nh)/\Sep H21 (lJ b1 iK bK l20::[])/\At [0,2,4,7,8,41,42,43] [.ip (iR.af a0) 0 false,iv m5,.la 4 0,(.hm b1),iv n7,jV r17,ir r17.l.length,ir nh] H21 [(4,(jz.af a1))] e h) ?_ (k0:=0) dT ⟨l6,H8,fU,fT,dT,(by exact zI (hH0 dT)),hS9,atR⟩
 rintro nh e h hkk19 ⟨l20,H21,hNd,hRg,hLm,hH1,hS22,hA⟩
 refine aO ?_
 refine iV (λh23=>?_) (λh23=>?_)
 refine ap ?_
 refine wz [.ip (iR.af a0) 0 false,iv m5,.la 4 0,(.hm b1),iv n7,jV r17,ir r17.l.length,ir nh] H21 [(4,(jz.af a1))] ?_
 refine bi ?_
 have hx24:nh<r17.l.length:=by omega
 refine kH nh r17 hx24 ?_
 generalize hqx25:r17.l[nh]=x25
 have hinx25:x25∈r17.l:=by rw [<- hqx25]; exact List.getElem_mem _
 first | have hgx25:=hgS1 x25 hinx25 | have hgx25:=hgL x25 hinx25
 refine bo ?_
 refine bh ?_
 have hNd:lR (put x25 true l20):=DY hNd
 have hLp:((put x25 true l20)).length<=(l20).length+1:=yO
 have hRg:∀ y∈(put x25 true l20),mf y.1:=BO hRg dS
 refine jq rfl (mZ (i:=0) (ek:=iK) (ev:=bK) (l:=l20) x25 true hS22 rfl rfl rfl rfl rfl rfl pY) ?_
 rintro _ H26 ⟨rfl,hS27⟩
 refine oN ?_
 refine wz [.ip (iR.af a0) 0 false,iv m5,.la 4 0,(.hm b1),iv n7,jV r17,ir r17.l.length,ir nh] H26 [(4,(jz.af a1))] ?_
 refine qg ?_
 refine jc ?_
 refine ab ?_
 exact ⟨by omega,((put x25 true l20)),H26,fU,fT,dT,(by exact BI dS hH1),hS27,atR⟩
 refine ao ?_
 refine wz [.ip (iR.af a0) 0 false,iv m5,.la 4 0,(.hm b1),iv n7] H21 [(4,(jz.af a1))] ?_
 refine aM ?_
 refine jc ?_
 refine ab ?_
 refine ⟨_,?_,l20,(n7+1),H21,rfl,dT,fU,fT,dT,(by first | assumption | (intro _; omega)),fD,hS22,atR⟩
 omega
 refine oV ?_
 refine aJ ?_
 refine wz [iv m5,.la 4 0,(.hm b1)] H8 [(4,(jz.af a1))] ?_
 refine ah ?_
 refine kL (λh28=>?_) (λh28=>?_)
 refine bk ?_
 have hL29:=a1.steps.lk
 refine jb a1.steps ?_
 refine iV (λh30=>?_) (λh30=>?_)
 refine aN ?_
 refine aP ?_
 have hx31:(m5).toNat<a1.steps.l.length:=by omega
 refine iz rfl (λ_=>jh (n:=m5) (r:=a1.steps) (enc:=(kp iP)) rfl rfl rfl rfl rfl dT hx31 rfl) ?_
 generalize hqx32:a1.steps.l[(m5).toNat]=x32
 have hinx32:x32∈a1.steps.l:=by rw [<- hqx32]; exact List.getElem_mem _
 have hsx32:=q2.row x32 hinx32; have hgS1:=λz hz=>BU (q1.row x32 hinx32 z hz) dT
 refine oV ?_
 have hL33:=x32.lk
 refine jb x32 ?_
 refine aL ?_
 have hNk34:=x32.lk
 refine iF x32.l.length (λp8 e h=>∃ l35:List (Int×Bool),∃ H36:aT,(lR l35)/\(∀ y∈(l35:List (Int×Bool)),mf y.1)/\((l35.length:Int)<=120+p8)/\(∀ y,pa l35 y↔po a0.p a1 (m5 - 1) (m5+1) y\/y∈(x32.l).take p8)/\Sep H36 (lJ b1 iK bK l35::[])/\At [7,63,64,65] [(.hm b1),jV x32,ir x32.l.length,ir p8] H36 [] e h) ?_ (k0:=0) dT ⟨l6,H8,fU,fT,dT,(by exact zI (NN (hH0 dT) dT)),hS9,atR⟩
 rintro p8 e h hkk34 ⟨l35,H36,hNd,hRg,hLm,hH2,hS37,hA⟩
 refine aO ?_
 refine iV (λh38=>?_) (λh38=>?_)
 refine ap ?_
 refine wz [(.hm b1),jV x32,ir x32.l.length,ir p8] H36 [] ?_
 refine bi ?_
 have hx39:p8<x32.l.length:=by omega
 refine kH p8 x32 hx39 ?_
 generalize hqx40:x32.l[p8]=x40
 have hinx40:x40∈x32.l:=by rw [<- hqx40]; exact List.getElem_mem _
 first | have hgx40:=hgS1 x40 hinx40 | have hgx40:=hgL x40 hinx40
 refine bo ?_
 refine bh ?_
 have hNd:lR (put x40 true l35):=DY hNd
 have hLp:((put x40 true l35)).length<=(l35).length+1:=yO
 have hRg:∀ y∈(put x40 true l35),mf y.1:=BO hRg dS
 refine jq rfl (mZ (i:=0) (ek:=iK) (ev:=bK) (l:=l35) x40 true hS37 rfl rfl rfl rfl rfl rfl pY) ?_
 rintro _ H41 ⟨rfl,hS42⟩
 refine oN ?_
 refine wz [(.hm b1),jV x32,ir x32.l.length,ir p8] H41 [] ?_
 refine qg ?_
 refine jc ?_
 refine ab ?_
 exact ⟨by omega,((put x40 true l35)),H41,fU,fT,dT,(by exact BI dS hH2),hS42,atR⟩
 refine ao ?_
 refine wz [(.hm b1)] H36 [] ?_
 refine aE ?_
 refine sb (H:=H36) (i:=0) (l:=l35) rfl rfl rfl rfl rfl rfl (show jA 43=some lY by rfl) hS37 rfl dS dT dS ?_
 rintro r43 hRs
 refine ai ?_
 exact xG ⟨r43,ed,rfl⟩
 refine dc ?_
 refine sb (H:=H8) (i:=0) (l:=l6) rfl rfl rfl rfl rfl rfl (show jA 43=some lY by rfl) hS9 rfl dS dT dS ?_
 rintro r44 hRs
 refine ai ?_
 exact xG ⟨r44,ed,rfl⟩
 refine bB ?_
 refine dc ?_
 refine sb (H:=H8) (i:=0) (l:=l6) rfl rfl rfl rfl rfl rfl (show jA 43=some lY by rfl) hS9 rfl dS dT dS ?_
 rintro r45 hRs
 refine ai ?_
 exact xG ⟨r45,ed,rfl⟩
 refine be ?_
 refine oV ?_
 refine aJ ?_
 refine wz [iv m5,.la 4 0,(.hm b1)] H8 [(4,(jz.af a1))] ?_
 refine ah ?_
 refine kL (λh46=>?_) (λh46=>?_)
 refine bk ?_
 have hL47:=a1.steps.lk
 refine jb a1.steps ?_
 refine iV (λh48=>?_) (λh48=>?_)
 refine aN ?_
 refine aP ?_
 have hx49:(m5).toNat<a1.steps.l.length:=by omega
 refine iz rfl (λ_=>jh (n:=m5) (r:=a1.steps) (enc:=(kp iP)) rfl rfl rfl rfl rfl dT hx49 rfl) ?_
 generalize hqx50:a1.steps.l[(m5).toNat]=x50
 have hinx50:x50∈a1.steps.l:=by rw [<- hqx50]; exact List.getElem_mem _
 have hsx50:=q2.row x50 hinx50; have hgS1:=λz hz=>BU (q1.row x50 hinx50 z hz) dT
 refine oV ?_
 have hL51:=x50.lk
 refine jb x50 ?_
 refine aL ?_
 have hNk52:=x50.lk
 refine iF x50.l.length (λlP e h=>∃ l53:List (Int×Bool),∃ H54:aT,(lR l53)/\(∀ y∈(l53:List (Int×Bool)),mf y.1)/\((l53.length:Int)<=120+lP)/\(∀ y,pa l53 y↔po a0.p a1 (m5 - 1) (m5+1) y\/y∈(x50.l).take lP)/\Sep H54 (lJ b1 iK bK l53::[])/\At [7,63,64,65] [(.hm b1),jV x50,ir x50.l.length,ir lP] H54 [] e h) ?_ (k0:=0) dT ⟨l6,H8,fU,fT,dT,(by exact zI (NN (hH0 dT) dT)),hS9,atR⟩
 rintro lP e h hkk52 ⟨l53,H54,hNd,hRg,hLm,hH2,hS55,hA⟩
 refine aO ?_
 refine iV (λh56=>?_) (λh56=>?_)
 refine ap ?_
 refine wz [(.hm b1),jV x50,ir x50.l.length,ir lP] H54 [] ?_
 refine bi ?_
 have hx57:lP<x50.l.length:=by omega
 refine kH lP x50 hx57 ?_
 generalize hqx58:x50.l[lP]=x58
 have hinx58:x58∈x50.l:=by rw [<- hqx58]; exact List.getElem_mem _
 first | have hgx58:=hgS1 x58 hinx58 | have hgx58:=hgL x58 hinx58
 refine bo ?_
 refine bh ?_
 have hNd:lR (put x58 true l53):=DY hNd
 have hLp:((put x58 true l53)).length<=(l53).length+1:=yO
 have hRg:∀ y∈(put x58 true l53),mf y.1:=BO hRg dS
 refine jq rfl (mZ (i:=0) (ek:=iK) (ev:=bK) (l:=l53) x58 true hS55 rfl rfl rfl rfl rfl rfl pY) ?_
 rintro _ H59 ⟨rfl,hS60⟩
 refine oN ?_
 refine wz [(.hm b1),jV x50,ir x50.l.length,ir lP] H59 [] ?_
 refine qg ?_
 refine jc ?_
 refine ab ?_
 exact ⟨by omega,((put x58 true l53)),H59,fU,fT,dT,(by exact BI dS hH2),hS60,atR⟩
 refine ao ?_
 refine wz [(.hm b1)] H54 [] ?_
 refine aE ?_
 refine sb (H:=H54) (i:=0) (l:=l53) rfl rfl rfl rfl rfl rfl (show jA 43=some lY by rfl) hS55 rfl dS dT dS ?_
 rintro r61 hRs
 refine ai ?_
 exact xG ⟨r61,ed,rfl⟩
 refine dc ?_
 refine sb (H:=H8) (i:=0) (l:=l6) rfl rfl rfl rfl rfl rfl (show jA 43=some lY by rfl) hS9 rfl dS dT dS ?_
 rintro r62 hRs
 refine ai ?_
 exact xG ⟨r62,ed,rfl⟩
 refine bB ?_
 refine dc ?_
 refine sb (H:=H8) (i:=0) (l:=l6) rfl rfl rfl rfl rfl rfl (show jA 43=some lY by rfl) hS9 rfl dS dT dS ?_
 rintro r63 hRs
 refine ai ?_
 exact xG ⟨r63,ed,rfl⟩
def P8 (v:AV):Prop:=∃ r0:Bool,(r0=true)/\v=.bool r0
def t8 (h:aT):∃ v,jf cfg FT jA false 8 [] h v h/\P8 v:=by
 refine ⟨.bool true,⟨1,λk hk=>?_⟩,true,rfl,rfl⟩
 obtain ⟨k,rfl⟩:∃ k',k=k'+1:=⟨k - 1,by omega⟩
 rfl
end Go.Sx
