/- Proves what some functions of the program answer, by walking through them. -/
import Derived.Test.YtihofefpkjfmnaaGreatTaj
import Derived.Test.YtihofefpkjfmnaaGreatTam
import Derived.Test.YtihofefpkjfmnaaGreatTan
import Derived.Test.YtihofefpkjfmnaaGreatTao
import Derived.Test.YtihofefpkjfmnaaGreatTap
set_option linter.all false
set_option maxRecDepth 100000
set_option maxHeartbeats 0
namespace Go.Sx
open Go Go.Proofs
def WL (_a0:iS) (_a1:kz) (v:AV):Prop:=∃ r0:Row jT,(r0.l.length<=2 * _a1.steps.l.length)/\v=nV r0
def t187 (a0:iS) (a1:kz) (q1:a1.steps.l.length<=12):Ct 187 [.ip (iS.ag a0) 0 false,.agg (kz.ag a1)] (WL a0 a1):=by
 refine j9 GK ?_
 refine bT ?_
 refine dJ ?_
 have hL1:=a1.steps.lk
 refine lu a1.steps ?_
 refine aC ?_
 have hS2:=Sep.mf kV 2
 have hNk3:=a1.steps.lk
 refine jW a1.steps.l.length (λk3 e h=>∃ v4:AV,∃ l5:List jT,∃ H6:aT,(l5.length<=2*k3)/\Sep H6 (my jT.ag 2 v4 l5::[])/\At [0,5,16,17,18] [.ip (iS.ag a0) 0 false,v4,kQ a1.steps,bY a1.steps.l.length,bY k3] H6 [] e h) ?_ (k0:=0) eG ⟨iN,(([]:List jT)),aT.empty,fS,hS2,atR⟩
 rintro k3 e h hkk3 ⟨v4,l5,H6,hI,hS7,hA⟩
 refine aA ?_
 refine kx (λh8=>?_) (λh8=>?_)
 refine ak ?_
 refine wz [.ip (iS.ag a0) 0 false,v4,kQ a1.steps,bY a1.steps.l.length,bY k3] H6 [] ?_ (kh hS7 [(5,0)])
 refine bd ?_
 have hx9:k3<a1.steps.l.length:=by omega
 refine ml k3 a1.steps hx9 ?_
 generalize hqx10:a1.steps.l[k3]=x10
 refine bu ?_
 refine bI ?_
 refine cW ?_
 refine oC (t102 a0 x10.elem) ?_
 rintro _ ⟨r12,hc11,rfl⟩
 have hK:=hc11
 refine dv ?_
 refine kR (λh13=>?_) (λh13=>?_)
 refine be ?_
 refine aa ?_
 refine dl ?_
 refine aM ?_
 refine jP rfl (λ_=>me rfl rfl rfl (ru .i64 3 ((if x10.out > x10.qv then x10.out else x10.qv)))) ?_
 refine bh ?_
 refine wz [.ip (iS.ag a0) 0 false,v4,.la 7 0,.sl [[iv (IntKind.i64.wrap (3 - ((if x10.out > x10.qv then x10.out else x10.qv))))]] (.exact 1),kQ a1.steps,bY a1.steps.l.length,bY k3] H6 [(7,(kL.ag x10))] ?_ (kh hS7 [(5,0)])
 refine ae ?_
 refine aC ?_
 refine jW 1 (λk14 e h=>∃ v15:AV,∃ l16:List jT,∃ H17:aT,(l16.length<=l5.length+k14)/\Sep H17 (my jT.ag 2 v15 l16::[])/\At [0,5,7,16,17,18,43,44,45] [.ip (iS.ag a0) 0 false,v15,.la 7 0,kQ a1.steps,bY a1.steps.l.length,bY k3,.sl [[iv (IntKind.i64.wrap (3 - ((if x10.out > x10.qv then x10.out else x10.qv))))]] (.exact 1),iv 1,bY k14] H17 [(7,(kL.ag x10))] e h) ?_ (k0:=0) eG ⟨v4,l5,H6,ff,hS7,(kh hS7 [(5,0)])⟩
 rintro k14 e h hkk14 ⟨v15,l16,H17,hl19,hS18,hA⟩
 refine aA ?_
 refine kx (λh20=>?_) (λh20=>?_)
 refine ak ?_
 refine wz [.ip (iS.ag a0) 0 false,v15,.la 7 0,kQ a1.steps,bY a1.steps.l.length,bY k3,.sl [[iv (IntKind.i64.wrap (3 - ((if x10.out > x10.qv then x10.out else x10.qv))))]] (.exact 1),iv 1,bY k14] H17 [(7,(kL.ag x10))] ?_ (kh hS18 [(5,0)])
 refine bd ?_
 have hx21:k14<(⟨[(IntKind.i64.wrap (3 - ((if x10.out > x10.qv then x10.out else x10.qv))))],.exact 1,pR,rfl,nE⟩:Row Int).l.length:=by show k14<1; omega
 refine jP rfl (λ_=>wO (n:=k14) (r:=(⟨[(IntKind.i64.wrap (3 - ((if x10.out > x10.qv then x10.out else x10.qv))))],.exact 1,pR,rfl,nE⟩:Row Int)) (enc:=j6) rfl rfl rfl rfl rfl hx21 rfl) ?_
 generalize (⟨[(IntKind.i64.wrap (3 - ((if x10.out > x10.qv then x10.out else x10.qv))))],.exact 1,pR,rfl,nE⟩:Row Int).l[k14]=x22
 refine bh ?_
 refine a6 ?_
 refine dM ?_
 refine oC (t188 a0 (⟨x10.elem,x22⟩:jT)) ?_
 rintro _ ⟨r24,r25,hc23,rfl⟩
 have hN:=hc23
 cases r25
 refine bM ?_
 refine ah ?_
 refine wz [.ip (iS.ag a0) 0 false,v15,.la 7 0,kQ a1.steps,bY a1.steps.l.length,bY k3,.sl [[iv (IntKind.i64.wrap (3 - ((if x10.out > x10.qv then x10.out else x10.qv))))]] (.exact 1),iv 1,bY k14] H17 [(7,(kL.ag x10))] ?_ (kh hS18 [(5,0)])
 refine qg ?_
 refine kD ?_
 refine ab ?_
 exact ⟨by omega,v15,l16,H17,eC,hS18,(kh hS18 [(5,0)])⟩
 refine bM ?_
 refine az ?_
 refine bz ?_
 refine kn rfl (kZ (H:=H17) (i:=0) (l:=l16) (enc:=jT.ag) [(⟨x10.elem,x22⟩:jT)] hS18 rfl rfl rfl rfl rfl rfl rfl rfl rfl (λ_=>rfl) (.inl rfl) eE (λ_=>rfl)) ?_
 rintro v26 H27 hS28
 refine ab ?_
 refine wz [.ip (iS.ag a0) 0 false,v26,.la 7 0,kQ a1.steps,bY a1.steps.l.length,bY k3,.sl [[iv (IntKind.i64.wrap (3 - ((if x10.out > x10.qv then x10.out else x10.qv))))]] (.exact 1),iv 1,bY k14] H27 [(7,(kL.ag x10))] ?_ (kh hS28 [(5,0)])
 refine qg ?_
 refine kD ?_
 refine ab ?_
 exact ⟨by omega,v26,((l16++[(⟨x10.elem,x22⟩:jT)])),H27,eC,hS28,(kh hS28 [(5,0)])⟩
 refine aj ?_
 refine wz [.ip (iS.ag a0) 0 false,v15,kQ a1.steps,bY a1.steps.l.length,bY k3] H17 [] ?_ (kh hS18 [(5,0)])
 refine qg ?_
 refine kD ?_
 refine ab ?_
 exact ⟨by omega,v15,l16,H17,eF,hS18,(kh hS18 [(5,0)])⟩
 refine br ?_
 refine kR (λh29=>?_) (λh29=>?_)
 refine be ?_
 refine dE ?_
 refine ma (λh30=>?_) (λh30=>?_)
 refine dm ?_
 refine bh ?_
 refine wz [.ip (iS.ag a0) 0 false,v4,.la 7 0,.sl [[iv 0],[iv 1]] (.exact 2),kQ a1.steps,bY a1.steps.l.length,bY k3] H6 [(7,(kL.ag x10))] ?_ (kh hS7 [(5,0)])
 refine ae ?_
 refine aC ?_
 refine jW 2 (λk31 e h=>∃ v32:AV,∃ l33:List jT,∃ H34:aT,(l33.length<=l5.length+k31)/\Sep H34 (my jT.ag 2 v32 l33::[])/\At [0,5,7,16,17,18,43,44,45] [.ip (iS.ag a0) 0 false,v32,.la 7 0,kQ a1.steps,bY a1.steps.l.length,bY k3,.sl [[iv 0],[iv 1]] (.exact 2),iv 2,bY k31] H34 [(7,(kL.ag x10))] e h) ?_ (k0:=0) eG ⟨v4,l5,H6,ff,hS7,(kh hS7 [(5,0)])⟩
 rintro k31 e h hkk31 ⟨v32,l33,H34,hl36,hS35,hA⟩
 refine aA ?_
 refine kx (λh37=>?_) (λh37=>?_)
 refine ak ?_
 refine wz [.ip (iS.ag a0) 0 false,v32,.la 7 0,kQ a1.steps,bY a1.steps.l.length,bY k3,.sl [[iv 0],[iv 1]] (.exact 2),iv 2,bY k31] H34 [(7,(kL.ag x10))] ?_ (kh hS35 [(5,0)])
 refine bd ?_
 have hx38:k31<(⟨[0,1],.exact 2,pR,rfl,nE⟩:Row Int).l.length:=by show k31<2; omega
 refine jP rfl (λ_=>wO (n:=k31) (r:=(⟨[0,1],.exact 2,pR,rfl,nE⟩:Row Int)) (enc:=j6) rfl rfl rfl rfl rfl hx38 rfl) ?_
 generalize (⟨[0,1],.exact 2,pR,rfl,nE⟩:Row Int).l[k31]=x39
 refine bh ?_
 refine a6 ?_
 refine dM ?_
 refine oC (t188 a0 (⟨x10.elem,x39⟩:jT)) ?_
 rintro _ ⟨r41,r42,hc40,rfl⟩
 have hN:=hc40
 cases r42
 refine bM ?_
 refine ah ?_
 refine wz [.ip (iS.ag a0) 0 false,v32,.la 7 0,kQ a1.steps,bY a1.steps.l.length,bY k3,.sl [[iv 0],[iv 1]] (.exact 2),iv 2,bY k31] H34 [(7,(kL.ag x10))] ?_ (kh hS35 [(5,0)])
 refine qg ?_
 refine kD ?_
 refine ab ?_
 exact ⟨by omega,v32,l33,H34,eC,hS35,(kh hS35 [(5,0)])⟩
 refine bM ?_
 refine az ?_
 refine bz ?_
 refine kn rfl (kZ (H:=H34) (i:=0) (l:=l33) (enc:=jT.ag) [(⟨x10.elem,x39⟩:jT)] hS35 rfl rfl rfl rfl rfl rfl rfl rfl rfl (λ_=>rfl) (.inl rfl) eE (λ_=>rfl)) ?_
 rintro v43 H44 hS45
 refine ab ?_
 refine wz [.ip (iS.ag a0) 0 false,v43,.la 7 0,kQ a1.steps,bY a1.steps.l.length,bY k3,.sl [[iv 0],[iv 1]] (.exact 2),iv 2,bY k31] H44 [(7,(kL.ag x10))] ?_ (kh hS45 [(5,0)])
 refine qg ?_
 refine kD ?_
 refine ab ?_
 exact ⟨by omega,v43,((l33++[(⟨x10.elem,x39⟩:jT)])),H44,eC,hS45,(kh hS45 [(5,0)])⟩
 refine aj ?_
 refine wz [.ip (iS.ag a0) 0 false,v32,kQ a1.steps,bY a1.steps.l.length,bY k3] H34 [] ?_ (kh hS35 [(5,0)])
 refine qg ?_
 refine kD ?_
 refine ab ?_
 exact ⟨by omega,v32,l33,H34,eF,hS35,(kh hS35 [(5,0)])⟩
 refine ah ?_
 refine wz [.ip (iS.ag a0) 0 false,v4,.la 7 0,.sl [[iv 2],[iv 3]] (.exact 2),kQ a1.steps,bY a1.steps.l.length,bY k3] H6 [(7,(kL.ag x10))] ?_ (kh hS7 [(5,0)])
 refine ae ?_
 refine aC ?_
 refine jW 2 (λk46 e h=>∃ v47:AV,∃ l48:List jT,∃ H49:aT,(l48.length<=l5.length+k46)/\Sep H49 (my jT.ag 2 v47 l48::[])/\At [0,5,7,16,17,18,43,44,45] [.ip (iS.ag a0) 0 false,v47,.la 7 0,kQ a1.steps,bY a1.steps.l.length,bY k3,.sl [[iv 2],[iv 3]] (.exact 2),iv 2,bY k46] H49 [(7,(kL.ag x10))] e h) ?_ (k0:=0) eG ⟨v4,l5,H6,ff,hS7,(kh hS7 [(5,0)])⟩
 rintro k46 e h hkk46 ⟨v47,l48,H49,hl51,hS50,hA⟩
 refine aA ?_
 refine kx (λh52=>?_) (λh52=>?_)
 refine ak ?_
 refine wz [.ip (iS.ag a0) 0 false,v47,.la 7 0,kQ a1.steps,bY a1.steps.l.length,bY k3,.sl [[iv 2],[iv 3]] (.exact 2),iv 2,bY k46] H49 [(7,(kL.ag x10))] ?_ (kh hS50 [(5,0)])
 refine bd ?_
 have hx53:k46<(⟨[2,3],.exact 2,pR,rfl,nE⟩:Row Int).l.length:=by show k46<2; omega
 refine jP rfl (λ_=>wO (n:=k46) (r:=(⟨[2,3],.exact 2,pR,rfl,nE⟩:Row Int)) (enc:=j6) rfl rfl rfl rfl rfl hx53 rfl) ?_
 generalize (⟨[2,3],.exact 2,pR,rfl,nE⟩:Row Int).l[k46]=x54
 refine bh ?_
 refine a6 ?_
 refine dM ?_
 refine oC (t188 a0 (⟨x10.elem,x54⟩:jT)) ?_
 rintro _ ⟨r56,r57,hc55,rfl⟩
 have hN:=hc55
 cases r57
 refine bM ?_
 refine ah ?_
 refine wz [.ip (iS.ag a0) 0 false,v47,.la 7 0,kQ a1.steps,bY a1.steps.l.length,bY k3,.sl [[iv 2],[iv 3]] (.exact 2),iv 2,bY k46] H49 [(7,(kL.ag x10))] ?_ (kh hS50 [(5,0)])
 refine qg ?_
 refine kD ?_
 refine ab ?_
 exact ⟨by omega,v47,l48,H49,eC,hS50,(kh hS50 [(5,0)])⟩
 refine bM ?_
 refine az ?_
 refine bz ?_
 refine kn rfl (kZ (H:=H49) (i:=0) (l:=l48) (enc:=jT.ag) [(⟨x10.elem,x54⟩:jT)] hS50 rfl rfl rfl rfl rfl rfl rfl rfl rfl (λ_=>rfl) (.inl rfl) eE (λ_=>rfl)) ?_
 rintro v58 H59 hS60
 refine ab ?_
 refine wz [.ip (iS.ag a0) 0 false,v58,.la 7 0,kQ a1.steps,bY a1.steps.l.length,bY k3,.sl [[iv 2],[iv 3]] (.exact 2),iv 2,bY k46] H59 [(7,(kL.ag x10))] ?_ (kh hS60 [(5,0)])
 refine qg ?_
 refine kD ?_
 refine ab ?_
 exact ⟨by omega,v58,((l48++[(⟨x10.elem,x54⟩:jT)])),H59,eC,hS60,(kh hS60 [(5,0)])⟩
 refine aj ?_
 refine wz [.ip (iS.ag a0) 0 false,v47,kQ a1.steps,bY a1.steps.l.length,bY k3] H49 [] ?_ (kh hS50 [(5,0)])
 refine qg ?_
 refine kD ?_
 refine ab ?_
 exact ⟨by omega,v47,l48,H49,eF,hS50,(kh hS50 [(5,0)])⟩
 refine aH ?_
 refine wz [.ip (iS.ag a0) 0 false,v4,.la 7 0,iN,kQ a1.steps,bY a1.steps.l.length,bY k3] H6 [(7,(kL.ag x10))] ?_ (kh hS7 [(5,0)])
 refine ae ?_
 refine aC ?_
 refine jW 0 (λk61 e h=>At [0,5,7,16,17,18,43,44,45] [.ip (iS.ag a0) 0 false,v4,.la 7 0,kQ a1.steps,bY a1.steps.l.length,bY k3,iN,iv 0,bY k61] H6 [(7,(kL.ag x10))] e h) ?_ (k0:=0) eG (kh hS7 [(5,0)])
 rintro k61 e h hkk61 hA
 refine aA ?_
 refine kx (λh62=>?_) (λh62=>?_)
 refine ak ?_
 refine wz [.ip (iS.ag a0) 0 false,v4,.la 7 0,kQ a1.steps,bY a1.steps.l.length,bY k3,iN,iv 0,bY k61] H6 [(7,(kL.ag x10))] ?_ (kh hS7 [(5,0)])
 refine bd ?_
 exfalso; omega
 refine aj ?_
 refine wz [.ip (iS.ag a0) 0 false,v4,kQ a1.steps,bY a1.steps.l.length,bY k3] H6 [] ?_ (kh hS7 [(5,0)])
 refine qg ?_
 refine kD ?_
 refine ab ?_
 exact ⟨by omega,v4,l5,H6,eF,hS7,(kh hS7 [(5,0)])⟩
 refine aj ?_
 refine wz [v4] H6 [] ?_ (kh hS7 [(5,0)])
 refine bR ?_
 obtain ⟨r63,hl64,hf65⟩:=lK (H:=H6) (i:=0) (l:=l5) (enc:=jT.ag) hS7 rfl eA
 have hlq:=hl64; have hln67:=congrArg List.length hl64
 have hz66:∀ m,freeze false { H6 with cH:=[] } (m+2) v4=some (nV r63):=λm=>hf65 _ _ (λ_=>rfl)
 exact ⟨v4,(lL (vs:=[v4]) rfl (jU (Sep.arg (i:=0) hS7 rfl) kE)),nV r63,(show freeze false { H6 with cH:=[] } 8 v4=some (nV r63) by simp only [FZ,hz66]),r63,gO,rfl⟩
def JQ {H:aT} (el:Int) (en:Int) (bn:Nat) (nn:iS) (bt:Nat) (vt:AV) (todo:List jT) (F:List lC) (hS:Sep H (kO bn [.ip (iS.ag nn) 0 false]::kO bt [vt]::m6 jT.ag 2 vt todo::F)) (q1:todo.length<=2000):∃ v H',ka cfg FT ko true 189 [iv el,iv en,(jQ bn),(jQ bt)] { H with cH:=[] } v H'/\(∃ vto:AV,∃ todoo:List jT,(todoo.length<=todo.length+1/\∀ y∈todoo,y∈todo\/y∈univ nn)/\Sep H' (kO bn [.ip (iS.ag nn) 0 false]::kO bt [vto]::m6 jT.ag 2 vto todoo::F)/\v=.kq []):=by
 refine kW Ir ?_
 refine aa ?_
 refine m5 0 hS (.ip (iS.ag nn) 0 false) ?_
 refine aF ?_
 refine oC (t188 nn (⟨el,en⟩:jT)) ?_
 rintro _ ⟨r2,r3,hc1,rfl⟩
 have hN:=hc1
 cases r3
 refine bM ?_
 refine ah ?_
 have hS4:=Sep.pick hS [0,1,2] 3 eB eB
 exact ⟨.kq [],rfl,vt,todo,gk,Sep.cH hS4 _,rfl⟩
 refine bM ?_
 refine dm ?_
 refine m5 1 hS vt ?_
 refine am ?_
 refine kn rfl (kZ (H:=H) (i:=2) (l:=todo) (enc:=jT.ag) [r2] hS rfl rfl rfl rfl rfl rfl rfl rfl rfl (λ_=>rfl) (.inr rfl) eE (λ_=>rfl)) ?_
 rintro v5 H6 hS7
 refine kn rfl (lY (H:=H6) (i:=1) (o:=0) (r:=v5) hS7 rfl rfl rfl rfl (mF rfl rfl (Sep.cell (i:=2) hS7 rfl)) (jU (Sep.cell (i:=2) hS7 rfl) kE) rfl) ?_
 rintro _ H8 ⟨rfl,hS9⟩
 refine oN ?_
 have hS10:=Sep.pick hS9 [0,1,2] 3 eB eB
 exact ⟨.kq [],rfl,v5,(todo++[r2]),gk,Sep.cH hS10 _,rfl⟩
def Qj (_a0:tZ) (_a1:Int) (v:AV):Prop:=∃ r0:Bool,(True)/\v=.bool r0
def t190 (a0:tZ) (a1:Int) :Ct 190 [.agg (tZ.ag a0),iv a1] (Qj a0 a1):=by
 refine j9 Hn ?_
 refine ai ?_
 refine kn rfl (mP kV rfl rfl rfl rfl rfl) ?_
 rintro _ H2 ⟨b1,rfl,hS3⟩
 refine aG ?_
 refine jP rfl (λ_=>sf rfl rfl (rY rfl rfl)) ?_
 have hS4:=Sep.pick hS3 [0] 1 eB eB
 refine kI (H:=H2) (args:=[jS.av kL.ag a0.steps,.kY 228 [] [(jQ b1)]]) (p:=[]) (r:=[]) rfl rfl rfl rfl rfl rfl rfl (NF a0.steps b1 a1 ([]) hS4) ?_
 rintro _ H5 ⟨r8,hc7,hS6,rfl⟩
 cases r8
 refine af ?_
 exact iq
 refine af ?_
 exact io
def Oa {H:aT} (b:Nat) (f0:Int) (f1:Int) (f2:Int) (steps:Row kL) (nm:Row lI) (vg:AV) (guards:List lI) (vz:AV) (nr:List Int) (vh:AV) (holds:List Int) (bare:Bool) (el:Int) (F:List lC) (hS:Sep H (kO b [iv f0,iv f1,iv f2,kQ steps,lT nm,vg,vz,vh,.bool bare]::my lI.ag 2 vg guards::lG vz nr::lG vh holds::F)) (q1:nr.length<=12):∃ v H',ka cfg FT ko true 191 [(jQ b),iv el] { H with cH:=[] } v H'/\(∃ r0:Bool,∃ vzo:AV,∃ zoneo:List Int,∃ bareo:Bool,(zoneo.length<=12/\∀ x∈zoneo,x∈nr\/x=el)/\Sep H' (kO b [iv f0,iv f1,iv f2,kQ steps,lT nm,vg,vzo,vh,.bool bareo]::my lI.ag 2 vg guards::lG vzo zoneo::lG vh holds::F)/\v=.bool r0):=by
 refine kW F8 ?_
 refine aY ?_
 refine ba ?_
 refine jP rfl (λ_=>mj (i:=0) (o:=6) (r:=vz) hS rfl rfl rfl rfl) ?_
 refine oV ?_
 refine nU hS 2 λr1 hl2 hln5 hz4=>?_
 refine mM (args:=[vz,iv el]) (p:=[]) (r:=[]) (args':=[ly r1,iv el]) (R:=La r1 el) rfl rfl rfl rfl rfl (jU (Sep.arg (i:=2) hS rfl) (jU rfl kE)) rfl fy (lx (by show kG (freeze true { H with cH:=[] } 8) [vz,iv el] = _; simp only [FZ,hz4]) (jU (Sep.qC (i:=2) hS rfl) (jU rfl kE))) (lx fk (jU rfl (jU rfl kE))) (λh=>t113 r1 el  h) ?_
 rintro _ ⟨r7,hc6,rfl⟩
 cases r7
 refine ah ?_
 refine wz [(jQ b),iv el] H [] ?_
 refine aq ?_
 refine ba ?_
 refine jP rfl (λ_=>mj (i:=0) (o:=6) (r:=vz) hS rfl rfl rfl rfl) ?_
 refine jP rfl (λ_=>nb (i:=2) (l:=nr) (enc:=j6) hS rfl rfl rfl rfl rfl rfl rfl) ?_
 refine mV (λh8=>?_) (λh8=>?_)
 refine az ?_
 refine ai ?_
 refine ba ?_
 refine kn rfl (lY (i:=0) (o:=8) (r:=.bool true) hS rfl rfl rfl rfl rfl rfl rfl) ?_
 rintro _ H9 ⟨rfl,hS10⟩
 refine oN ?_
 refine aU ?_
 have hS11:=Sep.pick hS10 [0,1,2,3] 4 eB eB
 exact ⟨.bool false,rfl,false,vz,nr,true,fP,Sep.cH hS11 _,rfl⟩
 refine ah ?_
 refine wz [(jQ b),iv el] H [] ?_
 refine ae ?_
 refine ba ?_
 refine jP rfl (λ_=>mj (i:=0) (o:=6) (r:=vz) hS rfl rfl rfl rfl) ?_
 refine am ?_
 refine kn rfl (kZ (i:=2) (l:=nr) (enc:=j6) [el] hS rfl rfl rfl rfl rfl rfl rfl rfl rfl (λ_=>rfl) (.inl rfl) eE (λ_=>rfl)) ?_
 rintro v12 H13 hS14
 refine jP rfl (λ_=>oG (i:=0) hS14 rfl rfl) ?_
 refine jP rfl (λ_=>nw (i:=0) hS14 rfl rfl rfl rfl rfl) ?_
 refine kn rfl (lY (i:=0) (o:=6) (r:=v12) hS14 rfl rfl rfl rfl (mF rfl rfl (Sep.cell (i:=2) hS14 rfl)) (jU (Sep.cell (i:=2) hS14 rfl) kE) rfl) ?_
 rintro _ H15 ⟨rfl,hS16⟩
 refine oN ?_
 refine aU ?_
 have hS17:=Sep.pick hS16 [0,1,2,3] 4 eB eB
 exact ⟨.bool true,rfl,true,v12,(nr++[el]),bare,fP,Sep.cH hS17 _,rfl⟩
 refine aW ?_
 have hS18:=Sep.pick hS [0,1,2,3] 4 eB eB
 exact ⟨.bool true,rfl,true,vz,nr,bare,fP,Sep.cH hS18 _,rfl⟩
def W9 (_a0:jS lI) (_a1:lI) (v:AV):Prop:=∃ r0:Int,(True)/\v=iv r0
def t229 (a0:jS lI) (a1:lI) :Ct 229 [jS.av lI.ag a0,.agg (lI.ag a1)] (W9 a0 a1):=by
 refine j9 IS ?_
 refine ai ?_
 refine ao ?_
 have hL1:=a0.lk
 refine jP rfl (λ_=>m8 (r:=a0) (enc:=lI.ag) rfl rfl rfl rfl rfl rfl) ?_
 refine aC ?_
 have hNk2:=a0.lk
 refine jW a0.l.length (λk2 e h=>At [0,3,7,8] [jS.av lI.ag a0,.la 3 0,bY a0.l.length,bY k2] aT.empty [(3,(lI.ag a1))] e h) ?_ (k0:=0) eG atR
 rintro k2 e h hkk2 hA
 refine aA ?_
 refine kx (λh3=>?_) (λh3=>?_)
 refine cT ?_
 refine da ?_
 have hx4:k2<a0.l.length:=by omega
 refine kp rfl rfl (λ_=>mJ (n:=k2) (r:=a0) (enc:=lI.ag) rfl rfl rfl rfl rfl hx4 rfl) ?_
 generalize hqx5:a0.l[k2]=x5
 refine rV ?_
 refine p9 rfl rfl (λ_=>tY rfl rfl rfl (λ_ _=>rfl)) (λh6=>?_) (λh6=>?_)
 refine dZ ?_
 refine bR ?_
 exact xB ⟨((k2:Int)),zt⟩
 refine c7 ?_
 refine qg ?_
 refine kD ?_
 refine ab ?_
 exact ic
 refine aS ?_
 exact jc
def LC (_a0:jS lI) (_a1:lI) (v:AV):Prop:=∃ r0:Bool,(True)/\v=.bool r0
def t192 (a0:jS lI) (a1:lI) :Ct 192 [jS.av lI.ag a0,.agg (lI.ag a1)] (LC a0 a1):=by
 refine j9 Gh ?_
 refine dE ?_
 refine oC (t229 a0 a1) ?_
 rintro _ ⟨r2,hc1,rfl⟩
 refine mV (λh3=>?_) (λh3=>?_)
 refine af ?_
 exact io
 refine af ?_
 exact iq
def WM (_a0:iS) (_a1:Int) (_a2:Int) (_a3:Int) (v:AV):Prop:=∃ r0:Int,∃ r1:Bool,(True)/\v=.kq [iv r0,.bool r1]
def t230 (a0:iS) (a1:Int) (a2:Int) (a3:Int) :Ct 230 [.ip (iS.ag a0) 0 false,iv a1,iv a2,iv a3] (WM a0 a1 a2 a3):=by
 refine j9 IP ?_
 refine bT ?_
 refine cW ?_
 refine oC (t249 a0 a1 a2) ?_
 rintro _ ⟨r2,hc1,rfl⟩
 have hL3:=r2.lk
 refine lu r2 ?_
 refine aC ?_
 have hNk4:=r2.lk
 refine jW r2.l.length (λk4 e h=>At [3,15,16,17] [iv a3,uI r2,bY r2.l.length,bY k4] aT.empty [] e h) ?_ (k0:=0) eG atR
 rintro k4 e h hkk4 hA
 refine aA ?_
 refine kx (λh5=>?_) (λh5=>?_)
 refine bC ?_
 have hx6:k4<r2.l.length:=by omega
 refine ml k4 r2 hx6 ?_
 generalize hqx7:r2.l[k4]=x7
 refine dM ?_
 refine kR (λh8=>?_) (λh8=>?_)
 refine bp ?_
 refine be ?_
 refine dq ?_
 exact xG ⟨x7.out,true,zt⟩
 refine aK ?_
 refine kR (λh9=>?_) (λh9=>?_)
 refine be ?_
 refine dq ?_
 exact xG ⟨x7.out,true,zt⟩
 refine cU ?_
 refine kD ?_
 refine ab ?_
 exact ic
 refine aj ?_
 refine bR ?_
 exact ib
def aaw (_a0:iS) (_a1:Int) (_a2:Int) (_a3:Int) (v:AV):Prop:=∃ r0:Int,∃ r1:Bool,(True)/\v=.kq [iv r0,.bool r1]
def t193 (a0:iS) (a1:Int) (a2:Int) (a3:Int) :Ct 193 [.ip (iS.ag a0) 0 false,iv a1,iv a2,iv a3] (aaw a0 a1 a2 a3):=by
 refine j9 Gb ?_
 refine bT ?_
 refine bL ?_
 refine oC (t230 a0 a1 a2 a3) ?_
 rintro _ ⟨r2,r3,hc1,rfl⟩
 cases r3
 refine ci ?_
 exact xG ⟨r2,false,zt⟩
 refine ci ?_
 exact xG ⟨r2,true,zt⟩
def Xu (_a0:iS) (_a1:kz) (v:AV):Prop:=∃ r0:kz,(r0.steps.l = _a1.steps.l/\r0.nm.l = _a1.nm.l/\r0.nr.l.length<=12/\(∀ x∈r0.nr.l,m4 x)/\r0.guards.l.length<=1000/\r0.holds.l.length<=1000)/\v=.agg (kz.ag r0)
def t119 (a0:iS) (a1:kz) (q1:mB a0.p) (q2:a0.next.length<=240) (q3:a1.steps.l.length<=12) (q4:a1.nm.l.length<=1000) (q6:∀ y∈univ a0,m4 y.elem):Ct 119 [.ip (iS.ag a0) 0 false,.agg (kz.ag a1)] (Xu a0 a1):=by
 refine j9 HX ?_
 have q5:(univ a0).length<=241:=by simp only [univ,List.length_cons,List.length_map]; omega
 refine cb ?_
 rintro _ H2 ⟨b1,rfl,hS3⟩
 refine kn (H:=H2) rfl (mP hS3 rfl rfl rfl rfl rfl) ?_
 rintro _ H5 ⟨b4,rfl,hS6⟩
 refine ab ?_
 refine tW ?_
 refine aL ?_
 refine ni 0 hS6 ?_
 refine nX 0 hS6 (kQ a1.steps) ?_
 refine rC (t78 (Row.mg a1.steps) ey) ?_
 rintro _ ⟨r8,hc7,rfl⟩
 have hC93:=congrArg List.length hc7; try simp only [Row.mg] at hC93
 refine ni 0 hS6 ?_
 refine nX 0 hS6 (lT a1.nm) ?_
 refine rC (t79 (Row.mg a1.nm) ey) ?_
 rintro _ ⟨r10,hc9,rfl⟩
 have hC94:=congrArg List.length hc9; try simp only [Row.mg] at hC94
 refine ni 0 hS6 ?_
 refine Wh 0 hS6 (kQ r8) λH11 hS12=>?_
 refine ni 0 hS12 ?_
 refine Wh 0 hS12 (lT r10) λH13 hS14=>?_
 refine rN ?_
 refine aa ?_
 refine od 0 hS14 ?_
 refine DN 0 hS14 iN λH15 hS16=>?_
 refine od 0 hS16 ?_
 refine DN 0 hS16 iN λH17 hS18=>?_
 refine od 0 hS18 ?_
 refine DN 0 hS18 iN λH19 hS20=>?_
 refine od 0 hS20 ?_
 refine DN 0 hS20 (.bool false) λH21 hS22=>?_
 refine oN ?_
 refine aa ?_
 refine m5 1 hS22 (.ip (iS.ag a0) 0 false) ?_
 refine oC (t99 a0 ey) ?_
 rintro _ ⟨r24,hc23,rfl⟩
 have hPl:=hc23.2.2.2.2.2
 refine bh ?_
 refine aa ?_
 refine kn (H:=H21) rfl (nP hS22) ?_
 rintro _ H26 ⟨b25,rfl,hS27⟩
 refine ab ?_
 refine aa ?_
 refine kn (H:=H26) rfl (rz hS27 rfl rfl) ?_
 rintro _ H29 ⟨b28,rfl,hS30⟩
 refine oN ?_
 refine aa ?_
 refine m5 3 hS30 (.ip (iS.ag a0) 0 false) ?_
 refine m5 2 hS30 (.agg [iv a1.from_,iv a1.to,iv a1.end_,kQ r8,lT r10,iN,iN,iN,jZ]) ?_
 refine oC (t187 a0 (⟨a1.from_,a1.to,a1.end_,r8,r10,(lZ:Row lI),(lZ:Row Int),(lZ:Row Int),false⟩:kz) ey) ?_
 rintro _ ⟨r32,hc31,rfl⟩
 dsimp only at hc31
 refine ao ?_
 have hL33:=r32.lk
 refine lu r32 ?_
 have hL34:=r32.lk
 refine pL ?_
 refine aC ?_
 have hS35:=Sep.mf hS30 2
 refine oe (λm41 e h=>∃ v36:AV,∃ l37:List jT,∃ n38:Int,∃ H39:aT,m41=(n38+1).toNat/\(-1<=n38)/\(n38<(r32.l.length:Int))/\((l37.length:Int)+n38+1<=r32.l.length)/\((∀ y∈(l37:List jT),y∈univ a0))/\Sep H39 (my jT.ag 2 v36 l37::kO b28 [v36]::ng b25 pK bK []::kO b4 [iv a1.from_,iv a1.to,iv a1.end_,kQ r8,lT r10,iN,iN,iN,jZ]::kO b1 [.ip (iS.ag a0) 0 false]::[])/\At [2,3,4,5,6,7,8,9] [(jQ b1),(jQ b4),.la 4 0,.bool r24.lq,(.hm b25),(jQ b28),nV r32,iv n38] H39 [(4,[iv 0,iv 0,iv 0,iN,iN,iN,iN,iN,jZ])] e h) ?_ _ _ _ ⟨iN,(([]:List jT)),((r32.l.length:Int) - 1),H29,rfl,eF,eF,eF,fS,hS35,atR⟩
 rintro m41 e h ⟨v36,l37,n38,H39,hmm41,hA1,hA2,hA3,hTu,hS40,hA⟩
 refine rP hA ?_
 refine aq ?_
 refine mV (λh42=>?_) (λh42=>?_)
 refine cE ?_
 refine wz [(jQ b1),(jQ b4),.la 4 0,.bool r24.lq,(.hm b25),(jQ b28),nV r32,iv n38] H39 [(4,[iv 0,iv 0,iv 0,iN,iN,iN,iN,iN,jZ])] ?_
 refine ay ?_
 refine aL ?_
 refine nX 4 hS40 (.ip (iS.ag a0) 0 false) ?_
 refine aI ?_
 have hx43:(n38).toNat<r32.l.length:=by omega
 refine kp rfl rfl (λ_=>ld (n:=n38) (r:=r32) (enc:=jT.ag) rfl rfl rfl rfl rfl eG hx43 rfl) ?_
 generalize hqx44:r32.l[(n38).toNat]=x44
 refine rV ?_
 refine rC (t188 a0 x44) ?_
 rintro _ ⟨r46,r47,hc45,rfl⟩
 have hN:=hc45
 cases r47
 refine bP ?_
 refine qg ?_
 refine m5 1 hS40 v36 ?_
 refine am ?_
 refine Oz 0 [r46] hS40 λv48 H49 hS50=>?_
 refine kn (H:=H49) rfl (lY (H:=H49) (i:=1) (o:=0) (r:=v48) hS50 rfl rfl rfl rfl (mF rfl rfl (Sep.cell (i:=0) hS50 rfl)) (jU (Sep.cell (i:=0) hS50 rfl) kE) rfl) ?_
 rintro _ H51 ⟨rfl,hS52⟩
 refine oN ?_
 refine wz [(jQ b1),(jQ b4),.la 4 0,.bool r24.lq,(.hm b25),(jQ b28),nV r32,iv n38] H51 [(4,[iv 0,iv 0,iv 0,iN,iN,iN,iN,iN,jZ])] ?_
 refine aM ?_
 refine pL ?_
 refine ab ?_
 refine ⟨_,?_,v48,((l37++[r46])),(n38 - 1),H51,rfl,eF,eF,eF,(by exact pI hTu (u9 ez)),hS52,atR⟩
 omega
 refine bP ?_
 refine qg ?_
 refine m5 1 hS40 v36 ?_
 refine am ?_
 refine Oz 0 [r46] hS40 λv53 H54 hS55=>?_
 refine kn (H:=H54) rfl (lY (H:=H54) (i:=1) (o:=0) (r:=v53) hS55 rfl rfl rfl rfl (mF rfl rfl (Sep.cell (i:=0) hS55 rfl)) (jU (Sep.cell (i:=0) hS55 rfl) kE) rfl) ?_
 rintro _ H56 ⟨rfl,hS57⟩
 refine oN ?_
 refine wz [(jQ b1),(jQ b4),.la 4 0,.bool r24.lq,(.hm b25),(jQ b28),nV r32,iv n38] H56 [(4,[iv 0,iv 0,iv 0,iN,iN,iN,iN,iN,jZ])] ?_
 refine aM ?_
 refine pL ?_
 refine ab ?_
 refine ⟨_,?_,v53,((l37++[r46])),(n38 - 1),H56,rfl,eF,eF,eF,(by exact pI hTu (u9 ez)),hS57,atR⟩
 omega
 refine aN ?_
 refine wz [(jQ b1),(jQ b4),.la 4 0,.bool r24.lq,(.hm b25),(jQ b28)] H39 [(4,[iv 0,iv 0,iv 0,iN,iN,iN,iN,iN,jZ])] ?_
 refine du ?_
 refine ab ?_
 refine qq ?_
 refine ql ?_
 refine ay ?_
 have hS58:=Sep.mf hS40 1
 have hS59:=Sep.mf hS58 1
 have hS60:=Sep.mf hS59 2
 have hS61:=Sep.pf (i:=3) hS60 rfl
 refine oe (λm77 e h=>∃ v62:AV,∃ l63:List lI,∃ v64:AV,∃ l65:List Int,∃ v66:AV,∃ l67:List Int,∃ v68:AV,∃ l69:List jT,∃ l70:List (jT×Bool),∃ n71:Int,∃ n72:Int,∃ n73:Int,∃ b74:Bool,∃ H75:aT,m77=3*((univ a0).length - l70.length)+l69.length/\(oc l70)/\(∀ k∈l70.map Prod.fst,k∈univ a0)/\(∀ y∈(l70:List (jT×Bool)),y.2=true)/\((∀ y∈(l69:List jT),y∈univ a0))/\(l69.length+3*((univ a0).length - l70.length)<=1000)/\(l63.length<=l70.length)/\(l65.length<=l70.length)/\(l67.length<=12)/\(∀ x∈(l67:List Int),m4 x)/\(l70.length<=(univ a0).length)/\Sep H75 (my lI.ag 2 v62 l63::lG v64 l65::lG v66 l67::m6 jT.ag 2 v68 l69::kO b28 [v68]::ng b25 pK bK l70::kO b4 [iv n71,iv n72,iv n73,kQ r8,lT r10,v62,v66,v64,.bool b74]::kO b1 [.ip (iS.ag a0) 0 false]::[])/\At [2,3,4,5,6,7,12] [(jQ b1),(jQ b4),.la 4 0,.bool r24.lq,(.hm b25),(jQ b28),.kY 189 [] [(jQ b1),(jQ b28)]] H75 [(4,[iv 0,iv 0,iv 0,iN,iN,iN,iN,iN,jZ])] e h) ?_ _ _ _ ⟨iN,(([]:List lI)),iN,(([]:List Int)),iN,(([]:List Int)),v36,l37,([]),a1.from_,a1.to,a1.end_,false,H39,rfl,(by simp [oc]),fS,fS,gg,eF,fS,fS,fS,fS,fS,hS61,atR⟩
 rintro m77 e h ⟨v62,l63,v64,l65,v66,l67,v68,l69,l70,n71,n72,n73,b74,H75,hmm77,hKd,hKu,hT,hTu,hB1,hB2,hB3,hB4,hZr,hB5,hS76,hA⟩
 refine rP hA ?_
 refine dK ?_
 refine m5 4 hS76 v68 ?_
 refine jP rfl (λ_=>nb (H:=H75) (i:=3) (l:=l69) (enc:=jT.ag) hS76 rfl rfl rfl rfl rfl rfl rfl) ?_
 refine ma (λh78=>?_) (λh78=>?_)
 refine cE ?_
 refine wz [(jQ b1),(jQ b4),.la 4 0,.bool r24.lq,(.hm b25),(jQ b28),.kY 189 [] [(jQ b1),(jQ b28)]] H75 [(4,[iv 0,iv 0,iv 0,iN,iN,iN,iN,iN,jZ])] ?_
 refine qb ?_
 refine c9 ?_
 refine pL ?_
 have hk79:((((l69.length:Int) - 1).toNat:Nat):Int)=(l69.length:Int) - 1:=Int.toNat_of_nonneg eC
 have hx80:((l69.length:Int) - 1).toNat<l69.length:=by first | omega | (simp<;>omega) | (simp_all; omega)
 obtain ⟨x81,hqx81⟩:∃ x,l69[((l69.length:Int) - 1).toNat]=x:=⟨_,rfl⟩
 have hinx81:x81∈l69:=by rw [<- hqx81]; exact List.getElem_mem _
 have hmx81:=hTu x81 hinx81
 refine mv rfl (lO (H:=H75) (i:=3) (m:=((l69.length:Int) - 1).toNat) (cs:=jT.ag x81) hS76 rfl rfl rfl rfl rfl rfl (congrArg (AV.int .i64) hk79.symm) (lA hx80 hqx81)) ?_
 rintro a82 ⟨ha83,hea84⟩
 refine jP rfl (λ_=>mK (H:=H75) (i:=3) (m:=((l69.length:Int) - 1).toNat) (o:=0) (r:=.agg (jT.ag x81)) (cs:=jT.ag x81) hS76 rfl (lA hx80 hqx81) hea84 rfl rfl ha83) ?_
 refine bh ?_
 refine c9 ?_
 refine pL ?_
 have hk85:((((l69.length:Int) - 1).toNat:Nat):Int)=(l69.length:Int) - 1:=Int.toNat_of_nonneg eC
 have hx86:((l69.length:Int) - 1).toNat<=l69.length:=by first | omega | (simp<;>omega) | (simp_all; omega)
 have hTl:(l69.take (((l69.length:Int) - 1).toNat)).length+1=l69.length:=by rw [List.length_take]; omega
 have hTu:∀ y∈l69.take (((l69.length:Int) - 1).toNat),y∈univ a0:=λy hy=>hTu y (List.mem_of_mem_take hy)
 refine kn (H:=H75) rfl (tn (H:=H75) (i:=3) (k:=((l69.length:Int) - 1).toNat) hS76 rfl rfl rfl rfl rfl rfl (congrArg (AV.int .i64) hk85.symm) hx86) ?_
 rintro v87 H88 ⟨hc89,hS90⟩
 refine kn (H:=H88) rfl (lY (H:=H88) (i:=4) (o:=0) (r:=v87) hS90 rfl rfl rfl rfl (mF rfl rfl (Sep.cell (i:=3) hS90 rfl)) (jU (Sep.cell (i:=3) hS90 rfl) kE) rfl) ?_
 rintro _ H91 ⟨rfl,hS92⟩
 refine oN ?_
 refine dK ?_
 refine m5 6 hS92 (.agg [iv n71,iv n72,iv n73,kQ r8,lT r10,v62,v66,v64,.bool b74]) ?_
 refine am ?_
 refine nU hS92 0 λr93 hl94 hln97 hz96=>?_
 refine nU hS92 2 λr98 hl99 hln102 hz101=>?_
 refine nU hS92 1 λr103 hl104 hln107 hz106=>?_
 refine mM (args:=[.agg [iv n71,iv n72,iv n73,kQ r8,lT r10,v62,v66,v64,.bool b74],iv x81.elem]) (p:=[]) (r:=[]) (args':=[.agg [iv n71,iv n72,iv n73,kQ r8,lT r10,jS.av lI.ag r93,ly r98,ly r103,.bool b74],iv x81.elem]) (R:=Qj (⟨n71,n72,n73,(Row.mg r8),(Row.mg r10),r93,r98,r103,b74⟩:tZ) x81.elem) rfl rfl rfl rfl rfl rfl rfl fy (lx (by show kG (freeze true { H91 with cH:=[] } 8) [.agg [iv n71,iv n72,iv n73,kQ r8,lT r10,v62,v66,v64,.bool b74],iv x81.elem] = _; simp only [FZ,hz96,hz101,hz106]) (jU (Tv (jU rfl (jU rfl (jU rfl (jU rfl (jU rfl (jU (Sep.cell (i:=0) hS92 rfl) (jU (Sep.cell (i:=2) hS92 rfl) (jU (Sep.cell (i:=1) hS92 rfl) (jU rfl kE)))))))))) (jU rfl kE))) (lx fk (jU rfl (jU rfl kE))) (λh=>t190 (⟨n71,n72,n73,(Row.mg r8),(Row.mg r10),r93,r98,r103,b74⟩:tZ) x81.elem  h) ?_
 rintro _ ⟨r109,hc108,rfl⟩
 cases r109
 refine aF ?_
 refine nW (H:=H91) (i:=5) (ek:=pK) (ev:=bK) (l:=l70) x81 rfl rfl hS92 rfl rfl rfl rfl rfl rfl rfl rfl nD (λy110 h111=>?_) (λh112=>?_)
 cases y110
 exact absurd (hT _ (pJ h111)) fS
 refine de ?_
 refine ⟨_,?_,v62,l63,v64,l65,v66,l67,v87,((l69.take (((l69.length:Int) - 1).toNat))),l70,n71,n72,n73,b74,H91,rfl,gj,gi,gl,gg,eL,eF,eF,eF,gh,fw,hS92,atR⟩
 first | omega | (simp only [List.length_append,List.length_cons,List.length_nil,List.length_take] at *; omega)
 refine aH ?_
 refine wz [(jQ b1),(jQ b4),.la 4 0,.bool r24.lq,(.hm b25),(jQ b28),.kY 189 [] [(jQ b1),(jQ b28)],.la 13 0] H91 [(4,[iv 0,iv 0,iv 0,iN,iN,iN,iN,iN,jZ]),(13,(jT.ag x81))] ?_
 refine ae ?_
 have hPl:(put x81 true l70).length=l70.length+1:=by rw [FO ez]; simp
 have hKd:oc (put x81 true l70):=Dy hKd ez
 have hKu:∀ k∈(put x81 true l70).map Prod.fst,k∈univ a0:=KS hKu ez
 have hPle:(put x81 true l70).length<=(univ a0).length:=by rw [<- List.length_map Prod.fst]; exact Co hKd hKu
 have hT:∀ y∈(put x81 true l70),y.2=true:=sw (P:=λy:Bool=>y=true) hT rfl
 refine kn (H:=H91) rfl (oY (H:=H91) (i:=5) (ek:=pK) (ev:=bK) (l:=l70) x81 true hS92 rfl rfl rfl rfl rfl rfl nD) ?_
 rintro _ H113 ⟨rfl,hS114⟩
 refine oN ?_
 refine xR (λE Z=>(E=[(2,(jQ b1)),(3,(jQ b4)),(4,.la 4 0),(5,.bool r24.lq),(6,(.hm b25)),(7,(jQ b28)),(12,.kY 189 [] [(jQ b1),(jQ b28)]),(13,.la 13 0)]/\Z = { H113 with cH:=[(4,[iv 0,iv 0,iv 0,iN,iN,iN,iN,iN,jZ]),(13,(jT.ag x81))] })) ?_ ?_
 rintro _ _ ⟨rfl,rfl⟩
 refine aa ?_
 refine m5 7 hS114 (.ip (iS.ag a0) 0 false) ?_
 refine am ?_
 refine oC (t102 a0 x81.elem) ?_
 rintro _ ⟨r116,hc115,rfl⟩
 have hK:=hc115
 refine dv ?_
 refine kR (λh117=>?_) (λh117=>?_)
 refine oV ?_
 refine dm ?_
 refine od 6 hS114 ?_
 refine DN 6 hS114 (.bool true) λH118 hS119=>?_
 refine oN ?_
 refine ⟨_,?_,v62,l63,v64,l65,v66,l67,v87,((l69.take (((l69.length:Int) - 1).toNat))),((put x81 true l70)),n71,n72,n73,true,H118,rfl,gj,gi,gl,gg,eL,eF,eF,eF,gh,fw,hS119,atR⟩
 first | omega | (simp only [List.length_append,List.length_cons,List.length_nil,List.length_take] at *; omega)
 refine br ?_
 refine kR (λh120=>?_) (λh120=>?_)
 refine be ?_
 refine aX ?_
 refine kR (λh121=>?_) (λh121=>?_)
 refine az ?_
 refine aX ?_
 have hS122:=Sep.pick hS114 [6,0,2,1,3,4,5,7] 8 eB eB
 refine kI (H:=H113) (args:=[(jQ b4),iv x81.elem]) (p:=[]) (r:=[]) rfl rfl rfl rfl rfl rfl rfl (Oa b4 n71 n72 n73 r8 r10 v62 l63 v66 l67 v64 l65 b74 x81.elem (m6 jT.ag 2 v87 (l69.take (((l69.length:Int) - 1).toNat))::kO b28 [v87]::ng b25 pK bK (put x81 true l70)::kO b1 [.ip (iS.ag a0) 0 false]::[]) hS122 ey) ?_
 rintro _ H123 ⟨r129,vzo126,zoneo127,bareo128,hc125,hS124,rfl⟩
 have hZr:∀ x∈zoneo127,m4 x:=λx hx=>(hc125.2 x hx).elim (hZr x) (λe=>by rw [e]; exact q6 _ ez)
 have hc125:=hc125.1
 cases r129
 refine ah ?_
 refine wz [(jQ b1),(jQ b4),.la 4 0,.bool r24.lq,(.hm b25),(jQ b28),.kY 189 [] [(jQ b1),(jQ b28)]] H123 [(4,[iv 0,iv 0,iv 0,iN,iN,iN,iN,iN,jZ])] ?_
 refine qe ?_
 have hS130:=Sep.pick hS124 [1,3,2,4,5,6,0,7] 8 eB eB
 refine ⟨_,?_,v62,l63,v64,l65,vzo126,zoneo127,v87,((l69.take (((l69.length:Int) - 1).toNat))),((put x81 true l70)),n71,n72,n73,bareo128,H123,rfl,gj,gi,gl,gg,eL,eF,eF,eF,gh,fw,hS130,atR⟩
 first | omega | (simp only [List.length_append,List.length_cons,List.length_nil,List.length_take] at *; omega)
 refine az ?_
 refine a6 ?_
 have hS131:=Sep.pick hS124 [7,5,4,0,1,2,3,6] 8 eB eB
 refine kI (H:=H123) (args:=[iv x81.elem,iv 2]) (p:=[]) (r:=[(jQ b1),(jQ b28)]) rfl rfl rfl rfl rfl rfl rfl (JQ x81.elem 2 b1 a0 b28 v87 (l69.take (((l69.length:Int) - 1).toNat)) (kO b4 [iv n71,iv n72,iv n73,kQ r8,lT r10,v62,vzo126,v64,.bool bareo128]::my lI.ag 2 v62 l63::lG vzo126 zoneo127::lG v64 l65::ng b25 pK bK (put x81 true l70)::[]) hS131 ey) ?_
 rintro _ H132 ⟨vto135,todoo136,hc134,hS133,rfl⟩
 have hTu:∀ y∈todoo136,y∈univ a0:=λy hy=>(hc134.2 y hy).elim (hTu y) id
 refine oN ?_
 refine bz ?_
 have hS137:=Sep.pick hS133 [0,1,2,3,4,5,6,7] 8 eB eB
 refine kI (H:=H132) (args:=[iv x81.elem,iv 1]) (p:=[]) (r:=[(jQ b1),(jQ b28)]) rfl rfl rfl rfl rfl rfl rfl (JQ x81.elem 1 b1 a0 b28 vto135 todoo136 (kO b4 [iv n71,iv n72,iv n73,kQ r8,lT r10,v62,vzo126,v64,.bool bareo128]::my lI.ag 2 v62 l63::lG vzo126 zoneo127::lG v64 l65::ng b25 pK bK (put x81 true l70)::[]) hS137 ey) ?_
 rintro _ H138 ⟨vto141,todoo142,hc140,hS139,rfl⟩
 have hTu:∀ y∈todoo142,y∈univ a0:=λy hy=>(hc140.2 y hy).elim (hTu y) id
 refine oN ?_
 refine wz [(jQ b1),(jQ b4),.la 4 0,.bool r24.lq,(.hm b25),(jQ b28),.kY 189 [] [(jQ b1),(jQ b28)]] H138 [(4,[iv 0,iv 0,iv 0,iN,iN,iN,iN,iN,jZ])] ?_
 refine qe ?_
 have hS143:=Sep.pick hS139 [4,6,5,2,1,7,3,0] 8 eB eB
 refine ⟨_,?_,v62,l63,v64,l65,vzo126,zoneo127,vto141,todoo142,((put x81 true l70)),n71,n72,n73,bareo128,H138,rfl,gj,gi,gl,gg,eL,eF,eF,eF,gh,fw,hS143,atR⟩
 first | omega | (simp only [List.length_append,List.length_cons,List.length_nil,List.length_take] at *; omega)
 refine ah ?_
 refine wz [(jQ b1),(jQ b4),.la 4 0,.bool r24.lq,(.hm b25),(jQ b28),.kY 189 [] [(jQ b1),(jQ b28)],.la 13 0] H113 [(4,[iv 0,iv 0,iv 0,iN,iN,iN,iN,iN,jZ]),(13,(jT.ag x81))] ?_
 refine ai ?_
 refine dl ?_
 refine dK ?_
 refine od 6 hS114 ?_
 refine m5 6 hS114 (lT r10) ?_
 refine oV ?_
 refine oC (t192 (Row.mg r10) (⟨x81.elem,x81.en⟩:lI)) ?_
 rintro _ ⟨r145,hc144,rfl⟩
 cases r145
 refine oV ?_
 refine d6 ?_
 refine oV ?_
 refine nU hS114 0 λr146 hl147 hln150 hz149=>?_
 refine mM (args:=[v62,.agg (jT.ag x81)]) (p:=[]) (r:=[]) (args':=[jS.av lI.ag r146,.agg (jT.ag x81)]) (R:=LC r146 (⟨x81.elem,x81.en⟩:lI)) rfl rfl rfl rfl rfl (jU (Sep.arg (i:=0) hS114 rfl) (jU rfl kE)) rfl fy (lx (by show kG (freeze true { H113 with cH:=[] } 8) [v62,.agg (jT.ag x81)] = _; simp only [FZ,hz149]) (jU (Sep.qC (i:=0) hS114 rfl) (jU rfl kE))) (lx fk (jU rfl (jU rfl kE))) (λh=>t192 r146 (⟨x81.elem,x81.en⟩:lI)  h) ?_
 rintro _ ⟨r152,hc151,rfl⟩
 cases r152
 refine aH ?_
 refine wz [(jQ b1),(jQ b4),.la 4 0,.bool r24.lq,(.hm b25),(jQ b28),.kY 189 [] [(jQ b1),(jQ b28)],.la 13 0] H113 [(4,[iv 0,iv 0,iv 0,iN,iN,iN,iN,iN,jZ]),(13,(jT.ag x81))] ?_
 refine bL ?_
 refine jP rfl (λ_=>me rfl rfl rfl (ru .i64 3 x81.en)) ?_
 refine bu ?_
 refine aa ?_
 refine d6 ?_
 refine oV ?_
 refine nU hS114 0 λr153 hl154 hln157 hz156=>?_
 refine mM (args:=[v62,.agg [iv x81.elem,iv (IntKind.i64.wrap (3 - x81.en))]]) (p:=[]) (r:=[]) (args':=[jS.av lI.ag r153,.agg [iv x81.elem,iv (IntKind.i64.wrap (3 - x81.en))]]) (R:=LC r153 (⟨x81.elem,(IntKind.i64.wrap (3 - x81.en))⟩:lI)) rfl rfl rfl rfl rfl (jU (Sep.arg (i:=0) hS114 rfl) (jU rfl kE)) rfl fy (lx (by show kG (freeze true { H113 with cH:=[] } 8) [v62,.agg [iv x81.elem,iv (IntKind.i64.wrap (3 - x81.en))]] = _; simp only [FZ,hz156]) (jU (Sep.qC (i:=0) hS114 rfl) (jU rfl kE))) (lx fk (jU rfl (jU rfl kE))) (λh=>t192 r153 (⟨x81.elem,(IntKind.i64.wrap (3 - x81.en))⟩:lI)  h) ?_
 rintro _ ⟨r159,hc158,rfl⟩
 cases r159
 refine oV ?_
 refine dm ?_
 refine d6 ?_
 refine am ?_
 refine Oz 0 [(⟨x81.elem,(IntKind.i64.wrap (3 - x81.en))⟩:lI)] hS114 λv160 H161 hS162=>?_
 refine od 6 hS162 ?_
 refine kn (H:=H161) rfl (lY (H:=H161) (i:=6) (o:=5) (r:=v160) hS162 rfl rfl rfl rfl (mF rfl rfl (Sep.cell (i:=0) hS162 rfl)) (jU (Sep.cell (i:=0) hS162 rfl) kE) rfl) ?_
 rintro _ H163 ⟨rfl,hS164⟩
 refine oN ?_
 refine ⟨_,?_,v160,((l63++[(⟨x81.elem,(IntKind.i64.wrap (3 - x81.en))⟩:lI)])),v64,l65,v66,l67,v87,((l69.take (((l69.length:Int) - 1).toNat))),((put x81 true l70)),n71,n72,n73,b74,H163,rfl,gj,gi,gl,gg,eL,eF,eF,eF,gh,fw,hS164,atR⟩
 first | omega | (simp only [List.length_append,List.length_cons,List.length_nil,List.length_take] at *; omega)
 refine aH ?_
 refine ⟨_,?_,v62,l63,v64,l65,v66,l67,v87,((l69.take (((l69.length:Int) - 1).toNat))),((put x81 true l70)),n71,n72,n73,b74,H113,rfl,gj,gi,gl,gg,eL,eF,eF,eF,gh,fw,hS114,atR⟩
 first | omega | (simp only [List.length_append,List.length_cons,List.length_nil,List.length_take] at *; omega)
 refine be ?_
 refine aX ?_
 have hS165:=Sep.pick hS114 [6,0,2,1,3,4,5,7] 8 eB eB
 refine kI (H:=H113) (args:=[(jQ b4),iv x81.elem]) (p:=[]) (r:=[]) rfl rfl rfl rfl rfl rfl rfl (Oa b4 n71 n72 n73 r8 r10 v62 l63 v66 l67 v64 l65 b74 x81.elem (m6 jT.ag 2 v87 (l69.take (((l69.length:Int) - 1).toNat))::kO b28 [v87]::ng b25 pK bK (put x81 true l70)::kO b1 [.ip (iS.ag a0) 0 false]::[]) hS165 ey) ?_
 rintro _ H166 ⟨r172,vzo169,zoneo170,bareo171,hc168,hS167,rfl⟩
 have hZr:∀ x∈zoneo170,m4 x:=λx hx=>(hc168.2 x hx).elim (hZr x) (λe=>by rw [e]; exact q6 _ ez)
 have hc168:=hc168.1
 cases r172
 refine ah ?_
 refine wz [(jQ b1),(jQ b4),.la 4 0,.bool r24.lq,(.hm b25),(jQ b28),.kY 189 [] [(jQ b1),(jQ b28)]] H166 [(4,[iv 0,iv 0,iv 0,iN,iN,iN,iN,iN,jZ])] ?_
 refine qe ?_
 have hS173:=Sep.pick hS167 [1,3,2,4,5,6,0,7] 8 eB eB
 refine ⟨_,?_,v62,l63,v64,l65,vzo169,zoneo170,v87,((l69.take (((l69.length:Int) - 1).toNat))),((put x81 true l70)),n71,n72,n73,bareo171,H166,rfl,gj,gi,gl,gg,eL,eF,eF,eF,gh,fw,hS173,atR⟩
 first | omega | (simp only [List.length_append,List.length_cons,List.length_nil,List.length_take] at *; omega)
 refine az ?_
 refine bz ?_
 have hS174:=Sep.pick hS167 [7,5,4,0,1,2,3,6] 8 eB eB
 refine kI (H:=H166) (args:=[iv x81.elem,iv 0]) (p:=[]) (r:=[(jQ b1),(jQ b28)]) rfl rfl rfl rfl rfl rfl rfl (JQ x81.elem 0 b1 a0 b28 v87 (l69.take (((l69.length:Int) - 1).toNat)) (kO b4 [iv n71,iv n72,iv n73,kQ r8,lT r10,v62,vzo169,v64,.bool bareo171]::my lI.ag 2 v62 l63::lG vzo169 zoneo170::lG v64 l65::ng b25 pK bK (put x81 true l70)::[]) hS174 ey) ?_
 rintro _ H175 ⟨vto178,todoo179,hc177,hS176,rfl⟩
 have hTu:∀ y∈todoo179,y∈univ a0:=λy hy=>(hc177.2 y hy).elim (hTu y) id
 refine oN ?_
 refine wz [(jQ b1),(jQ b4),.la 4 0,.bool r24.lq,(.hm b25),(jQ b28),.kY 189 [] [(jQ b1),(jQ b28)]] H175 [(4,[iv 0,iv 0,iv 0,iN,iN,iN,iN,iN,jZ])] ?_
 refine qe ?_
 have hS180:=Sep.pick hS176 [4,6,5,2,1,7,3,0] 8 eB eB
 refine ⟨_,?_,v62,l63,v64,l65,vzo169,zoneo170,vto178,todoo179,((put x81 true l70)),n71,n72,n73,bareo171,H175,rfl,gj,gi,gl,gg,eL,eF,eF,eF,gh,fw,hS180,atR⟩
 first | omega | (simp only [List.length_append,List.length_cons,List.length_nil,List.length_take] at *; omega)
 refine bp ?_
 refine be ?_
 refine aX ?_
 have hS181:=Sep.pick hS114 [6,0,2,1,3,4,5,7] 8 eB eB
 refine kI (H:=H113) (args:=[(jQ b4),iv x81.elem]) (p:=[]) (r:=[]) rfl rfl rfl rfl rfl rfl rfl (Oa b4 n71 n72 n73 r8 r10 v62 l63 v66 l67 v64 l65 b74 x81.elem (m6 jT.ag 2 v87 (l69.take (((l69.length:Int) - 1).toNat))::kO b28 [v87]::ng b25 pK bK (put x81 true l70)::kO b1 [.ip (iS.ag a0) 0 false]::[]) hS181 ey) ?_
 rintro _ H182 ⟨r188,vzo185,zoneo186,bareo187,hc184,hS183,rfl⟩
 have hZr:∀ x∈zoneo186,m4 x:=λx hx=>(hc184.2 x hx).elim (hZr x) (λe=>by rw [e]; exact q6 _ ez)
 have hc184:=hc184.1
 cases r188
 refine ah ?_
 refine wz [(jQ b1),(jQ b4),.la 4 0,.bool r24.lq,(.hm b25),(jQ b28),.kY 189 [] [(jQ b1),(jQ b28)]] H182 [(4,[iv 0,iv 0,iv 0,iN,iN,iN,iN,iN,jZ])] ?_
 refine qe ?_
 have hS189:=Sep.pick hS183 [1,3,2,4,5,6,0,7] 8 eB eB
 refine ⟨_,?_,v62,l63,v64,l65,vzo185,zoneo186,v87,((l69.take (((l69.length:Int) - 1).toNat))),((put x81 true l70)),n71,n72,n73,bareo187,H182,rfl,gj,gi,gl,gg,eL,eF,eF,eF,gh,fw,hS189,atR⟩
 first | omega | (simp only [List.length_append,List.length_cons,List.length_nil,List.length_take] at *; omega)
 refine az ?_
 refine bz ?_
 have hS190:=Sep.pick hS183 [7,5,4,0,1,2,3,6] 8 eB eB
 refine kI (H:=H182) (args:=[iv x81.elem,iv 0]) (p:=[]) (r:=[(jQ b1),(jQ b28)]) rfl rfl rfl rfl rfl rfl rfl (JQ x81.elem 0 b1 a0 b28 v87 (l69.take (((l69.length:Int) - 1).toNat)) (kO b4 [iv n71,iv n72,iv n73,kQ r8,lT r10,v62,vzo185,v64,.bool bareo187]::my lI.ag 2 v62 l63::lG vzo185 zoneo186::lG v64 l65::ng b25 pK bK (put x81 true l70)::[]) hS190 ey) ?_
 rintro _ H191 ⟨vto194,todoo195,hc193,hS192,rfl⟩
 have hTu:∀ y∈todoo195,y∈univ a0:=λy hy=>(hc193.2 y hy).elim (hTu y) id
 refine oN ?_
 refine wz [(jQ b1),(jQ b4),.la 4 0,.bool r24.lq,(.hm b25),(jQ b28),.kY 189 [] [(jQ b1),(jQ b28)]] H191 [(4,[iv 0,iv 0,iv 0,iN,iN,iN,iN,iN,jZ])] ?_
 refine qe ?_
 have hS196:=Sep.pick hS192 [4,6,5,2,1,7,3,0] 8 eB eB
 refine ⟨_,?_,v62,l63,v64,l65,vzo185,zoneo186,vto194,todoo195,((put x81 true l70)),n71,n72,n73,bareo187,H191,rfl,gj,gi,gl,gg,eL,eF,eF,eF,gh,fw,hS196,atR⟩
 first | omega | (simp only [List.length_append,List.length_cons,List.length_nil,List.length_take] at *; omega)
 refine br ?_
 refine m5 7 hS114 (.ip (iS.ag a0) 0 false) ?_
 refine aK ?_
 refine oC (t193 a0 x81.elem x81.en 0) ?_
 rintro _ ⟨r198,r199,hc197,rfl⟩
 cases r199
 refine aK ?_
 refine aZ ?_
 refine cm ?_
 refine aH ?_
 refine ⟨_,?_,v62,l63,v64,l65,v66,l67,v87,((l69.take (((l69.length:Int) - 1).toNat))),((put x81 true l70)),n71,n72,n73,b74,H113,rfl,gj,gi,gl,gg,eL,eF,eF,eF,gh,fw,hS114,atR⟩
 first | omega | (simp only [List.length_append,List.length_cons,List.length_nil,List.length_take] at *; omega)
 refine oV ?_
 refine bZ ?_
 refine bL ?_
 have hS200:=Sep.pick hS114 [6,0,2,1,3,4,5,7] 8 eB eB
 refine kI (H:=H113) (args:=[(jQ b4),iv x81.elem]) (p:=[]) (r:=[]) rfl rfl rfl rfl rfl rfl rfl (Oa b4 n71 n72 n73 r8 r10 v62 l63 v66 l67 v64 l65 b74 x81.elem (m6 jT.ag 2 v87 (l69.take (((l69.length:Int) - 1).toNat))::kO b28 [v87]::ng b25 pK bK (put x81 true l70)::kO b1 [.ip (iS.ag a0) 0 false]::[]) hS200 ey) ?_
 rintro _ H201 ⟨r207,vzo204,zoneo205,bareo206,hc203,hS202,rfl⟩
 have hZr:∀ x∈zoneo205,m4 x:=λx hx=>(hc203.2 x hx).elim (hZr x) (λe=>by rw [e]; exact q6 _ ez)
 have hc203:=hc203.1
 cases r207
 refine aH ?_
 have hS208:=Sep.pick hS202 [1,3,2,4,5,6,0,7] 8 eB eB
 refine ⟨_,?_,v62,l63,v64,l65,vzo204,zoneo205,v87,((l69.take (((l69.length:Int) - 1).toNat))),((put x81 true l70)),n71,n72,n73,bareo206,H201,rfl,gj,gi,gl,gg,eL,eF,eF,eF,gh,fw,hS208,atR⟩
 first | omega | (simp only [List.length_append,List.length_cons,List.length_nil,List.length_take] at *; omega)
 refine oV ?_
 refine dm ?_
 refine aK ?_
 have hS209:=Sep.pick hS202 [7,5,4,0,1,2,3,6] 8 eB eB
 refine kI (H:=H201) (args:=[iv x81.elem,iv r198]) (p:=[]) (r:=[(jQ b1),(jQ b28)]) rfl rfl rfl rfl rfl rfl rfl (JQ x81.elem r198 b1 a0 b28 v87 (l69.take (((l69.length:Int) - 1).toNat)) (kO b4 [iv n71,iv n72,iv n73,kQ r8,lT r10,v62,vzo204,v64,.bool bareo206]::my lI.ag 2 v62 l63::lG vzo204 zoneo205::lG v64 l65::ng b25 pK bK (put x81 true l70)::[]) hS209 ey) ?_
 rintro _ H210 ⟨vto213,todoo214,hc212,hS211,rfl⟩
 have hTu:∀ y∈todoo214,y∈univ a0:=λy hy=>(hc212.2 y hy).elim (hTu y) id
 refine oN ?_
 have hS215:=Sep.pick hS211 [4,6,5,2,1,7,3,0] 8 eB eB
 refine ⟨_,?_,v62,l63,v64,l65,vzo204,zoneo205,vto213,todoo214,((put x81 true l70)),n71,n72,n73,bareo206,H210,rfl,gj,gi,gl,gg,eL,eF,eF,eF,gh,fw,hS215,atR⟩
 first | omega | (simp only [List.length_append,List.length_cons,List.length_nil,List.length_take] at *; omega)
 refine aa ?_
 refine m5 7 hS114 (.ip (iS.ag a0) 0 false) ?_
 refine oV ?_
 refine oC (t181 a0 x81) ?_
 rintro _ ⟨r217,hc216,rfl⟩
 have hR:=hc216
 refine aZ ?_
 refine mV (λh218=>?_) (λh218=>?_)
 refine oV ?_
 refine lS (b:=r24.lq) rfl (λ_=>rfl) (λh219=>?_) (λh219=>?_)
 refine dt ?_
 exact ⟨rfl,rfl⟩
 refine oV ?_
 refine be ?_
 refine dK ?_
 refine od 6 hS114 ?_
 refine m5 6 hS114 v64 ?_
 refine oV ?_
 refine nU hS114 1 λr220 hl221 hln224 hz223=>?_
 refine mM (args:=[v64,iv r217]) (p:=[]) (r:=[]) (args':=[ly r220,iv r217]) (R:=La r220 r217) rfl rfl rfl rfl rfl (jU (Sep.arg (i:=1) hS114 rfl) (jU rfl kE)) rfl fy (lx (by show kG (freeze true { H113 with cH:=[] } 8) [v64,iv r217] = _; simp only [FZ,hz223]) (jU (Sep.qC (i:=1) hS114 rfl) (jU rfl kE))) (lx fk (jU rfl (jU rfl kE))) (λh=>t113 r220 r217  h) ?_
 rintro _ ⟨r226,hc225,rfl⟩
 cases r226
 refine oV ?_
 refine dm ?_
 refine od 6 hS114 ?_
 refine m5 6 hS114 v64 ?_
 refine am ?_
 refine Oz 1 [r217] hS114 λv227 H228 hS229=>?_
 refine od 6 hS229 ?_
 refine kn (H:=H228) rfl (lY (H:=H228) (i:=6) (o:=7) (r:=v227) hS229 rfl rfl rfl rfl (mF rfl rfl (Sep.cell (i:=1) hS229 rfl)) (jU (Sep.cell (i:=1) hS229 rfl) kE) rfl) ?_
 rintro _ H230 ⟨rfl,hS231⟩
 refine oN ?_
 refine wz [(jQ b1),(jQ b4),.la 4 0,.bool r24.lq,(.hm b25),(jQ b28),.kY 189 [] [(jQ b1),(jQ b28)]] H230 [(4,[iv 0,iv 0,iv 0,iN,iN,iN,iN,iN,jZ])] ?_
 refine qe ?_
 refine ⟨_,?_,v62,l63,v227,((l65++[r217])),v66,l67,v87,((l69.take (((l69.length:Int) - 1).toNat))),((put x81 true l70)),n71,n72,n73,b74,H230,rfl,gj,gi,gl,gg,eL,eF,eF,eF,gh,fw,hS231,atR⟩
 first | omega | (simp only [List.length_append,List.length_cons,List.length_nil,List.length_take] at *; omega)
 refine aH ?_
 refine wz [(jQ b1),(jQ b4),.la 4 0,.bool r24.lq,(.hm b25),(jQ b28),.kY 189 [] [(jQ b1),(jQ b28)]] H113 [(4,[iv 0,iv 0,iv 0,iN,iN,iN,iN,iN,jZ])] ?_
 refine qe ?_
 refine ⟨_,?_,v62,l63,v64,l65,v66,l67,v87,((l69.take (((l69.length:Int) - 1).toNat))),((put x81 true l70)),n71,n72,n73,b74,H113,rfl,gj,gi,gl,gg,eL,eF,eF,eF,gh,fw,hS114,atR⟩
 first | omega | (simp only [List.length_append,List.length_cons,List.length_nil,List.length_take] at *; omega)
 refine bv ?_
 refine aH ?_
 exact ⟨rfl,rfl⟩
 refine cm ?_
 refine de ?_
 refine ⟨_,?_,v62,l63,v64,l65,v66,l67,v87,((l69.take (((l69.length:Int) - 1).toNat))),l70,n71,n72,n73,b74,H91,rfl,gj,gi,gl,gg,eL,eF,eF,eF,gh,fw,hS92,atR⟩
 first | omega | (simp only [List.length_append,List.length_cons,List.length_nil,List.length_take] at *; omega)
 refine aN ?_
 refine wz [(jQ b4),.la 4 0,.la 4 0] H75 [(4,[iv 0,iv 0,iv 0,iN,iN,iN,iN,iN,jZ]),(4,[iv 0,iv 0,iv 0,iN,iN,iN,iN,iN,jZ])] ?_
 refine aa ?_
 refine m5 6 hS76 (.agg [iv n71,iv n72,iv n73,kQ r8,lT r10,v62,v66,v64,.bool b74]) ?_
 refine jP rfl (λ_=>qi rfl rfl rfl rfl (jU rfl (jU rfl (jU rfl (jU rfl (jU rfl (jU (Sep.cell (i:=0) hS76 rfl) (jU (Sep.cell (i:=2) hS76 rfl) (jU (Sep.cell (i:=1) hS76 rfl) (jU rfl kE))))))))) rfl rfl) ?_
 refine dg ?_
 obtain ⟨r232,hl233,hf234⟩:=lK (H:=H75) (i:=0) (l:=l63) (enc:=lI.ag) hS76 rfl eA
 have hlq:=hl233; have hln236:=congrArg List.length hl233
 have hz235:∀ m,freeze false { H75 with cH:=[(4,[iv n71,iv n72,iv n73,kQ r8,lT r10,v62,v66,v64,.bool b74])] } (m+2) v62=some (lT r232):=λm=>hf234 _ _ (λ_=>rfl)
 obtain ⟨r237,hl238,hf239⟩:=lK (H:=H75) (i:=2) (l:=l67) (enc:=j6) hS76 rfl eA
 have hlq:=hl238; have hln241:=congrArg List.length hl238
 have hz240:∀ m,freeze false { H75 with cH:=[(4,[iv n71,iv n72,iv n73,kQ r8,lT r10,v62,v66,v64,.bool b74])] } (m+2) v66=some (kN r237):=λm=>hf239 _ _ (λ_=>rfl)
 obtain ⟨r242,hl243,hf244⟩:=lK (H:=H75) (i:=1) (l:=l65) (enc:=j6) hS76 rfl eA
 have hlq:=hl243; have hln246:=congrArg List.length hl243
 have hz245:∀ m,freeze false { H75 with cH:=[(4,[iv n71,iv n72,iv n73,kQ r8,lT r10,v62,v66,v64,.bool b74])] } (m+2) v64=some (kN r242):=λm=>hf244 _ _ (λ_=>rfl)
 exact ⟨.agg [iv n71,iv n72,iv n73,kQ r8,lT r10,v62,v66,v64,.bool b74],(lL (vs:=[.agg [iv n71,iv n72,iv n73,kQ r8,lT r10,v62,v66,v64,.bool b74]]) rfl rfl),.agg [iv n71,iv n72,iv n73,kQ r8,lT r10,lT r232,kN r237,kN r242,.bool b74],(show freeze false { H75 with cH:=[(4,[iv n71,iv n72,iv n73,kQ r8,lT r10,v62,v66,v64,.bool b74])] } 8 (.agg [iv n71,iv n72,iv n73,kQ r8,lT r10,v62,v66,v64,.bool b74])=some (.agg [iv n71,iv n72,iv n73,kQ r8,lT r10,lT r232,kN r237,kN r242,.bool b74]) by simp only [FZ,hz235,hz240,hz245]),(⟨n71,n72,n73,r8,r10,r232,r237,r242,b74⟩:kz),(by refine ⟨by simp_all [Row.mg],by simp_all [Row.mg],by dsimp only; omega,?_,by dsimp only; omega,by dsimp only; omega⟩; simp_all),rfl⟩
def Wy (_a0:iF) (v:AV):Prop:=∃ r0:j5,∃ r1:Int,((r1=0->((∀ r∈(r0.roads.l:List kz),0<r.steps.l.length/\r.steps.l.length<=12/\r.nm.l.length<=12/\pD r)/\r0.roads.l.length<=64)/\(r0.dO = _a0.canon/\∃ n:iS,ot n _a0/\rs 31 [.agg (iF.ag _a0)]=.kq [.ip (iS.ag n) 0 false,iv 0])))/\v=.kq [.agg (j5.ag r0),iv r1]
def Rt (a0:iF) (q1:mB a0):Ct 57 [.agg (iF.ag a0)] (Wy a0):=by
 refine j9 MH ?_
 refine ae ?_
 refine aZ ?_
 refine oC (t31 a0 ey) ?_
 rintro _ (⟨r2,⟨hc1,hc1r⟩,rfl⟩ | ⟨r3,⟨hc1,hc1r⟩,rfl⟩)
 have hFw:=hc1.vD; have hFs:=hc1.vD.signals; have hFl:=hc1.len; have hRg:=hc1.rg; have hNe:=hc1; have hNr:=hc1r
 refine bV ?_
 refine aH ?_
 refine ai ?_
 refine kI (H:=aT.empty) (args:=[.ip (iS.ag r2) 0 false]) (p:=[]) (r:=[]) rfl rfl rfl rfl rfl rfl rfl (s52 r2 ([]) kV ey ey) ?_
 rintro _ H5 ⟨ov8,ol9,eo10,hc7,hS6,rfl⟩
 have hR:=hc7.1
 have hI:=hc7.2
 refine bV ?_
 refine lR (λh11=>?_) (λh11=>?_)
 refine az ?_
 refine dq ?_
 exact xG ⟨(⟨(⟨(lZ:Row lV),(lZ:Row lQ),(lZ:Row lP),(lZ:Row lr),0,0,0,0,false⟩:iF),(lZ:Row kz)⟩:j5),eo10,eY,rfl⟩
 refine ah ?_
 refine wz [.la 2 0,.ip (iS.ag r2) 0 false,ov8] H5 [(2,[iN,iN,iN,iN,iv 0,iv 0,iv 0,iv 0,jZ,iN])] ?_ (kh hS6 [(6,0)])
 refine aq ?_
 refine jP rfl (λ_=>nb (i:=0) hS6 rfl rfl rfl rfl rfl rfl rfl) ?_
 refine aC ?_
 refine jW ol9.length (λk12 e h=>∃ v13:AV,∃ l14:List kz,∃ H15:aT,((∀ r∈(l14:List kz),0<r.steps.l.length/\r.steps.l.length<=12/\r.nm.l.length<=12/\pD r))/\(l14.length<=64/\(l14.length:Int)=(ol9.length:Int))/\Sep H15 (my kz.ag 9 v13 l14::[])/\At [2,4,6,27,28] [.la 2 0,.ip (iS.ag r2) 0 false,v13,bY ol9.length,bY k12] H15 [(2,[iN,iN,iN,iN,iv 0,iv 0,iv 0,iv 0,jZ,iN])] e h) ?_ (k0:=0) eG ⟨ov8,ol9,H5,(by exact hR),eG,hS6,(kh hS6 [(6,0)])⟩
 rintro k12 e h hkk12 ⟨v13,l14,H15,hR,hI,hS16,hA⟩
 refine aA ?_
 refine kx (λh17=>?_) (λh17=>?_)
 refine ak ?_
 refine wz [.la 2 0,.ip (iS.ag r2) 0 false,v13,bY ol9.length,bY k12] H15 [(2,[iN,iN,iN,iN,iv 0,iv 0,iv 0,iv 0,jZ,iN])] ?_ (kh hS16 [(6,0)])
 refine dA ?_
 refine qg ?_
 refine aP ?_
 have hx18:k12<l14.length:=by first | omega | (simp<;>omega) | (simp_all; omega)
 obtain ⟨x19,hqx19⟩:∃ x,l14[k12]=x:=⟨_,rfl⟩
 have hinx19:x19∈l14:=by rw [<- hqx19]; exact List.getElem_mem _
 have hsx19:=hR x19 hinx19; have hsG:=hsx19
 refine mv rfl (lO (i:=0) (m:=k12) (cs:=kz.ag x19) hS16 rfl rfl rfl rfl rfl rfl rfl (lA hx18 hqx19)) ?_
 rintro a20 ⟨ha21,hea22⟩
 refine jP rfl (λ_=>mK (i:=0) (m:=k12) (o:=0) (r:=.agg (kz.ag x19)) (cs:=kz.ag x19) hS16 rfl (lA hx18 hqx19) hea22 rfl rfl ha21) ?_
 refine oC (t119 r2 x19 ey ey ey ey ey) ?_
 rintro _ ⟨r24,hc23,rfl⟩
 have hC53:=hc23
 have hx25:k12<l14.length:=by first | omega | (simp<;>omega) | (simp_all; omega)
 refine mv rfl (lO (i:=0) (m:=k12) (cs:=kz.ag x19) hS16 rfl rfl rfl rfl rfl rfl rfl (lA hx25 hqx19)) ?_
 rintro a26 ⟨ha27,hea28⟩
 refine kn rfl (nH (i:=0) (m:=k12) (o:=0) x19 r24 hS16 rfl hx25 hqx19 hea28 rfl ha27 rfl rfl rfl rfl) ?_
 rintro _ H29 ⟨rfl,hS30⟩
 refine oN ?_
 refine wz [.la 2 0,.ip (iS.ag r2) 0 false,v13,bY ol9.length,bY k12] H29 [(2,[iN,iN,iN,iN,iv 0,iv 0,iv 0,iv 0,jZ,iN])] ?_ (kh hS30 [(6,0)])
 refine qg ?_
 refine kD ?_
 refine ab ?_
 exact ⟨by omega,v13,((l14.set k12 r24)),H29,(by exact wP hR (by rw [hC53.1,hC53.2.1]; exact ⟨hsG.1,hsG.2.1,hsG.2.2.1,L1 hC53.1 hsG.2.2.2 hC53.2.2⟩)),eN,hS30,(kh hS30 [(6,0)])⟩
 refine aj ?_
 refine wz [.la 2 0,.la 2 0,.ip (iS.ag r2) 0 false,v13] H15 [(2,[iN,iN,iN,iN,iv 0,iv 0,iv 0,iv 0,jZ,iN]),(2,[iN,iN,iN,iN,iv 0,iv 0,iv 0,iv 0,jZ,iN])] ?_ (kh hS16 [(6,0)])
 refine ai ?_
 refine oC (t99 r2 ey) ?_
 rintro _ ⟨r32,hc31,rfl⟩
 have hPl:=hc31.2.2.2.2.2
 refine oV ?_
 rcases Sep.vQ (i:=0) hS16 rfl with ⟨rfl,hx35⟩ | ⟨rfl,hx35⟩ | ⟨b33,g34,rfl⟩
 refine bO ?_
 exact xG ⟨(⟨r32,(lZ:Row kz)⟩:j5),0,eY,rfl⟩
 refine bO ?_
 obtain ⟨r36,hl37,hf38⟩:=lK (H:=H15) (i:=0) (l:=l14) (enc:=kz.ag) hS16 rfl eA
 have hlq:=hl37; have hln40:=congrArg List.length hl37
 have hz39:∀ m,freeze false { H15 with cH:=[(2,[kB r32.elems,kC r32.kg,kF r32.signals,j8 r32.lines,iv r32.top,iv r32.kU,iv r32.kK,iv r32.kM,.bool r32.lq,(.sl [] (.exact 0))])] } (m+2) (.sl [] (.exact 0))=some (ki r36):=λm=>hf38 _ _ (λ_=>by simp only [kz.ag,kG,m0,nf,np,mY,nj])
 exact ⟨.kq [.agg [kB r32.elems,kC r32.kg,kF r32.signals,j8 r32.lines,iv r32.top,iv r32.kU,iv r32.kK,iv r32.kM,.bool r32.lq,(.sl [] (.exact 0))],iv 0],rfl,.kq [.agg [kB r32.elems,kC r32.kg,kF r32.signals,j8 r32.lines,iv r32.top,iv r32.kU,iv r32.kK,iv r32.kM,.bool r32.lq,ki r36],iv 0],(show freeze false { H15 with cH:=[(2,[kB r32.elems,kC r32.kg,kF r32.signals,j8 r32.lines,iv r32.top,iv r32.kU,iv r32.kK,iv r32.kM,.bool r32.lq,(.sl [] (.exact 0))])] } 8 (.kq [.agg [kB r32.elems,kC r32.kg,kF r32.signals,j8 r32.lines,iv r32.top,iv r32.kU,iv r32.kK,iv r32.kM,.bool r32.lq,(.sl [] (.exact 0))],iv 0])=some (.kq [.agg [kB r32.elems,kC r32.kg,kF r32.signals,j8 r32.lines,iv r32.top,iv r32.kU,iv r32.kK,iv r32.kM,.bool r32.lq,ki r36],iv 0]) by simp only [FZ,hz39]),(⟨r32,r36⟩:j5),0,eY,rfl⟩
 refine bO ?_
 obtain ⟨r41,hl42,hf43⟩:=lK (H:=H15) (i:=0) (l:=l14) (enc:=kz.ag) hS16 rfl eA
 have hlq:=hl42; have hln45:=congrArg List.length hl42
 have hz44:∀ m,freeze false { H15 with cH:=[(2,[kB r32.elems,kC r32.kg,kF r32.signals,j8 r32.lines,iv r32.top,iv r32.kU,iv r32.kK,iv r32.kM,.bool r32.lq,(.hs b33 g34 0 (List.map kz.ag l14).length)])] } (m+2) (.hs b33 g34 0 (List.map kz.ag l14).length)=some (ki r41):=λm=>hf43 _ _ (λ_=>by simp only [kz.ag,kG,m0,nf,np,mY,nj])
 exact ⟨.kq [.agg [kB r32.elems,kC r32.kg,kF r32.signals,j8 r32.lines,iv r32.top,iv r32.kU,iv r32.kK,iv r32.kM,.bool r32.lq,(.hs b33 g34 0 (List.map kz.ag l14).length)],iv 0],rfl,.kq [.agg [kB r32.elems,kC r32.kg,kF r32.signals,j8 r32.lines,iv r32.top,iv r32.kU,iv r32.kK,iv r32.kM,.bool r32.lq,ki r41],iv 0],(show freeze false { H15 with cH:=[(2,[kB r32.elems,kC r32.kg,kF r32.signals,j8 r32.lines,iv r32.top,iv r32.kU,iv r32.kK,iv r32.kM,.bool r32.lq,(.hs b33 g34 0 (List.map kz.ag l14).length)])] } 8 (.kq [.agg [kB r32.elems,kC r32.kg,kF r32.signals,j8 r32.lines,iv r32.top,iv r32.kU,iv r32.kK,iv r32.kM,.bool r32.lq,(.hs b33 g34 0 (List.map kz.ag l14).length)],iv 0])=some (.kq [.agg [kB r32.elems,kC r32.kg,kF r32.signals,j8 r32.lines,iv r32.top,iv r32.kU,iv r32.kK,iv r32.kM,.bool r32.lq,ki r41],iv 0]) by simp only [FZ,hz44]),(⟨r32,r41⟩:j5),0,eY,rfl⟩
 refine bV ?_
 refine lR (λh46=>?_) (λh46=>?_)
 refine az ?_
 refine dq ?_
 exact xG ⟨(⟨(⟨(lZ:Row lV),(lZ:Row lQ),(lZ:Row lP),(lZ:Row lr),0,0,0,0,false⟩:iF),(lZ:Row kz)⟩:j5),r3,eY,rfl⟩
 refine ah ?_
 refine ai ?_
 exfalso; omega
def P57 (_a0:iF) (v:AV):Prop:=∃ r0:j5,∃ r1:Int,(((r1=0->((∀ r∈(r0.roads.l:List kz),0<r.steps.l.length/\r.steps.l.length<=12/\r.nm.l.length<=12/\pD r)/\r0.roads.l.length<=64)/\(r0.dO = _a0.canon/\∃ n:iS,ot n _a0/\rs 31 [.agg (iF.ag _a0)]=.kq [.ip (iS.ag n) 0 false,iv 0])))/\rs 57 [.agg (iF.ag _a0)]=.kq [.agg (j5.ag r0),iv r1])/\v=.kq [.agg (j5.ag r0),iv r1]
def t57 (a0:iF) (q1:mB a0) (h:aT):∃ v,ka cfg FT ko false 57 [.agg (iF.ag a0)] h v h/\P57 a0 v:=by
 obtain ⟨v,hc,hP,hr⟩:=nC pF (Rt a0 q1) h
 obtain ⟨r0,r1,hp,rfl⟩:=hP
 exact iP
def XD (a0:iF) (q1:mB a0) {V:AV} (hV:rs 57 [.agg (iF.ag a0)]=V) (h:aT):∃ v,ka cfg FT ko false 57 [.agg (iF.ag a0)] h v h/\v=V:=by
 obtain ⟨v,hc,hP,hr⟩:=nC pF (Rt a0 q1) h
 exact iC
def P22 (_a0:iF) (v:AV):Prop:=∃ r0:j5,∃ r1:Bool,((r1=true->mB _a0/\r0.roads.l.length<=64/\(r0.dO = _a0.canon/\∃ n:iS,ot n _a0/\rs 31 [.agg (iF.ag _a0)]=.kq [.ip (iS.ag n) 0 false,iv 0])/\rs 57 [.agg (iF.ag _a0)]=.kq [.agg (j5.ag r0),iv 0]/\rs 27 [.agg (iF.ag _a0)]=.bool true/\(∀ r∈(r0.roads.l:List kz),0<r.steps.l.length/\r.steps.l.length<=12/\r.nm.l.length<=12/\pD r)))/\v=.kq [.agg (j5.ag r0),.bool r1]
def t22 (a0:iF) (hJg:JG a0):Ct 22 [.agg (iF.ag a0)] (P22 a0):=by
 refine j9 LA ?_
 refine ae ?_
 refine ao ?_
 refine oC (t27 a0 ey) ?_
 rintro _ ⟨r2,⟨hc1,hc1r⟩,rfl⟩
 have hFr:=hc1r
 cases r2
 clear hc1
 refine cI ?_
 exact xG ⟨(⟨(⟨(lZ:Row lV),(lZ:Row lQ),(lZ:Row lP),(lZ:Row lr),0,0,0,0,false⟩:iF),(lZ:Row kz)⟩:j5),false,fD,rfl⟩
 have hc1t:=hc1 rfl
 refine aH ?_
 refine ai ?_
 refine oC (t57 a0 ey) ?_
 rintro _ ⟨r4,r5,⟨hc3,hc3r⟩,rfl⟩
 have hBd:=hc3; have hBr:=hc3r
 refine aF ?_
 refine dM ?_
 refine kR (λh6=>?_) (λh6=>?_)
 refine aR ?_
 exact xG ⟨r4,true,fD,rfl⟩
 refine aR ?_
 exact xG ⟨r4,false,fD,rfl⟩
def P26 (_a0:jV) (v:AV):Prop:=∃ r0:Bool,((r0=true->_a0.j3.l.length<=10))/\v=.bool r0
def t26 (a0:jV) :Ct 26 [.agg (jV.ag a0)] (P26 a0):=by
 refine j9 M8 ?_
 refine bT ?_
 refine aX ?_
 have hL1:=a0.j3.lk
 refine lu a0.j3 ?_
 refine ma (λh2=>?_) (λh2=>?_)
 refine bp ?_
 refine au ?_
 exact im
 refine aF ?_
 have hL3:=a0.runs.lk
 refine lu a0.runs ?_
 refine ma (λh4=>?_) (λh4=>?_)
 refine au ?_
 exact im
 refine aH ?_
 refine aX ?_
 have hL5:=a0.runs.lk
 refine lu a0.runs ?_
 refine aC ?_
 have hNk6:=a0.runs.lk
 refine jW a0.runs.l.length (λk6 e h=>At [1,18,19,20] [.la 1 0,mc a0.runs,bY a0.runs.l.length,bY k6] aT.empty [(1,(jV.ag a0))] e h) ?_ (k0:=0) eG atR
 rintro k6 e h hkk6 hA
 refine aA ?_
 refine kx (λh7=>?_) (λh7=>?_)
 refine bC ?_
 have hx8:k6<a0.runs.l.length:=by omega
 refine ml k6 a0.runs hx8 ?_
 generalize hqx9:a0.runs.l[k6]=x9
 refine dM ?_
 have hL10:=x9.kH.lk
 refine lu x9.kH ?_
 refine ma (λh11=>?_) (λh11=>?_)
 refine bp ?_
 refine au ?_
 exact im
 refine aK ?_
 refine ma (λh12=>?_) (λh12=>?_)
 refine au ?_
 exact im
 refine cU ?_
 refine kD ?_
 refine ab ?_
 exact ic
 refine aj ?_
 refine aX ?_
 have hL13:=a0.j3.lk
 refine lu a0.j3 ?_
 refine aC ?_
 have hNk14:=a0.j3.lk
 refine jW a0.j3.l.length (λk14 e h=>At [36,37,38] [kj a0.j3,bY a0.j3.l.length,bY k14] aT.empty [] e h) ?_ (k0:=0) eG atR
 rintro k14 e h hkk14 hA
 refine aA ?_
 refine kx (λh15=>?_) (λh15=>?_)
 refine bC ?_
 have hx16:k14<a0.j3.l.length:=by omega
 refine ml k14 a0.j3 hx16 ?_
 generalize hqx17:a0.j3.l[k14]=x17
 refine bu ?_
 refine a6 ?_
 refine ma (λh18=>?_) (λh18=>?_)
 refine aW ?_
 exact im
 refine bU ?_
 refine kD ?_
 refine ab ?_
 exact ic
 refine aS ?_
 exact xB ⟨true,fx,rfl⟩
def YQ (_a0:Int) (_a1:Int) (_a2:Int) (v:AV):Prop:=∃ r0:Bool,(True)/\v=.bool r0
def t242 (a0:Int) (a1:Int) (a2:Int) :Ct 242 [iv a0,iv a1,iv a2] (YQ a0 a1 a2):=by
 refine j9 Hb ?_
 refine cX ?_
 refine mV (λh1=>?_) (λh1=>?_)
 refine aF ?_
 refine s5 (λh2=>?_) (λh2=>?_)
 refine aR ?_
 exact io
 refine aR ?_
 exact iq
 refine cm ?_
 refine aR ?_
 exact iq
def Zc (_a0:j4) (v:AV):Prop:=∃ r0:Bool,(True)/\v=.bool r0
def t209 (a0:j4) :Ct 209 [.agg (j4.ag a0)] (Zc a0):=by
 refine j9 IM ?_
 refine dE ?_
 refine oC (t69 a0.name) ?_
 rintro _ ⟨r2,hc1,rfl⟩
 cases r2
 refine cm ?_
 refine cg ?_
 refine aE ?_
 refine aR ?_
 exact iq
 refine aF ?_
 refine oC (t242 a0.len 1 4000) ?_
 rintro _ ⟨r4,hc3,rfl⟩
 cases r4
 refine cg ?_
 refine aE ?_
 refine aR ?_
 exact iq
 refine aK ?_
 refine oC (t242 a0.top 1 60) ?_
 rintro _ ⟨r6,hc5,rfl⟩
 cases r6
 refine aE ?_
 refine aR ?_
 exact iq
 refine aK ?_
 refine oC (t242 a0.acc 1 10) ?_
 rintro _ ⟨r8,hc7,rfl⟩
 cases r8
 refine cg ?_
 refine aR ?_
 exact iq
 refine aK ?_
 refine oC (t242 a0.kU 1 10) ?_
 rintro _ ⟨r10,hc9,rfl⟩
 cases r10
 refine aR ?_
 exact iq
 refine aR ?_
 exact io
def Xs (_a0:Row j4) (_a1:pv) (v:AV):Prop:=∃ r0:Int,(True)/\v=iv r0
def t210 (a0:Row j4) (a1:pv) :Ct 210 [kj a0,.str a1.l] (Xs a0 a1):=by
 refine j9 Hv ?_
 refine aY ?_
 have hL1:=a0.lk
 refine cN ?_
 have hNk2:=a0.lk
 refine jW a0.l.length (λk2 e h=>At [1,7,8,9] [.str a1.l,kj a0,bY a0.l.length,bY k2] aT.empty [] e h) ?_ (k0:=0) eG atR
 rintro k2 e h hkk2 hA
 refine aA ?_
 refine kx (λh3=>?_) (λh3=>?_)
 refine d7 ?_
 have hx4:k2<a0.l.length:=by omega
 refine ml k2 a0 hx4 ?_
 generalize hqx5:a0.l[k2]=x5
 refine bZ ?_
 refine a6 ?_
 refine oZ rfl (λ_=>sv rfl rfl) (λh6=>?_) (λh6=>?_)
 refine aJ ?_
 exact xB ⟨((k2:Int)),zt⟩
 refine bU ?_
 refine kD ?_
 refine ab ?_
 exact ic
 refine aS ?_
 exact jc
def YI (_a0:Row j4) (v:AV):Prop:=∃ r0:Int,(True)/\v=iv r0
def t139 (a0:Row j4) :Ct 139 [kj a0] (YI a0):=by
 refine j9 JB ?_
 refine aY ?_
 have hL1:=a0.lk
 refine lu a0 ?_
 refine ma (λh2=>?_) (λh2=>?_)
 refine aW ?_
 exact iw
 refine dS ?_
 have hL3:=a0.lk
 refine cN ?_
 have hNk4:=a0.lk
 refine jW a0.l.length (λk4 e h=>At [0,10,11,12] [kj a0,kj a0,bY a0.l.length,bY k4] aT.empty [] e h) ?_ (k0:=0) eG atR
 rintro k4 e h hkk4 hA
 refine aA ?_
 refine kx (λh5=>?_) (λh5=>?_)
 refine bC ?_
 have hx6:k4<a0.l.length:=by omega
 refine ml k4 a0 hx6 ?_
 generalize hqx7:a0.l[k4]=x7
 refine am ?_
 refine aZ ?_
 refine oC (t209 x7) ?_
 rintro _ ⟨r9,hc8,rfl⟩
 cases r9
 refine au ?_
 exact xB ⟨1,zt⟩
 refine cU ?_
 refine kD ?_
 refine ab ?_
 exact ic
 refine aj ?_
 refine aq ?_
 have hL10:=a0.lk
 refine cN ?_
 have hNk11:=a0.lk
 refine jW a0.l.length (λk11 e h=>At [0,20,21,22] [kj a0,kj a0,bY a0.l.length,bY k11] aT.empty [] e h) ?_ (k0:=0) eG atR
 rintro k11 e h hkk11 hA
 refine aA ?_
 refine kx (λh12=>?_) (λh12=>?_)
 refine d7 ?_
 have hx13:k11<a0.l.length:=by omega
 refine ml k11 a0 hx13 ?_
 generalize hqx14:a0.l[k11]=x14
 refine bZ ?_
 refine a6 ?_
 refine oC (t210 a0 x14.name) ?_
 rintro _ ⟨r16,hc15,rfl⟩
 refine oV ?_
 refine lR (λh17=>?_) (λh17=>?_)
 refine aW ?_
 exact xB ⟨4,zt⟩
 refine bU ?_
 refine kD ?_
 refine ab ?_
 exact ic
 refine aS ?_
 exact iQ
def P67 (_a0:iF) (_a1:Row j4) (v:AV):Prop:=∃ r0:Int,(True)/\v=iv r0
def t67 (a0:iF) (a1:Row j4) :Ct 67 [.agg (iF.ag a0),kj a1] (P67 a0 a1):=by
 refine j9 NT ?_
 refine ai ?_
 refine ao ?_
 refine oC (t139 a1) ?_
 rintro _ ⟨r2,hc1,rfl⟩
 refine aZ ?_
 refine lR (λh3=>?_) (λh3=>?_)
 refine aJ ?_
 exact xB ⟨r2,zt⟩
 refine dS ?_
 have hL4:=a1.lk
 refine lu a1 ?_
 refine aC ?_
 have hNk5:=a1.lk
 refine jW a1.l.length (λk5 e h=>At [2,13,14,15] [.la 2 0,kj a1,bY a1.l.length,bY k5] aT.empty [(2,(iF.ag a0))] e h) ?_ (k0:=0) eG atR
 rintro k5 e h hkk5 hA
 refine aA ?_
 refine kx (λh6=>?_) (λh6=>?_)
 refine bC ?_
 have hx7:k5<a1.l.length:=by omega
 refine ml k5 a1 hx7 ?_
 generalize hqx8:a1.l[k5]=x8
 refine bu ?_
 refine bL ?_
 refine ma (λh9=>?_) (λh9=>?_)
 refine ck ?_
 refine au ?_
 exact xB ⟨9,zt⟩
 refine aP ?_
 refine kx (λh10=>?_) (λh10=>?_)
 refine au ?_
 exact xB ⟨9,zt⟩
 refine cU ?_
 refine kD ?_
 refine ab ?_
 exact ic
 refine aS ?_
 exact iQ
def P68 (_a0:Int) (_a1:Int) (_a2:Int) (v:AV):Prop:=∃ r0:Bool,((r0=true->_a1<=_a0/\_a0<=_a2))/\v=.bool r0
def t68 (a0:Int) (a1:Int) (a2:Int) :Ct 68 [iv a0,iv a1,iv a2] (P68 a0 a1 a2):=by
 refine j9 Mi ?_
 refine cX ?_
 refine mV (λh1=>?_) (λh1=>?_)
 refine aF ?_
 refine s5 (λh2=>?_) (λh2=>?_)
 refine aR ?_
 exact iu
 refine aR ?_
 exact ir
 refine cm ?_
 refine aR ?_
 exact ir
def P38 (_a0:iF) (_a1:Int) (v:AV):Prop:=∃ r0:Int,(r0=qh _a0 _a1)/\v=iv r0
def t38 (a0:iF) (a1:Int) :Ct 38 [.agg (iF.ag a0),iv a1] (P38 a0 a1):=by
 refine j9 Lc ?_
 refine dE ?_
 refine oC (t89 a0 a1) ?_
 rintro _ ⟨r2,hc1,rfl⟩
 refine af ?_
 exact xB ⟨r2,ez,rfl⟩
def P70 (_a0:iF) (_a1:Row lU) (v:AV):Prop:=∃ r0:Bool,(True)/\v=.bool r0
def t70 (a0:iF) (a1:Row lU) :Ct 70 [.agg (iF.ag a0),nQ a1] (P70 a0 a1):=by
 refine j9 L2 ?_
 refine bT ?_
 refine aY ?_
 have hL1:=a1.lk
 refine lu a1 ?_
 refine aC ?_
 have hNk2:=a1.lk
 refine jW a1.l.length (λk2 e h=>∃ n3:Int,At [2,5,8,9,10] [.la 2 0,iv n3,nQ a1,bY a1.l.length,bY k2] aT.empty [(2,(iF.ag a0))] e h) ?_ (k0:=0) eG ⟨0,atR⟩
 rintro k2 e h hkk2 ⟨n3,hA⟩
 refine aA ?_
 refine kx (λh4=>?_) (λh4=>?_)
 refine bC ?_
 have hx5:k2<a1.l.length:=by omega
 refine ml k2 a1 hx5 ?_
 generalize hqx6:a1.l[k2]=x6
 refine bu ?_
 refine cW ?_
 refine oC (t68 x6.at_ n3 2000) ?_
 rintro _ ⟨r8,hc7,rfl⟩
 cases r8
 clear hc7
 refine au ?_
 exact iq
 have hc7t:=hc7 rfl
 refine aH ?_
 refine aa ?_
 refine dM ?_
 refine dv ?_
 refine kR (λh9=>?_) (λh9=>?_)
 refine be ?_
 refine bL ?_
 have hL10:=a0.signals.lk
 refine lu a0.signals ?_
 have hL11:=a0.signals.lk
 refine pL ?_
 refine oC (t68 x6.to 0 ((a0.signals.l.length:Int) - 1)) ?_
 rintro _ ⟨r13,hc12,rfl⟩
 cases r13
 clear hc12
 refine au ?_
 exact iq
 have hc12t:=hc12 rfl
 refine cU ?_
 refine kD ?_
 refine ab ?_
 exact jK
 refine br ?_
 refine kR (λh14=>?_) (λh14=>?_)
 refine be ?_
 refine a6 ?_
 refine oC (t38 a0 x6.to) ?_
 rintro _ ⟨r16,hc15,rfl⟩
 have hK:=hc15
 refine lR (λh17=>?_) (λh17=>?_)
 refine aW ?_
 exact iq
 refine bU ?_
 refine kD ?_
 refine ab ?_
 exact jK
 refine br ?_
 refine kR (λh18=>?_) (λh18=>?_)
 refine be ?_
 refine a6 ?_
 refine oC (t38 a0 x6.to) ?_
 rintro _ ⟨r20,hc19,rfl⟩
 have hK:=hc19
 refine lR (λh21=>?_) (λh21=>?_)
 refine aW ?_
 exact iq
 refine bU ?_
 refine kD ?_
 refine ab ?_
 exact jK
 refine br ?_
 refine af ?_
 exact iq
 refine aS ?_
 exact io
def P28 (_a0:iF) (_a1:jV) (v:AV):Prop:=∃ r0:Int,((r0=0->tv _a1))/\v=iv r0
def t28 (a0:iF) (a1:jV) :Ct 28 [.agg (iF.ag a0),.agg (jV.ag a1)] (P28 a0 a1):=by
 refine j9 Lw ?_
 have hqb:=a1.j3.ok
 simp only [ry] at hqb
 refine co ?_
 refine aX ?_
 have hL1:=a1.runs.lk
 refine lu a1.runs ?_
 refine ma (λh2=>?_) (λh2=>?_)
 refine aW ?_
 exact xB ⟨3,fj,rfl⟩
 refine ah ?_
 refine aX ?_
 have hL3:=a1.runs.lk
 refine dG ?_
 have hNk4:=a1.runs.lk
 refine jW a1.runs.l.length (λk4 e h=>(∀ (i:Nat) (h:i<a1.runs.l.length),i<k4->(a1.runs.l[i]).kH.l.length<=12)/\At [2,3,19,20,21] [.la 2 0,.la 3 0,mc a1.runs,bY a1.runs.l.length,bY k4] aT.empty [(2,(iF.ag a0)),(3,(jV.ag a1))] e h) ?_ (k0:=0) eG ⟨fT,atR⟩
 rintro k4 e h hkk4 ⟨hA,hA⟩
 refine rP hA ?_
 clear hA
 refine aa ?_
 refine kx (λh5=>?_) (λh5=>?_)
 refine bC ?_
 have hx6:k4<a1.runs.l.length:=by omega
 refine ml k4 a1.runs hx6 ?_
 generalize hqx7:a1.runs.l[k4]=x7
 refine dM ?_
 have hL8:=x7.kH.lk
 refine lu x7.kH ?_
 refine ma (λh9=>?_) (λh9=>?_)
 refine aW ?_
 exact xB ⟨3,fj,rfl⟩
 refine bU ?_
 refine kD ?_
 refine ab ?_
 exact ⟨by omega,(by exact rm (P:=λr:lj=>r.kH.l.length<=12) ez hA eG),atR⟩
 refine aj ?_
 refine cW ?_
 refine oC (t67 a0 a1.j3) ?_
 rintro _ ⟨r11,hc10,rfl⟩
 refine aZ ?_
 refine lR (λh12=>?_) (λh12=>?_)
 refine aJ ?_
 exact xB ⟨r11,fj,rfl⟩
 refine ah ?_
 refine aX ?_
 refine oC (t68 a1.mR 0 86399) ?_
 rintro _ ⟨r14,hc13,rfl⟩
 cases r14
 clear hc13
 refine au ?_
 exact jq
 have hc13t:=hc13 rfl
 refine aH ?_
 refine aX ?_
 have hL15:=a1.runs.lk
 refine dG ?_
 have hNk16:=a1.runs.lk
 refine jW a1.runs.l.length (λk16 e h=>(∀ (i:Nat) (h:i<a1.runs.l.length),i<k16->0<=(a1.runs.l[i]).j3/\(a1.runs.l[i]).j3<(a1.j3.l.length:Int))/\At [2,3,42,43,44] [.la 2 0,.la 3 0,mc a1.runs,bY a1.runs.l.length,bY k16] aT.empty [(2,(iF.ag a0)),(3,(jV.ag a1))] e h) ?_ (k0:=0) eG ⟨fT,atR⟩
 rintro k16 e h hkk16 ⟨hB,hA⟩
 refine rP hA ?_
 clear hA
 refine aa ?_
 refine kx (λh17=>?_) (λh17=>?_)
 refine bC ?_
 have hx18:k16<a1.runs.l.length:=by omega
 refine ml k16 a1.runs hx18 ?_
 generalize hqx19:a1.runs.l[k16]=x19
 refine dM ?_
 refine oC (t69 x19.name) ?_
 rintro _ ⟨r21,hc20,rfl⟩
 cases r21
 refine cY ?_
 refine cY ?_
 refine aQ ?_
 refine cz ?_
 refine au ?_
 exact jq
 refine cr ?_
 have hL22:=a1.j3.lk
 refine lu a1.j3 ?_
 have hL23:=a1.j3.lk
 refine pL ?_
 refine oC (t68 x19.j3 0 ((a1.j3.l.length:Int) - 1)) ?_
 rintro _ ⟨r25,hc24,rfl⟩
 cases r25
 clear hc24
 refine oV ?_
 refine cY ?_
 refine aQ ?_
 refine cz ?_
 refine au ?_
 exact jq
 have hc24t:=hc24 rfl
 iterate 7 refine oV ?_
 have hL26:=a0.signals.lk
 refine lu a0.signals ?_
 have hL27:=a0.signals.lk
 refine pL ?_
 refine oC (t68 x19.from_ 0 ((a0.signals.l.length:Int) - 1)) ?_
 rintro _ ⟨r29,hc28,rfl⟩
 cases r29
 clear hc28
 refine oV ?_
 refine aQ ?_
 refine cz ?_
 refine au ?_
 exact jq
 have hc28t:=hc28 rfl
 refine aP ?_
 refine oC (t68 x19.left 0 4000) ?_
 rintro _ ⟨r31,hc30,rfl⟩
 cases r31
 clear hc30
 refine oV ?_
 refine cz ?_
 refine au ?_
 exact jq
 have hc30t:=hc30 rfl
 refine cr ?_
 refine oC (t70 a0 x19.kH) ?_
 rintro _ ⟨r33,hc32,rfl⟩
 cases r33
 refine bJ ?_
 exact jq
 refine oV ?_
 refine cU ?_
 refine kD ?_
 refine ab ?_
 exact ⟨by omega,(by exact rm (P:=λr:lj=>0<=r.j3/\r.j3<(a1.j3.l.length:Int)) ez hB eG),atR⟩
 refine aj ?_
 refine aX ?_
 have hL34:=a1.runs.lk
 refine dG ?_
 have hNk35:=a1.runs.lk
 refine jW a1.runs.l.length (λk35 e h=>At [3,87,88,89] [.la 3 0,mc a1.runs,bY a1.runs.l.length,bY k35] aT.empty [(3,(jV.ag a1))] e h) ?_ (k0:=0) eG atR
 rintro k35 e h hkk35 hA
 refine rP hA ?_
 clear hA
 refine aa ?_
 refine kx (λh36=>?_) (λh36=>?_)
 refine d7 ?_
 have hx37:k35<a1.runs.l.length:=by omega
 refine ml k35 a1.runs hx37 ?_
 generalize hqx38:a1.runs.l[k35]=x38
 refine bZ ?_
 refine a6 ?_
 have hx39:k35<=a1.runs.l.length:=by omega
 refine jP rfl (λ_=>xw (k:=k35) (r:=a1.runs) (enc:=lj.ag) (n:=5) rfl rfl rfl rfl rfl rfl hx39 (λ_=>rfl)) ?_
 have hL40:=(Row.take a1.runs k35).lk
 refine lu ((Row.take a1.runs k35)) ?_
 refine aC ?_
 have hNk41:=(Row.take a1.runs k35).lk
 refine jW ((Row.take a1.runs k35).l.length) (λk41 e h=>At [3,11,87,88,89,97,98,99] [.la 3 0,.la 11 0,mc a1.runs,bY a1.runs.l.length,bY k35,mc (Row.take a1.runs k35),iv ((Row.take a1.runs k35).l.length:Int),bY k41] aT.empty [(3,(jV.ag a1)),(11,(lj.ag x38))] e h) ?_ (k0:=0) eG atR
 rintro k41 e h hkk41 hA
 refine rP hA ?_
 clear hA
 refine aa ?_
 refine kx (λh42=>?_) (λh42=>?_)
 refine bC ?_
 have hx43:k41<(Row.take a1.runs k35).l.length:=by omega
 refine ml k41 ((Row.take a1.runs k35)) hx43 ?_
 generalize hqx44:(Row.take a1.runs k35).l[k41]=x44
 refine bu ?_
 refine bL ?_
 refine oZ rfl (λ_=>sv rfl rfl) (λh45=>?_) (λh45=>?_)
 refine aW ?_
 exact xB ⟨4,fj,rfl⟩
 refine bU ?_
 refine kD ?_
 refine ab ?_
 exact ic
 refine aj ?_
 refine qg ?_
 refine kD ?_
 refine ab ?_
 exact ic
 refine aS ?_
 exact xB ⟨0,fj,rfl⟩
def P29 (_a0:iF) (v:AV):Prop:=(∃ r0:iS,(ot r0 _a0/\mB _a0)/\v=.ip (iS.ag r0) 0 false)\/((True)/\v=.mn)
def t29 (a0:iF) (hJg:JG a0):Ct 29 [.agg (iF.ag a0)] (P29 a0):=by
 refine j9 LD ?_
 refine ai ?_
 refine ao ?_
 refine oC (t27 a0 ey) ?_
 rintro _ ⟨r2,⟨hc1,hc1r⟩,rfl⟩
 have hFr:=hc1r
 cases r2
 clear hc1
 refine au ?_
 refine xB (.inr (⟨zT,rfl⟩))
 have hc1t:=hc1 rfl
 refine aH ?_
 refine ai ?_
 refine oC (t31 a0 ey) ?_
 rintro _ (⟨r4,⟨hc3,hc3r⟩,rfl⟩ | ⟨r5,⟨hc3,hc3r⟩,rfl⟩)
 have hFw:=hc3.vD; have hFs:=hc3.vD.signals; have hFl:=hc3.len; have hRg:=hc3.rg; have hNe:=hc3; have hNr:=hc3r
 refine bV ?_
 refine aH ?_
 refine bR ?_
 refine xG (.inl ⟨r4,(by first | assumption | exact ⟨by assumption,by assumption⟩),rfl⟩)
 refine bV ?_
 refine lR (λh6=>?_) (λh6=>?_)
 refine aW ?_
 refine xB (.inr (⟨zT,rfl⟩))
 refine ah ?_
 refine bR ?_
 refine xB (.inr (⟨zT,rfl⟩))
def P6 (_a0:iF) (_a1:jV) (v:AV):Prop:=(∃ r0:j5,∃ r1:iS,(ot r1 _a0/\mB _a0/\tv _a1/\_a1.j3.l.length<=10/\(∀ r∈(r0.roads.l:List kz),0<r.steps.l.length/\r.steps.l.length<=12/\r.nm.l.length<=12/\pD r)/\r0.roads.l.length<=64/\(r0.dO = _a0.canon/\∃ n:iS,ot n _a0/\rs 31 [.agg (iF.ag _a0)]=.kq [.ip (iS.ag n) 0 false,iv 0])/\rs 57 [.agg (iF.ag _a0)]=.kq [.agg (j5.ag r0),iv 0])/\v=.kq [.agg (j5.ag r0),.ip (iS.ag r1) 0 false,.bool true])\/(∃ r0:j5,∃ r1:AV,(True)/\v=.kq [.agg (j5.ag r0),r1,jZ])
def t6 (a0:iF) (a1:jV) (hJg:JG a0):Ct 6 [.agg (iF.ag a0),.agg (jV.ag a1)] (P6 a0 a1):=by
 refine j9 Rn ?_
 refine aa ?_
 refine bV ?_
 refine oC (t26 a1) ?_
 rintro _ ⟨r2,hc1,rfl⟩
 cases r2
 clear hc1
 refine cg ?_
 refine aQ ?_
 refine be ?_
 refine dq ?_
 refine xG (.inr (⟨((⟨(⟨(lZ:Row lV),(lZ:Row lQ),(lZ:Row lP),(lZ:Row lr),0,0,0,0,false⟩:iF),(lZ:Row kz)⟩:j5)),.mn,zt⟩))
 have hc1t:=hc1 rfl
 have hF3:=hc1t
 refine aF ?_
 refine oC (t27 a0 ey) ?_
 rintro _ ⟨r4,⟨hc3,hc3r⟩,rfl⟩
 have hFr:=hc3r
 cases r4
 clear hc3
 refine oV ?_
 refine aQ ?_
 refine be ?_
 refine dq ?_
 refine xG (.inr (⟨((⟨(⟨(lZ:Row lV),(lZ:Row lQ),(lZ:Row lP),(lZ:Row lr),0,0,0,0,false⟩:iF),(lZ:Row kz)⟩:j5)),.mn,zt⟩))
 have hc3t:=hc3 rfl
 refine aP ?_
 refine oC (t28 a0 a1) ?_
 rintro _ ⟨r6,hc5,rfl⟩
 have hC35:=hc5; have hPre:=λ(hz : _=(0:Int))=>tv.Wa (hc5 hz)
 refine lR (λh7=>?_) (λh7=>?_)
 refine be ?_
 refine dq ?_
 refine xG (.inr (⟨((⟨(⟨(lZ:Row lV),(lZ:Row lQ),(lZ:Row lP),(lZ:Row lr),0,0,0,0,false⟩:iF),(lZ:Row kz)⟩:j5)),.mn,zt⟩))
 refine aH ?_
 refine ai ?_
 refine oC (t22 a0 ey) ?_
 rintro _ ⟨r9,r10,hc8,rfl⟩
 cases r10
 clear hc8
 refine bM ?_
 refine oC (t29 a0 ey) ?_
 rintro _ (⟨r12,hc11,rfl⟩ | ⟨hc11,rfl⟩)
 have hN36:=hc11.1; have hP36:=hc11.2
 refine aG ?_
 refine bi ?_
 refine ci ?_
 refine xG (.inr (⟨r9,(.ip (iS.ag r12) 0 false),zt⟩))
 refine aG ?_
 refine bi ?_
 refine ci ?_
 refine xG (.inr (⟨r9,.mn,zt⟩))
 have hc8t:=hc8 rfl
 have hBt:=hc8t
 refine bM ?_
 refine oC (t29 a0 ey) ?_
 rintro _ (⟨r14,hc13,rfl⟩ | ⟨hc13,rfl⟩)
 have hN36:=hc13.1; have hP36:=hc13.2
 refine aZ ?_
 refine aP ?_
 refine ci ?_
 refine xG (.inl ⟨r9,r14,(by first | assumption | exact ⟨by assumption,by assumption,hC35 eG,hF3,hBt.2.2.2.2.2,hBt.2.1,hBt.2.2.1,hBt.2.2.2.1⟩),rfl⟩)
 refine aZ ?_
 refine aP ?_
 refine ci ?_
 refine xG (.inr (⟨r9,.mn,zt⟩))
def P85 (_a0:iF) (_a1:Int) (v:AV):Prop:=∃ r0:jT,∃ r1:Bool,(((r1=true->q8 _a0.signals.l _a1=some r0)/\(r1=false->q8 _a0.signals.l _a1=none)))/\v=.kq [.agg (jT.ag r0),.bool r1]
def t85 (a0:iF) (a1:Int) :Ct 85 [.agg (iF.ag a0),iv a1] (P85 a0 a1):=by
 refine j9 NA ?_
 refine ae ?_
 refine ao ?_
 refine kx (λh1=>?_) (λh1=>?_)
 refine ck ?_
 refine cI ?_
 exact xG ⟨(⟨0,0⟩:jT),false,fY,rfl⟩
 refine aK ?_
 have hL2:=a0.signals.lk
 refine lu a0.signals ?_
 refine mV (λh3=>?_) (λh3=>?_)
 refine cI ?_
 exact xG ⟨(⟨0,0⟩:jT),false,fY,rfl⟩
 refine aH ?_
 refine a6 ?_
 have hx4:(a1).toNat<a0.signals.l.length:=by omega
 refine jP rfl (λ_=>ld (n:=a1) (r:=a0.signals) (enc:=lP.ag) rfl rfl rfl rfl rfl eG hx4 rfl) ?_
 generalize hqx5:a0.signals.l[(a1).toNat]=x5
 refine ci ?_
 exact xG ⟨x5.at_,true,fY,rfl⟩
def P36 (_a0:iF) (_a1:jV) (_a2:Int) (v:AV):Prop:=∃ r0:jY,∃ r1:Bool,(True)/\v=.kq [.agg (jY.ag r0),.bool r1]
def t36 (a0:iF) (a1:jV) (a2:Int) :Ct 36 [.agg (iF.ag a0),.agg (jV.ag a1),iv a2] (P36 a0 a1 a2):=by
 refine j9 NC ?_
 refine a6 ?_
 refine ao ?_
 refine kx (λh1=>?_) (λh1=>?_)
 refine ck ?_
 refine cI ?_
 exact jr
 refine aK ?_
 have hL2:=a1.runs.lk
 refine lu a1.runs ?_
 refine mV (λh3=>?_) (λh3=>?_)
 refine cI ?_
 exact jr
 refine aH ?_
 refine a6 ?_
 have hx4:(a2).toNat<a1.runs.l.length:=by omega
 refine jP rfl (λ_=>ld (n:=a2) (r:=a1.runs) (enc:=lj.ag) rfl rfl rfl rfl rfl eG hx4 rfl) ?_
 generalize hqx5:a1.runs.l[(a2).toNat]=x5
 refine bu ?_
 refine a6 ?_
 refine oC (t85 a0 x5.from_) ?_
 rintro _ ⟨r7,r8,hc6,rfl⟩
 have hA:=hc6
 cases r8
 refine dN ?_
 refine dl ?_
 refine cW ?_
 refine oC (t38 a0 r7.elem) ?_
 rintro _ ⟨r10,hc9,rfl⟩
 have hK:=hc9
 refine kR (λh11=>?_) (λh11=>?_)
 refine bc ?_
 exact js
 refine bB ?_
 exact jt
 refine dN ?_
 refine dl ?_
 refine cW ?_
 refine oC (t38 a0 r7.elem) ?_
 rintro _ ⟨r13,hc12,rfl⟩
 have hK:=hc12
 refine kR (λh14=>?_) (λh14=>?_)
 refine bc ?_
 exact js
 refine bB ?_
 exact jt
def P37 (_a0:iF) (_a1:Int) (_a2:jY) (v:AV):Prop:=∃ r0:kr,∃ r1:Int,(True)/\v=.kq [.agg (kr.ag r0),iv r1]
def t37 (a0:iF) (a1:Int) (a2:jY) :Ct 37 [.agg (iF.ag a0),iv a1,.agg (jY.ag a2)] (P37 a0 a1 a2):=by
 refine j9 KY ?_
 refine aa ?_
 refine bZ ?_
 refine bL ?_
 refine oC (t38 a0 a2.at_.elem) ?_
 rintro _ ⟨r2,hc1,rfl⟩
 have hK:=hc1
 refine ap ?_
 refine cF ?_
 refine qO (λh3=>?_) (λh3=>?_)
 refine rV ?_
 iterate 2 refine rS ?_
 refine dc ?_
 refine aI ?_
 refine dW ?_
 refine dc ?_
 refine aO ?_
 refine aB ?_
 exact ju
 refine aI ?_
 refine PS (λh4=>?_) (λh4=>?_)
 refine dc ?_
 refine aI ?_
 refine dW ?_
 refine dc ?_
 refine aO ?_
 refine aB ?_
 exact ju
 refine bj ?_
 refine u6 (λh5=>?_) (λh5=>?_)
 refine aI ?_
 refine u6 (λh6=>?_) (λh6=>?_)
 refine bj ?_
 refine dW ?_
 refine dc ?_
 refine aO ?_
 refine aB ?_
 exact ju
 refine dp ?_
 refine qO (λh7=>?_) (λh7=>?_)
 refine dc ?_
 refine aO ?_
 refine aB ?_
 exact ju
 refine dp ?_
 refine rC (t86 r2) ?_
 rintro _ ⟨r9,hc8,rfl⟩
 refine uO (λh10=>?_) (λh10=>?_)
 refine aO ?_
 refine aB ?_
 exact ju
 refine bA ?_
 refine cW ?_
 refine oC (t87 a0 a2.at_) ?_
 rintro _ ⟨r12,hc11,rfl⟩
 have hR:=hc11
 refine kx (λh13=>?_) (λh13=>?_)
 refine cJ ?_
 exact jv
 refine ah ?_
 refine bL ?_
 refine oC (t88 a0 a2.at_.elem) ?_
 rintro _ ⟨r15,hc14,rfl⟩
 refine ab ?_
 refine aX ?_
 refine kx (λh16=>?_) (λh16=>?_)
 refine bp ?_
 refine cI ?_
 exact ju
 refine aK ?_
 refine ma (λh17=>?_) (λh17=>?_)
 refine cI ?_
 exact ju
 refine oV ?_
 refine dS ?_
 refine kR (λh18=>?_) (λh18=>?_)
 refine az ?_
 refine ae ?_
 refine ci ?_
 exact jw
 refine ah ?_
 refine cW ?_
 refine bf ?_
 refine ma (λh19=>?_) (λh19=>?_)
 refine cJ ?_
 exact jx
 refine ah ?_
 refine bL ?_
 refine ci ?_
 exact jy
 refine rV ?_
 iterate 2 refine rS ?_
 refine dp ?_
 refine qO (λh20=>?_) (λh20=>?_)
 refine dc ?_
 refine aO ?_
 refine aB ?_
 exact ju
 refine dp ?_
 refine rC (t86 r2) ?_
 rintro _ ⟨r22,hc21,rfl⟩
 refine uO (λh23=>?_) (λh23=>?_)
 refine aO ?_
 refine aB ?_
 exact ju
 refine bA ?_
 refine cW ?_
 refine oC (t87 a0 a2.at_) ?_
 rintro _ ⟨r25,hc24,rfl⟩
 have hR:=hc24
 refine kx (λh26=>?_) (λh26=>?_)
 refine cJ ?_
 exact jv
 refine ah ?_
 refine bL ?_
 refine oC (t88 a0 a2.at_.elem) ?_
 rintro _ ⟨r28,hc27,rfl⟩
 refine ab ?_
 refine aX ?_
 refine kx (λh29=>?_) (λh29=>?_)
 refine bp ?_
 refine cI ?_
 exact ju
 refine aK ?_
 refine ma (λh30=>?_) (λh30=>?_)
 refine cI ?_
 exact ju
 refine oV ?_
 refine dS ?_
 refine kR (λh31=>?_) (λh31=>?_)
 refine az ?_
 refine ae ?_
 refine ci ?_
 exact jw
 refine ah ?_
 refine cW ?_
 refine bf ?_
 refine ma (λh32=>?_) (λh32=>?_)
 refine cJ ?_
 exact jx
 refine ah ?_
 refine bL ?_
 refine ci ?_
 exact jy
def Yh (_a0:iF) (_a1:jV) (_a2:Int) (_a3:Int) (v:AV):Prop:=∃ r0:jT,∃ r1:Bool,(((r1=true->0<=_a2/\_a2<(_a1.runs.l.length:Int)/\0<=_a3)/\(r1=true->pd true (q8 _a0.signals.l) (nN _a0.kg.l) _a1 _a2 _a3=some r0)/\(r1=false->pd true (q8 _a0.signals.l) (nN _a0.kg.l) _a1 _a2 _a3=none)))/\v=.kq [.agg (jT.ag r0),.bool r1]
def t166 (a0:iF) (a1:jV) (a2:Int) (a3:Int) :Ct 166 [.agg (iF.ag a0),.agg (jV.ag a1),iv a2,iv a3] (Yh a0 a1 a2 a3):=by
 refine j9 Hj ?_
 refine a6 ?_
 refine ao ?_
 refine kx (λh1=>?_) (λh1=>?_)
 refine ck ?_
 refine bi ?_
 refine cD ?_
 refine cI ?_
 exact jb
 refine aK ?_
 have hL2:=a1.runs.lk
 refine lu a1.runs ?_
 refine mV (λh3=>?_) (λh3=>?_)
 refine bi ?_
 refine cD ?_
 refine cI ?_
 exact jb
 refine aF ?_
 refine kx (λh4=>?_) (λh4=>?_)
 refine cD ?_
 refine cI ?_
 exact jb
 refine cr ?_
 have hx5:(a2).toNat<a1.runs.l.length:=by omega
 refine jP rfl (λ_=>ld (n:=a2) (r:=a1.runs) (enc:=lj.ag) rfl rfl rfl rfl rfl eG hx5 rfl) ?_
 generalize hqx6:a1.runs.l[(a2).toNat]=x6
 refine am ?_
 have hL7:=x6.kH.lk
 refine lu x6.kH ?_
 refine ma (λh8=>?_) (λh8=>?_)
 refine cI ?_
 exact jb
 refine aH ?_
 refine a6 ?_
 have hx9:(a2).toNat<a1.runs.l.length:=by omega
 refine jP rfl (λ_=>ld (n:=a2) (r:=a1.runs) (enc:=lj.ag) rfl rfl rfl rfl rfl eG hx9 rfl) ?_
 rw [hqx6]
 refine am ?_
 refine ao ?_
 refine kR (λh11=>?_) (λh11=>?_)
 refine az ?_
 refine a6 ?_
 refine oC (t85 a0 x6.from_) ?_
 rintro _ ⟨r13,r14,hc12,rfl⟩
 have hA:=hc12
 cases r14
 refine ci ?_
 exact xG ⟨r13,false,eP,rfl⟩
 refine ci ?_
 exact xG ⟨r13,true,eP,rfl⟩
 refine ah ?_
 refine a6 ?_
 refine pL ?_
 have hx15:(a3 - 1).toNat<x6.kH.l.length:=by omega
 refine jP rfl (λ_=>ld (n:=a3 - 1) (r:=x6.kH) (enc:=lU.ag) rfl rfl rfl rfl rfl eG hx15 rfl) ?_
 generalize hqx16:x6.kH.l[(a3 - 1).toNat]=x16
 refine bu ?_
 refine aX ?_
 refine dv ?_
 refine kR (λh17=>?_) (λh17=>?_)
 refine be ?_
 refine a6 ?_
 refine oC (t85 a0 x16.to) ?_
 rintro _ ⟨r19,r20,hc18,rfl⟩
 have hA:=hc18
 cases r20
 refine ci ?_
 exact xG ⟨r19,false,eP,rfl⟩
 refine ci ?_
 exact xG ⟨r19,true,eP,rfl⟩
 refine br ?_
 refine kR (λh21=>?_) (λh21=>?_)
 refine be ?_
 refine bL ?_
 refine oC (t206 a0 (⟨x16.to,0⟩:jT)) ?_
 rintro _ ⟨r23,r24,hc22,rfl⟩
 have hN:=hc22
 cases r24
 refine dN ?_
 refine oC (t206 a0 (⟨x16.to,1⟩:jT)) ?_
 rintro _ ⟨r26,r27,hc25,rfl⟩
 have hN:=hc25
 cases r27
 refine cQ ?_
 refine bv ?_
 refine aH ?_
 refine dK ?_
 refine bi ?_
 refine aH ?_
 refine ai ?_
 refine ci ?_
 exact xG ⟨(⟨x16.to,(-1)⟩:jT),true,eP,rfl⟩
 refine cQ ?_
 refine bv ?_
 refine aH ?_
 refine qs ?_
 refine bL ?_
 refine be ?_
 refine ai ?_
 refine ci ?_
 exact xG ⟨(⟨x16.to,0⟩:jT),true,eP,rfl⟩
 refine dN ?_
 refine oC (t206 a0 (⟨x16.to,1⟩:jT)) ?_
 rintro _ ⟨r29,r30,hc28,rfl⟩
 have hN:=hc28
 cases r30
 refine cQ ?_
 refine aF ?_
 refine be ?_
 refine ai ?_
 refine ci ?_
 exact xG ⟨(⟨x16.to,1⟩:jT),true,eP,rfl⟩
 refine cQ ?_
 refine aK ?_
 refine dS ?_
 refine aK ?_
 refine dz ?_
 refine bO ?_
 exact xG ⟨(⟨x16.to,(-1)⟩:jT),true,eP,rfl⟩
 refine oV ?_
 refine bB ?_
 exact jb
def P90 (_a0:iF) (_a1:jV) (_a2:Int) (_a3:Int) (v:AV):Prop:=∃ r0:Int,(((0<=r0->0<=_a2/\_a2<(_a1.runs.l.length:Int)/\0<=_a3/\∀ h : _a2.toNat < _a1.runs.l.length,_a3<((_a1.runs.l[_a2.toNat]).kH.l.length:Int))/\r0=rh true (q8 _a0.signals.l) (nN _a0.kg.l) (qh _a0) (λx=>(rE _a0.signals.l x).getD (-1)) _a1 _a2 _a3))/\v=iv r0
def t90 (a0:iF) (a1:jV) (a2:Int) (a3:Int) :Ct 90 [.agg (iF.ag a0),.agg (jV.ag a1),iv a2,iv a3] (P90 a0 a1 a2 a3):=by
 refine j9 Lh ?_
 refine co ?_
 refine bL ?_
 refine oC (t166 a0 a1 a2 a3) ?_
 rintro _ ⟨r2,r3,hc1,rfl⟩
 have hG:=hc1
 cases r3
 refine cQ ?_
 refine cD ?_
 refine cg ?_
 refine au ?_
 exact jN
 have hG1:=hG.1 rfl
 refine cQ ?_
 refine cr ?_
 have hx4:(a2).toNat<a1.runs.l.length:=by omega
 refine jP rfl (λ_=>ld (n:=a2) (r:=a1.runs) (enc:=lj.ag) rfl rfl rfl rfl rfl eG hx4 rfl) ?_
 generalize hqx5:a1.runs.l[(a2).toNat]=x5
 refine am ?_
 have hL6:=x5.kH.lk
 refine lu x5.kH ?_
 refine mV (λh7=>?_) (λh7=>?_)
 refine cg ?_
 refine au ?_
 exact jN
 refine aK ?_
 refine kx (λh8=>?_) (λh8=>?_)
 refine au ?_
 exact jN
 refine aH ?_
 refine cW ?_
 have hx9:(a2).toNat<a1.runs.l.length:=by omega
 refine jP rfl (λ_=>ld (n:=a2) (r:=a1.runs) (enc:=lj.ag) rfl rfl rfl rfl rfl eG hx9 rfl) ?_
 rw [hqx5]
 refine aF ?_
 have hx11:(a3).toNat<x5.kH.l.length:=by omega
 refine jP rfl (λ_=>ld (n:=a3) (r:=x5.kH) (enc:=lU.ag) rfl rfl rfl rfl rfl eG hx11 rfl) ?_
 generalize hqx12:x5.kH.l[(a3).toNat]=x12
 refine oV ?_
 refine lS (b:=x12.xW) rfl (λ_=>rfl) (λh13=>?_) (λh13=>?_)
 refine az ?_
 refine cW ?_
 refine oC (t38 a0 r2.elem) ?_
 rintro _ ⟨r15,hc14,rfl⟩
 have hK:=hc14
 refine lR (λh16=>?_) (λh16=>?_)
 refine aW ?_
 exact jN
 refine ah ?_
 refine cu ?_
 refine jP rfl (λ_=>me rfl rfl rfl (ru .i64 1 r2.en)) ?_
 refine oV ?_
 refine aG ?_
 refine oC (t87 a0 (⟨r2.elem,(IntKind.i64.wrap (1 - r2.en))⟩:jT)) ?_
 rintro _ ⟨r18,hc17,rfl⟩
 have hR:=hc17
 refine af ?_
 exact xB ⟨r18,eS,rfl⟩
 refine dz ?_
 refine oC (t87 a0 r2) ?_
 rintro _ ⟨r20,hc19,rfl⟩
 have hR:=hc19
 refine af ?_
 exact xB ⟨r20,eS,rfl⟩
def P91 (_a0:iF) (_a1:jV) (_a2:Int) (_a3:Int) (v:AV):Prop:=∃ r0:Int,(True)/\v=iv r0
def t91 (a0:iF) (a1:jV) (a2:Int) (a3:Int) :Ct 91 [.agg (iF.ag a0),.agg (jV.ag a1),iv a2,iv a3] (P91 a0 a1 a2 a3):=by
 refine j9 NY ?_
 refine co ?_
 refine bL ?_
 refine oC (t166 a0 a1 a2 a3) ?_
 rintro _ ⟨r2,r3,hc1,rfl⟩
 have hG:=hc1
 cases r3
 refine cQ ?_
 refine au ?_
 exact jc
 have hG1:=hG.1 rfl
 refine dl ?_
 refine aX ?_
 refine bB ?_
 exact xB ⟨r2.elem,zt⟩
def P92 (_a0:iF) (_a1:j4) (_a2:Int) (v:AV):Prop:=∃ r0:Bool,(True)/\v=.bool r0
def t92 (a0:iF) (a1:j4) (a2:Int) :Ct 92 [.agg (iF.ag a0),.agg (j4.ag a1),iv a2] (P92 a0 a1 a2):=by
 refine j9 Nr ?_
 refine co ?_
 refine aX ?_
 refine oC (t38 a0 a2) ?_
 rintro _ ⟨r2,hc1,rfl⟩
 have hK:=hc1
 refine dv ?_
 refine kR (λh3=>?_) (λh3=>?_)
 refine be ?_
 refine bS ?_
 refine rC (t88 a0 a2) ?_
 rintro _ ⟨r5,hc4,rfl⟩
 refine cZ ?_
 refine kp rfl rfl (λ_=>me rfl rfl rfl (tR .i64 a1.len a0.kK)) ?_
 refine uO (λh6=>?_) (λh6=>?_)
 refine dL ?_
 exact io
 refine dL ?_
 exact iq
 refine br ?_
 refine kR (λh7=>?_) (λh7=>?_)
 refine au ?_
 exact io
 refine aH ?_
 refine aU ?_
 exact iq
def P40 (_a0:iF) (_a1:Row kz) (_a2:jV) (_a3:Int) (_a4:Int) (v:AV):Prop:=∃ r0:Row Int,(r0.l.length<=_a1.l.length)/\v=kN r0
def t40 (a0:iF) (a1:Row kz) (a2:jV) (a3:Int) (a4:Int) (q1:(∀ r∈a1.l,0<r.steps.l.length)) (q2:a1.l.length<=64) (q3:∀ r∈a2.runs.l,0<=r.j3/\r.j3<(a2.j3.l.length:Int)):Ct 40 [.agg (iF.ag a0),ki a1,.agg (jV.ag a2),iv a3,iv a4] (P40 a0 a1 a2 a3 a4):=by
 refine j9 MN ?_
 refine co ?_
 refine bL ?_
 refine oC (t90 a0 a2 a3 a4) ?_
 rintro _ ⟨r2,hc1,rfl⟩
 have hC22:=hc1.1; have hF:=hc1.2
 refine ao ?_
 refine kx (λh3=>?_) (λh3=>?_)
 refine aW ?_
 exact xG ⟨(lZ:Row Int),g6,rfl⟩
 refine ah ?_
 refine a6 ?_
 have hx4:(a3).toNat<a2.runs.l.length:=by omega
 refine jP rfl (λ_=>ld (n:=a3) (r:=a2.runs) (enc:=lj.ag) rfl rfl rfl rfl rfl eG hx4 rfl) ?_
 generalize hqx5:a2.runs.l[(a3).toNat]=x5
 have hinx5:x5∈a2.runs.l:=by rw [<- hqx5]; exact List.getElem_mem _
 have hsx5:=q3 x5 hinx5; have hlx5:=(hC22 eG).2.2.2 ez; rw [hqx5] at hlx5
 refine aF ?_
 have hx6:(a4).toNat<x5.kH.l.length:=by omega
 refine jP rfl (λ_=>ld (n:=a4) (r:=x5.kH) (enc:=lU.ag) rfl rfl rfl rfl rfl eG hx6 rfl) ?_
 generalize hqx7:x5.kH.l[(a4).toNat]=x7
 refine bu ?_
 refine aY ?_
 have hL8:=a1.lk
 refine lu a1 ?_
 refine aC ?_
 have hS9:=Sep.mf kV 1
 have hNk10:=a1.lk
 refine jW a1.l.length (λk10 e h=>∃ v11:AV,∃ l12:List Int,∃ H13:aT,(l12.length<=0+k10)/\Sep H13 (lG v11 l12::[])/\At [3,4,5,7,11,12,13,33,34,35] [iv a3,iv a4,.la 5 0,.la 7 0,iv r2,.la 12 0,v11,ki a1,bY a1.l.length,bY k10] H13 [(5,(iF.ag a0)),(7,(jV.ag a2)),(12,(lU.ag x7))] e h) ?_ (k0:=0) eG ⟨iN,(([]:List Int)),aT.empty,ff,hS9,atR⟩
 rintro k10 e h hkk10 ⟨v11,l12,H13,hl15,hS14,hA⟩
 refine aA ?_
 refine kx (λh16=>?_) (λh16=>?_)
 refine ak ?_
 refine wz [iv a3,iv a4,.la 5 0,.la 7 0,iv r2,.la 12 0,v11,ki a1,bY a1.l.length,bY k10] H13 [(5,(iF.ag a0)),(7,(jV.ag a2)),(12,(lU.ag x7))] ?_ (kh hS14 [(13,0)])
 refine aw ?_
 have hx17:k10<a1.l.length:=by omega
 refine ml k10 a1 hx17 ?_
 generalize hqx18:a1.l[k10]=x18
 have hinx18:x18∈a1.l:=by rw [<- hqx18]; exact List.getElem_mem _
 have hsx18:=q1 x18 hinx18
 refine bZ ?_
 refine bL ?_
 have hL19:=x18.steps.lk
 refine lu x18.steps ?_
 have hL20:=x18.steps.lk
 refine pL ?_
 have hx21:((x18.steps.l.length:Int) - 1).toNat<x18.steps.l.length:=by omega
 refine jP rfl (λ_=>ld (n:=(x18.steps.l.length:Int) - 1) (r:=x18.steps) (enc:=kL.ag) rfl rfl rfl rfl rfl eG hx21 rfl) ?_
 generalize hqx22:x18.steps.l[((x18.steps.l.length:Int) - 1).toNat]=x22
 refine bu ?_
 refine xR (λE Z=>(E=[(3,iv a3),(4,iv a4),(5,.la 5 0),(7,.la 7 0),(11,iv r2),(12,.la 12 0),(13,v11),(14,bY k10),(15,.la 15 0),(16,iv x22.elem),(33,ki a1),(34,bY a1.l.length),(35,bY k10)]/\Z = { H13 with cH:=[(5,(iF.ag a0)),(7,(jV.ag a2)),(12,(lU.ag x7)),(15,(kz.ag x18))] })) ?_ ?_
 rintro _ _ ⟨rfl,rfl⟩
 refine aL ?_
 refine dp ?_
 refine rC (t91 a0 a2 a3 a4) ?_
 rintro _ ⟨r24,hc23,rfl⟩
 refine rC (t39 (Row.mg x18.nr) r24) ?_
 rintro _ ⟨r26,hc25,rfl⟩
 cases r26
 iterate 8 refine rV ?_
 have hx27:(a3).toNat<a2.runs.l.length:=by omega
 refine kp rfl rfl (λ_=>ld (n:=a3) (r:=a2.runs) (enc:=lj.ag) rfl rfl rfl rfl rfl eG hx27 rfl) ?_
 rw [hqx5]
 refine aI ?_
 have hx29:(x5.j3).toNat<a2.j3.l.length:=by omega
 refine kp rfl rfl (λ_=>ld (n:=x5.j3) (r:=a2.j3) (enc:=j4.ag) rfl rfl rfl rfl rfl eG hx29 rfl) ?_
 generalize hqx30:a2.j3.l[(x5.j3).toNat]=x30
 refine aI ?_
 refine rC (t92 a0 x30 x22.elem) ?_
 rintro _ ⟨r32,hc31,rfl⟩
 cases r32
 refine bA ?_
 refine wz [iv a3,iv a4,.la 5 0,.la 7 0,iv r2,.la 12 0,v11,ki a1,bY a1.l.length,bY k10] H13 [(5,(iF.ag a0)),(7,(jV.ag a2)),(12,(lU.ag x7))] ?_ (kh hS14 [(13,0)])
 refine qg ?_
 refine kD ?_
 refine ab ?_
 exact jB
 refine c8 ?_
 refine bz ?_
 refine kn rfl (kZ (i:=0) [((k10:Int))] hS14 rfl rfl rfl rfl rfl rfl rfl rfl rfl (λ_=>rfl) (.inl rfl) eE (λ_=>rfl)) ?_
 rintro v33 H34 hS35
 refine ab ?_
 refine wz [iv a3,iv a4,.la 5 0,.la 7 0,iv r2,.la 12 0,v33,ki a1,bY a1.l.length,bY k10] H34 [(5,(iF.ag a0)),(7,(jV.ag a2)),(12,(lU.ag x7))] ?_ (kh hS35 [(13,0)])
 refine qg ?_
 refine kD ?_
 refine ab ?_
 exact ⟨by omega,v33,((l12++[((k10:Int))])),H34,eC,hS35,(kh hS35 [(13,0)])⟩
 refine dc ?_
 iterate 7 refine rS ?_
 refine bA ?_
 refine wz [iv a3,iv a4,.la 5 0,.la 7 0,iv r2,.la 12 0,v11,ki a1,bY a1.l.length,bY k10] H13 [(5,(iF.ag a0)),(7,(jV.ag a2)),(12,(lU.ag x7))] ?_ (kh hS14 [(13,0)])
 refine qg ?_
 refine kD ?_
 refine ab ?_
 exact jB
 refine a6 ?_
 refine lR (λh36=>?_) (λh36=>?_)
 refine ck ?_
 refine bi ?_
 refine cw ?_
 refine cD ?_
 refine bi ?_
 refine de ?_
 refine wz [iv a3,iv a4,.la 5 0,.la 7 0,iv r2,.la 12 0,v11,ki a1,bY a1.l.length,bY k10] H13 [(5,(iF.ag a0)),(7,(jV.ag a2)),(12,(lU.ag x7))] ?_ (kh hS14 [(13,0)])
 refine qg ?_
 refine kD ?_
 refine ab ?_
 exact jB
 refine aP ?_
 refine lR (λh37=>?_) (λh37=>?_)
 refine bi ?_
 refine cw ?_
 refine cD ?_
 refine bi ?_
 refine de ?_
 refine wz [iv a3,iv a4,.la 5 0,.la 7 0,iv r2,.la 12 0,v11,ki a1,bY a1.l.length,bY k10] H13 [(5,(iF.ag a0)),(7,(jV.ag a2)),(12,(lU.ag x7))] ?_ (kh hS14 [(13,0)])
 refine qg ?_
 refine kD ?_
 refine ab ?_
 exact jB
 refine aK ?_
 refine kR (λh38=>?_) (λh38=>?_)
 refine aP ?_
 refine lR (λh39=>?_) (λh39=>?_)
 refine oV ?_
 refine cD ?_
 refine bi ?_
 refine de ?_
 refine wz [iv a3,iv a4,.la 5 0,.la 7 0,iv r2,.la 12 0,v11,ki a1,bY a1.l.length,bY k10] H13 [(5,(iF.ag a0)),(7,(jV.ag a2)),(12,(lU.ag x7))] ?_ (kh hS14 [(13,0)])
 refine qg ?_
 refine kD ?_
 refine ab ?_
 exact jB
 refine aP ?_
 refine lR (λh40=>?_) (λh40=>?_)
 refine aK ?_
 refine lR (λh41=>?_) (λh41=>?_)
 refine oV ?_
 refine bi ?_
 refine de ?_
 refine wz [iv a3,iv a4,.la 5 0,.la 7 0,iv r2,.la 12 0,v11,ki a1,bY a1.l.length,bY k10] H13 [(5,(iF.ag a0)),(7,(jV.ag a2)),(12,(lU.ag x7))] ?_ (kh hS14 [(13,0)])
 refine qg ?_
 refine kD ?_
 refine ab ?_
 exact jB
 refine aK ?_
 refine lS (b:=x18.bare) rfl (λ_=>rfl) (λh42=>?_) (λh42=>?_)
 refine de ?_
 refine wz [iv a3,iv a4,.la 5 0,.la 7 0,iv r2,.la 12 0,v11,ki a1,bY a1.l.length,bY k10] H13 [(5,(iF.ag a0)),(7,(jV.ag a2)),(12,(lU.ag x7))] ?_ (kh hS14 [(13,0)])
 refine qg ?_
 refine kD ?_
 refine ab ?_
 exact jB
 refine aH ?_
 exact jC
 refine bp ?_
 refine aK ?_
 refine lS (b:=x18.bare) rfl (λ_=>rfl) (λh43=>?_) (λh43=>?_)
 refine de ?_
 refine wz [iv a3,iv a4,.la 5 0,.la 7 0,iv r2,.la 12 0,v11,ki a1,bY a1.l.length,bY k10] H13 [(5,(iF.ag a0)),(7,(jV.ag a2)),(12,(lU.ag x7))] ?_ (kh hS14 [(13,0)])
 refine qg ?_
 refine kD ?_
 refine ab ?_
 exact jB
 refine aH ?_
 exact jC
 refine ck ?_
 refine aP ?_
 refine lR (λh44=>?_) (λh44=>?_)
 refine aK ?_
 refine lR (λh45=>?_) (λh45=>?_)
 refine oV ?_
 refine bi ?_
 refine de ?_
 refine wz [iv a3,iv a4,.la 5 0,.la 7 0,iv r2,.la 12 0,v11,ki a1,bY a1.l.length,bY k10] H13 [(5,(iF.ag a0)),(7,(jV.ag a2)),(12,(lU.ag x7))] ?_ (kh hS14 [(13,0)])
 refine qg ?_
 refine kD ?_
 refine ab ?_
 exact jB
 refine aK ?_
 refine lS (b:=x18.bare) rfl (λ_=>rfl) (λh46=>?_) (λh46=>?_)
 refine de ?_
 refine wz [iv a3,iv a4,.la 5 0,.la 7 0,iv r2,.la 12 0,v11,ki a1,bY a1.l.length,bY k10] H13 [(5,(iF.ag a0)),(7,(jV.ag a2)),(12,(lU.ag x7))] ?_ (kh hS14 [(13,0)])
 refine qg ?_
 refine kD ?_
 refine ab ?_
 exact jB
 refine aH ?_
 exact jC
 refine bp ?_
 refine aK ?_
 refine lS (b:=x18.bare) rfl (λ_=>rfl) (λh47=>?_) (λh47=>?_)
 refine de ?_
 refine wz [iv a3,iv a4,.la 5 0,.la 7 0,iv r2,.la 12 0,v11,ki a1,bY a1.l.length,bY k10] H13 [(5,(iF.ag a0)),(7,(jV.ag a2)),(12,(lU.ag x7))] ?_ (kh hS14 [(13,0)])
 refine qg ?_
 refine kD ?_
 refine ab ?_
 exact jB
 refine aH ?_
 exact jC
 refine aj ?_
 refine wz [v11] H13 [] ?_ (kh hS14 [(13,0)])
 refine bR ?_
 obtain ⟨r48,hl49,hf50⟩:=lK (H:=H13) (i:=0) (l:=l12) (enc:=j6) hS14 rfl eA
 have hlq:=hl49; have hln52:=congrArg List.length hl49
 have hz51:∀ m,freeze false { H13 with cH:=[] } (m+2) v11=some (kN r48):=λm=>hf50 _ _ (λ_=>rfl)
 exact ⟨v11,(lL (vs:=[v11]) rfl (jU (Sep.arg (i:=0) hS14 rfl) kE)),kN r48,(show freeze false { H13 with cH:=[] } 8 v11=some (kN r48) by simp only [FZ,hz51]),r48,g6,rfl⟩
def P8 (_a0:iF) (_a1:Row kz) (_a2:jV) (v:AV):Prop:=∃ r0:Int,(True)/\v=iv r0
def t8 (a0:iF) (a1:Row kz) (a2:jV) (q1:(∀ r∈a1.l,0<r.steps.l.length)) (q2:a1.l.length<=64):Ct 8 [.agg (iF.ag a0),ki a1,.agg (jV.ag a2)] (P8 a0 a1 a2):=by
 refine j9 Rp ?_
 refine co ?_
 refine aX ?_
 have hL1:=a0.signals.lk
 refine dT ?_
 have hNk2:=a0.signals.lk
 refine jW a0.signals.l.length (λk2 e h=>At [1,3,5,23,24,25] [ki a1,.la 3 0,.la 5 0,kF a0.signals,bY a0.signals.l.length,bY k2] aT.empty [(3,(iF.ag a0)),(5,(jV.ag a2))] e h) ?_ (k0:=0) eG atR
 rintro k2 e h hkk2 hA
 refine aA ?_
 refine kx (λh3=>?_) (λh3=>?_)
 refine bC ?_
 have hx4:k2<a0.signals.l.length:=by omega
 refine ml k2 a0.signals hx4 ?_
 generalize hqx5:a0.signals.l[k2]=x5
 refine am ?_
 refine aZ ?_
 refine lS (b:=x5.auto) rfl (λ_=>rfl) (λh6=>?_) (λh6=>?_)
 refine aW ?_
 exact xB ⟨7,zt⟩
 refine bU ?_
 refine kD ?_
 refine ab ?_
 exact ic
 refine aj ?_
 refine aX ?_
 refine oC (t28 a0 a2) ?_
 rintro _ ⟨r8,hc7,rfl⟩
 have hC35:=hc7; have hPre:=λ(hz : _=(0:Int))=>tv.Wa (hc7 hz)
 refine aZ ?_
 refine lR (λh9=>?_) (λh9=>?_)
 refine aJ ?_
 exact xB ⟨r8,zt⟩
 refine ah ?_
 refine dJ ?_
 have hL10:=a2.runs.lk
 refine eb ?_
 have hNk11:=a2.runs.lk
 refine jW a2.runs.l.length (λk11 e h=>At [1,3,5,10,40,41] [ki a1,.la 3 0,.la 5 0,iN,bY a2.runs.l.length,bY k11] aT.empty [(3,(iF.ag a0)),(5,(jV.ag a2))] e h) ?_ (k0:=0) eG atR
 rintro k11 e h hkk11 hA
 refine aA ?_
 refine kx (λh12=>?_) (λh12=>?_)
 refine cT ?_
 refine a6 ?_
 refine oC (t36 a0 a2 ((k11:Int))) ?_
 rintro _ ⟨r14,r15,hc13,rfl⟩
 cases r15
 refine dl ?_
 refine aL ?_
 refine dp ?_
 have hx16:k11<a2.runs.l.length:=by omega
 refine ph k11 a2.runs hx16 ?_
 generalize hqx17:a2.runs.l[k11]=x17
 have hinx17:x17∈a2.runs.l:=by rw [<- hqx17]; exact List.getElem_mem _
 have hsx17:=(hC35 eG).2 x17 hinx17
 refine aI ?_
 have hx18:(x17.j3).toNat<a2.j3.l.length:=by omega
 refine kp rfl rfl (λ_=>ld (n:=x17.j3) (r:=a2.j3) (enc:=j4.ag) rfl rfl rfl rfl rfl eG hx18 rfl) ?_
 generalize hqx19:a2.j3.l[(x17.j3).toNat]=x19
 refine bj ?_
 refine rC (t37 a0 x19.len r14) ?_
 rintro _ ⟨r21,r22,hc20,rfl⟩
 refine bP ?_
 refine ai ?_
 refine lR (λh23=>?_) (λh23=>?_)
 refine aJ ?_
 exact xB ⟨r22,zt⟩
 refine bU ?_
 refine kD ?_
 refine ab ?_
 exact ic
 refine dl ?_
 refine aL ?_
 refine dp ?_
 have hx24:k11<a2.runs.l.length:=by omega
 refine ph k11 a2.runs hx24 ?_
 generalize hqx25:a2.runs.l[k11]=x25
 have hinx25:x25∈a2.runs.l:=by rw [<- hqx25]; exact List.getElem_mem _
 have hsx25:=(hC35 eG).2 x25 hinx25
 refine aI ?_
 have hx26:(x25.j3).toNat<a2.j3.l.length:=by omega
 refine kp rfl rfl (λ_=>ld (n:=x25.j3) (r:=a2.j3) (enc:=j4.ag) rfl rfl rfl rfl rfl eG hx26 rfl) ?_
 generalize hqx27:a2.j3.l[(x25.j3).toNat]=x27
 refine bj ?_
 refine rC (t37 a0 x27.len r14) ?_
 rintro _ ⟨r29,r30,hc28,rfl⟩
 refine bP ?_
 refine ai ?_
 refine lR (λh31=>?_) (λh31=>?_)
 refine aJ ?_
 exact xB ⟨r30,zt⟩
 refine bU ?_
 refine kD ?_
 refine ab ?_
 exact ic
 refine aj ?_
 refine aX ?_
 have hL32:=a2.runs.lk
 refine eb ?_
 have hS33:=Sep.mf kV 1
 have hNk34:=a2.runs.lk
 refine jW a2.runs.l.length (λk34 e h=>∃ v35:AV,∃ l36:List Int,∃ H37:aT,(l36.length<=0+k34)/\Sep H37 (lG v35 l36::[])/\At [1,3,5,10,74,75] [ki a1,.la 3 0,.la 5 0,v35,bY a2.runs.l.length,bY k34] H37 [(3,(iF.ag a0)),(5,(jV.ag a2))] e h) ?_ (k0:=0) eG ⟨iN,(([]:List Int)),aT.empty,ff,hS33,atR⟩
 rintro k34 e h hkk34 ⟨v35,l36,H37,hl39,hS38,hA⟩
 refine rP hA ?_
 have hd8:=(hC35 eG).1
 refine aa ?_
 refine kx (λh40=>?_) (λh40=>?_)
 refine ak ?_
 refine wz [ki a1,.la 3 0,.la 5 0,v35,bY a2.runs.l.length,bY k34] H37 [(3,(iF.ag a0)),(5,(jV.ag a2))] ?_ (kh hS38 [(10,0)])
 refine dA ?_
 refine a6 ?_
 refine oC (t36 a0 a2 ((k34:Int))) ?_
 rintro _ ⟨r42,r43,hc41,rfl⟩
 cases r43
 refine dN ?_
 refine oC (t38 a0 r42.at_.elem) ?_
 rintro _ ⟨r45,hc44,rfl⟩
 have hK:=hc44
 refine kR (λh46=>?_) (λh46=>?_)
 refine az ?_
 refine qs ?_
 refine bL ?_
 refine nU hS38 0 λr47 hl48 hln51 hz50=>?_
 refine mM (args:=[v35,iv r42.at_.elem]) (p:=[]) (r:=[]) (args':=[ly r47,iv r42.at_.elem]) (R:=Oo r47 r42.at_.elem) rfl rfl rfl rfl rfl (jU (Sep.arg (i:=0) hS38 rfl) (jU rfl kE)) rfl fy (lx (by show kG (freeze true { H37 with cH:=[] } 8) [v35,iv r42.at_.elem] = _; simp only [FZ,hz50]) (jU (Sep.qC (i:=0) hS38 rfl) (jU rfl kE))) (lx fk (jU rfl (jU rfl kE))) (λh=>t39 r47 r42.at_.elem  h) ?_
 rintro _ ⟨r53,hc52,rfl⟩
 cases r53
 refine ah ?_
 refine wz [ki a1,.la 3 0,.la 5 0,v35,.la 17 0,bY a2.runs.l.length,bY k34] H37 [(3,(iF.ag a0)),(5,(jV.ag a2)),(17,(jY.ag r42))] ?_ (kh hS38 [(10,0)])
 refine qg ?_
 refine aP ?_
 refine kn rfl (kZ (i:=0) [r42.at_.elem] hS38 rfl rfl rfl rfl rfl rfl rfl rfl rfl (λ_=>rfl) (.inl rfl) eE (λ_=>rfl)) ?_
 rintro v54 H55 hS56
 refine ab ?_
 refine wz [ki a1,.la 3 0,.la 5 0,v54,bY a2.runs.l.length,bY k34] H55 [(3,(iF.ag a0)),(5,(jV.ag a2))] ?_ (kh hS56 [(10,0)])
 refine qg ?_
 refine kD ?_
 refine ab ?_
 exact ⟨by omega,v54,((l36++[r42.at_.elem])),H55,eC,hS56,(kh hS56 [(10,0)])⟩
 refine aW ?_
 exact xB ⟨18,zt⟩
 refine ah ?_
 refine wz [ki a1,.la 3 0,.la 5 0,v35,bY a2.runs.l.length,bY k34] H37 [(3,(iF.ag a0)),(5,(jV.ag a2))] ?_ (kh hS38 [(10,0)])
 refine qg ?_
 refine kD ?_
 refine ab ?_
 exact jM
 refine dN ?_
 refine oC (t38 a0 r42.at_.elem) ?_
 rintro _ ⟨r58,hc57,rfl⟩
 have hK:=hc57
 refine kR (λh59=>?_) (λh59=>?_)
 refine az ?_
 refine qs ?_
 refine bL ?_
 refine nU hS38 0 λr60 hl61 hln64 hz63=>?_
 refine mM (args:=[v35,iv r42.at_.elem]) (p:=[]) (r:=[]) (args':=[ly r60,iv r42.at_.elem]) (R:=Oo r60 r42.at_.elem) rfl rfl rfl rfl rfl (jU (Sep.arg (i:=0) hS38 rfl) (jU rfl kE)) rfl fy (lx (by show kG (freeze true { H37 with cH:=[] } 8) [v35,iv r42.at_.elem] = _; simp only [FZ,hz63]) (jU (Sep.qC (i:=0) hS38 rfl) (jU rfl kE))) (lx fk (jU rfl (jU rfl kE))) (λh=>t39 r60 r42.at_.elem  h) ?_
 rintro _ ⟨r66,hc65,rfl⟩
 cases r66
 refine ah ?_
 refine wz [ki a1,.la 3 0,.la 5 0,v35,.la 17 0,bY a2.runs.l.length,bY k34] H37 [(3,(iF.ag a0)),(5,(jV.ag a2)),(17,(jY.ag r42))] ?_ (kh hS38 [(10,0)])
 refine qg ?_
 refine aP ?_
 refine kn rfl (kZ (i:=0) [r42.at_.elem] hS38 rfl rfl rfl rfl rfl rfl rfl rfl rfl (λ_=>rfl) (.inl rfl) eE (λ_=>rfl)) ?_
 rintro v67 H68 hS69
 refine ab ?_
 refine wz [ki a1,.la 3 0,.la 5 0,v67,bY a2.runs.l.length,bY k34] H68 [(3,(iF.ag a0)),(5,(jV.ag a2))] ?_ (kh hS69 [(10,0)])
 refine qg ?_
 refine kD ?_
 refine ab ?_
 exact ⟨by omega,v67,((l36++[r42.at_.elem])),H68,eC,hS69,(kh hS69 [(10,0)])⟩
 refine aW ?_
 exact xB ⟨18,zt⟩
 refine ah ?_
 refine wz [ki a1,.la 3 0,.la 5 0,v35,bY a2.runs.l.length,bY k34] H37 [(3,(iF.ag a0)),(5,(jV.ag a2))] ?_ (kh hS38 [(10,0)])
 refine qg ?_
 refine kD ?_
 refine ab ?_
 exact jM
 refine aj ?_
 refine aX ?_
 have hL70:=a2.runs.lk
 refine eb ?_
 have hNk71:=a2.runs.lk
 refine jW a2.runs.l.length (λk71 e h=>At [1,3,5,104,105,106] [ki a1,.la 3 0,.la 5 0,mc a2.runs,bY a2.runs.l.length,bY k71] H37 [(3,(iF.ag a0)),(5,(jV.ag a2))] e h) ?_ (k0:=0) eG atR
 rintro k71 e h hkk71 hA
 refine aA ?_
 refine kx (λh72=>?_) (λh72=>?_)
 refine d7 ?_
 have hx73:k71<a2.runs.l.length:=by omega
 refine ml k71 a2.runs hx73 ?_
 generalize hqx74:a2.runs.l[k71]=x74
 have hinx74:x74∈a2.runs.l:=by rw [<- hqx74]; exact List.getElem_mem _
 have hsx74:=(hC35 eG).2 x74 hinx74
 refine bZ ?_
 refine aX ?_
 have hL75:=x74.kH.lk
 refine lu x74.kH ?_
 refine kR (λh76=>?_) (λh76=>?_)
 refine bv ?_
 refine cw ?_
 refine au ?_
 exact xB ⟨10,zt⟩
 refine aP ?_
 have hL77:=x74.kH.lk
 refine lu x74.kH ?_
 have hL78:=x74.kH.lk
 refine pL ?_
 have hx79:((x74.kH.l.length:Int) - 1).toNat<x74.kH.l.length:=by omega
 refine jP rfl (λ_=>ld (n:=(x74.kH.l.length:Int) - 1) (r:=x74.kH) (enc:=lU.ag) rfl rfl rfl rfl rfl eG hx79 rfl) ?_
 generalize hqx80:x74.kH.l[((x74.kH.l.length:Int) - 1).toNat]=x80
 refine am ?_
 refine lR (λh81=>?_) (λh81=>?_)
 refine au ?_
 exact xB ⟨10,zt⟩
 refine oV ?_
 refine dz ?_
 have hL82:=x74.kH.lk
 refine lu x74.kH ?_
 refine aC ?_
 have hNk83:=x74.kH.lk
 refine jW x74.kH.l.length (λk83 e h=>At [1,3,5,19,104,105,106,129,130] [ki a1,.la 3 0,.la 5 0,bY k71,mc a2.runs,bY a2.runs.l.length,bY k71,bY x74.kH.l.length,bY k83] H37 [(3,(iF.ag a0)),(5,(jV.ag a2))] e h) ?_ (k0:=0) eG atR
 rintro k83 e h hkk83 hA
 refine aA ?_
 refine kx (λh84=>?_) (λh84=>?_)
 refine cT ?_
 refine dD ?_
 refine oC (t40 a0 a1 a2 ((k71:Int)) ((k83:Int)) ey ey ey) ?_
 rintro _ ⟨r86,hc85,rfl⟩
 have hL87:=r86.lk
 refine lu r86 ?_
 refine kR (λh88=>?_) (λh88=>?_)
 refine aW ?_
 exact xB ⟨10,zt⟩
 refine bU ?_
 refine kD ?_
 refine ab ?_
 exact ic
 refine aj ?_
 refine qg ?_
 refine kD ?_
 refine ab ?_
 exact ic
 refine aS ?_
 exact iQ
def P17 (_a0:iF) (_a1:jV) (v:AV):Prop:=(∃ r0:j5,∃ r1:iS,(ot r1 _a0/\mB _a0/\tv _a1/\_a1.j3.l.length<=10/\(∀ r∈(r0.roads.l:List kz),0<r.steps.l.length/\r.steps.l.length<=12/\r.nm.l.length<=12/\pD r)/\r0.roads.l.length<=64/\(r0.dO = _a0.canon/\∃ n:iS,ot n _a0/\rs 31 [.agg (iF.ag _a0)]=.kq [.ip (iS.ag n) 0 false,iv 0])/\rs 57 [.agg (iF.ag _a0)]=.kq [.agg (j5.ag r0),iv 0])/\v=.kq [.agg (j5.ag r0),.ip (iS.ag r1) 0 false,.bool true])\/(∃ r0:j5,∃ r1:AV,(True)/\v=.kq [.agg (j5.ag r0),r1,jZ])
def t17 (a0:iF) (a1:jV) (hJg:JG a0):Ct 17 [.agg (iF.ag a0),.agg (jV.ag a1)] (P17 a0 a1):=by
 refine j9 ME ?_
 refine ae ?_
 refine dM ?_
 refine oC (t6 a0 a1 ey) ?_
 rintro _ (⟨r2,r3,hc1,rfl⟩ | ⟨r4,r5,hc1,rfl⟩)
 refine am ?_
 refine cQ ?_
 refine cr ?_
 refine oC (t8 a0 r2.roads a1 ey ey) ?_
 rintro _ ⟨r7,hc6,rfl⟩
 refine lR (λh8=>?_) (λh8=>?_)
 refine be ?_
 refine dq ?_
 refine xG (.inr (⟨((⟨(⟨(lZ:Row lV),(lZ:Row lQ),(lZ:Row lP),(lZ:Row lr),0,0,0,0,false⟩:iF),(lZ:Row kz)⟩:j5)),.mn,zt⟩))
 refine aH ?_
 refine ai ?_
 refine ci ?_
 refine xG (.inl ⟨r2,r3,ez,rfl⟩)
 refine am ?_
 refine dl ?_
 refine aX ?_
 refine db ?_
 refine be ?_
 refine dq ?_
 refine xG (.inr (⟨((⟨(⟨(lZ:Row lV),(lZ:Row lQ),(lZ:Row lP),(lZ:Row lr),0,0,0,0,false⟩:iF),(lZ:Row kz)⟩:j5)),.mn,zt⟩))
def Xi (_a0:Row lV) (v:AV):Prop:=((True)/\v=.bool true)
def t231 (a0:Row lV) :Ct 231 [kB a0,kB a0] (Xi a0):=by
 refine j9 F3 ?_
 refine aY ?_
 have hL1:=a0.lk
 refine dr ?_
 have hL2:=a0.lk
 refine lu a0 ?_
 refine lR (λh3=>?_) (λh3=>?_)
 refine aW ?_
 exact jg
 refine dS ?_
 have hL4:=a0.lk
 refine cN ?_
 have hNk5:=a0.lk
 refine jW a0.l.length (λk5 e h=>At [0,1,12,13] [kB a0,kB a0,bY a0.l.length,bY k5] aT.empty [] e h) ?_ (k0:=0) eG atR
 rintro k5 e h hkk5 hA
 refine aA ?_
 refine kx (λh6=>?_) (λh6=>?_)
 refine cT ?_
 refine bS ?_
 have hx7:k5<a0.l.length:=by omega
 refine ph k5 a0 hx7 ?_
 generalize hqx8:a0.l[k5]=x8
 refine bj ?_
 have hx9:k5<a0.l.length:=by omega
 refine ph k5 a0 hx9 ?_
 rw [hqx8]
 refine bE ?_
 refine kD ?_
 refine ab ?_
 exact ic
 refine aS ?_
 refine xB ⟨zT,rfl⟩
def XR (_a0:Row lQ) (v:AV):Prop:=((True)/\v=.bool true)
def t232 (a0:Row lQ) :Ct 232 [kC a0,kC a0] (XR a0):=by
 refine j9 Ik ?_
 refine aY ?_
 have hL1:=a0.lk
 refine dr ?_
 have hL2:=a0.lk
 refine lu a0 ?_
 refine lR (λh3=>?_) (λh3=>?_)
 refine aW ?_
 exact jg
 refine dS ?_
 have hL4:=a0.lk
 refine cN ?_
 have hNk5:=a0.lk
 refine jW a0.l.length (λk5 e h=>At [0,1,12,13] [kC a0,kC a0,bY a0.l.length,bY k5] aT.empty [] e h) ?_ (k0:=0) eG atR
 rintro k5 e h hkk5 hA
 refine aA ?_
 refine kx (λh6=>?_) (λh6=>?_)
 refine cT ?_
 refine bS ?_
 have hx7:k5<a0.l.length:=by omega
 refine ph k5 a0 hx7 ?_
 generalize hqx8:a0.l[k5]=x8
 refine bj ?_
 have hx9:k5<a0.l.length:=by omega
 refine ph k5 a0 hx9 ?_
 rw [hqx8]
 refine bE ?_
 refine kD ?_
 refine ab ?_
 exact ic
 refine aS ?_
 refine xB ⟨zT,rfl⟩
def Yf (_a0:Row lP) (v:AV):Prop:=((True)/\v=.bool true)
def t233 (a0:Row lP) :Ct 233 [kF a0,kF a0] (Yf a0):=by
 refine j9 Hl ?_
 refine aY ?_
 have hL1:=a0.lk
 refine dr ?_
 have hL2:=a0.lk
 refine lu a0 ?_
 refine lR (λh3=>?_) (λh3=>?_)
 refine aW ?_
 exact jg
 refine dS ?_
 have hL4:=a0.lk
 refine cN ?_
 have hNk5:=a0.lk
 refine jW a0.l.length (λk5 e h=>At [0,1,12,13] [kF a0,kF a0,bY a0.l.length,bY k5] aT.empty [] e h) ?_ (k0:=0) eG atR
 rintro k5 e h hkk5 hA
 refine aA ?_
 refine kx (λh6=>?_) (λh6=>?_)
 refine cT ?_
 refine bS ?_
 have hx7:k5<a0.l.length:=by omega
 refine ph k5 a0 hx7 ?_
 generalize hqx8:a0.l[k5]=x8
 refine bj ?_
 have hx9:k5<a0.l.length:=by omega
 refine ph k5 a0 hx9 ?_
 rw [hqx8]
 refine bE ?_
 refine kD ?_
 refine ab ?_
 exact ic
 refine aS ?_
 refine xB ⟨zT,rfl⟩
def WH (_a0:Row Int) (v:AV):Prop:=((True)/\v=.bool true)
def t236 (a0:Row Int) :Ct 236 [kN a0,kN a0] (WH a0):=by
 refine j9 GY ?_
 refine aY ?_
 have hL1:=a0.lk
 refine dr ?_
 have hL2:=a0.lk
 refine lu a0 ?_
 refine lR (λh3=>?_) (λh3=>?_)
 refine aW ?_
 exact jg
 refine dS ?_
 have hL4:=a0.lk
 refine cN ?_
 have hNk5:=a0.lk
 refine jW a0.l.length (λk5 e h=>At [0,1,12,13] [kN a0,kN a0,bY a0.l.length,bY k5] aT.empty [] e h) ?_ (k0:=0) eG atR
 rintro k5 e h hkk5 hA
 refine aA ?_
 refine kx (λh6=>?_) (λh6=>?_)
 refine cT ?_
 refine bS ?_
 have hx7:k5<a0.l.length:=by omega
 refine ph k5 a0 hx7 ?_
 generalize hqx8:a0.l[k5]=x8
 refine bj ?_
 have hx9:k5<a0.l.length:=by omega
 refine ph k5 a0 hx9 ?_
 rw [hqx8]
 refine rV ?_
 refine u6 (λh11=>?_) (λh11=>?_)
 refine rN ?_
 refine ac ?_
 exact jg
 refine c7 ?_
 refine qg ?_
 refine kD ?_
 refine ab ?_
 exact ic
 refine aS ?_
 refine xB ⟨zT,rfl⟩
def aaO {H:aT} (x:lr) (F:List lC) (hS:Sep H F) :∃ v H',ka cfg FT ko true 235 [.agg (lr.ag x),.agg (lr.ag x)] { H with cH:=[] } v H'/\((True)/\Sep H' (F)/\v=.bool true):=by
 refine kW Ib ?_
 refine co ?_
 refine bL ?_
 refine oZ rfl (λ_=>sv rfl rfl) (λh1=>?_) (λh1=>?_)
 refine aP ?_
 refine oC (t236 x.elems) ?_
 rintro _ (⟨hc2,rfl⟩)
 refine aR ?_
 have hS3:=Sep.pick hS [] 0 eB eB
 exact ⟨.bool true,rfl,zT,Sep.cH hS3 _,rfl⟩
 refine ck ?_
 refine aR ?_
 exact jg
end Go.Sx
