/- Proves what functions of the program answer. -/
import Derived.Test.YtmajcicmbclkhaaGreatHak
import Derived.Test.YtmajcicmbclkhaaGreatHam
set_option linter.all false
set_option maxRecDepth 100000
set_option maxHeartbeats 0
namespace Go.Sx
open Go Go.Proofs
def t52 (a0:bY) (hJg:JG a0):Ct 52 [.agg (bY.ai a0)] (λv=>∃ r0:Bool,((r0=true->j1 a0))/\v=.bool r0):=by
 refine fR SO ?_
 refine hZ ?_
 have hL1:=a0.elems.lk
 refine gL a0.elems ?_
 refine jI (λh2=>?_) (λh2=>?_)
 refine Bo ?_
 exact eM
 refine fo ?_
 have hL3:=a0.fj.lk
 refine gL a0.fj ?_
 refine jI (λh4=>?_) (λh4=>?_)
 refine Bl ?_
 exact eM
 refine fk ?_
 have hL5:=a0.signals.lk
 refine gL a0.signals ?_
 refine jI (λh6=>?_) (λh6=>?_)
 refine mw ?_
 exact eM
 refine fk ?_
 have hL7:=a0.lines.lk
 refine gL a0.lines ?_
 refine jI (λh8=>?_) (λh8=>?_)
 refine fS ?_
 exact eM
 refine hZ ?_
 have hNk9:=a0.lines.lk
 refine e8 a0.lines.l.length (λk9 e h=>(∀ (i:Nat) (h:i<a0.lines.l.length),i<k9->(a0.lines.l[i]).elems.l.length<=60)/\At [1,3] [.la 1 0,cr k9] au.empty [(1,(bY.ai a0))] e h) ?_ (k0:=0) bh ⟨ct,atR⟩
 rintro k9 e h hkk9 ⟨hI,hA⟩
 refine ag ?_
 have hL10:=a0.lines.lk
 refine gL a0.lines ?_
 refine fQ (λh11=>?_) (λh11=>?_)
 refine hZ ?_
 have hx12:k9<a0.lines.l.length:=by omega
 refine jn k9 a0.lines hx12 ?_
 generalize hqx13:a0.lines.l[k9]=x13
 refine e9 ?_
 have hL14:=x13.elems.lk
 refine gL x13.elems ?_
 refine jI (λh15=>?_) (λh15=>?_)
 refine rQ ?_
 exact eM
 refine fk ?_
 have hx16:k9<a0.lines.l.length:=by omega
 refine jn k9 a0.lines hx16 ?_
 rw [hqx13]
 refine fo ?_
 refine jI (λh18=>?_) (λh18=>?_)
 refine fS ?_
 exact eM
 refine gS ?_
 refine be rfl (λ_=>ca rfl rfl rfl (ej ((k9:Int)) 1 aY aY)) ?_
 refine e9 ?_
 exact ⟨by omega,(by (intro i h h2; rcases Nat.lt_succ_iff_lt_or_eq.mp h2 with h3 | h3; exact hI i h h3; subst h3; simp_all; try omega)),atR⟩
 refine gl ?_
 have hNk19:=a0.elems.lk
 refine e8 a0.elems.l.length (λiz e h=>At [1,4] [.la 1 0,cr iz] au.empty [(1,(bY.ai a0))] e h) ?_ (k0:=0) bh atR
 rintro iz e h hkk19 hA
 refine ag ?_
 have hL20:=a0.elems.lk
 refine gL a0.elems ?_
 refine fQ (λh21=>?_) (λh21=>?_)
 refine hZ ?_
 have hx22:iz<a0.elems.l.length:=by omega
 refine jn iz a0.elems hx22 ?_
 generalize hqx23:a0.elems.l[iz]=x23
 refine fo ?_
 refine jI (λh24=>?_) (λh24=>?_)
 refine gz ?_
 exact eM
 refine gq ?_
 refine be rfl (λ_=>ca rfl rfl rfl (ej ((iz:Int)) 1 aY aY)) ?_
 refine e9 ?_
 exact dJ
 refine gl ?_
 have hNk25:=a0.signals.lk
 refine e8 a0.signals.l.length (λrH e h=>At [1,5] [.la 1 0,cr rH] au.empty [(1,(bY.ai a0))] e h) ?_ (k0:=0) bh atR
 rintro rH e h hkk25 hA
 refine ag ?_
 have hL26:=a0.signals.lk
 refine gL a0.signals ?_
 refine fQ (λh27=>?_) (λh27=>?_)
 refine hZ ?_
 have hx28:rH<a0.signals.l.length:=by omega
 refine jn rH a0.signals hx28 ?_
 generalize hqx29:a0.signals.l[rH]=x29
 refine fo ?_
 refine jI (λh30=>?_) (λh30=>?_)
 refine gz ?_
 exact eM
 refine gq ?_
 refine be rfl (λ_=>ca rfl rfl rfl (ej ((rH:Int)) 1 aY aY)) ?_
 refine e9 ?_
 exact dJ
 refine fS ?_
 exact xB ⟨true,bw,rfl⟩
def t96 (a0:bY) (q1:j1 a0):Ct 96 [.agg (bY.ai a0)] (λv=>∃ r0:Row oq,∃ r1:Row oq,∃ r2:Row oq,(True)/\v=.fG [Row.av lH r0,Row.av lH r1,Row.av lH r2]):=by
 refine fR R5 ?_
 have q2:=q1.elems; have q3:=q1.signals; have q4:=q1.lines
 refine tc ?_
 have hS1:=Sep.jZ gJ 1
 have hNk2:=a0.elems.lk
 refine e8 a0.elems.l.length (λk2 e h=>∃ v3:AV,∃ l4:List oq,∃ H5:au,(l4.length<=0+k2)/\Sep H5 (kh lH 1 v3 l4::[])/\At [1,5,6,7,8] [.la 1 0,v3,ee,ee,cr k2] H5 [(1,(bY.ai a0))] e h) ?_ (k0:=0) bh ⟨ee,(([]:List oq)),au.empty,bD,hS1,atR⟩
 rintro k2 e h hkk2 ⟨v3,l4,H5,hl7,hS6,hA⟩
 refine ag ?_
 have hL8:=a0.elems.lk
 refine gL a0.elems ?_
 refine fQ (λh9=>?_) (λh9=>?_)
 refine fo ?_
 refine wz [.la 1 0,v3,ee,ee,cr k2] H5 [(1,(bY.ai a0))] ?_ (fV hS6 [(5,0)])
 refine gz ?_
 have hx10:k2<a0.elems.l.length:=by omega
 refine jn k2 a0.elems hx10 ?_
 generalize hqx11:a0.elems.l[k2]=x11
 refine fo ?_
 refine oF 0 [x11.name] hS6 λv12 H13 hS14=>?_
 refine e9 ?_
 refine wz [.la 1 0,v12,ee,ee,cr k2] H13 [(1,(bY.ai a0))] ?_ (fV hS14 [(5,0)])
 refine e9 ?_
 refine be rfl (λ_=>ca rfl rfl rfl (ej ((k2:Int)) 1 aY aY)) ?_
 refine e9 ?_
 exact ⟨by omega,v12,((l4++[x11.name])),H13,aY,hS14,(fV hS14 [(5,0)])⟩
 refine fo ?_
 refine wz [.la 1 0,v3,ee,ee] H5 [(1,(bY.ai a0))] ?_ (fV hS6 [(5,0)])
 refine gS ?_
 have hS15:=Sep.jZ hS6 1
 have hNk16:=a0.signals.lk
 refine e8 a0.signals.l.length (λpD e h=>∃ v17:AV,∃ l18:List oq,∃ H19:au,(l18.length<=0+pD)/\Sep H19 (kh lH 1 v17 l18::kh lH 1 v3 l4::[])/\At [1,5,6,7,9] [.la 1 0,v3,v17,ee,cr pD] H19 [(1,(bY.ai a0))] e h) ?_ (k0:=0) bh ⟨ee,(([]:List oq)),H5,bD,hS15,(fV hS15 [(5,1)])⟩
 rintro pD e h hkk16 ⟨v17,l18,H19,hl21,hS20,hA⟩
 refine ag ?_
 have hL22:=a0.signals.lk
 refine gL a0.signals ?_
 refine fQ (λh23=>?_) (λh23=>?_)
 refine fo ?_
 refine wz [.la 1 0,v3,v17,ee,cr pD] H19 [(1,(bY.ai a0))] ?_ (fV hS20 [(5,1),(6,0)])
 refine gz ?_
 have hx24:pD<a0.signals.l.length:=by omega
 refine jn pD a0.signals hx24 ?_
 generalize hqx25:a0.signals.l[pD]=x25
 refine fo ?_
 refine oF 0 [x25.name] hS20 λv26 H27 hS28=>?_
 refine e9 ?_
 refine wz [.la 1 0,v3,v26,ee,cr pD] H27 [(1,(bY.ai a0))] ?_ (fV hS28 [(5,1),(6,0)])
 refine e9 ?_
 refine be rfl (λ_=>ca rfl rfl rfl (ej ((pD:Int)) 1 aY aY)) ?_
 refine e9 ?_
 exact ⟨by omega,v26,((l18++[x25.name])),H27,aY,hS28,(fV hS28 [(5,1),(6,0)])⟩
 refine fo ?_
 refine wz [.la 1 0,v3,v17,ee] H19 [(1,(bY.ai a0))] ?_ (fV hS20 [(5,1),(6,0)])
 refine gS ?_
 have hS29:=Sep.jZ hS20 1
 have hNk30:=a0.lines.lk
 refine e8 a0.lines.l.length (λjB e h=>∃ v31:AV,∃ l32:List oq,∃ H33:au,(l32.length<=0+jB)/\Sep H33 (kh lH 1 v31 l32::kh lH 1 v17 l18::kh lH 1 v3 l4::[])/\At [1,5,6,7,10] [.la 1 0,v3,v17,v31,cr jB] H33 [(1,(bY.ai a0))] e h) ?_ (k0:=0) bh ⟨ee,(([]:List oq)),H19,bD,hS29,(fV hS29 [(5,2),(6,1)])⟩
 rintro jB e h hkk30 ⟨v31,l32,H33,hl35,hS34,hA⟩
 refine ag ?_
 have hL36:=a0.lines.lk
 refine gL a0.lines ?_
 refine fQ (λh37=>?_) (λh37=>?_)
 refine fo ?_
 refine wz [.la 1 0,v3,v17,v31,cr jB] H33 [(1,(bY.ai a0))] ?_ (fV hS34 [(5,2),(6,1),(7,0)])
 refine gz ?_
 have hx38:jB<a0.lines.l.length:=by omega
 refine jn jB a0.lines hx38 ?_
 generalize hqx39:a0.lines.l[jB]=x39
 refine fo ?_
 refine oF 0 [x39.name] hS34 λv40 H41 hS42=>?_
 refine e9 ?_
 refine wz [.la 1 0,v3,v17,v40,cr jB] H41 [(1,(bY.ai a0))] ?_ (fV hS42 [(5,2),(6,1),(7,0)])
 refine e9 ?_
 refine be rfl (λ_=>ca rfl rfl rfl (ej ((jB:Int)) 1 aY aY)) ?_
 refine e9 ?_
 exact ⟨by omega,v40,((l32++[x39.name])),H41,aY,hS42,(fV hS42 [(5,2),(6,1),(7,0)])⟩
 refine fo ?_
 refine wz [v3,v17,v31] H33 [] ?_ (fV hS34 [(5,2),(6,1),(7,0)])
 refine hZ ?_
 obtain ⟨r43,hl44,hf45⟩:=iZ (H:=H33) (i:=2) (l:=l4) (enc:=lH) hS34 rfl a8
 have hlq:=hl44; have hln47:=congrArg List.length hl44
 have hz46:∀ m,freeze false { H33 with aT:=[] } (m+2) v3=some (Row.av lH r43):=λm=>hf45 _ _ (λ_=>rfl)
 obtain ⟨r48,hl49,hf50⟩:=iZ (H:=H33) (i:=1) (l:=l18) (enc:=lH) hS34 rfl a8
 have hlq:=hl49; have hln52:=congrArg List.length hl49
 have hz51:∀ m,freeze false { H33 with aT:=[] } (m+2) v17=some (Row.av lH r48):=λm=>hf50 _ _ (λ_=>rfl)
 obtain ⟨r53,hl54,hf55⟩:=iZ (H:=H33) (i:=0) (l:=l32) (enc:=lH) hS34 rfl a8
 have hlq:=hl54; have hln57:=congrArg List.length hl54
 have hz56:∀ m,freeze false { H33 with aT:=[] } (m+2) v31=some (Row.av lH r53):=λm=>hf55 _ _ (λ_=>rfl)
 exact ⟨.fG [v3,v17,v31],(ia (vs:=[v3,v17,v31]) rfl (ei (Sep.arg (i:=2) hS34 rfl) (ei (Sep.arg (i:=1) hS34 rfl) (ei (Sep.arg (i:=0) hS34 rfl) fT)))),.fG [Row.av lH r43,Row.av lH r48,Row.av lH r53],(show freeze false { H33 with aT:=[] } 8 (.fG [v3,v17,v31])=some (.fG [Row.av lH r43,Row.av lH r48,Row.av lH r53]) by simp only [FZ,hz46,hz51,hz56]),r43,r48,r53,zt⟩
def t189 (a0:Int) (a1:Int) (a2:Int) :Ct 189 [iv a0,iv a1,iv a2] (λv=>∃ r0:Bool,(True)/\v=.bool r0):=by
 refine fR OC ?_
 refine fS ?_
 refine jw (λh1=>?_) (λh1=>?_)
 refine fo ?_
 refine xz (λh2=>?_) (λh2=>?_)
 refine fk ?_
 exact dK
 refine fk ?_
 exact dI
 refine fS ?_
 exact dI
def t190 (a0:oq) :Ct 190 [.str a0.l] (λv=>∃ r0:Bool,((r0=true->yb a0.l))/\v=.bool r0):=by
 refine fR Pk ?_
 refine hZ ?_
 have hNk1:=a0.lk
 refine e8 a0.l.length (λk1 e h=>(∀ (i:Nat) (h:i<a0.l.length),i<k1->Dm i ((a0.l[i]).toNat:Int))/\At [0,3] [.str a0.l,cr k1] au.empty [] e h) ?_ (k0:=0) bh ⟨ct,atR⟩
 rintro k1 e h hkk1 ⟨hC,hA⟩
 refine ag ?_
 refine fQ (λh2=>?_) (λh2=>?_)
 refine gl ?_
 have hx3:k1<a0.l.length:=by omega
 refine be rfl (λ_=>zI (n:=k1) (s:=a0.l) rfl rfl rfl rfl hx3) ?_
 generalize hqc4:a0.l[k1]=c4
 refine gq ?_
 refine jw (λh5=>?_) (λh5=>?_)
 refine e9 ?_
 refine xz (λh6=>?_) (λh6=>?_)
 refine GS ?_
 refine be rfl (λ_=>ca rfl rfl rfl (ej ((k1:Int)) 1 aY aY)) ?_
 refine e9 ?_
 exact d3
 refine fo ?_
 refine jw (λh7=>?_) (λh7=>?_)
 refine e9 ?_
 refine xz (λh8=>?_) (λh8=>?_)
 refine Bo ?_
 refine be rfl (λ_=>ca rfl rfl rfl (ej ((k1:Int)) 1 aY aY)) ?_
 refine e9 ?_
 exact d3
 refine hZ ?_
 refine gN (λh9=>?_) (λh9=>?_)
 refine oi ?_
 exact d4
 refine e9 ?_
 refine fQ (λh10=>?_) (λh10=>?_)
 refine kS ?_
 exact d4
 refine fo ?_
 refine jI (λh11=>?_) (λh11=>?_)
 refine gl ?_
 exact d4
 refine gz ?_
 refine be rfl (λ_=>ca rfl rfl rfl (ej ((k1:Int)) 1 aY aY)) ?_
 refine e9 ?_
 exact d3
 refine kS ?_
 refine gN (λh12=>?_) (λh12=>?_)
 refine oi ?_
 exact d4
 refine e9 ?_
 refine fQ (λh13=>?_) (λh13=>?_)
 refine kS ?_
 exact d4
 refine fo ?_
 refine jI (λh14=>?_) (λh14=>?_)
 refine gl ?_
 exact d4
 refine gz ?_
 refine be rfl (λ_=>ca rfl rfl rfl (ej ((k1:Int)) 1 aY aY)) ?_
 refine e9 ?_
 exact d3
 refine gS ?_
 refine jw (λh15=>?_) (λh15=>?_)
 refine e9 ?_
 refine xz (λh16=>?_) (λh16=>?_)
 refine Bo ?_
 refine be rfl (λ_=>ca rfl rfl rfl (ej ((k1:Int)) 1 aY aY)) ?_
 refine e9 ?_
 exact d3
 refine hZ ?_
 refine gN (λh17=>?_) (λh17=>?_)
 refine oi ?_
 exact d4
 refine e9 ?_
 refine fQ (λh18=>?_) (λh18=>?_)
 refine kS ?_
 exact d4
 refine fo ?_
 refine jI (λh19=>?_) (λh19=>?_)
 refine gl ?_
 exact d4
 refine gz ?_
 refine be rfl (λ_=>ca rfl rfl rfl (ej ((k1:Int)) 1 aY aY)) ?_
 refine e9 ?_
 exact d3
 refine kS ?_
 refine gN (λh20=>?_) (λh20=>?_)
 refine oi ?_
 exact d4
 refine e9 ?_
 refine fQ (λh21=>?_) (λh21=>?_)
 refine kS ?_
 exact d4
 refine fo ?_
 refine jI (λh22=>?_) (λh22=>?_)
 refine gl ?_
 exact d4
 refine gz ?_
 refine be rfl (λ_=>ca rfl rfl rfl (ej ((k1:Int)) 1 aY aY)) ?_
 refine e9 ?_
 exact d3
 refine gz ?_
 refine jw (λh23=>?_) (λh23=>?_)
 refine fo ?_
 refine xz (λh24=>?_) (λh24=>?_)
 refine fk ?_
 exact xB ⟨true,bz,rfl⟩
 refine fk ?_
 exact d4
 refine fS ?_
 exact d4
def t191 (a0:Int) :Ct 191 [iv a0] (λv=>∃ r0:Int,((((a0=1->r0=2)/\(a0=2->r0=3)/\(a0=3->r0=4)/\(a0=4->r0=1)/\0<=r0/\r0<=4)/\(¬ (1<=a0/\a0<=4)->r0=0)))/\v=iv r0):=by
 refine fR PZ ?_
 refine j9 ?_
 refine gN (λh1=>?_) (λh1=>?_)
 refine fS ?_
 exact xB ⟨2,cH,rfl⟩
 refine gq ?_
 refine gN (λh2=>?_) (λh2=>?_)
 refine fS ?_
 exact xB ⟨3,cH,rfl⟩
 refine gq ?_
 refine gN (λh3=>?_) (λh3=>?_)
 refine fS ?_
 exact xB ⟨4,cH,rfl⟩
 refine gq ?_
 refine gN (λh4=>?_) (λh4=>?_)
 refine fS ?_
 exact xB ⟨1,cH,rfl⟩
 refine gl ?_
 exact xB ⟨0,cH,rfl⟩
def t97 (a0:bY) :Ct 97 [.agg (bY.ai a0)] (λv=>∃ r0:Bool,(True)/\v=.bool r0):=by
 refine fR RV ?_
 refine hZ ?_
 refine oC (t189 a0.top 1 60) ?_
 rintro _ ⟨r2,hc1,rfl⟩
 cases r2
 refine GS ?_
 exact dI
 refine fk ?_
 refine oC (t189 a0.gD 1 10) ?_
 rintro _ ⟨r4,hc3,rfl⟩
 cases r4
 refine FV ?_
 exact dI
 refine gq ?_
 refine oC (t189 a0.gu 1 4000) ?_
 rintro _ ⟨r6,hc5,rfl⟩
 cases r6
 refine Mo ?_
 exact dI
 refine gq ?_
 refine oC (t189 a0.gw 1 20) ?_
 rintro _ ⟨r8,hc7,rfl⟩
 cases r8
 refine nR ?_
 exact dI
 refine gq ?_
 have hL9:=a0.elems.lk
 refine gL a0.elems ?_
 refine gN (λh10=>?_) (λh10=>?_)
 refine fS ?_
 exact dI
 refine hZ ?_
 have hNk11:=a0.elems.lk
 refine e8 a0.elems.l.length (λgb e h=>At [1,3] [.la 1 0,cr gb] au.empty [(1,(bY.ai a0))] e h) ?_ (k0:=0) bh atR
 rintro gb e h hkk11 hA
 refine ag ?_
 have hL12:=a0.elems.lk
 refine gL a0.elems ?_
 refine fQ (λh13=>?_) (λh13=>?_)
 refine hZ ?_
 have hx14:gb<a0.elems.l.length:=by omega
 refine jn gb a0.elems hx14 ?_
 generalize hqx15:a0.elems.l[gb]=x15
 refine fS ?_
 refine oC (t190 x15.name) ?_
 rintro _ ⟨r17,hc16,rfl⟩
 cases r17
 clear hc16
 refine TJ ?_
 exact dI
 have hc16t:=hc16 rfl
 have hNm:=hc16t
 refine fk ?_
 refine oC (t191 x15.kind) ?_
 rintro _ ⟨r19,hc18,rfl⟩
 refine gN (λh20=>?_) (λh20=>?_)
 refine DH ?_
 exact dI
 refine fk ?_
 refine gN (λh21=>?_) (λh21=>?_)
 refine fo ?_
 refine iV (λh22=>?_) (λh22=>?_)
 refine Bl ?_
 exact dI
 refine gq ?_
 refine iV (λh23=>?_) (λh23=>?_)
 refine fo ?_
 refine oC (t189 x15.len 1 4000) ?_
 rintro _ ⟨r25,hc24,rfl⟩
 cases r25
 refine hZ ?_
 exact dI
 refine fS ?_
 refine be rfl (λ_=>ca rfl rfl rfl (ej ((gb:Int)) 1 aY aY)) ?_
 refine e9 ?_
 exact dJ
 refine j9 ?_
 refine be rfl (λ_=>ca rfl rfl rfl (ej ((gb:Int)) 1 aY aY)) ?_
 refine e9 ?_
 exact dJ
 refine gl ?_
 refine iV (λh26=>?_) (λh26=>?_)
 refine fo ?_
 refine oC (t189 x15.len 1 4000) ?_
 rintro _ ⟨r28,hc27,rfl⟩
 cases r28
 refine hZ ?_
 exact dI
 refine fS ?_
 refine be rfl (λ_=>ca rfl rfl rfl (ej ((gb:Int)) 1 aY aY)) ?_
 refine e9 ?_
 exact dJ
 refine j9 ?_
 refine be rfl (λ_=>ca rfl rfl rfl (ej ((gb:Int)) 1 aY aY)) ?_
 refine e9 ?_
 exact dJ
 refine gl ?_
 have hNk29:=a0.signals.lk
 refine e8 a0.signals.l.length (λkC e h=>At [1,5] [.la 1 0,cr kC] au.empty [(1,(bY.ai a0))] e h) ?_ (k0:=0) bh atR
 rintro kC e h hkk29 hA
 refine ag ?_
 have hL30:=a0.signals.lk
 refine gL a0.signals ?_
 refine fQ (λh31=>?_) (λh31=>?_)
 refine hZ ?_
 have hx32:kC<a0.signals.l.length:=by omega
 refine jn kC a0.signals hx32 ?_
 generalize hqx33:a0.signals.l[kC]=x33
 refine e9 ?_
 refine oC (t190 x33.name) ?_
 rintro _ ⟨r35,hc34,rfl⟩
 cases r35
 clear hc34
 refine fS ?_
 exact dI
 have hc34t:=hc34 rfl
 have hNm:=hc34t
 refine gS ?_
 refine be rfl (λ_=>ca rfl rfl rfl (ej ((kC:Int)) 1 aY aY)) ?_
 refine e9 ?_
 exact dJ
 refine gl ?_
 have hNk36:=a0.lines.lk
 refine e8 a0.lines.l.length (λnu e h=>At [1,6] [.la 1 0,cr nu] au.empty [(1,(bY.ai a0))] e h) ?_ (k0:=0) bh atR
 rintro nu e h hkk36 hA
 refine ag ?_
 have hL37:=a0.lines.lk
 refine gL a0.lines ?_
 refine fQ (λh38=>?_) (λh38=>?_)
 refine hZ ?_
 have hx39:nu<a0.lines.l.length:=by omega
 refine jn nu a0.lines hx39 ?_
 generalize hqx40:a0.lines.l[nu]=x40
 refine e9 ?_
 refine oC (t190 x40.name) ?_
 rintro _ ⟨r42,hc41,rfl⟩
 cases r42
 clear hc41
 refine fS ?_
 exact dI
 have hc41t:=hc41 rfl
 have hNm:=hc41t
 refine gS ?_
 refine be rfl (λ_=>ca rfl rfl rfl (ej ((nu:Int)) 1 aY aY)) ?_
 refine e9 ?_
 exact dJ
 refine fS ?_
 exact dK
def t98 (a0:Row oq) :Ct 98 [Row.av lH a0] (λv=>∃ r0:Bool,(True)/\v=.bool r0):=by
 refine fR SI ?_
 refine hZ ?_
 have hNk1:=a0.lk
 refine e8 a0.l.length (λk1 e h=>At [0,3] [Row.av lH a0,cr k1] au.empty [] e h) ?_ (k0:=0) bh atR
 rintro k1 e h hkk1 hA
 refine aw ?_
 have hL2:=a0.lk
 refine gL a0 ?_
 refine fQ (λh3=>?_) (λh3=>?_)
 refine hZ ?_
 refine e8 k1 (λk4 e h=>At [0,3,4] [Row.av lH a0,cr k1,cr k4] au.empty [] e h) ?_ (k0:=0) bh atR
 rintro k4 e h hkk4 hA
 refine aw ?_
 refine fQ (λh5=>?_) (λh5=>?_)
 refine aW ?_
 have hx6:k1<a0.l.length:=by omega
 refine ni k1 a0 hx6 ?_
 generalize hqx7:a0.l[k1]=x7
 refine jG ?_
 have hx8:k4<a0.l.length:=by omega
 refine ni k4 a0 hx8 ?_
 generalize hqx9:a0.l[k4]=x9
 refine rV ?_
 refine og rfl rfl (λ_=>Du rfl rfl) (λh10=>?_) (λh10=>?_)
 refine aD ?_
 exact dK
 refine lu ?_
 refine oV ?_
 refine be rfl (λ_=>ca rfl rfl rfl (ej ((k4:Int)) 1 aY aY)) ?_
 refine e9 ?_
 exact dJ
 refine gq ?_
 refine be rfl (λ_=>ca rfl rfl rfl (ej ((k1:Int)) 1 aY aY)) ?_
 refine e9 ?_
 exact dJ
 refine fS ?_
 exact dI
def t192 (a0:bY) (a1:eU) :Ct 192 [.agg (bY.ai a0),.agg (eU.ai a1)] (λv=>∃ r0:Bool,((r0=true->0<=a1.elem/\a1.elem<(a0.elems.l.length:Int)/\0<=a1.en/\a1.en<4))/\v=.bool r0):=by
 refine fR OQ ?_
 refine fS ?_
 refine lj ?_
 refine Gs (λh1=>?_) (λh1=>?_)
 refine lY ?_
 have hL2:=a0.elems.lk
 refine rl a0.elems ?_
 refine wC (λh3=>?_) (λh3=>?_)
 refine lu ?_
 refine Gs (λh4=>?_) (λh4=>?_)
 refine ze ?_
 have hx5:(a1.elem).toNat<a0.elems.l.length:=by omega
 refine Lc a1.elem a0.elems hx5 ?_
 generalize hqx6:a0.elems.l[(a1.elem).toNat]=x6
 refine lj ?_
 refine rC (t191 x6.kind) ?_
 rintro _ ⟨r8,hc7,rfl⟩
 refine wC (λh9=>?_) (λh9=>?_)
 refine lu ?_
 exact xB ⟨true,bU,rfl⟩
 refine lu ?_
 exact d5
 refine L9 ?_
 exact d5
 refine J3 ?_
 exact d5
 refine SQ ?_
 exact d5
def t193 (a0:bY) (a1:eU) :Ct 193 [.agg (bY.ai a0),.agg (eU.ai a1)] (λv=>∃ r0:eU,∃ r1:Bool,(((r1=true->j8 a0.fj.l a1=some r0)/\(r1=false->j8 a0.fj.l a1=none)))/\v=.fG [.agg (eU.ai r0),.bool r1]):=by
 refine fR PB ?_
 refine kS ?_
 have hNk1:=a0.fj.lk
 refine e8 a0.fj.l.length (λk1 e h=>(j8 (a0.fj.l.drop k1) a1=j8 a0.fj.l a1)/\At [2,3,4,6] [.la 2 0,.la 3 0,.la 4 0,cr k1] au.empty [(2,(bY.ai a0)),(3,(eU.ai a1)),(4,[iv 0,iv 0])] e h) ?_ (k0:=0) bh ⟨c7,atR⟩
 rintro k1 e h hkk1 ⟨hI,hA⟩
 refine ag ?_
 have hL2:=a0.fj.lk
 refine gL a0.fj ?_
 refine fQ (λh3=>?_) (λh3=>?_)
 refine fS ?_
 refine jG ?_
 have hx4:k1<a0.fj.l.length:=by omega
 refine ni k1 a0.fj hx4 ?_
 generalize hqx5:a0.fj.l[k1]=x5
 refine jG ?_
 refine og rfl rfl (λ_=>xe rfl rfl rfl (λ_ _=>rfl)) (λh6=>?_) (λh6=>?_)
 refine aD ?_
 have hx7:k1<a0.fj.l.length:=by omega
 refine jn k1 a0.fj hx7 ?_
 rw [hqx5]
 refine gS ?_
 exact xG ⟨x5.b,true,b5,rfl⟩
 refine ze ?_
 have hx9:k1<a0.fj.l.length:=by omega
 refine ni k1 a0.fj hx9 ?_
 rw [hqx5]
 refine jG ?_
 refine og rfl rfl (λ_=>xe rfl rfl rfl (λ_ _=>rfl)) (λh11=>?_) (λh11=>?_)
 refine aD ?_
 have hx12:k1<a0.fj.l.length:=by omega
 refine jn k1 a0.fj hx12 ?_
 rw [hqx5]
 refine gS ?_
 exact xG ⟨x5.a,true,b5,rfl⟩
 refine lu ?_
 refine oV ?_
 refine be rfl (λ_=>ca rfl rfl rfl (ej ((k1:Int)) 1 aY aY)) ?_
 refine e9 ?_
 exact ⟨by omega,(by (exact (KI a6 a6 a6 a6).trans hI)),atR⟩
 refine hZ ?_
 exact xG ⟨(⟨0,0⟩:eU),false,b5,rfl⟩
def t194 (a0:bY) (a1:Int) :Ct 194 [.agg (bY.ai a0),iv a1] (λv=>∃ r0:Int,(r0=kp a0 a1)/\v=iv r0):=by
 refine fR PA ?_
 refine gl ?_
 refine fQ (λh1=>?_) (λh1=>?_)
 refine mw ?_
 exact xB ⟨0,cS,rfl⟩
 refine fk ?_
 have hL2:=a0.elems.lk
 refine gL a0.elems ?_
 refine jw (λh3=>?_) (λh3=>?_)
 refine fS ?_
 exact xB ⟨0,cS,rfl⟩
 refine gl ?_
 have hx4:(a1).toNat<a0.elems.l.length:=by omega
 refine pa a1 a0.elems hx4 ?_
 generalize hqx5:a0.elems.l[(a1).toNat]=x5
 refine gq ?_
 exact xB ⟨x5.kind,cS,rfl⟩
def t99 (a0:bY) (q1:j1 a0):Ct 99 [.agg (bY.ai a0)] (λv=>∃ r0:Bool,(True)/\v=.bool r0):=by
 refine fR Tw ?_
 have q2:=q1.elems; have q3:=q1.fj
 refine nR ?_
 have hS1:=Sep.jZ gJ 2
 have hNk2:=a0.fj.lk
 refine e8 a0.fj.l.length (λk2 e h=>∃ v3:AV,∃ l4:List eU,∃ H5:au,(l4.length<=0+2*k2)/\Sep H5 (kh eU.ai 2 v3 l4::[])/\At [1,3,4] [.la 1 0,v3,cr k2] H5 [(1,(bY.ai a0))] e h) ?_ (k0:=0) bh ⟨ee,(([]:List eU)),au.empty,bD,hS1,atR⟩
 rintro k2 e h hkk2 ⟨v3,l4,H5,hl7,hS6,hA⟩
 refine ag ?_
 have hL8:=a0.fj.lk
 refine gL a0.fj ?_
 refine fQ (λh9=>?_) (λh9=>?_)
 refine fo ?_
 refine wz [.la 1 0,v3,cr k2] H5 [(1,(bY.ai a0))] ?_ (fV hS6 [(3,0)])
 refine Lt ?_
 have hx10:k2<a0.fj.l.length:=by omega
 refine ni k2 a0.fj hx10 ?_
 generalize hqx11:a0.fj.l[k2]=x11
 refine lY ?_
 have hx12:k2<a0.fj.l.length:=by omega
 refine ni k2 a0.fj hx12 ?_
 rw [hqx11]
 refine jG ?_
 refine A1 0 [x11.a,x11.b] hS6 λv14 H15 hS16=>?_
 refine lj ?_
 refine wz [.la 1 0,v14,cr k2] H15 [(1,(bY.ai a0))] ?_ (fV hS16 [(3,0)])
 refine e9 ?_
 refine be rfl (λ_=>ca rfl rfl rfl (ej ((k2:Int)) 1 aY aY)) ?_
 refine e9 ?_
 exact ⟨by omega,v14,((l4++[x11.a,x11.b])),H15,aY,hS16,(fV hS16 [(3,0)])⟩
 refine fo ?_
 refine wz [.la 1 0,v3] H5 [(1,(bY.ai a0))] ?_ (fV hS6 [(3,0)])
 refine gS ?_
 refine e8 l4.length (λot e h=>At [1,3,5] [.la 1 0,v3,cr ot] H5 [(1,(bY.ai a0))] e h) ?_ (k0:=0) bh (fV hS6 [(3,0)])
 rintro ot e h hkk17 hA
 refine aw ?_
 refine be rfl (λ_=>jC (i:=0) hS6 rfl rfl rfl rfl rfl rfl rfl) ?_
 refine fQ (λh18=>?_) (λh18=>?_)
 refine fo ?_
 refine wz [.la 1 0,v3,cr ot] H5 [(1,(bY.ai a0))] ?_ (fV hS6 [(3,0)])
 refine ze ?_
 have hx19:ot<l4.length:=by first | omega | (simp<;>omega) | (simp_all; done) | (simp_all; omega)
 obtain ⟨x20,hqx20⟩:∃ x,l4[ot]=x:=⟨_,rfl⟩
 refine lW rfl rfl (iT (i:=0) (m:=ot) (cs:=eU.ai x20) hS6 rfl rfl rfl rfl rfl rfl rfl (gW hx19 hqx20)) ?_
 rintro a21 ⟨ha22,hea23⟩
 refine fD rfl rfl (λ_=>lQ (i:=0) (m:=ot) (o:=0) (r:=.agg (eU.ai x20)) (cs:=eU.ai x20) hS6 rfl (gW hx19 hqx20) hea23 rfl rfl ha22) ?_
 refine rC (t192 a0 x20) ?_
 rintro _ ⟨r25,hc24,rfl⟩
 cases r25
 clear hc24
 refine lY ?_
 refine fo ?_
 exact dI
 have hc24t:=hc24 rfl
 refine lu ?_
 refine wz [.la 1 0,v3,cr ot] H5 [(1,(bY.ai a0))] ?_ (fV hS6 [(3,0)])
 refine gq ?_
 refine e8 ot (λmb e h=>At [1,3,5,6] [.la 1 0,v3,cr ot,cr mb] H5 [(1,(bY.ai a0))] e h) ?_ (k0:=0) bh (fV hS6 [(3,0)])
 rintro mb e h hkk26 hA
 refine aw ?_
 refine fQ (λh27=>?_) (λh27=>?_)
 refine fo ?_
 refine wz [.la 1 0,v3,cr ot,cr mb] H5 [(1,(bY.ai a0))] ?_ (fV hS6 [(3,0)])
 refine vD ?_
 have hx28:mb<l4.length:=by first | omega | (simp<;>omega) | (simp_all; done) | (simp_all; omega)
 obtain ⟨x29,hqx29⟩:∃ x,l4[mb]=x:=⟨_,rfl⟩
 refine lW rfl rfl (iT (i:=0) (m:=mb) (cs:=eU.ai x29) hS6 rfl rfl rfl rfl rfl rfl rfl (gW hx28 hqx29)) ?_
 rintro a30 ⟨ha31,hea32⟩
 refine fD rfl rfl (λ_=>lQ (i:=0) (m:=mb) (o:=0) (r:=.agg (eU.ai x29)) (cs:=eU.ai x29) hS6 rfl (gW hx28 hqx29) hea32 rfl rfl ha31) ?_
 refine lj ?_
 have hx33:ot<l4.length:=by first | omega | (simp<;>omega) | (simp_all; done) | (simp_all; omega)
 refine lW rfl rfl (iT (i:=0) (m:=ot) (cs:=eU.ai x20) hS6 rfl rfl rfl rfl rfl rfl rfl (gW hx33 hqx20)) ?_
 rintro a34 ⟨ha35,hea36⟩
 refine fD rfl rfl (λ_=>lQ (i:=0) (m:=ot) (o:=0) (r:=.agg (eU.ai x20)) (cs:=eU.ai x20) hS6 rfl (gW hx33 hqx20) hea36 rfl rfl ha35) ?_
 refine og rfl rfl (λ_=>xe rfl rfl rfl (λ_ _=>rfl)) (λh37=>?_) (λh37=>?_)
 refine aD ?_
 exact dI
 refine jG ?_
 refine wz [.la 1 0,v3,cr ot,cr mb] H5 [(1,(bY.ai a0))] ?_ (fV hS6 [(3,0)])
 refine e9 ?_
 refine be rfl (λ_=>ca rfl rfl rfl (ej ((mb:Int)) 1 aY aY)) ?_
 refine e9 ?_
 exact ⟨by omega,(fV hS6 [(3,0)])⟩
 refine fo ?_
 refine wz [.la 1 0,v3,cr ot] H5 [(1,(bY.ai a0))] ?_ (fV hS6 [(3,0)])
 refine e9 ?_
 refine be rfl (λ_=>ca rfl rfl rfl (ej ((ot:Int)) 1 aY aY)) ?_
 refine e9 ?_
 exact ⟨by omega,(fV hS6 [(3,0)])⟩
 refine gl ?_
 have hNk38:=a0.elems.lk
 refine e8 a0.elems.l.length (λjQ e h=>At [1,7] [.la 1 0,cr jQ] H5 [(1,(bY.ai a0))] e h) ?_ (k0:=0) bh atR
 rintro jQ e h hkk38 hA
 refine ag ?_
 have hL39:=a0.elems.lk
 refine gL a0.elems ?_
 refine fQ (λh40=>?_) (λh40=>?_)
 refine hZ ?_
 have hx41:jQ<a0.elems.l.length:=by omega
 refine jn jQ a0.elems hx41 ?_
 generalize hqx42:a0.elems.l[jQ]=x42
 refine e9 ?_
 refine gN (λh43=>?_) (λh43=>?_)
 refine gz ?_
 refine oC (t193 a0 (⟨((jQ:Int)),0⟩:eU)) ?_
 rintro _ ⟨r45,r46,hc44,rfl⟩
 have hN:=hc44
 cases r46
 refine Bo ?_
 exact dI
 refine nR ?_
 refine oC (t194 a0 r45.elem) ?_
 rintro _ ⟨r48,hc47,rfl⟩
 refine gN (λh49=>?_) (λh49=>?_)
 refine fS ?_
 exact dI
 refine gS ?_
 refine be rfl (λ_=>ca rfl rfl rfl (ej ((jQ:Int)) 1 aY aY)) ?_
 refine e9 ?_
 exact dJ
 refine gq ?_
 refine be rfl (λ_=>ca rfl rfl rfl (ej ((jQ:Int)) 1 aY aY)) ?_
 refine e9 ?_
 exact dJ
 refine fS ?_
 exact dK
def t195 (a0:bY) (a1:eU) :Ct 195 [.agg (bY.ai a0),.agg (eU.ai a1)] (λv=>∃ r0:Int,(r0=(nC a0.signals.l a1).getD (-1))/\v=iv r0):=by
 refine fR Oe ?_
 refine j9 ?_
 have hNk1:=a0.signals.lk
 refine e8 a0.signals.l.length (λk1 e h=>(kY a1 k1 (a0.signals.l.drop k1)=nC a0.signals.l a1)/\At [2,3,5] [.la 2 0,.la 3 0,cr k1] au.empty [(2,(bY.ai a0)),(3,(eU.ai a1))] e h) ?_ (k0:=0) bh ⟨c7,atR⟩
 rintro k1 e h hkk1 ⟨hI,hA⟩
 refine ag ?_
 have hL2:=a0.signals.lk
 refine gL a0.signals ?_
 refine fQ (λh3=>?_) (λh3=>?_)
 refine gz ?_
 refine jG ?_
 have hx4:k1<a0.signals.l.length:=by omega
 refine ni k1 a0.signals hx4 ?_
 generalize hqx5:a0.signals.l[k1]=x5
 refine jG ?_
 refine og rfl rfl (λ_=>xe rfl rfl rfl (λ_ _=>rfl)) (λh6=>?_) (λh6=>?_)
 refine lu ?_
 refine fk ?_
 exact xB ⟨((k1:Int)),dh,rfl⟩
 refine lu ?_
 refine oV ?_
 refine be rfl (λ_=>ca rfl rfl rfl (ej ((k1:Int)) 1 aY aY)) ?_
 refine e9 ?_
 exact ⟨by omega,(by (exact (DG a6 a6 a6).trans hI)),atR⟩
 refine fS ?_
 exact xB ⟨(-1),dh,rfl⟩
def t100 (a0:bY) :Ct 100 [.agg (bY.ai a0)] (λv=>∃ r0:Bool,(True)/\v=.bool r0):=by
 refine fR N2 ?_
 refine kP ?_
 have hNk1:=a0.signals.lk
 refine e8 a0.signals.l.length (λk1 e h=>At [1,3] [.la 1 0,cr k1] au.empty [(1,(bY.ai a0))] e h) ?_ (k0:=0) bh atR
 rintro k1 e h hkk1 hA
 refine ag ?_
 have hL2:=a0.signals.lk
 refine gL a0.signals ?_
 refine fQ (λh3=>?_) (λh3=>?_)
 refine hZ ?_
 have hx4:k1<a0.signals.l.length:=by omega
 refine jn k1 a0.signals hx4 ?_
 generalize hqx5:a0.signals.l[k1]=x5
 refine hZ ?_
 refine oC (t194 a0 x5.at_.elem) ?_
 rintro _ ⟨r7,hc6,rfl⟩
 refine gz ?_
 refine oC (t192 a0 x5.at_) ?_
 rintro _ ⟨r9,hc8,rfl⟩
 cases r9
 clear hc8
 refine oi ?_
 exact dI
 have hc8t:=hc8 rfl
 refine fo ?_
 refine iV (λh10=>?_) (λh10=>?_)
 refine e9 ?_
 refine iV (λh11=>?_) (λh11=>?_)
 refine gl ?_
 exact dI
 refine gl ?_
 refine oC (t193 a0 x5.at_) ?_
 rintro _ ⟨r13,r14,hc12,rfl⟩
 have hN:=hc12
 cases r14
 refine GS ?_
 exact dI
 refine nR ?_
 refine oC (t194 a0 r13.elem) ?_
 rintro _ ⟨r16,hc15,rfl⟩
 refine gN (λh17=>?_) (λh17=>?_)
 refine nR ?_
 exact dI
 refine fk ?_
 refine oC (t195 a0 x5.at_) ?_
 rintro _ ⟨r19,hc18,rfl⟩
 have hR:=hc18
 refine oV ?_
 refine iV (λh20=>?_) (λh20=>?_)
 refine fS ?_
 exact dI
 refine gS ?_
 refine be rfl (λ_=>ca rfl rfl rfl (ej ((k1:Int)) 1 aY aY)) ?_
 refine e9 ?_
 exact dJ
 refine j9 ?_
 refine oC (t193 a0 x5.at_) ?_
 rintro _ ⟨r22,r23,hc21,rfl⟩
 have hN:=hc21
 cases r23
 refine GS ?_
 exact dI
 refine nR ?_
 refine oC (t194 a0 r22.elem) ?_
 rintro _ ⟨r25,hc24,rfl⟩
 refine gN (λh26=>?_) (λh26=>?_)
 refine nR ?_
 exact dI
 refine fk ?_
 refine oC (t195 a0 x5.at_) ?_
 rintro _ ⟨r28,hc27,rfl⟩
 have hR:=hc27
 refine oV ?_
 refine iV (λh29=>?_) (λh29=>?_)
 refine fS ?_
 exact dI
 refine gS ?_
 refine be rfl (λ_=>ca rfl rfl rfl (ej ((k1:Int)) 1 aY aY)) ?_
 refine e9 ?_
 exact dJ
 refine gl ?_
 have hNk30:=a0.elems.lk
 refine e8 a0.elems.l.length (λjB e h=>At [1,8] [.la 1 0,cr jB] au.empty [(1,(bY.ai a0))] e h) ?_ (k0:=0) bh atR
 rintro jB e h hkk30 hA
 refine ag ?_
 have hL31:=a0.elems.lk
 refine gL a0.elems ?_
 refine fQ (λh32=>?_) (λh32=>?_)
 refine hZ ?_
 have hx33:jB<a0.elems.l.length:=by omega
 refine jn jB a0.elems hx33 ?_
 generalize hqx34:a0.elems.l[jB]=x34
 refine e9 ?_
 refine gN (λh35=>?_) (λh35=>?_)
 refine fk ?_
 refine oC (t195 a0 (⟨((jB:Int)),0⟩:eU)) ?_
 rintro _ ⟨r37,hc36,rfl⟩
 have hR:=hc36
 refine fQ (λh38=>?_) (λh38=>?_)
 refine fS ?_
 exact dI
 refine gS ?_
 refine be rfl (λ_=>ca rfl rfl rfl (ej ((jB:Int)) 1 aY aY)) ?_
 refine e9 ?_
 exact dJ
 refine j9 ?_
 refine be rfl (λ_=>ca rfl rfl rfl (ej ((jB:Int)) 1 aY aY)) ?_
 refine e9 ?_
 exact dJ
 refine fS ?_
 exact dK
def YU (_a0:ff Int) (_a1:Int) (v:AV):Prop:=∃ r0:Bool,(((r0=true->_a1∈_a0.l)/\(r0=false->_a1∉_a0.l)))/\v=.bool r0
def t42 (a0:ff Int) (a1:Int) :Ct 42 [nj a0,iv a1] (YU a0 a1):=by
 refine fR SF ?_
 refine hZ ?_
 have hNk1:=a0.lk
 refine e8 a0.l.length (λk1 e h=>(∀ (i:Nat) (h:i<a0.l.length),i<k1->¬ a0.l[i]=a1)/\At [0,1,5] [nj a0,iv a1,cr k1] au.empty [] e h) ?_ (k0:=0) bh ⟨ct,atR⟩
 rintro k1 e h hkk1 ⟨hU,hA⟩
 refine aw ?_
 have hL2:=a0.lk
 refine be rfl (λ_=>mj (r:=a0) (enc:=cI) rfl rfl rfl rfl rfl rfl) ?_
 refine fQ (λh3=>?_) (λh3=>?_)
 refine gl ?_
 have hx4:k1<a0.l.length:=by omega
 refine be rfl (λ_=>nA (n:=k1) (r:=a0) (enc:=cI) rfl rfl rfl rfl rfl hx4 rfl) ?_
 generalize hqx5:a0.l[k1]=x5
 refine e9 ?_
 refine gN (λh6=>?_) (λh6=>?_)
 refine gz ?_
 exact xB ⟨true,cW,rfl⟩
 refine gq ?_
 refine be rfl (λ_=>ca rfl rfl rfl (ej ((k1:Int)) 1 aY aY)) ?_
 refine e9 ?_
 exact eL
 refine fS ?_
 exact xB ⟨false,cW,rfl⟩
def t196 (a0:bY) (a1:Row Int) (q1:a1.l.length<=1000):Ct 196 [.agg (bY.ai a0),gk a1] (λv=>∃ r0:Row Int,∃ r1:Bool,(True)/\v=.fG [gk r0,.bool r1]):=by
 refine fR Og ?_
 refine hZ ?_
 have hL1:=a1.lk
 refine gL a1 ?_
 refine gN (λh2=>?_) (λh2=>?_)
 refine fS ?_
 exact d6
 refine gl ?_
 have hNk3:=a1.lk
 refine e8 a1.l.length (λk3 e h=>At [1,2,6] [gk a1,.la 2 0,cr k3] au.empty [(2,(bY.ai a0))] e h) ?_ (k0:=0) bh atR
 rintro k3 e h hkk3 hA
 refine aw ?_
 have hL4:=a1.lk
 refine gL a1 ?_
 refine fQ (λh5=>?_) (λh5=>?_)
 refine gz ?_
 refine jG ?_
 have hx6:k3<a1.l.length:=by omega
 refine ni k3 a1 hx6 ?_
 generalize hqx7:a1.l[k3]=x7
 refine rV ?_
 refine rC (t194 a0 x7) ?_
 rintro _ ⟨r9,hc8,rfl⟩
 refine yy (λh10=>?_) (λh10=>?_)
 refine lu ?_
 refine fk ?_
 exact d6
 refine lu ?_
 refine oV ?_
 refine be rfl (λ_=>ca rfl rfl rfl (ej ((k3:Int)) 1 aY aY)) ?_
 refine e9 ?_
 exact dJ
 refine gz ?_
 have hL11:=a1.lk
 refine gL a1 ?_
 refine gN (λh12=>?_) (λh12=>?_)
 refine gl ?_
 exact xG ⟨(⟨[0],.exact 1,pd,rfl,capXn⟩:Row Int),true,zt⟩
 refine kS ?_
 refine nT (λm17 e h=>∃ n13:Int,∃ n14:Int,m17=(n14+1).toNat/\(-1<=n14)/\(n14<=1)/\At [1,2,7,8] [gk a1,.la 2 0,iv n13,iv n14] au.empty [(2,(bY.ai a0))] e h) ?_ _ _ _ ⟨(-1),1,rfl,bh,bh,atR⟩
 rintro m17 e h ⟨n13,n14,hmm17,hi15,hi16,hA⟩
 refine aC ?_
 refine jw (λh18=>?_) (λh18=>?_)
 refine aW ?_
 have hx19:0<a1.l.length:=by omega
 refine ni 0 a1 hx19 ?_
 generalize hqx20:a1.l[0]=x20
 refine jG ?_
 refine rC (t193 a0 (⟨x20,n14⟩:eU)) ?_
 rintro _ ⟨r22,r23,hc21,rfl⟩
 have hN:=hc21
 cases r23
 refine J3 ?_
 refine oV ?_
 refine be rfl (λ_=>ca rfl rfl rfl (ju n14 1 aY aY)) ?_
 refine e9 ?_
 refine ⟨_,?_,n13,(n14 - 1),rfl,bh,bh,atR⟩
 omega
 refine aaU ?_
 have hx24:1<a1.l.length:=by omega
 refine ni 1 a1 hx24 ?_
 generalize hqx25:a1.l[1]=x25
 refine rV ?_
 refine FK (λh26=>?_) (λh26=>?_)
 refine lu ?_
 refine gq ?_
 refine be rfl (λ_=>ca rfl rfl rfl (ju n14 1 aY aY)) ?_
 refine e9 ?_
 refine ⟨_,?_,n14,(n14 - 1),rfl,bh,bh,atR⟩
 omega
 refine lY ?_
 refine oV ?_
 refine be rfl (λ_=>ca rfl rfl rfl (ju n14 1 aY aY)) ?_
 refine e9 ?_
 refine ⟨_,?_,n13,(n14 - 1),rfl,bh,bh,atR⟩
 omega
 refine gz ?_
 refine fQ (λh27=>?_) (λh27=>?_)
 refine fS ?_
 exact d6
 refine gS ?_
 refine be rfl (λ_=>ca rfl rfl rfl (pJ .i64 1 n13)) ?_
 refine gl ?_
 have hS28:=Sep.VU gJ 1 (List.map cI [(IntKind.i64.wrap (1 - n13))]) (by intro x hx; obtain ⟨y,_,rfl⟩:=List.mem_map.mp hx; rfl) (k:=1) rfl
 have hNk29:=a1.lk
 refine e8 a1.l.length (λkC e h=>∃ v30:AV,∃ l31:List Int,∃ n32:Int,∃ H33:au,(1<=kC)/\(l31.length<=1+kC)/\Sep H33 (zsP cI 1 v30 l31::[])/\At [1,2,7,11,12] [gk a1,.la 2 0,iv n32,v30,cr kC] H33 [(2,(bY.ai a0))] e h) ?_ (k0:=1) bh ⟨((.sl (List.map cI [(IntKind.i64.wrap (1 - n13))]) (.exact 1))),([(IntKind.i64.wrap (1 - n13))]),n13,au.empty,bh,bD,hS28,atR⟩
 rintro kC e h hkk29 ⟨v30,l31,n32,H33,hw35,hl36,hS34,hA⟩
 refine aw ?_
 have hL37:=a1.lk
 refine gL a1 ?_
 refine fQ (λh38=>?_) (λh38=>?_)
 refine fo ?_
 refine wz [gk a1,.la 2 0,iv n32,v30,cr kC] H33 [(2,(bY.ai a0))] ?_ (fV hS34 [(11,0)])
 refine Lt ?_
 refine fD rfl rfl (λ_=>ca rfl rfl rfl (ju ((kC:Int)) 1 aY aY)) ?_
 have hx39:((kC:Int) - 1).toNat<a1.l.length:=by omega
 refine Lc ((kC:Int) - 1) a1 hx39 ?_
 generalize hqx40:a1.l[((kC:Int) - 1).toNat]=x40
 refine jG ?_
 refine rC (t193 a0 (⟨x40,n32⟩:eU)) ?_
 rintro _ ⟨r42,r43,hc41,rfl⟩
 have hN:=hc41
 cases r43
 refine aa6 ?_
 refine fk ?_
 exact d6
 refine L9 ?_
 have hx44:kC<a1.l.length:=by omega
 refine ni kC a1 hx44 ?_
 generalize hqx45:a1.l[kC]=x45
 refine rV ?_
 refine yy (λh46=>?_) (λh46=>?_)
 refine lY ?_
 refine fk ?_
 exact d6
 refine lu ?_
 refine wz [gk a1,.la 2 0,v30,cr kC,.la 13 0] H33 [(2,(bY.ai a0)),(13,(eU.ai r42))] ?_ (fV hS34 [(11,0)])
 refine gS ?_
 refine oF 0 [r42.en] hS34 λv47 H48 hS49=>?_
 refine gq ?_
 refine be rfl (λ_=>ca rfl rfl rfl (pJ .i64 1 r42.en)) ?_
 refine e9 ?_
 refine wz [gk a1,.la 2 0,iv (IntKind.i64.wrap (1 - r42.en)),v47,cr kC] H48 [(2,(bY.ai a0))] ?_ (fV hS49 [(11,0)])
 refine e9 ?_
 refine be rfl (λ_=>ca rfl rfl rfl (ej ((kC:Int)) 1 aY aY)) ?_
 refine e9 ?_
 exact ⟨by omega,v47,((l31++[r42.en])),(IntKind.i64.wrap (1 - r42.en)),H48,bh,aY,hS49,(fV hS49 [(11,0)])⟩
 refine fo ?_
 refine wz [v30] H33 [] ?_ (fV hS34 [(11,0)])
 refine gz ?_
 obtain ⟨r50,hl51,hf52⟩:=iZ (H:=H33) (i:=0) (l:=l31) (enc:=cI) hS34 rfl a8
 have hlq:=hl51; have hln54:=congrArg List.length hl51
 have hz53:∀ m,freeze false { H33 with aT:=[] } (m+2) v30=some (gk r50):=λm=>hf52 _ _ (λ_=>rfl)
 exact ⟨.fG [v30,.bool true],(ia (vs:=[v30,.bool true]) rfl (ei (Sep.arg (i:=0) hS34 rfl) (ei rfl fT))),.fG [gk r50,.bool true],(show freeze false { H33 with aT:=[] } 8 (.fG [v30,.bool true])=some (.fG [gk r50,.bool true]) by simp only [FZ,hz53]),r50,true,zt⟩
def t101 (a0:bY) (q1:j1 a0):Ct 101 [.agg (bY.ai a0)] (λv=>∃ r0:Bool,(True)/\v=.bool r0):=by
 refine fR Oi ?_
 have q2:=q1.lines
 refine nR ?_
 have hS1:=Sep.jZ gJ 1
 have hNk2:=a0.lines.lk
 refine e8 a0.lines.l.length (λk2 e h=>∃ v3:AV,∃ l4:List Int,∃ H5:au,(l4.length<=60*k2)/\Sep H5 (kL v3 l4::[])/\At [1,3,4] [.la 1 0,v3,cr k2] H5 [(1,(bY.ai a0))] e h) ?_ (k0:=0) bh ⟨ee,(([]:List Int)),au.empty,ci,hS1,atR⟩
 rintro k2 e h hkk2 ⟨v3,l4,H5,hI,hS6,hA⟩
 refine ag ?_
 have hL7:=a0.lines.lk
 refine gL a0.lines ?_
 refine fQ (λh8=>?_) (λh8=>?_)
 refine fo ?_
 refine wz [.la 1 0,v3,cr k2] H5 [(1,(bY.ai a0))] ?_ (fV hS6 [(3,0)])
 refine gz ?_
 have hx9:k2<a0.lines.l.length:=by omega
 refine jn k2 a0.lines hx9 ?_
 generalize hqx10:a0.lines.l[k2]=x10
 have hinx10:x10∈a0.lines.l:=by rw [<- hqx10]; exact List.getElem_mem _
 have hsx10:=q1.line x10 hinx10
 refine hZ ?_
 have hNk11:=x10.elems.lk
 refine e8 x10.elems.l.length (λgb e h=>∃ v12:AV,∃ l13:List Int,∃ H14:au,(l13.length<=l4.length+gb)/\Sep H14 (kL v12 l13::[])/\At [1,3,4,5,6] [.la 1 0,v12,cr k2,gk x10.elems,cr gb] H14 [(1,(bY.ai a0))] e h) ?_ (k0:=0) bh ⟨v3,l4,H5,bD,hS6,(fV hS6 [(3,0)])⟩
 rintro gb e h hkk11 ⟨v12,l13,H14,hl16,hS15,hA⟩
 refine aw ?_
 have hL17:=x10.elems.lk
 refine gL x10.elems ?_
 refine fQ (λh18=>?_) (λh18=>?_)
 refine fo ?_
 refine wz [.la 1 0,v12,cr k2,gk x10.elems,cr gb] H14 [(1,(bY.ai a0))] ?_ (fV hS15 [(3,0)])
 refine fS ?_
 have hx19:gb<x10.elems.l.length:=by omega
 refine jn gb x10.elems hx19 ?_
 generalize hqx20:x10.elems.l[gb]=x20
 refine oV ?_
 refine lJ hS15 0 λr21 hl22 hln25 hz24=>?_
 refine kD (args:=[v12,iv x20]) (p:=[]) (r:=[]) (args':=[nj r21,iv x20]) (R:=YU r21 x20) rfl rfl rfl rfl rfl (ei (Sep.arg (i:=0) hS15 rfl) (ei rfl fT)) rfl cC (gG (by show fU (freeze true { H14 with aT:=[] } 8) [v12,iv x20] = _; simp only [FZ,hz24]) (ei (Sep.qE (i:=0) hS15 rfl) (ei rfl fT))) (gG bV (ei rfl (ei rfl fT))) (λh=>t42 r21 x20  h) ?_
 rintro _ ⟨r27,hc26,rfl⟩
 have hIn:=hc26
 cases r27
 refine fo ?_
 refine wz [.la 1 0,v12,cr k2,gk x10.elems,cr gb] H14 [(1,(bY.ai a0))] ?_ (fV hS15 [(3,0)])
 refine fk ?_
 have hx28:gb<x10.elems.l.length:=by omega
 refine jn gb x10.elems hx28 ?_
 rw [hqx20]
 refine e9 ?_
 refine oF 0 [x20] hS15 λv30 H31 hS32=>?_
 refine e9 ?_
 refine wz [.la 1 0,v30,cr k2,gk x10.elems,cr gb] H31 [(1,(bY.ai a0))] ?_ (fV hS32 [(3,0)])
 refine e9 ?_
 refine be rfl (λ_=>ca rfl rfl rfl (ej ((gb:Int)) 1 aY aY)) ?_
 refine e9 ?_
 exact ⟨by omega,v30,((l13++[x20])),H31,aY,hS32,(fV hS32 [(3,0)])⟩
 refine gz ?_
 exact dI
 refine fo ?_
 refine wz [.la 1 0,v12,cr k2,gk x10.elems] H14 [(1,(bY.ai a0))] ?_ (fV hS15 [(3,0)])
 refine fk ?_
 refine oC (t196 a0 x10.elems aZ) ?_
 rintro _ ⟨r34,r35,hc33,rfl⟩
 cases r35
 refine rQ ?_
 exact dI
 refine kS ?_
 refine wz [.la 1 0,v12,cr k2] H14 [(1,(bY.ai a0))] ?_ (fV hS15 [(3,0)])
 refine e9 ?_
 refine be rfl (λ_=>ca rfl rfl rfl (ej ((k2:Int)) 1 aY aY)) ?_
 refine e9 ?_
 exact ⟨by omega,v12,l13,H14,bj,hS15,(fV hS15 [(3,0)])⟩
 refine fS ?_
 exact dK
def t197 (a0:Int) (a1:Int) :Ct 197 [iv a0,iv a1] (λv=>∃ r0:Int,(True)/\v=iv r0):=by
 refine fR P6 ?_
 refine fS ?_
 refine fQ (λh1=>?_) (λh1=>?_)
 refine tc ?_
 exact dY
 refine e9 ?_
 refine jI (λh2=>?_) (λh2=>?_)
 refine oi ?_
 exact dY
 refine fo ?_
 refine fQ (λh3=>?_) (λh3=>?_)
 refine j9 ?_
 exact dY
 refine fo ?_
 refine jI (λh4=>?_) (λh4=>?_)
 refine fS ?_
 exact dY
 refine kS ?_
 refine be rfl (λ_=>ca rfl rfl rfl (ju a0 a1 aY aY)) ?_
 refine fo ?_
 refine nT (λm9 e h=>∃ n5:Int,∃ n6:Int,m9=(n5+10).toNat/\(-10<=n5)/\(n5<=60)/\At [0,1,5] [iv n5,iv a1,iv n6] au.empty [] e h) ?_ _ _ _ ⟨(a0 - a1),0,rfl,bh,bh,atR⟩
 rintro m9 e h ⟨n5,n6,hmm9,hi7,hi8,hA⟩
 refine aC ?_
 refine jI (λh10=>?_) (λh10=>?_)
 refine aM ?_
 refine be rfl (λ_=>ca rfl rfl rfl (ju n5 a1 aY aY)) ?_
 refine e9 ?_
 refine ⟨_,?_,(n5 - a1),(IntKind.i64.wrap (n6+(n5))),rfl,bh,bh,atR⟩
 omega
 refine gl ?_
 exact xB ⟨n6,zt⟩
def t198 (a0:bY) (a1:Int) :Ct 198 [.agg (bY.ai a0),iv a1] (λv=>∃ r0:Int,(r0=ym a0 a1)/\v=iv r0):=by
 refine fR Ps ?_
 refine gl ?_
 refine fQ (λh1=>?_) (λh1=>?_)
 refine mw ?_
 exact xB ⟨0,cT,rfl⟩
 refine fk ?_
 have hL2:=a0.elems.lk
 refine gL a0.elems ?_
 refine jw (λh3=>?_) (λh3=>?_)
 refine fS ?_
 exact xB ⟨0,cT,rfl⟩
 refine gl ?_
 have hx4:(a1).toNat<a0.elems.l.length:=by omega
 refine pa a1 a0.elems hx4 ?_
 generalize hqx5:a0.elems.l[(a1).toNat]=x5
 refine gq ?_
 exact xB ⟨x5.len,cT,rfl⟩
def t102 (a0:bY) :Ct 102 [.agg (bY.ai a0)] (λv=>∃ r0:Bool,(True)/\v=.bool r0):=by
 refine fR N9 ?_
 refine fS ?_
 refine ze ?_
 refine rC (t197 a0.top a0.gD) ?_
 rintro _ ⟨r2,hc1,rfl⟩
 refine fD rfl rfl (λ_=>ca rfl rfl rfl (CU .i64 a0.top r2)) ?_
 refine wC (λh3=>?_) (λh3=>?_)
 refine aD ?_
 exact dI
 refine vD ?_
 refine fo ?_
 have hNk4:=a0.signals.lk
 refine e8 a0.signals.l.length (λk4 e h=>At [1,3] [.la 1 0,cr k4] au.empty [(1,(bY.ai a0))] e h) ?_ (k0:=0) bh atR
 rintro k4 e h hkk4 hA
 refine ag ?_
 have hL5:=a0.signals.lk
 refine gL a0.signals ?_
 refine fQ (λh6=>?_) (λh6=>?_)
 refine hZ ?_
 have hx7:k4<a0.signals.l.length:=by omega
 refine jn k4 a0.signals hx7 ?_
 generalize hqx8:a0.signals.l[k4]=x8
 refine aW ?_
 refine rC (t194 a0 x8.at_.elem) ?_
 rintro _ ⟨r10,hc9,rfl⟩
 refine FK (λh11=>?_) (λh11=>?_)
 refine jG ?_
 refine rC (t198 a0 x8.at_.elem) ?_
 rintro _ ⟨r13,hc12,rfl⟩
 have hLen:=hc12
 refine lj ?_
 refine wC (λh14=>?_) (λh14=>?_)
 refine lY ?_
 refine fo ?_
 exact dI
 refine lY ?_
 refine oV ?_
 refine be rfl (λ_=>ca rfl rfl rfl (ej ((k4:Int)) 1 aY aY)) ?_
 refine e9 ?_
 exact dJ
 refine ZN ?_
 refine oV ?_
 refine be rfl (λ_=>ca rfl rfl rfl (ej ((k4:Int)) 1 aY aY)) ?_
 refine e9 ?_
 exact dJ
 refine gl ?_
 have hNk15:=a0.elems.lk
 refine e8 a0.elems.l.length (λkM e h=>At [1,5] [.la 1 0,cr kM] au.empty [(1,(bY.ai a0))] e h) ?_ (k0:=0) bh atR
 rintro kM e h hkk15 hA
 refine ag ?_
 have hL16:=a0.elems.lk
 refine gL a0.elems ?_
 refine fQ (λh17=>?_) (λh17=>?_)
 refine gz ?_
 refine jG ?_
 have hx18:kM<a0.elems.l.length:=by omega
 refine ni kM a0.elems hx18 ?_
 generalize hqx19:a0.elems.l[kM]=x19
 refine lj ?_
 refine yy (λh20=>?_) (λh20=>?_)
 refine lu ?_
 have hx21:kM<a0.elems.l.length:=by omega
 refine ni kM a0.elems hx21 ?_
 rw [hqx19]
 refine lu ?_
 refine wC (λh23=>?_) (λh23=>?_)
 refine lY ?_
 refine fo ?_
 exact dI
 refine lY ?_
 refine oV ?_
 refine be rfl (λ_=>ca rfl rfl rfl (ej ((kM:Int)) 1 aY aY)) ?_
 refine e9 ?_
 exact dJ
 refine NT ?_
 refine oV ?_
 refine be rfl (λ_=>ca rfl rfl rfl (ej ((kM:Int)) 1 aY aY)) ?_
 refine e9 ?_
 exact dJ
 refine fS ?_
 exact dK
def t53 (a0:bY) (q1:j1 a0):Ct 53 [.agg (bY.ai a0)] (λv=>∃ r0:Int,(True)/\v=iv r0):=by
 refine fR Ru ?_
 have q2:=q1.elems; have q3:=q1.signals; have q4:=q1.lines
 refine hZ ?_
 have hL1:=a0.elems.lk
 refine gL a0.elems ?_
 refine jI (λh2=>?_) (λh2=>?_)
 refine Bo ?_
 exact eN
 refine fo ?_
 have hL3:=a0.signals.lk
 refine gL a0.signals ?_
 refine jI (λh4=>?_) (λh4=>?_)
 refine Bl ?_
 exact eN
 refine fk ?_
 have hL5:=a0.lines.lk
 refine gL a0.lines ?_
 refine jI (λh6=>?_) (λh6=>?_)
 refine mw ?_
 exact eN
 refine fk ?_
 have hL7:=a0.fj.lk
 refine gL a0.fj ?_
 refine jI (λh8=>?_) (λh8=>?_)
 refine fS ?_
 exact eN
 refine gz ?_
 refine oC (t96 a0 aZ) ?_
 rintro _ ⟨r10,r11,r12,hc9,rfl⟩
 refine kS ?_
 refine oC (t97 a0) ?_
 rintro _ ⟨r14,hc13,rfl⟩
 cases r14
 refine gl ?_
 exact xB ⟨1,zt⟩
 refine gz ?_
 refine oC (t98 r10) ?_
 rintro _ ⟨r16,hc15,rfl⟩
 cases r16
 refine e9 ?_
 refine oC (t98 r11) ?_
 rintro _ ⟨r18,hc17,rfl⟩
 cases r18
 refine fo ?_
 refine oC (t98 r12) ?_
 rintro _ ⟨r20,hc19,rfl⟩
 cases r20
 refine gz ?_
 refine oC (t99 a0 aZ) ?_
 rintro _ ⟨r22,hc21,rfl⟩
 cases r22
 refine gl ?_
 exact xB ⟨6,zt⟩
 refine gz ?_
 refine oC (t100 a0) ?_
 rintro _ ⟨r24,hc23,rfl⟩
 cases r24
 refine gl ?_
 exact xB ⟨7,zt⟩
 refine gz ?_
 refine oC (t101 a0 aZ) ?_
 rintro _ ⟨r26,hc25,rfl⟩
 cases r26
 refine gl ?_
 exact xB ⟨8,zt⟩
 refine gz ?_
 refine oC (t102 a0) ?_
 rintro _ ⟨r28,hc27,rfl⟩
 cases r28
 refine gl ?_
 exact xB ⟨9,zt⟩
 refine hZ ?_
 exact dY
 refine gl ?_
 exact xB ⟨4,zt⟩
 refine kS ?_
 exact xB ⟨4,zt⟩
 refine oi ?_
 exact xB ⟨4,zt⟩
def Zt (a0:bY) (hJg:JG a0):Ct 16 [.agg (bY.ai a0)] (λv=>∃ r0:Bool,((r0=true->j1 a0))/\v=.bool r0):=by
 refine fR T6 ?_
 refine fS ?_
 refine oC (t52 a0 aZ) ?_
 rintro _ ⟨r2,hc1,rfl⟩
 cases r2
 clear hc1
 refine fS ?_
 exact xB ⟨false,c8,rfl⟩
 have hc1t:=hc1 rfl
 refine e9 ?_
 refine oC (t53 a0 aZ) ?_
 rintro _ ⟨r4,hc3,rfl⟩
 refine gN (λh5=>?_) (λh5=>?_)
 refine fk ?_
 exact xB ⟨true,c8,rfl⟩
 refine fk ?_
 exact xB ⟨false,c8,rfl⟩
def P16 (_a0:bY) (v:AV):Prop:=∃ r0:Bool,(((r0=true->j1 _a0))/\rs 16 [.agg (bY.ai _a0)]=.bool r0)/\v=.bool r0
def t16 (a0:bY) (hJg:JG a0) (h:au):∃ v,fh cfg FT fK false 16 [.agg (bY.ai a0)] h v h/\P16 a0 v:=by
 obtain ⟨v,hc,hP,hr⟩:=rZ AR (Zt a0 hJg) h
 obtain ⟨r0,hp,rfl⟩:=hP
 exact ⟨_,hc,r0,⟨hp,hr⟩,rfl⟩
def t257 (a0:Int) :Ct 257 [.int .u8 a0] (λv=>∃ r0:Bool,(((r0=true->Br a0)/\(r0=false->¬ Br a0)))/\v=.bool r0):=by
 refine fR OJ ?_
 refine gz ?_
 refine jw (λh1=>?_) (λh1=>?_)
 refine e9 ?_
 refine xz (λh2=>?_) (λh2=>?_)
 refine j9 ?_
 exact eB
 refine fo ?_
 refine jw (λh3=>?_) (λh3=>?_)
 refine e9 ?_
 refine xz (λh4=>?_) (λh4=>?_)
 refine gq ?_
 exact eB
 refine gq ?_
 exact eC
 refine fS ?_
 exact eC
 refine gS ?_
 refine jw (λh5=>?_) (λh5=>?_)
 refine e9 ?_
 refine xz (λh6=>?_) (λh6=>?_)
 refine gq ?_
 exact eB
 refine gq ?_
 exact eC
 refine fS ?_
 exact eC
def UM (a0:oq) :Ct 208 [.str a0.l] (λv=>∃ r0:Bool,((yb a0.l->r0=true))/\v=.bool r0):=by
 refine fR P0 ?_
 refine fS ?_
 refine pW rfl (λ_=>Du rfl rfl) (λh2=>?_) (λh2=>?_)
 refine yj ?_
 exact eg
 have hp1:0<a0.l.length:=List.length_pos_iff.mpr h2
 refine fo ?_
 refine jI (λh3=>?_) (λh3=>?_)
 refine mw ?_
 exact eg
 refine fo ?_
 have hx4:0<a0.l.length:=by omega
 refine be rfl (λ_=>zI (n:=0) (s:=a0.l) rfl rfl rfl rfl hx4) ?_
 generalize hqc5:a0.l[0]=c5
 refine oC (t257 ((c5.toNat:Int))) ?_
 rintro _ ⟨r7,hc6,rfl⟩
 have hLt:=hc6
 cases r7
 refine gl ?_
 exact eg
 refine kP ?_
 have hNk8:=a0.lk
 refine e8 a0.l.length (λk8 e h=>(1<=k8)/\At [0,3] [.str a0.l,cr k8] au.empty [] e h) ?_ (k0:=1) bh ⟨bh,atR⟩
 rintro k8 e h hkk8 ⟨hw9,hA⟩
 refine ag ?_
 refine fQ (λh10=>?_) (λh10=>?_)
 refine gl ?_
 have hx11:k8<a0.l.length:=by omega
 refine be rfl (λ_=>zI (n:=k8) (s:=a0.l) rfl rfl rfl rfl hx11) ?_
 generalize hqc12:a0.l[k8]=c12
 refine oC (t257 ((c12.toNat:Int))) ?_
 rintro _ ⟨r14,hc13,rfl⟩
 have hLt:=hc13
 cases r14
 refine fk ?_
 have hx15:k8<a0.l.length:=by omega
 refine be rfl (λ_=>zI (n:=k8) (s:=a0.l) rfl rfl rfl rfl hx15) ?_
 generalize hqc16:a0.l[k8]=c16
 refine fQ (λh17=>?_) (λh17=>?_)
 refine mw ?_
 exact eg
 refine fo ?_
 have hx18:k8<a0.l.length:=by omega
 refine be rfl (λ_=>zI (n:=k8) (s:=a0.l) rfl rfl rfl rfl hx18) ?_
 generalize hqc19:a0.l[k8]=c19
 refine jI (λh20=>?_) (λh20=>?_)
 refine gl ?_
 exact eg
 refine gz ?_
 refine be rfl (λ_=>ca rfl rfl rfl (ej ((k8:Int)) 1 aY aY)) ?_
 refine e9 ?_
 exact dX
 refine yj ?_
 refine be rfl (λ_=>ca rfl rfl rfl (ej ((k8:Int)) 1 aY aY)) ?_
 refine e9 ?_
 exact dX
 refine fS ?_
 exact xB ⟨true,bo,rfl⟩
def aa4 (_a0:oq) (v:AV):Prop:=∃ r0:Bool,(((yb _a0.l->r0=true))/\rs 208 [.str _a0.l]=.bool r0)/\v=.bool r0
def t208 (a0:oq)  (h:au):∃ v,fh cfg FT fK false 208 [.str a0.l] h v h/\aa4 a0 v:=by
 obtain ⟨v,hc,hP,hr⟩:=rZ AR (UM a0) h
 obtain ⟨r0,hp,rfl⟩:=hP
 exact ⟨_,hc,r0,⟨hp,hr⟩,rfl⟩
def t209 (a0:Int) :Ct 209 [iv a0] (λv=>∃ r0:Int,(((((a0=1->r0=2)/\(a0=2->r0=3)/\(a0=3->r0=4)/\(a0=4->r0=1)/\0<=r0/\r0<=4)/\(¬ (1<=a0/\a0<=4)->r0=0))/\r0=xC a0))/\v=iv r0):=by
 refine fR Oy ?_
 refine j9 ?_
 refine gN (λh1=>?_) (λh1=>?_)
 refine fS ?_
 exact xB ⟨2,bS,rfl⟩
 refine gq ?_
 refine gN (λh2=>?_) (λh2=>?_)
 refine fS ?_
 exact xB ⟨3,bS,rfl⟩
 refine gq ?_
 refine gN (λh3=>?_) (λh3=>?_)
 refine fS ?_
 exact xB ⟨4,bS,rfl⟩
 refine gq ?_
 refine gN (λh4=>?_) (λh4=>?_)
 refine fS ?_
 exact xB ⟨1,bS,rfl⟩
 refine gl ?_
 exact xB ⟨0,bS,rfl⟩
def t122 (a0:bY) :Ct 122 [.agg (bY.ai a0)] (λv=>∃ r0:Bool,((r0=true->MF a0/\0<a0.elems.l.length/\∀ e∈a0.elems.l,¬ e.kind=4->1<=e.len/\e.len<=4000))/\v=.bool r0):=by
 refine fR N1 ?_
 refine gq ?_
 refine qH ?_
 refine gq ?_
 refine fQ (λh1=>?_) (λh1=>?_)
 refine zn ?_
 refine fS ?_
 exact dM
 refine fo ?_
 refine jI (λh2=>?_) (λh2=>?_)
 refine zn ?_
 refine fk ?_
 exact dM
 refine fk ?_
 refine fQ (λh3=>?_) (λh3=>?_)
 refine Zr ?_
 exact dM
 refine fk ?_
 refine jI (λh4=>?_) (λh4=>?_)
 refine Z0 ?_
 exact dM
 refine fk ?_
 refine fQ (λh5=>?_) (λh5=>?_)
 refine DH ?_
 exact dM
 refine fk ?_
 refine jI (λh6=>?_) (λh6=>?_)
 refine Si ?_
 exact dM
 refine fk ?_
 refine fQ (λh7=>?_) (λh7=>?_)
 refine tc ?_
 exact dM
 refine fk ?_
 refine jI (λh8=>?_) (λh8=>?_)
 refine mw ?_
 exact dM
 refine fk ?_
 have hL9:=a0.elems.lk
 refine gL a0.elems ?_
 refine gN (λh10=>?_) (λh10=>?_)
 refine fS ?_
 exact dM
 refine kP ?_
 have hL11:=a0.elems.lk
 refine aS ?_
 have hNk12:=a0.elems.lk
 refine e8 a0.elems.l.length (λoX e h=>(∀ (i:Nat) (h:i<a0.elems.l.length),i<oX->((1<=(a0.elems.l[i]).kind/\(a0.elems.l[i]).kind<=4)/\((a0.elems.l[i]).kind=4->(a0.elems.l[i]).len=0))/\(¬ (a0.elems.l[i]).kind=4->1<=(a0.elems.l[i]).len/\(a0.elems.l[i]).len<=4000))/\At [1,54,55,56] [.la 1 0,fA a0.elems,cr a0.elems.l.length,cr oX] au.empty [(1,(bY.ai a0))] e h) ?_ (k0:=0) bh ⟨ct,atR⟩
 rintro oX e h hkk12 ⟨hKd,hA⟩
 refine aa ?_
 refine fQ (λh13=>?_) (λh13=>?_)
 refine fS ?_
 have hx14:oX<a0.elems.l.length:=by omega
 refine jn oX a0.elems hx14 ?_
 generalize hqx15:a0.elems.l[oX]=x15
 refine gl ?_
 refine oC (t208 x15.name) ?_
 rintro _ ⟨r17,⟨hc16,hc16r⟩,rfl⟩
 have hNw:=hc16
 cases r17
 refine nR ?_
 exact dM
 refine fk ?_
 refine oC (t209 x15.kind) ?_
 rintro _ ⟨r19,hc18,rfl⟩
 have hEnd:=hc18.2
 refine gN (λh20=>?_) (λh20=>?_)
 refine gl ?_
 exact dM
 refine fS ?_
 refine gN (λh21=>?_) (λh21=>?_)
 refine fS ?_
 refine iV (λh22=>?_) (λh22=>?_)
 refine gz ?_
 exact dM
 refine gq ?_
 refine be rfl (λ_=>ca rfl rfl rfl (ej ((oX:Int)) 1 aY aY)) ?_
 refine e9 ?_
 exact ⟨by omega,cR,atR⟩
 refine gz ?_
 refine fQ (λh23=>?_) (λh23=>?_)
 refine kS ?_
 exact dM
 refine fo ?_
 refine jI (λh24=>?_) (λh24=>?_)
 refine gl ?_
 exact dM
 refine gS ?_
 refine be rfl (λ_=>ca rfl rfl rfl (ej ((oX:Int)) 1 aY aY)) ?_
 refine e9 ?_
 exact ⟨by omega,cR,atR⟩
 refine gl ?_
 have hL25:=a0.signals.lk
 refine aP ?_
 have hNk26:=a0.signals.lk
 refine e8 a0.signals.l.length (λmb e h=>At [1,89,90,91] [.la 1 0,fP a0.signals,cr a0.signals.l.length,cr mb] au.empty [(1,(bY.ai a0))] e h) ?_ (k0:=0) bh atR
 rintro mb e h hkk26 hA
 refine aa ?_
 refine fQ (λh27=>?_) (λh27=>?_)
 refine fS ?_
 have hx28:mb<a0.signals.l.length:=by omega
 refine jn mb a0.signals hx28 ?_
 generalize hqx29:a0.signals.l[mb]=x29
 refine fS ?_
 refine oC (t208 x29.name) ?_
 rintro _ ⟨r31,⟨hc30,hc30r⟩,rfl⟩
 have hNw:=hc30
 cases r31
 refine fS ?_
 exact dM
 refine gq ?_
 refine be rfl (λ_=>ca rfl rfl rfl (ej ((mb:Int)) 1 aY aY)) ?_
 refine e9 ?_
 exact dJ
 refine gl ?_
 have hL32:=a0.lines.lk
 refine gL a0.lines ?_
 refine fo ?_
 have hNk33:=a0.lines.lk
 refine e8 a0.lines.l.length (λsU e h=>At [101,102,103] [fy a0.lines,cr a0.lines.l.length,cr sU] au.empty [] e h) ?_ (k0:=0) bh atR
 rintro sU e h hkk33 hA
 refine aa ?_
 refine fQ (λh34=>?_) (λh34=>?_)
 refine fS ?_
 have hx35:sU<a0.lines.l.length:=by omega
 refine jn sU a0.lines hx35 ?_
 generalize hqx36:a0.lines.l[sU]=x36
 refine fS ?_
 refine oC (t208 x36.name) ?_
 rintro _ ⟨r38,⟨hc37,hc37r⟩,rfl⟩
 have hNw:=hc37
 cases r38
 refine fS ?_
 exact dM
 refine gq ?_
 refine be rfl (λ_=>ca rfl rfl rfl (ej ((sU:Int)) 1 aY aY)) ?_
 refine e9 ?_
 exact dJ
 refine gl ?_
 exact xB ⟨true,ba,rfl⟩
def MH {H:au} (b:Nat) (pp:bY) (i:Int) (F:List gh) (hS:Sep H (gi b (bY.ai pp)::F)) (q1:0<=i) (q2:i<(pp.elems.l.length:Int)):∃ v H',fh cfg FT fK true 124 [iv i,(eX b)] { H with aT:=[] } v H'/\(∃ r0:oq,(True)/\Sep H' (gi b (bY.ai pp)::F)/\v=.str r0.l):=by
 refine gO Om ?_
 refine az ?_
 refine be rfl (λ_=>iP (i:=0) (o:=0) (r:=fA pp.elems) hS rfl rfl rfl rfl) ?_
 refine oV ?_
 have hx1:(i).toNat<pp.elems.l.length:=by omega
 refine pa i pp.elems hx1 ?_
 generalize hqx2:pp.elems.l[(i).toNat]=x2
 refine gq ?_
 have hS3:=Sep.pick hS [0] 1 bf bf
 exact dS
def Mq {H:au} (b:Nat) (pp:bY) (i:Int) (F:List gh) (hS:Sep H (gi b (bY.ai pp)::F)) (q1:0<=i) (q2:i<(pp.signals.l.length:Int)):∃ v H',fh cfg FT fK true 125 [iv i,(eX b)] { H with aT:=[] } v H'/\(∃ r0:oq,(True)/\Sep H' (gi b (bY.ai pp)::F)/\v=.str r0.l):=by
 refine gO Px ?_
 refine az ?_
 refine be rfl (λ_=>iP (i:=0) (o:=2) (r:=fP pp.signals) hS rfl rfl rfl rfl) ?_
 refine oV ?_
 have hx1:(i).toNat<pp.signals.l.length:=by omega
 refine pa i pp.signals hx1 ?_
 generalize hqx2:pp.signals.l[(i).toNat]=x2
 refine gq ?_
 have hS3:=Sep.pick hS [0] 1 bf bf
 exact dS
def Mw {H:au} (b:Nat) (pp:bY) (i:Int) (F:List gh) (hS:Sep H (gi b (bY.ai pp)::F)) (q1:0<=i) (q2:i<(pp.lines.l.length:Int)):∃ v H',fh cfg FT fK true 126 [iv i,(eX b)] { H with aT:=[] } v H'/\(∃ r0:oq,(True)/\Sep H' (gi b (bY.ai pp)::F)/\v=.str r0.l):=by
 refine gO PE ?_
 refine az ?_
 refine be rfl (λ_=>iP (i:=0) (o:=3) (r:=fy pp.lines) hS rfl rfl rfl rfl) ?_
 refine oV ?_
 have hx1:(i).toNat<pp.lines.l.length:=by omega
 refine pa i pp.lines hx1 ?_
 generalize hqx2:pp.lines.l[(i).toNat]=x2
 refine gq ?_
 have hS3:=Sep.pick hS [0] 1 bf bf
 exact dS
def Nz {H:au} (n:Int) (b:Nat) (pp:bY) (F:List gh) (hS:Sep H (gi b (bY.ai pp)::F)) (q2:n<=(pp.elems.l.length:Int)):∃ v H',fh cfg FT fK true 123 [iv n,.gx 124 [] [(eX b)]] { H with aT:=[] } v H'/\(∃ r0:Bool,(True)/\Sep H' (gi b (bY.ai pp)::F)/\v=.bool r0):=by
 refine gO EW ?_
 have hqb:=pp.elems.ok
 simp only [rI] at hqb
 refine aQ ?_
 rintro _ H2 ⟨b1,rfl,hS3⟩
 refine gl ?_
 refine e8 ((n).toNat) (λk4 e h=>∃ l5:List (List UInt8×Bool),∃ H6:au,Sep H6 (kb b1 sK bK l5::gi b (bY.ai pp)::F)/\At [1,5,8,9] [.gx 124 [] [(eX b)],(.hm b1),iv n,cr k4] H6 [] e h) ?_ (k0:=0) bh ⟨([]),H2,hS3,atR⟩
 rintro k4 e h hkk4 ⟨l5,H6,hS7,hA⟩
 refine aa ?_
 refine fQ (λh8=>?_) (λh8=>?_)
 refine rQ ?_
 have hS9:=Sep.pick hS7 [1,0] 2 bf bf
 refine gA (H:=H6) (args:=[cr k4]) (p:=[]) (r:=[(eX b)]) rfl rfl rfl rfl rfl rfl rfl (MH b pp ((k4:Int)) (kb b1 sK bK l5::F) hS9 aZ aZ) ?_
 rintro _ H10 ⟨r13,hc12,hS11,rfl⟩
 refine kg (H:=H10) (i:=1) (ek:=sK) (ev:=bK) (l:=l5) r13.l rfl rfl hS11 rfl rfl rfl rfl rfl rfl rfl rfl pU (λy14 h15=>?_) (λh16=>?_)
 cases y14
 refine gz ?_
 have hS17:=Sep.pick hS11 [0,1] 2 bf bf
 refine gA (H:=H10) (args:=[cr k4]) (p:=[]) (r:=[(eX b)]) rfl rfl rfl rfl rfl rfl rfl (MH b pp ((k4:Int)) (kb b1 sK bK l5::F) hS17 aZ aZ) ?_
 rintro _ H18 ⟨r21,hc20,hS19,rfl⟩
 refine gj rfl (kI (i:=1) (ek:=sK) (ev:=bK) r21.l true hS19 rfl rfl rfl rfl rfl rfl pU) ?_
 rintro _ H22 ⟨rfl,hS23⟩
 refine e9 ?_
 refine be rfl (λ_=>ca rfl rfl rfl (ej ((k4:Int)) 1 aY aY)) ?_
 refine e9 ?_
 have hS24:=Sep.pick hS23 [1,0] 2 bf bf
 exact dN
 refine gz ?_
 have hS25:=Sep.pick hS11 [0] 2 bf bf
 exact dP
 refine gz ?_
 have hS26:=Sep.pick hS11 [0,1] 2 bf bf
 refine gA (H:=H10) (args:=[cr k4]) (p:=[]) (r:=[(eX b)]) rfl rfl rfl rfl rfl rfl rfl (MH b pp ((k4:Int)) (kb b1 sK bK l5::F) hS26 aZ aZ) ?_
 rintro _ H27 ⟨r30,hc29,hS28,rfl⟩
 refine gj rfl (kI (i:=1) (ek:=sK) (ev:=bK) r30.l true hS28 rfl rfl rfl rfl rfl rfl pU) ?_
 rintro _ H31 ⟨rfl,hS32⟩
 refine e9 ?_
 refine be rfl (λ_=>ca rfl rfl rfl (ej ((k4:Int)) 1 aY aY)) ?_
 refine e9 ?_
 have hS33:=Sep.pick hS32 [1,0] 2 bf bf
 exact dQ
 refine gl ?_
 have hS34:=Sep.pick hS7 [1] 2 bf bf
 exact dR
def MJ {H:au} (n:Int) (b:Nat) (pp:bY) (F:List gh) (hS:Sep H (gi b (bY.ai pp)::F)) (q2:n<=(pp.signals.l.length:Int)):∃ v H',fh cfg FT fK true 123 [iv n,.gx 125 [] [(eX b)]] { H with aT:=[] } v H'/\(∃ r0:Bool,(True)/\Sep H' (gi b (bY.ai pp)::F)/\v=.bool r0):=by
 refine gO EW ?_
 have hqb:=pp.signals.ok
 simp only [rI] at hqb
 refine aQ ?_
 rintro _ H2 ⟨b1,rfl,hS3⟩
 refine gl ?_
 refine e8 ((n).toNat) (λk4 e h=>∃ l5:List (List UInt8×Bool),∃ H6:au,Sep H6 (kb b1 sK bK l5::gi b (bY.ai pp)::F)/\At [1,5,8,9] [.gx 125 [] [(eX b)],(.hm b1),iv n,cr k4] H6 [] e h) ?_ (k0:=0) bh ⟨([]),H2,hS3,atR⟩
 rintro k4 e h hkk4 ⟨l5,H6,hS7,hA⟩
 refine aa ?_
 refine fQ (λh8=>?_) (λh8=>?_)
 refine rQ ?_
 have hS9:=Sep.pick hS7 [1,0] 2 bf bf
 refine gA (H:=H6) (args:=[cr k4]) (p:=[]) (r:=[(eX b)]) rfl rfl rfl rfl rfl rfl rfl (Mq b pp ((k4:Int)) (kb b1 sK bK l5::F) hS9 aZ aZ) ?_
 rintro _ H10 ⟨r13,hc12,hS11,rfl⟩
 refine kg (H:=H10) (i:=1) (ek:=sK) (ev:=bK) (l:=l5) r13.l rfl rfl hS11 rfl rfl rfl rfl rfl rfl rfl rfl pU (λy14 h15=>?_) (λh16=>?_)
 cases y14
 refine gz ?_
 have hS17:=Sep.pick hS11 [0,1] 2 bf bf
 refine gA (H:=H10) (args:=[cr k4]) (p:=[]) (r:=[(eX b)]) rfl rfl rfl rfl rfl rfl rfl (Mq b pp ((k4:Int)) (kb b1 sK bK l5::F) hS17 aZ aZ) ?_
 rintro _ H18 ⟨r21,hc20,hS19,rfl⟩
 refine gj rfl (kI (i:=1) (ek:=sK) (ev:=bK) r21.l true hS19 rfl rfl rfl rfl rfl rfl pU) ?_
 rintro _ H22 ⟨rfl,hS23⟩
 refine e9 ?_
 refine be rfl (λ_=>ca rfl rfl rfl (ej ((k4:Int)) 1 aY aY)) ?_
 refine e9 ?_
 have hS24:=Sep.pick hS23 [1,0] 2 bf bf
 exact dN
 refine gz ?_
 have hS25:=Sep.pick hS11 [0] 2 bf bf
 exact dP
 refine gz ?_
 have hS26:=Sep.pick hS11 [0,1] 2 bf bf
 refine gA (H:=H10) (args:=[cr k4]) (p:=[]) (r:=[(eX b)]) rfl rfl rfl rfl rfl rfl rfl (Mq b pp ((k4:Int)) (kb b1 sK bK l5::F) hS26 aZ aZ) ?_
 rintro _ H27 ⟨r30,hc29,hS28,rfl⟩
 refine gj rfl (kI (i:=1) (ek:=sK) (ev:=bK) r30.l true hS28 rfl rfl rfl rfl rfl rfl pU) ?_
 rintro _ H31 ⟨rfl,hS32⟩
 refine e9 ?_
 refine be rfl (λ_=>ca rfl rfl rfl (ej ((k4:Int)) 1 aY aY)) ?_
 refine e9 ?_
 have hS33:=Sep.pick hS32 [1,0] 2 bf bf
 exact dQ
 refine gl ?_
 have hS34:=Sep.pick hS7 [1] 2 bf bf
 exact dR
def Ny {H:au} (n:Int) (b:Nat) (pp:bY) (F:List gh) (hS:Sep H (gi b (bY.ai pp)::F)) (q2:n<=(pp.lines.l.length:Int)):∃ v H',fh cfg FT fK true 123 [iv n,.gx 126 [] [(eX b)]] { H with aT:=[] } v H'/\(∃ r0:Bool,(True)/\Sep H' (gi b (bY.ai pp)::F)/\v=.bool r0):=by
 refine gO EW ?_
 have hqb:=pp.lines.ok
 simp only [rI] at hqb
 refine aQ ?_
 rintro _ H2 ⟨b1,rfl,hS3⟩
 refine gl ?_
 refine e8 ((n).toNat) (λk4 e h=>∃ l5:List (List UInt8×Bool),∃ H6:au,Sep H6 (kb b1 sK bK l5::gi b (bY.ai pp)::F)/\At [1,5,8,9] [.gx 126 [] [(eX b)],(.hm b1),iv n,cr k4] H6 [] e h) ?_ (k0:=0) bh ⟨([]),H2,hS3,atR⟩
 rintro k4 e h hkk4 ⟨l5,H6,hS7,hA⟩
 refine aa ?_
 refine fQ (λh8=>?_) (λh8=>?_)
 refine rQ ?_
 have hS9:=Sep.pick hS7 [1,0] 2 bf bf
 refine gA (H:=H6) (args:=[cr k4]) (p:=[]) (r:=[(eX b)]) rfl rfl rfl rfl rfl rfl rfl (Mw b pp ((k4:Int)) (kb b1 sK bK l5::F) hS9 aZ aZ) ?_
 rintro _ H10 ⟨r13,hc12,hS11,rfl⟩
 refine kg (H:=H10) (i:=1) (ek:=sK) (ev:=bK) (l:=l5) r13.l rfl rfl hS11 rfl rfl rfl rfl rfl rfl rfl rfl pU (λy14 h15=>?_) (λh16=>?_)
 cases y14
 refine gz ?_
 have hS17:=Sep.pick hS11 [0,1] 2 bf bf
 refine gA (H:=H10) (args:=[cr k4]) (p:=[]) (r:=[(eX b)]) rfl rfl rfl rfl rfl rfl rfl (Mw b pp ((k4:Int)) (kb b1 sK bK l5::F) hS17 aZ aZ) ?_
 rintro _ H18 ⟨r21,hc20,hS19,rfl⟩
 refine gj rfl (kI (i:=1) (ek:=sK) (ev:=bK) r21.l true hS19 rfl rfl rfl rfl rfl rfl pU) ?_
 rintro _ H22 ⟨rfl,hS23⟩
 refine e9 ?_
 refine be rfl (λ_=>ca rfl rfl rfl (ej ((k4:Int)) 1 aY aY)) ?_
 refine e9 ?_
 have hS24:=Sep.pick hS23 [1,0] 2 bf bf
 exact dN
 refine gz ?_
 have hS25:=Sep.pick hS11 [0] 2 bf bf
 exact dP
 refine gz ?_
 have hS26:=Sep.pick hS11 [0,1] 2 bf bf
 refine gA (H:=H10) (args:=[cr k4]) (p:=[]) (r:=[(eX b)]) rfl rfl rfl rfl rfl rfl rfl (Mw b pp ((k4:Int)) (kb b1 sK bK l5::F) hS26 aZ aZ) ?_
 rintro _ H27 ⟨r30,hc29,hS28,rfl⟩
 refine gj rfl (kI (i:=1) (ek:=sK) (ev:=bK) r30.l true hS28 rfl rfl rfl rfl rfl rfl pU) ?_
 rintro _ H31 ⟨rfl,hS32⟩
 refine e9 ?_
 refine be rfl (λ_=>ca rfl rfl rfl (ej ((k4:Int)) 1 aY aY)) ?_
 refine e9 ?_
 have hS33:=Sep.pick hS32 [1,0] 2 bf bf
 exact dQ
 refine gl ?_
 have hS34:=Sep.pick hS7 [1] 2 bf bf
 exact dR
def t210 (a0:bY) (a1:eU) :Ct 210 [.agg (bY.ai a0),.agg (eU.ai a1)] (λv=>∃ r0:Bool,((r0=true->(0<=a1.elem/\a1.elem<(a0.elems.l.length:Int)/\0<=a1.en/\a1.en<4)/\uT a0 a1))/\v=.bool r0):=by
 refine fR Ot ?_
 refine fS ?_
 refine lj ?_
 refine Gs (λh1=>?_) (λh1=>?_)
 refine lY ?_
 have hL2:=a0.elems.lk
 refine rl a0.elems ?_
 refine wC (λh3=>?_) (λh3=>?_)
 refine lu ?_
 refine Gs (λh4=>?_) (λh4=>?_)
 refine ze ?_
 have hx5:(a1.elem).toNat<a0.elems.l.length:=by omega
 refine Lc a1.elem a0.elems hx5 ?_
 generalize hqx6:a0.elems.l[(a1.elem).toNat]=x6
 refine lj ?_
 refine rC (t209 x6.kind) ?_
 rintro _ ⟨r8,hc7,rfl⟩
 have hEnd:=hc7.2
 refine wC (λh9=>?_) (λh9=>?_)
 refine lu ?_
 exact xB ⟨true,bX,rfl⟩
 refine lu ?_
 exact eu
 refine L9 ?_
 exact eu
 refine J3 ?_
 exact eu
 refine SQ ?_
 exact eu
def t127 (a0:bY) :Ct 127 [.agg (bY.ai a0)] (λv=>(∃ r0:List (eU×eU),(((∀ y∈(r0:List (eU×eU)),0<=y.2.elem/\y.2.elem<(a0.elems.l.length:Int))/\As a0.fj.l)/\JV a0)/\v=.fG [.fm (cA pK pK r0) false,.bool true])\/((True)/\v=.fG [.iw,eV])):=by
 refine fR OY ?_
 refine fS ?_
 refine gj rfl (iW gJ) ?_
 rintro _ H2 ⟨b1,rfl,hS3⟩
 refine gz ?_
 have hL4:=a0.fj.lk
 refine gL a0.fj ?_
 refine fo ?_
 have hNk5:=a0.fj.lk
 refine e8 a0.fj.l.length (λk5 e h=>∃ l6:List (eU×eU),∃ H7:au,((∀ y∈(l6:List (eU×eU)),0<=y.2.elem/\y.2.elem<(a0.elems.l.length:Int)))/\(∀ x:eU,look x l6=j8 (a0.fj.l.take k5) x)/\(∀ (i:Nat) (h:i<a0.fj.l.length),i<k5->j8 (a0.fj.l.take i) (a0.fj.l[i]).a=none/\j8 (a0.fj.l.take i) (a0.fj.l[i]).b=none/\(a0.fj.l[i]).a≠(a0.fj.l[i]).b)/\(∀ (i:Nat) (h:i<a0.fj.l.length),i<k5->uT a0 (a0.fj.l[i]).a/\uT a0 (a0.fj.l[i]).b)/\Sep H7 (kb b1 pK pK l6::[])/\At [1,4,17,18,19] [.la 1 0,(.hm b1),fJ a0.fj,cr a0.fj.l.length,cr k5] H7 [(1,(bY.ai a0))] e h) ?_ (k0:=0) bh ⟨([]),H2,ci,dE,ct,ct,hS3,atR⟩
 rintro k5 e h hkk5 ⟨l6,H7,hV,hD,hJ,hJv,hS8,hA⟩
 refine aa ?_
 refine fQ (λh9=>?_) (λh9=>?_)
 refine fk ?_
 refine wz [.la 1 0,(.hm b1),fJ a0.fj,cr a0.fj.l.length,cr k5] H7 [(1,(bY.ai a0))] ?_
 refine fk ?_
 have hx10:k5<a0.fj.l.length:=by omega
 refine jn k5 a0.fj hx10 ?_
 generalize hqx11:a0.fj.l[k5]=x11
 refine gl ?_
 refine kg (H:=H7) (i:=0) (ek:=pK) (ev:=pK) (l:=l6) x11.a rfl rfl hS8 rfl rfl rfl rfl rfl rfl rfl rfl jU (λy12 h13=>?_) (λh14=>?_)
 have hvy12:0<=y12.elem/\y12.elem<(a0.elems.l.length:Int):=hV _ (jt h13)
 refine j9 ?_
 refine kg (H:=H7) (i:=0) (ek:=pK) (ev:=pK) (l:=l6) x11.b rfl rfl hS8 rfl rfl rfl rfl rfl rfl rfl rfl jU (λy15 h16=>?_) (λh17=>?_)
 have hvy15:0<=y15.elem/\y15.elem<(a0.elems.l.length:Int):=hV _ (jt h16)
 refine zn ?_
 refine fo ?_
 refine xG (.inr (⟨zT,rfl⟩))
 refine zn ?_
 refine fo ?_
 refine xG (.inr (⟨zT,rfl⟩))
 refine j9 ?_
 refine kg (H:=H7) (i:=0) (ek:=pK) (ev:=pK) (l:=l6) x11.b rfl rfl hS8 rfl rfl rfl rfl rfl rfl rfl rfl jU (λy18 h19=>?_) (λh20=>?_)
 have hvy18:0<=y18.elem/\y18.elem<(a0.elems.l.length:Int):=hV _ (jt h19)
 refine zn ?_
 refine fo ?_
 refine xG (.inr (⟨zT,rfl⟩))
 refine tc ?_
 refine pW rfl (λ_=>xe rfl rfl rfl (λ_ _=>rfl)) (λh21=>?_) (λh21=>?_)
 refine ZK ?_
 refine xG (.inr (⟨zT,rfl⟩))
 refine gq ?_
 refine oC (t210 a0 x11.a) ?_
 rintro _ ⟨r23,hc22,rfl⟩
 cases r23
 clear hc22
 refine rQ ?_
 refine xG (.inr (⟨zT,rfl⟩))
 have hc22t:=hc22 rfl
 have hVp:=hc22t.2
 refine gS ?_
 refine oC (t210 a0 x11.b) ?_
 rintro _ ⟨r25,hc24,rfl⟩
 cases r25
 clear hc24
 refine hZ ?_
 refine xG (.inr (⟨zT,rfl⟩))
 have hc24t:=hc24 rfl
 have hVp:=hc24t.2
 refine gq ?_
 refine wz [.la 1 0,(.hm b1),.la 6 0,fJ a0.fj,cr a0.fj.l.length,cr k5] H7 [(1,(bY.ai a0)),(6,(ig.ai x11))] ?_
 refine aah ?_
 refine uf rfl rfl (kI (i:=0) (ek:=pK) (ev:=pK) (l:=l6) x11.a x11.b hS8 rfl rfl rfl rfl rfl rfl jU) ?_
 rintro _ H26 ⟨rfl,hS27⟩
 refine ⟨λcall=>(mH (gC rfl rfl rfl rfl rfl cu) (nz (gC rfl rfl rfl rfl rfl cu))),?_⟩
 refine iH rfl rfl (kI (i:=0) (ek:=pK) (ev:=pK) (l:=(put x11.a x11.b l6)) x11.b x11.a hS27 rfl rfl rfl rfl rfl rfl jU) ?_
 rintro _ H28 ⟨rfl,hS29⟩
 refine rN ?_
 refine wz [.la 1 0,(.hm b1),fJ a0.fj,cr a0.fj.l.length,cr k5] H28 [(1,(bY.ai a0))] ?_
 refine qg ?_
 refine be rfl (λ_=>ca rfl rfl rfl (ej ((k5:Int)) 1 aY aY)) ?_
 refine e9 ?_
 exact ⟨by omega,((put x11.b x11.a (put x11.a x11.b l6))),H28,(by exact qL (P:=λy:eU=>0<=y.elem/\y.elem<(a0.elems.l.length:Int)) (qL (P:=λy:eU=>0<=y.elem/\y.elem<(a0.elems.l.length:Int)) hV bh) bh),(by exact Bf a6 a6 hD a6 a6 a6),(by exact E8 a6 a6 hD hJ a6 a6 a6),(by exact vy (P:=λj:ig=>uT a0 j.a/\uT a0 j.b) a6 hJv ⟨by assumption,by assumption⟩),hS29,atR⟩
 refine fk ?_
 refine wz [.la 1 0,(.hm b1)] H7 [(1,(bY.ai a0))] ?_
 refine gq ?_
 have hL30:=a0.elems.lk
 refine aS ?_
 have hNk31:=a0.elems.lk
 refine e8 a0.elems.l.length (λj3 e h=>At [1,4,74,75,76] [.la 1 0,(.hm b1),fA a0.elems,cr a0.elems.l.length,cr j3] H7 [(1,(bY.ai a0))] e h) ?_ (k0:=0) bh atR
 rintro j3 e h hkk31 hA
 refine aa ?_
 refine fQ (λh32=>?_) (λh32=>?_)
 refine aH ?_
 refine gq ?_
 have hx33:j3<a0.elems.l.length:=by omega
 refine jn j3 a0.elems hx33 ?_
 generalize hqx34:a0.elems.l[j3]=x34
 refine hZ ?_
 refine iV (λh35=>?_) (λh35=>?_)
 refine fo ?_
 refine aI ?_
 refine be rfl (λ_=>ca rfl rfl rfl (ej ((j3:Int)) 1 aY aY)) ?_
 refine e9 ?_
 exact dJ
 refine fo ?_
 refine wz [.la 1 0,(.hm b1),cr j3,fA a0.elems,cr a0.elems.l.length,cr j3] H7 [(1,(bY.ai a0))] ?_
 refine gq ?_
 refine kg (H:=H7) (i:=0) (ek:=pK) (ev:=pK) (l:=l6) ((⟨((j3:Int)),0⟩:eU)) rfl rfl hS8 rfl rfl rfl rfl rfl rfl rfl rfl jU (λy36 h37=>?_) (λh38=>?_)
 have hvy36:0<=y36.elem/\y36.elem<(a0.elems.l.length:Int):=hV _ (jt h37)
 refine oi ?_
 have hx39:(y36.elem).toNat<a0.elems.l.length:=by omega
 refine pa y36.elem a0.elems hx39 ?_
 generalize hqx40:a0.elems.l[(y36.elem).toNat]=x40
 refine e9 ?_
 refine gN (λh41=>?_) (λh41=>?_)
 refine gl ?_
 refine xG (.inr (⟨zT,rfl⟩))
 refine aH ?_
 refine qg ?_
 refine be rfl (λ_=>ca rfl rfl rfl (ej ((j3:Int)) 1 aY aY)) ?_
 refine e9 ?_
 exact dJ
 refine DH ?_
 refine xG (.inr (⟨zT,rfl⟩))
 refine fk ?_
 refine wz [(.hm b1)] H7 [] ?_
 refine gz ?_
 have hz42:∀ m,freeze false { H7 with aT:=[] } (m+3) (.hm b1)=some (.fm (cA pK pK l6) false):=λm=>gU (i:=0) hS8 rfl _ _ (ij λ_=>rfl)
 refine ⟨.fG [(.hm b1),.bool true],rfl,.fG [.fm (cA pK pK l6) false,.bool true],(show freeze false { H7 with aT:=[] } 8 (.fG [(.hm b1),.bool true])=some (.fG [.fm (cA pK pK l6) false,.bool true]) by simp only [FZ,hz42]),.inl ⟨l6,(by exact ⟨⟨hV,λi h=>hJ i h bh⟩,Vi hJv bh⟩),rfl⟩⟩
def t128 (a0:bY) (a1:List (eU×eU)) (q1:(∀ y∈(a1:List (eU×eU)),0<=y.2.elem/\y.2.elem<(a0.elems.l.length:Int))):Ct 128 [.agg (bY.ai a0),.fm (cA pK pK a1) false] (λv=>∃ r0:Bool,((r0=true->(∀ s∈a0.signals.l,0<=s.at_.elem/\s.at_.elem<(a0.elems.l.length:Int)/\0<=s.at_.en)/\zL a0.signals.l))/\v=.bool r0):=by
 refine fR Oj ?_
 refine gz ?_
 refine gj rfl (iW gJ) ?_
 rintro _ H2 ⟨b1,rfl,hS3⟩
 refine gz ?_
 have hL4:=a0.signals.lk
 refine aP ?_
 have hNk5:=a0.signals.lk
 refine e8 a0.signals.l.length (λk5 e h=>∃ l6:List (eU×Bool),∃ H7:au,(∀ (i:Nat) (h:i<a0.signals.l.length),i<k5->0<=(a0.signals.l[i]).at_.elem/\(a0.signals.l[i]).at_.elem<(a0.elems.l.length:Int)/\0<=(a0.signals.l[i]).at_.en)/\(∀ x:eU,(∃ y,y∈a0.signals.l.take k5/\y.at_=x)->look x l6=some true)/\(∀ (i:Nat) (h:i<a0.signals.l.length),i<k5->∀ y∈a0.signals.l.take i,y.at_≠(a0.signals.l[i]).at_)/\(∀ y∈(l6:List (eU×Bool)),y.2=true)/\Sep H7 (kb b1 pK bK l6::[])/\At [1,2,5,15,16,17] [.fm (cA pK pK a1) false,.la 2 0,(.hm b1),fP a0.signals,cr a0.signals.l.length,cr k5] H7 [(2,(bY.ai a0))] e h) ?_ (k0:=0) bh ⟨([]),H2,ct,(by (rintro x ⟨y,h,_⟩; simp at h)),ct,ci,hS3,atR⟩
 rintro k5 e h hkk5 ⟨l6,H7,hV,hD,hJ,hT,hS8,hA⟩
 refine aa ?_
 refine fQ (λh9=>?_) (λh9=>?_)
 refine fk ?_
 refine wz [.fm (cA pK pK a1) false,.la 2 0,(.hm b1),fP a0.signals,cr a0.signals.l.length,cr k5] H7 [(2,(bY.ai a0))] ?_
 refine fk ?_
 have hx10:k5<a0.signals.l.length:=by omega
 refine jn k5 a0.signals hx10 ?_
 generalize hqx11:a0.signals.l[k5]=x11
 refine hZ ?_
 refine oC (t210 a0 x11.at_) ?_
 rintro _ ⟨r13,hc12,rfl⟩
 cases r13
 clear hc12
 refine mw ?_
 exact dT
 have hc12t:=hc12 rfl
 have hVp:=hc12t.2
 refine gq ?_
 refine kg (H:=H7) (i:=0) (ek:=pK) (ev:=bK) (l:=l6) x11.at_ rfl rfl hS8 rfl rfl rfl rfl rfl rfl rfl rfl jU (λy14 h15=>?_) (λh16=>?_)
 cases y14
 exact absurd (hT _ (jt h15)) ci
 refine fS ?_
 exact dT
 refine af ?_
 refine fS ?_
 have hx17:(x11.at_.elem).toNat<a0.elems.l.length:=by omega
 refine pa x11.at_.elem a0.elems hx17 ?_
 generalize hqx18:a0.elems.l[(x11.at_.elem).toNat]=x18
 refine gz ?_
 refine iV (λh19=>?_) (λh19=>?_)
 refine e9 ?_
 refine iV (λh20=>?_) (λh20=>?_)
 refine fS ?_
 exact dT
 refine af ?_
 refine gq ?_
 refine sg (key:=x11.at_) (l:=a1) (ek:=pK) (ev:=pK) rfl rfl rfl rfl rfl rfl rfl rfl rfl jU (λy21 h22=>?_) (λh23=>?_)
 have hvy21:0<=y21.elem/\y21.elem<(a0.elems.l.length:Int):=q1 _ (jt h22)
 refine rQ ?_
 have hx24:(y21.elem).toNat<a0.elems.l.length:=by omega
 refine pa y21.elem a0.elems hx24 ?_
 generalize hqx25:a0.elems.l[(y21.elem).toNat]=x25
 refine e9 ?_
 refine gN (λh26=>?_) (λh26=>?_)
 refine fS ?_
 exact dT
 refine af ?_
 refine aE ?_
 rintro _ H27 ⟨rfl,hS28⟩
 refine oN ?_
 refine wz [.fm (cA pK pK a1) false,.la 2 0,(.hm b1),fP a0.signals,cr a0.signals.l.length,cr k5] H27 [(2,(bY.ai a0))] ?_
 refine qg ?_
 refine be rfl (λ_=>ca rfl rfl rfl (ej ((k5:Int)) 1 aY aY)) ?_
 refine e9 ?_
 exact ⟨by omega,((put x11.at_ true l6)),H27,(by exact El a6 hV bh),(by exact DT a6 a6 hD),dF,dz,hS28,atR⟩
 refine DH ?_
 exact dT
 refine gz ?_
 refine wz [.fm (cA pK pK a1) false,.la 2 0,(.hm b1),.la 7 0,fP a0.signals,cr a0.signals.l.length,cr k5] H7 [(2,(bY.ai a0)),(7,(iD.ai x11))] ?_
 refine gq ?_
 refine sg (key:=x11.at_) (l:=a1) (ek:=pK) (ev:=pK) rfl rfl rfl rfl rfl rfl rfl rfl rfl jU (λy29 h30=>?_) (λh31=>?_)
 have hvy29:0<=y29.elem/\y29.elem<(a0.elems.l.length:Int):=q1 _ (jt h30)
 refine rQ ?_
 have hx32:(y29.elem).toNat<a0.elems.l.length:=by omega
 refine pa y29.elem a0.elems hx32 ?_
 generalize hqx33:a0.elems.l[(y29.elem).toNat]=x33
 refine e9 ?_
 refine gN (λh34=>?_) (λh34=>?_)
 refine fS ?_
 exact dT
 refine af ?_
 refine aE ?_
 rintro _ H35 ⟨rfl,hS36⟩
 refine oN ?_
 refine wz [.fm (cA pK pK a1) false,.la 2 0,(.hm b1),fP a0.signals,cr a0.signals.l.length,cr k5] H35 [(2,(bY.ai a0))] ?_
 refine qg ?_
 refine be rfl (λ_=>ca rfl rfl rfl (ej ((k5:Int)) 1 aY aY)) ?_
 refine e9 ?_
 exact ⟨by omega,((put x11.at_ true l6)),H35,(by exact El a6 hV bh),(by exact DT a6 a6 hD),dF,dz,hS36,atR⟩
 refine DH ?_
 exact dT
 refine fk ?_
 refine wz [.la 2 0,(.hm b1)] H7 [(2,(bY.ai a0))] ?_
 refine gq ?_
 have hL37:=a0.elems.lk
 refine aS ?_
 have hNk38:=a0.elems.lk
 refine e8 a0.elems.l.length (λjQ e h=>At [5,70,71,72] [(.hm b1),fA a0.elems,cr a0.elems.l.length,cr jQ] H7 [] e h) ?_ (k0:=0) bh atR
 rintro jQ e h hkk38 hA
 refine aa ?_
 refine fQ (λh39=>?_) (λh39=>?_)
 refine fk ?_
 refine wz [(.hm b1),fA a0.elems,cr a0.elems.l.length,cr jQ] H7 [] ?_
 refine gq ?_
 have hx40:jQ<a0.elems.l.length:=by omega
 refine jn jQ a0.elems hx40 ?_
 generalize hqx41:a0.elems.l[jQ]=x41
 refine gl ?_
 refine gN (λh42=>?_) (λh42=>?_)
 refine fk ?_
 refine kg (H:=H7) (i:=0) (ek:=pK) (ev:=bK) (l:=l6) ((⟨((jQ:Int)),0⟩:eU)) rfl rfl hS8 rfl rfl rfl rfl rfl rfl rfl rfl jU (λy43 h44=>?_) (λh45=>?_)
 cases y43
 exact absurd (hT _ (jt h44)) ci
 refine gq ?_
 refine aR ?_
 refine be rfl (λ_=>ca rfl rfl rfl (ej ((jQ:Int)) 1 aY aY)) ?_
 refine e9 ?_
 exact dJ
 refine gl ?_
 exact dT
 refine hZ ?_
 refine aR ?_
 refine be rfl (λ_=>ca rfl rfl rfl (ej ((jQ:Int)) 1 aY aY)) ?_
 refine e9 ?_
 exact dJ
 refine fk ?_
 refine wz [] H7 [] ?_
 refine gq ?_
 exact xB ⟨true,bH,rfl⟩
def t211 (a0:Row Int) (a1:List (eU×eU)) :Ct 211 [gk a0,.fm (cA pK pK a1) false] (λv=>∃ r0:Bool,(True)/\v=.bool r0):=by
 refine fR Pe ?_
 refine fS ?_
 have hL1:=a0.lk
 refine gL a0 ?_
 refine fQ (λh2=>?_) (λh2=>?_)
 refine gz ?_
 exact dK
 refine kS ?_
 refine nT (λm7 e h=>∃ n3:Int,∃ n4:Int,m7=(n4+1).toNat/\(-1<=n4)/\(n4<=1)/\At [0,1,5,6] [gk a0,.fm (cA pK pK a1) false,iv n3,iv n4] au.empty [] e h) ?_ _ _ _ ⟨(-1),1,rfl,bh,bh,atR⟩
 rintro m7 e h ⟨n3,n4,hmm7,hi5,hi6,hA⟩
 refine aC ?_
 refine jw (λh8=>?_) (λh8=>?_)
 refine gl ?_
 have hx9:0<a0.l.length:=by omega
 refine jn 0 a0 hx9 ?_
 generalize hqx10:a0.l[0]=x10
 refine fo ?_
 refine sg (key:=(⟨x10,n4⟩:eU)) (l:=a1) (ek:=pK) (ev:=pK) rfl rfl rfl rfl rfl rfl rfl rfl rfl jU (λy11 h12=>?_) (λh13=>?_)
 refine gl ?_
 refine lY ?_
 have hx14:1<a0.l.length:=by omega
 refine ni 1 a0 hx14 ?_
 generalize hqx15:a0.l[1]=x15
 refine rV ?_
 refine FK (λh16=>?_) (λh16=>?_)
 refine lu ?_
 refine gq ?_
 refine be rfl (λ_=>ca rfl rfl rfl (ju n4 1 aY aY)) ?_
 refine e9 ?_
 refine ⟨_,?_,n4,(n4 - 1),rfl,bh,bh,atR⟩
 omega
 refine lY ?_
 refine oV ?_
 refine be rfl (λ_=>ca rfl rfl rfl (ju n4 1 aY aY)) ?_
 refine e9 ?_
 refine ⟨_,?_,n3,(n4 - 1),rfl,bh,bh,atR⟩
 omega
 refine gl ?_
 refine Mc ?_
 refine oV ?_
 refine be rfl (λ_=>ca rfl rfl rfl (ju n4 1 aY aY)) ?_
 refine e9 ?_
 refine ⟨_,?_,n3,(n4 - 1),rfl,bh,bh,atR⟩
 omega
 refine gz ?_
 refine fQ (λh17=>?_) (λh17=>?_)
 refine gz ?_
 exact dI
 refine gl ?_
 have hNk18:=a0.lk
 refine e8 a0.l.length (λlx e h=>∃ n19:Int,(1<=lx)/\At [0,1,5,9] [gk a0,.fm (cA pK pK a1) false,iv n19,cr lx] au.empty [] e h) ?_ (k0:=1) bh ⟨n3,bh,atR⟩
 rintro lx e h hkk18 ⟨n19,hw20,hA⟩
 refine aw ?_
 have hL21:=a0.lk
 refine gL a0 ?_
 refine fQ (λh22=>?_) (λh22=>?_)
 refine hZ ?_
 refine be rfl (λ_=>ca rfl rfl rfl (ju ((lx:Int)) 1 aY aY)) ?_
 have hx23:((lx:Int) - 1).toNat<a0.l.length:=by omega
 refine pa ((lx:Int) - 1) a0 hx23 ?_
 generalize hqx24:a0.l[((lx:Int) - 1).toNat]=x24
 refine fo ?_
 refine sg (key:=(⟨x24,n19⟩:eU)) (l:=a1) (ek:=pK) (ev:=pK) rfl rfl rfl rfl rfl rfl rfl rfl rfl jU (λy25 h26=>?_) (λh27=>?_)
 refine hZ ?_
 refine Lt ?_
 have hx28:lx<a0.l.length:=by omega
 refine ni lx a0 hx28 ?_
 generalize hqx29:a0.l[lx]=x29
 refine rV ?_
 refine yy (λh30=>?_) (λh30=>?_)
 refine lY ?_
 refine fo ?_
 exact dI
 refine lY ?_
 refine e9 ?_
 refine be rfl (λ_=>ca rfl rfl rfl (pJ .i64 1 y25.en)) ?_
 refine fk ?_
 refine be rfl (λ_=>ca rfl rfl rfl (ej ((lx:Int)) 1 aY aY)) ?_
 refine e9 ?_
 exact ⟨by omega,(IntKind.i64.wrap (1 - y25.en)),bh,atR⟩
 refine hZ ?_
 refine NT ?_
 refine fo ?_
 exact dI
 refine fS ?_
 exact dK
def t129 (a0:bY) (a1:List (eU×eU)) :Ct 129 [.agg (bY.ai a0),.fm (cA pK pK a1) false] (λv=>∃ r0:Bool,((r0=true->Jr a0))/\v=.bool r0):=by
 refine fR Oz ?_
 refine gz ?_
 refine gj rfl (iW gJ) ?_
 rintro _ H2 ⟨b1,rfl,hS3⟩
 refine gz ?_
 have hL4:=a0.lines.lk
 refine gL a0.lines ?_
 refine fo ?_
 have hNk5:=a0.lines.lk
 refine e8 a0.lines.l.length (λk5 e h=>∃ l6:List (Int×Bool),∃ H7:au,(wS a0 k5 0 l6)/\Sep H7 (kb b1 iK bK l6::[])/\At [1,2,5,12,13,14] [.fm (cA pK pK a1) false,.la 2 0,(.hm b1),fy a0.lines,cr a0.lines.l.length,cr k5] H7 [(2,(bY.ai a0))] e h) ?_ (k0:=0) bh ⟨([]),H2,(by exact wS.zero),hS3,atR⟩
 rintro k5 e h hkk5 ⟨l6,H7,hLn,hS8,hA⟩
 refine aa ?_
 refine fQ (λh9=>?_) (λh9=>?_)
 refine fk ?_
 refine wz [.fm (cA pK pK a1) false,.la 2 0,(.hm b1),fy a0.lines,cr a0.lines.l.length,cr k5] H7 [(2,(bY.ai a0))] ?_
 refine fk ?_
 have hx10:k5<a0.lines.l.length:=by omega
 refine jn k5 a0.lines hx10 ?_
 generalize hqx11:a0.lines.l[k5]=x11
 refine gl ?_
 have hL12:=x11.elems.lk
 refine gL x11.elems ?_
 refine gN (λh13=>?_) (λh13=>?_)
 refine gz ?_
 exact dU
 refine fo ?_
 refine wz [.fm (cA pK pK a1) false,.la 2 0,(.hm b1),.la 7 0,fy a0.lines,cr a0.lines.l.length,cr k5] H7 [(2,(bY.ai a0)),(7,(gp.ai x11))] ?_
 refine gq ?_
 have hL14:=x11.elems.lk
 refine gL x11.elems ?_
 refine fo ?_
 have hNk15:=x11.elems.lk
 refine e8 x11.elems.l.length (λkM e h=>∃ l16:List (Int×Bool),∃ H17:au,(wS a0 k5 kM l16)/\Sep H17 (kb b1 iK bK l16::[])/\At [1,2,5,7,12,13,14,23,24,25] [.fm (cA pK pK a1) false,.la 2 0,(.hm b1),.la 7 0,fy a0.lines,cr a0.lines.l.length,cr k5,gk x11.elems,cr x11.elems.l.length,cr kM] H17 [(2,(bY.ai a0)),(7,(gp.ai x11))] e h) ?_ (k0:=0) bh ⟨l6,H7,(by exact hLn),hS8,atR⟩
 rintro kM e h hkk15 ⟨l16,H17,hLn2,hS18,hA⟩
 refine aa ?_
 refine fQ (λh19=>?_) (λh19=>?_)
 refine fk ?_
 refine wz [.fm (cA pK pK a1) false,.la 2 0,(.hm b1),.la 7 0,fy a0.lines,cr a0.lines.l.length,cr k5,gk x11.elems,cr x11.elems.l.length,cr kM] H17 [(2,(bY.ai a0)),(7,(gp.ai x11))] ?_
 refine fk ?_
 have hx20:kM<x11.elems.l.length:=by omega
 refine jn kM x11.elems hx20 ?_
 generalize hqx21:x11.elems.l[kM]=x21
 refine gz ?_
 refine fQ (λh22=>?_) (λh22=>?_)
 refine TB ?_
 exact dU
 refine fk ?_
 have hL23:=a0.elems.lk
 refine gL a0.elems ?_
 refine jw (λh24=>?_) (λh24=>?_)
 refine SX ?_
 exact dU
 refine gq ?_
 have hx25:(x21).toNat<a0.elems.l.length:=by omega
 refine pa x21 a0.elems hx25 ?_
 generalize hqx26:a0.elems.l[(x21).toNat]=x26
 refine e9 ?_
 refine iV (λh27=>?_) (λh27=>?_)
 refine kS ?_
 exact dU
 refine fk ?_
 refine kg (H:=H17) (i:=0) (ek:=iK) (ev:=bK) (l:=l16) x21 rfl rfl hS18 rfl rfl rfl rfl rfl rfl rfl rfl iF (λy28 h29=>?_) (λh30=>?_)
 cases y28
 refine aj ?_
 rintro _ H31 ⟨rfl,hS32⟩
 refine oN ?_
 refine wz [.fm (cA pK pK a1) false,.la 2 0,(.hm b1),.la 7 0,fy a0.lines,cr a0.lines.l.length,cr k5,gk x11.elems,cr x11.elems.l.length,cr kM] H31 [(2,(bY.ai a0)),(7,(gp.ai x11))] ?_
 refine qg ?_
 refine be rfl (λ_=>ca rfl rfl rfl (ej ((kM:Int)) 1 aY aY)) ?_
 refine e9 ?_
 exact ⟨by omega,((put x21 true l16)),H31,dw,hS32,atR⟩
 refine fS ?_
 exact dU
 refine aj ?_
 rintro _ H33 ⟨rfl,hS34⟩
 refine oN ?_
 refine wz [.fm (cA pK pK a1) false,.la 2 0,(.hm b1),.la 7 0,fy a0.lines,cr a0.lines.l.length,cr k5,gk x11.elems,cr x11.elems.l.length,cr kM] H33 [(2,(bY.ai a0)),(7,(gp.ai x11))] ?_
 refine qg ?_
 refine be rfl (λ_=>ca rfl rfl rfl (ej ((kM:Int)) 1 aY aY)) ?_
 refine e9 ?_
 exact ⟨by omega,((put x21 true l16)),H33,dw,hS34,atR⟩
 refine fk ?_
 refine wz [.fm (cA pK pK a1) false,.la 2 0,(.hm b1),.la 7 0,fy a0.lines,cr a0.lines.l.length,cr k5] H17 [(2,(bY.ai a0)),(7,(gp.ai x11))] ?_
 refine gq ?_
 refine oC (t211 x11.elems a1) ?_
 rintro _ ⟨r36,hc35,rfl⟩
 cases r36
 refine fS ?_
 exact dU
 refine fk ?_
 refine wz [.fm (cA pK pK a1) false,.la 2 0,(.hm b1),fy a0.lines,cr a0.lines.l.length,cr k5] H17 [(2,(bY.ai a0))] ?_
 refine qg ?_
 refine be rfl (λ_=>ca rfl rfl rfl (ej ((k5:Int)) 1 aY aY)) ?_
 refine e9 ?_
 exact ⟨by omega,l16,H17,(by exact hLn2.next a6 bh),hS18,atR⟩
 refine fk ?_
 refine wz [] H7 [] ?_
 refine gq ?_
 exact xB ⟨true,b8,rfl⟩
def t212 (a0:Int) (a1:Int) :Ct 212 [iv a0,iv a1] (λv=>∃ r0:Int,(True)/\v=iv r0):=by
 refine fR N3 ?_
 refine fS ?_
 refine fQ (λh1=>?_) (λh1=>?_)
 refine tc ?_
 exact dY
 refine e9 ?_
 refine jI (λh2=>?_) (λh2=>?_)
 refine oi ?_
 exact dY
 refine fo ?_
 refine fQ (λh3=>?_) (λh3=>?_)
 refine j9 ?_
 exact dY
 refine fo ?_
 refine jI (λh4=>?_) (λh4=>?_)
 refine fS ?_
 exact dY
 refine kS ?_
 refine be rfl (λ_=>ca rfl rfl rfl (ju a0 a1 aY aY)) ?_
 refine fo ?_
 refine nT (λm9 e h=>∃ n5:Int,∃ n6:Int,m9=(n5+10).toNat/\(-10<=n5)/\(n5<=60)/\At [0,1,5] [iv n5,iv a1,iv n6] au.empty [] e h) ?_ _ _ _ ⟨(a0 - a1),0,rfl,bh,bh,atR⟩
 rintro m9 e h ⟨n5,n6,hmm9,hi7,hi8,hA⟩
 refine aC ?_
 refine jI (λh10=>?_) (λh10=>?_)
 refine aM ?_
 refine be rfl (λ_=>ca rfl rfl rfl (ju n5 a1 aY aY)) ?_
 refine e9 ?_
 refine ⟨_,?_,(n5 - a1),(IntKind.i64.wrap (n6+(n5))),rfl,bh,bh,atR⟩
 omega
 refine gl ?_
 exact xB ⟨n6,zt⟩
def t130 (a0:bY) (q1:(∀ s∈a0.signals.l,0<=s.at_.elem/\s.at_.elem<(a0.elems.l.length:Int)/\0<=s.at_.en)):Ct 130 [.agg (bY.ai a0)] (λv=>∃ r0:Bool,(True)/\v=.bool r0):=by
 refine fR Qh ?_
 refine fS ?_
 refine ze ?_
 refine rC (t212 a0.top a0.gD) ?_
 rintro _ ⟨r2,hc1,rfl⟩
 refine fD rfl rfl (λ_=>ca rfl rfl rfl (CU .i64 a0.top r2)) ?_
 refine wC (λh3=>?_) (λh3=>?_)
 refine aD ?_
 exact dI
 refine vD ?_
 refine e9 ?_
 have hL4:=a0.signals.lk
 refine aP ?_
 have hNk5:=a0.signals.lk
 refine e8 a0.signals.l.length (λk5 e h=>At [1,20,21,22] [.la 1 0,fP a0.signals,cr a0.signals.l.length,cr k5] au.empty [(1,(bY.ai a0))] e h) ?_ (k0:=0) bh atR
 rintro k5 e h hkk5 hA
 refine aa ?_
 refine fQ (λh6=>?_) (λh6=>?_)
 refine fS ?_
 have hx7:k5<a0.signals.l.length:=by omega
 refine jn k5 a0.signals hx7 ?_
 generalize hqx8:a0.signals.l[k5]=x8
 have hinx8:x8∈a0.signals.l:=by rw [<- hqx8]; exact List.getElem_mem _
 have hsx8:=q1 x8 hinx8
 refine kP ?_
 have hx9:(x8.at_.elem).toNat<a0.elems.l.length:=by omega
 refine pa x8.at_.elem a0.elems hx9 ?_
 generalize hqx10:a0.elems.l[(x8.at_.elem).toNat]=x10
 refine fS ?_
 refine gN (λh11=>?_) (λh11=>?_)
 refine gq ?_
 refine fQ (λh12=>?_) (λh12=>?_)
 refine fS ?_
 exact dI
 refine gq ?_
 refine be rfl (λ_=>ca rfl rfl rfl (ej ((k5:Int)) 1 aY aY)) ?_
 refine e9 ?_
 exact dJ
 refine kP ?_
 refine be rfl (λ_=>ca rfl rfl rfl (ej ((k5:Int)) 1 aY aY)) ?_
 refine e9 ?_
 exact dJ
 refine gl ?_
 have hL13:=a0.elems.lk
 refine aS ?_
 have hNk14:=a0.elems.lk
 refine e8 a0.elems.l.length (λmc e h=>At [1,45,46,47] [.la 1 0,fA a0.elems,cr a0.elems.l.length,cr mc] au.empty [(1,(bY.ai a0))] e h) ?_ (k0:=0) bh atR
 rintro mc e h hkk14 hA
 refine aa ?_
 refine fQ (λh15=>?_) (λh15=>?_)
 refine fS ?_
 have hx16:mc<a0.elems.l.length:=by omega
 refine jn mc a0.elems hx16 ?_
 generalize hqx17:a0.elems.l[mc]=x17
 refine fS ?_
 refine iV (λh18=>?_) (λh18=>?_)
 refine gq ?_
 refine fQ (λh19=>?_) (λh19=>?_)
 refine fS ?_
 exact dI
 refine gq ?_
 refine be rfl (λ_=>ca rfl rfl rfl (ej ((mc:Int)) 1 aY aY)) ?_
 refine e9 ?_
 exact dJ
 refine kP ?_
 refine be rfl (λ_=>ca rfl rfl rfl (ej ((mc:Int)) 1 aY aY)) ?_
 refine e9 ?_
 exact dJ
 refine gl ?_
 exact dK
def t60 (a0:bY) :Ct 60 [.agg (bY.ai a0)] (λv=>∃ r0:Int,((r0=0->As a0.fj.l/\zL a0.signals.l/\(∀ s∈a0.signals.l,0<=s.at_.elem/\s.at_.elem<(a0.elems.l.length:Int)/\0<=s.at_.en)/\a0.elems.l.length<=40/\a0.signals.l.length<=24/\a0.fj.l.length<=80/\IQ a0))/\v=iv r0):=by
 refine fR Tv ?_
 refine ay ?_
 rintro _ H2 ⟨b1,rfl,hS3⟩
 refine gq ?_
 refine nO 0 hS3 ?_
 refine kW 0 hS3 (fA a0.elems) ?_
 have hL4:=a0.elems.lk
 refine gL a0.elems ?_
 refine jI (λh5=>?_) (λh5=>?_)
 refine Bo ?_
 exact eO
 refine oV ?_
 refine nO 0 hS3 ?_
 refine kW 0 hS3 (fP a0.signals) ?_
 have hL6:=a0.signals.lk
 refine gL a0.signals ?_
 refine jI (λh7=>?_) (λh7=>?_)
 refine Bl ?_
 exact eO
 refine e9 ?_
 refine nO 0 hS3 ?_
 refine kW 0 hS3 (fy a0.lines) ?_
 have hL8:=a0.lines.lk
 refine gL a0.lines ?_
 refine jI (λh9=>?_) (λh9=>?_)
 refine mw ?_
 exact eO
 refine e9 ?_
 refine nO 0 hS3 ?_
 refine kW 0 hS3 (fJ a0.fj) ?_
 have hL10:=a0.fj.lk
 refine gL a0.fj ?_
 refine jI (λh11=>?_) (λh11=>?_)
 refine fS ?_
 exact eO
 refine fk ?_
 refine wz [(eX b1)] H2 [] ?_
 refine fo ?_
 refine kW 0 hS3 (.agg (bY.ai a0)) ?_
 refine oC (t122 a0) ?_
 rintro _ ⟨r13,hc12,rfl⟩
 have hKdp:=hc12
 cases r13
 refine fS ?_
 exact xB ⟨1,bg,rfl⟩
 refine fk ?_
 refine wz [(eX b1)] H2 [] ?_
 refine fo ?_
 refine nO 0 hS3 ?_
 refine kW 0 hS3 (fA a0.elems) ?_
 have hL14:=a0.elems.lk
 refine gL a0.elems ?_
 refine be rfl (λ_=>yg rfl rfl (xK rfl rfl)) ?_
 have hS15:=Sep.pick hS3 [0] 1 bf bf
 refine gA (H:=H2) (args:=[cr a0.elems.l.length,.gx 124 [] [(eX b1)]]) (p:=[]) (r:=[]) rfl rfl rfl rfl rfl rfl rfl (Nz ((a0.elems.l.length:Int)) b1 a0 ([]) hS15 aZ) ?_
 rintro _ H16 ⟨r19,hc18,hS17,rfl⟩
 cases r19
 refine oV ?_
 refine nO 0 hS17 ?_
 refine kW 0 hS17 (fP a0.signals) ?_
 have hL20:=a0.signals.lk
 refine gL a0.signals ?_
 refine be rfl (λ_=>yg rfl rfl (xK rfl rfl)) ?_
 have hS21:=Sep.pick hS17 [0] 1 bf bf
 refine gA (H:=H16) (args:=[cr a0.signals.l.length,.gx 125 [] [(eX b1)]]) (p:=[]) (r:=[]) rfl rfl rfl rfl rfl rfl rfl (MJ ((a0.signals.l.length:Int)) b1 a0 ([]) hS21 aZ) ?_
 rintro _ H22 ⟨r25,hc24,hS23,rfl⟩
 cases r25
 refine e9 ?_
 refine nO 0 hS23 ?_
 refine kW 0 hS23 (fy a0.lines) ?_
 have hL26:=a0.lines.lk
 refine gL a0.lines ?_
 refine be rfl (λ_=>yg rfl rfl (xK rfl rfl)) ?_
 have hS27:=Sep.pick hS23 [0] 1 bf bf
 refine gA (H:=H22) (args:=[cr a0.lines.l.length,.gx 126 [] [(eX b1)]]) (p:=[]) (r:=[]) rfl rfl rfl rfl rfl rfl rfl (Ny ((a0.lines.l.length:Int)) b1 a0 ([]) hS27 aZ) ?_
 rintro _ H28 ⟨r31,hc30,hS29,rfl⟩
 cases r31
 refine fk ?_
 refine wz [(eX b1)] H28 [] ?_
 refine e9 ?_
 refine kW 0 hS29 (.agg (bY.ai a0)) ?_
 refine oC (t127 a0) ?_
 rintro _ (⟨r33,hc32,rfl⟩ | ⟨hc32,rfl⟩)
 have hPre:=hc32.1.1; have hC148:=hc32.1.2; have hJvp:=hc32.2
 refine rQ ?_
 refine kW 0 hS29 (.agg (bY.ai a0)) ?_
 refine oV ?_
 refine oC (t128 a0 r33 aZ) ?_
 rintro _ ⟨r35,hc34,rfl⟩
 cases r35
 clear hc34
 refine gl ?_
 exact xB ⟨7,bg,rfl⟩
 have hc34t:=hc34 rfl
 have hPre:=hc34t.1; have hD149:=hc34t.2
 refine gS ?_
 refine kW 0 hS29 (.agg (bY.ai a0)) ?_
 refine oV ?_
 refine oC (t129 a0 r33) ?_
 rintro _ ⟨r37,hc36,rfl⟩
 have hLnp:=hc36
 cases r37
 refine gl ?_
 exact xB ⟨8,bg,rfl⟩
 refine gS ?_
 refine kW 0 hS29 (.agg (bY.ai a0)) ?_
 refine oC (t130 a0 aZ) ?_
 rintro _ ⟨r39,hc38,rfl⟩
 cases r39
 refine gl ?_
 exact xB ⟨9,bg,rfl⟩
 refine gq ?_
 refine wz [] H28 [] ?_
 refine gq ?_
 exact xB ⟨0,bg,rfl⟩
 refine Bl ?_
 exact xB ⟨6,bg,rfl⟩
 refine fS ?_
 exact xB ⟨4,bg,rfl⟩
 refine nR ?_
 exact xB ⟨4,bg,rfl⟩
 refine Mo ?_
 exact xB ⟨4,bg,rfl⟩
def Za (a0:ff Int) (q1:a0.l.length<=1000):Ix 38 [nj a0] (λv=>∃ r0:Row Int,((r0.l=a0.l/\(r0.c=.nil↔a0.c=.nil)))/\v=gk r0):=by
 refine wV IU ?_
 refine fS ?_
 refine jf (b:=a0.isNil) rfl (λ_=>mi rfl rfl rfl rfl) (λh1=>?_) (λh1=>?_)
 refine gz ?_
 exact xG ⟨(kZ:Row Int),bp,rfl⟩
 refine fo ?_
 refine wy [nj a0] [] ?_
 refine fk ?_
 have hS2:=Sep.nk gJ 1
 refine gj rfl (u9 (i:=0) (l:=([]:List Int)) (enc:=cI) a0.l hS2 rfl rfl rfl rfl rfl rfl rfl rfl rfl (λ_=>rfl) (.inl rfl) bE (λ_=>rfl)) ?_
 rintro v3 H4 ⟨hS5,hNN⟩
 refine fo ?_
 obtain ⟨r6,hl7,hnn,hf8⟩:=vd (H:=H4) (i:=0) (l:=(([]:List Int)++a0.l)) (enc:=cI) hS5 rfl a8
 have hlq:=hl7; have hln10:=congrArg List.length hl7
 have hz9:∀ m,freeze false { H4 with aT:=[] } (m+2) v3=some (gk r6):=λm=>hf8 _ _ (λ_=>rfl)
 exact ⟨v3,(ia (vs:=[v3]) rfl (ei (Sep.arg (i:=0) hS5 rfl) fT)),gk r6,(show freeze false { H4 with aT:=[] } 8 v3=some (gk r6) by simp only [FZ,hz9]),r6,bp,rfl⟩
def Wx (a0:ff jl) (q1:a0.l.length<=1000):Ix 131 [ff.av jl.ai a0] (λv=>∃ r0:Row jl,((r0.l=a0.l/\(r0.c=.nil↔a0.c=.nil)))/\v=fA r0):=by
 refine wV Od ?_
 refine fS ?_
 refine jf (b:=a0.isNil) rfl (λ_=>mi rfl rfl rfl rfl) (λh1=>?_) (λh1=>?_)
 refine gz ?_
 exact xG ⟨(kZ:Row jl),bp,rfl⟩
 refine gz ?_
 have hS2:=Sep.nk gJ 3
 refine gj rfl (u9 (i:=0) (l:=([]:List jl)) (enc:=jl.ai) a0.l hS2 rfl rfl rfl rfl rfl rfl rfl rfl rfl (λ_=>rfl) (.inl rfl) bE (λ_=>rfl)) ?_
 rintro v3 H4 ⟨hS5,hNN⟩
 refine fo ?_
 obtain ⟨r6,hl7,hnn,hf8⟩:=vd (H:=H4) (i:=0) (l:=(([]:List jl)++a0.l)) (enc:=jl.ai) hS5 rfl a8
 have hlq:=hl7; have hln10:=congrArg List.length hl7
 have hz9:∀ m,freeze false { H4 with aT:=[] } (m+2) v3=some (fA r6):=λm=>hf8 _ _ (λ_=>rfl)
 exact ⟨v3,(ia (vs:=[v3]) rfl (ei (Sep.arg (i:=0) hS5 rfl) fT)),fA r6,(show freeze false { H4 with aT:=[] } 8 v3=some (fA r6) by simp only [FZ,hz9]),r6,bp,rfl⟩
def Va (a0:ff ig) (q1:a0.l.length<=1000):Ix 132 [ff.av ig.ai a0] (λv=>∃ r0:Row ig,((r0.l=a0.l/\(r0.c=.nil↔a0.c=.nil)))/\v=fJ r0):=by
 refine wV PI ?_
 refine fS ?_
 refine jf (b:=a0.isNil) rfl (λ_=>mi rfl rfl rfl rfl) (λh1=>?_) (λh1=>?_)
 refine gz ?_
 exact xG ⟨(kZ:Row ig),bp,rfl⟩
 refine gz ?_
 have hS2:=Sep.nk gJ 4
 refine gj rfl (u9 (i:=0) (l:=([]:List ig)) (enc:=ig.ai) a0.l hS2 rfl rfl rfl rfl rfl rfl rfl rfl rfl (λ_=>rfl) (.inl rfl) bE (λ_=>rfl)) ?_
 rintro v3 H4 ⟨hS5,hNN⟩
 refine fo ?_
 obtain ⟨r6,hl7,hnn,hf8⟩:=vd (H:=H4) (i:=0) (l:=(([]:List ig)++a0.l)) (enc:=ig.ai) hS5 rfl a8
 have hlq:=hl7; have hln10:=congrArg List.length hl7
 have hz9:∀ m,freeze false { H4 with aT:=[] } (m+2) v3=some (fJ r6):=λm=>hf8 _ _ (λ_=>rfl)
 exact ⟨v3,(ia (vs:=[v3]) rfl (ei (Sep.arg (i:=0) hS5 rfl) fT)),fJ r6,(show freeze false { H4 with aT:=[] } 8 v3=some (fJ r6) by simp only [FZ,hz9]),r6,bp,rfl⟩
def XT (a0:ff iD) (q1:a0.l.length<=1000):Ix 133 [ff.av iD.ai a0] (λv=>∃ r0:Row iD,((r0.l=a0.l/\(r0.c=.nil↔a0.c=.nil)))/\v=fP r0):=by
 refine wV On ?_
 refine fS ?_
 refine jf (b:=a0.isNil) rfl (λ_=>mi rfl rfl rfl rfl) (λh1=>?_) (λh1=>?_)
 refine gz ?_
 exact xG ⟨(kZ:Row iD),bp,rfl⟩
 refine gz ?_
 have hS2:=Sep.nk gJ 4
 refine gj rfl (u9 (i:=0) (l:=([]:List iD)) (enc:=iD.ai) a0.l hS2 rfl rfl rfl rfl rfl rfl rfl rfl rfl (λ_=>rfl) (.inl rfl) bE (λ_=>rfl)) ?_
 rintro v3 H4 ⟨hS5,hNN⟩
 refine fo ?_
 obtain ⟨r6,hl7,hnn,hf8⟩:=vd (H:=H4) (i:=0) (l:=(([]:List iD)++a0.l)) (enc:=iD.ai) hS5 rfl a8
 have hlq:=hl7; have hln10:=congrArg List.length hl7
 have hz9:∀ m,freeze false { H4 with aT:=[] } (m+2) v3=some (fP r6):=λm=>hf8 _ _ (λ_=>rfl)
 exact ⟨v3,(ia (vs:=[v3]) rfl (ei (Sep.arg (i:=0) hS5 rfl) fT)),fP r6,(show freeze false { H4 with aT:=[] } 8 v3=some (fP r6) by simp only [FZ,hz9]),r6,bp,rfl⟩
def XE {H:au} (a0:ff gp) (F:List gh) (hS:Sep H F) (q1:a0.l.length<=1000):∃ v H',fh cfg FT lC true 134 [ff.av gp.ai a0] { H with aT:=[] } v H'/\(∃ ov:AV,∃ ol:List gp,(ol=a0.l/\(ov=.sl [] .nil↔a0.c=.nil))/\Sep H' (kh gp.ai 2 ov ol::F)/\v=ov):=by
 refine LL PG ?_
 refine fS ?_
 refine jf (b:=a0.isNil) rfl (λ_=>mi rfl rfl rfl rfl) (λh1=>?_) (λh1=>?_)
 refine gz ?_
 have hS2:=Sep.jZ hS 2
 have hS3:=Sep.pick hS2 [0] 1 bf bf
 exact ⟨ee,rfl,ee,([]:List gp),cF,Sep.aT hS3 _,rfl⟩
 refine fo ?_
 refine wz [ff.av gp.ai a0] H [] ?_
 refine fk ?_
 have hS4:=Sep.nk hS 2
 refine gj rfl (u9 (i:=0) (l:=([]:List gp)) (enc:=gp.ai) a0.l hS4 rfl rfl rfl rfl rfl rfl rfl rfl rfl (λ_=>rfl) (.inl rfl) bE (λ_=>rfl)) ?_
 rintro v5 H6 ⟨hS7,hNN⟩
 refine fo ?_
 have hS8:=Sep.pick hS7 [0] 1 bf bf
 exact ⟨v5,(ia (vs:=[v5]) rfl (ei (Sep.arg (i:=0) hS7 rfl) fT)),v5,(([]:List gp)++a0.l),cF,Sep.aT hS8 _,rfl⟩
def aaK (a0:bY) (q1:j1 a0):Ix 61 [.agg (bY.ai a0)] (λv=>∃ r0:bY,((JP r0 a0/\∀ x∈r0.lines.l,x.elems.l.length<=60))/\v=.agg (bY.ai r0)):=by
 refine wV Rx ?_
 have q2:=q1.elems; have q3:=q1.fj; have q4:=q1.signals; have q5:=q1.lines
 refine aW ?_
 refine rC (Wx (Row.ji a0.elems) aZ) ?_
 rintro _ ⟨r2,hc1,rfl⟩
 refine lj ?_
 refine rC (Va (Row.ji a0.fj) aZ) ?_
 rintro _ ⟨r4,hc3,rfl⟩
 refine lj ?_
 refine rC (XT (Row.ji a0.signals) aZ) ?_
 rintro _ ⟨r6,hc5,rfl⟩
 refine D3 ?_
 refine e9 ?_
 refine gA (H:=au.empty) (args:=[fy a0.lines]) (p:=[]) (r:=[]) rfl rfl rfl rfl rfl rfl rfl (XE (Row.ji a0.lines) ([]) gJ aZ) ?_
 rintro ov11 H8 ⟨_,ol12,hc10,hS9,rfl⟩
 have hqF:ol12.length=(Row.ji a0.lines).l.length:=by rw [hc10.1]
 try simp only [Row.ji] at hqF
 have hLn:=hc10
 refine oV ?_
 refine be rfl (λ_=>pf rfl rfl rfl (jx rfl rfl (Sep.cell (i:=0) hS9 rfl)) (ei (Sep.cell (i:=0) hS9 rfl) fT) rfl rfl) ?_
 refine gS ?_
 refine be rfl (λ_=>jC (i:=0) (l:=ol12) (enc:=gp.ai) hS9 rfl rfl rfl rfl rfl rfl rfl) ?_
 refine fo ?_
 refine e8 ol12.length (λim e h=>∃ v14:AV,∃ l15:List gp,∃ H16:au,(l15.length=a0.lines.l.length)/\(∀ x∈l15,x.elems.l.length<=60)/\(∀ (i:Nat) (h:i<(l15).length) (h2:i<a0.lines.l.length),sD (l15)[i] a0.lines.l[i])/\((v14=.sl [] .nil↔a0.lines.c=.nil))/\Sep H16 (kh gp.ai 2 v14 l15::[])/\At [1,2,22,23] [.la 1 0,.la 2 0,cr ol12.length,cr im] H16 [(1,[fA r2,fJ r4,fP r6,v14,iv a0.top,iv a0.gD,iv a0.gu,iv a0.gw,.bool a0.gE]),(2,[ee,ee,ee,ee,iv 0,iv 0,iv 0,iv 0,eV])] e h) ?_ (k0:=0) bh ⟨ov11,ol12,H8,(by (simp_all [Row.ji])),(by (intro x hx; exact q1.line x (by simp_all [Row.ji]))),(by (rw [hLn.1]; exact λi h h2=>⟨rfl,rfl,Iff.rfl⟩)),(by exact hLn.2),hS9,atR⟩
 rintro im e h hkk13 ⟨v14,l15,H16,hL,hE,hN,hV,hS17,hA⟩
 refine aa ?_
 refine fQ (λh18=>?_) (λh18=>?_)
 refine fk ?_
 refine wz [.la 1 0,.la 2 0,cr ol12.length,cr im] H16 [(1,[fA r2,fJ r4,fP r6,v14,iv a0.top,iv a0.gD,iv a0.gu,iv a0.gw,.bool a0.gE]),(2,[ee,ee,ee,ee,iv 0,iv 0,iv 0,iv 0,eV])] ?_
 refine fS ?_
 refine vD ?_
 have hx19:im<l15.length:=by first | omega | (simp<;>omega) | (simp_all; done) | (simp_all; omega)
 obtain ⟨x20,hqx20⟩:∃ x,l15[im]=x:=⟨_,rfl⟩
 have hinx20:x20∈l15:=by rw [<- hqx20]; exact List.getElem_mem _
 have hsx20:=hE _ hinx20
 refine lW rfl rfl (iT (i:=0) (m:=im) (cs:=gp.ai x20) hS17 rfl rfl rfl rfl rfl rfl rfl (gW hx19 hqx20)) ?_
 rintro a21 ⟨ha22,hea23⟩
 refine fD rfl rfl (λ_=>EA.FM hea23 rfl rfl rfl ha22) ?_
 refine fD rfl rfl (λ_=>lQ (i:=0) (m:=im) (o:=1) (r:=gk x20.elems) (cs:=gp.ai x20) hS17 rfl (gW hx19 hqx20) hea23 rfl rfl rfl) ?_
 refine rC (Za (Row.ji x20.elems) aZ) ?_
 rintro _ ⟨r25,hc24,rfl⟩
 have hRN:=hc24
 have hx26:im<l15.length:=by first | omega | (simp<;>omega) | (simp_all; done) | (simp_all; omega)
 refine lW rfl rfl (iT (i:=0) (m:=im) (cs:=gp.ai x20) hS17 rfl rfl rfl rfl rfl rfl rfl (gW hx26 hqx20)) ?_
 rintro a27 ⟨ha28,hea29⟩
 refine fD rfl rfl (λ_=>EA.FM hea29 rfl rfl rfl ha28) ?_
 refine iH rfl rfl (mB (i:=0) (m:=im) (o:=1) x20 (⟨x20.name,r25⟩:gp) hS17 rfl hx26 hqx20 hea29 rfl rfl rfl rfl rfl rfl) ?_
 rintro _ H30 ⟨rfl,hS31⟩
 refine rN ?_
 refine wz [.la 1 0,.la 2 0,cr ol12.length,cr im] H30 [(1,[fA r2,fJ r4,fP r6,v14,iv a0.top,iv a0.gD,iv a0.gu,iv a0.gw,.bool a0.gE]),(2,[ee,ee,ee,ee,iv 0,iv 0,iv 0,iv 0,eV])] ?_
 refine qg ?_
 refine be rfl (λ_=>ca rfl rfl rfl (ej ((im:Int)) 1 aY aY)) ?_
 refine e9 ?_
 exact ⟨by omega,v14,((l15.set im (⟨x20.name,r25⟩:gp))),H30,dD,(by exact uk hE (by show List.length (Row.l _)<=60; rw [hRN.1]; assumption)),(by (refine LS (x:=?x) hN ?h1 ?h2 ?h3; (case h2=>assumption); exact ⟨rfl,hRN⟩)),(by exact hV),hS31,atR⟩
 refine fk ?_
 refine wz [.la 1 0,.la 2 0,.la 2 0] H16 [(1,[fA r2,fJ r4,fP r6,v14,iv a0.top,iv a0.gD,iv a0.gu,iv a0.gw,.bool a0.gE]),(2,[ee,ee,ee,ee,iv 0,iv 0,iv 0,iv 0,eV]),(2,[ee,ee,ee,ee,iv 0,iv 0,iv 0,iv 0,eV])] ?_
 refine fo ?_
 refine be rfl (λ_=>pf rfl rfl rfl rfl (ei rfl (ei rfl (ei rfl (ei (Sep.cell (i:=0) hS17 rfl) (ei rfl (ei rfl (ei rfl (ei rfl (ei rfl fT))))))))) rfl rfl) ?_
 refine e9 ?_
 obtain ⟨r32,hl33,hnn,hf34⟩:=vd (H:=H16) (i:=0) (l:=l15) (enc:=gp.ai) hS17 rfl a8
 have hlq:=hl33; have hln36:=congrArg List.length hl33
 have hz35:∀ m,freeze false { H16 with aT:=[(1,[fA r2,fJ r4,fP r6,v14,iv a0.top,iv a0.gD,iv a0.gu,iv a0.gw,.bool a0.gE]),(2,[fA r2,fJ r4,fP r6,v14,iv a0.top,iv a0.gD,iv a0.gu,iv a0.gw,.bool a0.gE])] } (m+2) v14=some (fy r32):=λm=>hf34 _ _ (λ_=>by simp only [gp.ai,fU,sm,iE,qM,rY,um])
 exact ⟨.agg [fA r2,fJ r4,fP r6,v14,iv a0.top,iv a0.gD,iv a0.gu,iv a0.gw,.bool a0.gE],(ia (vs:=[.agg [fA r2,fJ r4,fP r6,v14,iv a0.top,iv a0.gD,iv a0.gu,iv a0.gw,.bool a0.gE]]) rfl rfl),.agg [fA r2,fJ r4,fP r6,fy r32,iv a0.top,iv a0.gD,iv a0.gu,iv a0.gw,.bool a0.gE],(show freeze false { H16 with aT:=[(1,[fA r2,fJ r4,fP r6,v14,iv a0.top,iv a0.gD,iv a0.gu,iv a0.gw,.bool a0.gE]),(2,[fA r2,fJ r4,fP r6,v14,iv a0.top,iv a0.gD,iv a0.gu,iv a0.gw,.bool a0.gE])] } 8 (.agg [fA r2,fJ r4,fP r6,v14,iv a0.top,iv a0.gD,iv a0.gu,iv a0.gw,.bool a0.gE])=some (.agg [fA r2,fJ r4,fP r6,fy r32,iv a0.top,iv a0.gD,iv a0.gu,iv a0.gw,.bool a0.gE]) by simp only [FZ,hz35]),(⟨r2,r4,r6,r32,a0.top,a0.gD,a0.gu,a0.gw,a0.gE⟩:bY),(by refine ⟨⟨by assumption,by assumption,by assumption,hnn.trans hV,by simp_all,?_,rfl,rfl,rfl,rfl,rfl⟩,by simp_all⟩; simp_all),rfl⟩
def Th:fK 61=some (sE cfg FT lC 61):=by rfl
def P61 (_a0:bY) (v:AV):Prop:=∃ r0:bY,(r0.elems.l = _a0.elems.l/\r0.fj.l = _a0.fj.l/\r0.signals.l = _a0.signals.l/\r0.lines.l.length = _a0.lines.l.length/\(∀ x∈r0.lines.l,x.elems.l.length<=60)/\r0 = _a0.canon)/\v=.agg (bY.ai r0)
def t61 (a0:bY) (q1:j1 a0) (h:au):∃ v,fh cfg FT fK false 61 [.agg (bY.ai a0)] h v h/\P61 a0 v:=by
 obtain ⟨v,hc,r0,⟨h1,h2⟩,rfl⟩:=aaK a0 q1 h
 refine ⟨_,J0 Th hc,a0.canon,⟨rfl,rfl,rfl,by simp [bY.canon,Row.canon,Row.yx],?_,rfl⟩,Ip h1⟩
 intro x hx
 simp only [bY.canon,Row.canon,Row.yx,List.mem_map] at hx
 obtain ⟨y,hy,rfl⟩:=hx
 exact q1.line y hy
end Go.Sx
