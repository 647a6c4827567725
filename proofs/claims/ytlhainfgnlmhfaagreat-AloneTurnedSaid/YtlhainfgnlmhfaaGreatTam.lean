/- Proves what some functions of the program answer, by walking through them. -/
import Derived.Test.YtlhainfgnlmhfaaGreatTaj
import Derived.Test.YtlhainfgnlmhfaaGreatTak
import Derived.Test.YtlhainfgnlmhfaaGreatTal
set_option linter.all false
set_option maxRecDepth 100000
set_option maxHeartbeats 0
namespace Go.Sx
open Go Go.Proofs
theorem Lt:eG.get 149=some z6:=by kernel_rfl
theorem Ip:ei 149=none:=by kernel_rfl
def UC (_a0:eb) (_a1:List (ed×ed)) (v:AV):Prop:=∃ r0:Bool,((r0=true→(∀ s∈_a0.signals.l,0≤s.at_.elem∧s.at_.elem<(_a0.elems.l.length:Int)∧0≤s.at_.en)∧nR _a0.signals.l))∧v=.bool r0
theorem t149 (a0:eb) (a1:List (ed×ed)) (q1:(∀ y∈(a1:List (ed×ed)),0≤y.2.elem∧y.2.elem<(a0.elems.l.length:Int))) (h:bY):∃ v,eH cfg eG.get ei false 149 [.agg (eb.cells a0),.fm (eM pK pK a1) false] h v h∧UC a0 a1 v:=by
 refine eW Ip Lt rfl rfl ?_
 refine aU ?_
 refine aa ?_
 refine e7 (H:=bY.empty) rfl (ic gg) ?_
 rintro _ H2 ⟨b1,rfl,hS3⟩
 refine bX ?_
 have hL4:=a0.signals.lk
 refine fA a0.signals ?_
 refine aP ?_
 have hNk5:=a0.signals.lk
 refine eN (a0.signals.l.length) (fun k5 e h=>∃ l6:List (ed×Bool),∃ H7:bY,(∀ (i:Nat) (h:i<a0.signals.l.length),i<k5→0≤(a0.signals.l[i]).at_.elem∧(a0.signals.l[i]).at_.elem<(a0.elems.l.length:Int)∧0≤(a0.signals.l[i]).at_.en)∧(∀ x:ed,(∃ y,y∈a0.signals.l.take k5∧y.at_=x)→look x l6=some true)∧(∀ (i:Nat) (h:i<a0.signals.l.length),i<k5→∀ y∈a0.signals.l.take i,y.at_≠(a0.signals.l[i]).at_)∧(∀ y∈(l6:List (ed×Bool)),y.2=true)∧Sep H7 (.map (.hm b1) (eM pK bK l6)::[])∧proj [1,2,5,15,16,17] e=[(1,.fm (eM pK pK a1) false),(2,.la 2 0),(5,(.hm b1)),(15,Row.av fe.cells a0.signals),(16,iv (a0.signals.l.length:Int)),(17,iv (k5:Int))]∧{ h with dO:=eV [1,2,5,15,16,17] h.dO } = { H7 with dO:=[(2,(eb.cells a0))] }) ?_ (k0:=0) cB ⟨([]),H2,dM,(by (rintro x ⟨y,h,_⟩; simp at h)),dM,dv,hS3,rfl,rfl⟩
 rintro k5 e h hkk5 ⟨l6,H7,hV,hD,hJ,hT,hS8,he,hh⟩
 refine ff he hh ?_
 clear he hh
 refine aa ?_
 refine fg ((k5:Int)) ((a0.signals.l.length:Int)) (fun h9=>?_) (fun h9=>?_)
 refine ao ?_
 refine wa [(1,.fm (eM pK pK a1) false),(2,.la 2 0),(5,(.hm b1)),(15,Row.av fe.cells a0.signals),(16,iv (a0.signals.l.length:Int)),(17,iv (k5:Int))] H7 [(2,(eb.cells a0))] ?_
 refine bg ?_
 have hx10:k5<a0.signals.l.length:=by omega
 refine gL k5 a0.signals hx10 ?_
 generalize hqx11:a0.signals.l[k5]=x11
 refine aW ?_
 refine aB ?_
 refine oC (t205 a0 x11.at_) ?_
 rintro _ ⟨r13,hc12,rfl⟩
 cases r13
 clear hc12
 refine bH ?_
 exact xA (.bool false) ⟨false,cV,rfl⟩
 have hc12t:=hc12 rfl
 iterate 5 refine oV ?_
 refine ix (H:=H7) (i:=0) (ek:=pK) (ev:=bK) (l:=l6) x11.at_ rfl rfl hS8 rfl rfl rfl rfl rfl rfl rfl rfl gB (fun y14 h15=>?_) (fun h16=>?_)
 cases y14
 exact absurd (hT _ (jt h15)) dv
 refine ai ?_
 exact xA (.bool false) ⟨false,cV,rfl⟩
 refine aw ?_
 refine wa [(1,.fm (eM pK pK a1) false),(2,.la 2 0),(5,(.hm b1)),(7,.la 7 0),(15,Row.av fe.cells a0.signals),(16,iv (a0.signals.l.length:Int)),(17,iv (k5:Int))] H7 [(2,(eb.cells a0)),(7,(fe.cells x11))] ?_
 refine bL ?_
 iterate 5 refine oV ?_
 have hx17:(x11.at_.elem).toNat<a0.elems.l.length:=by omega
 refine eg rfl (fun _=>fE (n:=x11.at_.elem) (r:=a0.elems) (enc:=e8.cells) rfl rfl rfl rfl rfl cB hx17 rfl) ?_
 generalize hqx18:a0.elems.l[(x11.at_.elem).toNat]=x18
 refine aW ?_
 refine aj ?_
 refine gK (x18.kind) (1) (fun h19=>?_) (fun h19=>?_)
 iterate 2 refine oV ?_
 refine gK (x18.kind) (4) (fun h20=>?_) (fun h20=>?_)
 refine ai ?_
 exact xA (.bool false) ⟨false,cV,rfl⟩
 refine aw ?_
 refine wa [(1,.fm (eM pK pK a1) false),(2,.la 2 0),(5,(.hm b1)),(7,.la 7 0),(15,Row.av fe.cells a0.signals),(16,iv (a0.signals.l.length:Int)),(17,iv (k5:Int))] H7 [(2,(eb.cells a0)),(7,(fe.cells x11))] ?_
 refine aF ?_
 refine pT (key:=x11.at_) (l:=a1) (ek:=pK) (ev:=pK) rfl rfl rfl rfl rfl rfl rfl rfl rfl gB (fun y21 h22=>?_) (fun h23=>?_)
 have hvy21:0≤y21.elem∧y21.elem<(a0.elems.l.length:Int):=q1 _ (jt h22)
 refine bD ?_
 iterate 6 refine oV ?_
 have hx24:(y21.elem).toNat<a0.elems.l.length:=by omega
 refine eg rfl (fun _=>fE (n:=y21.elem) (r:=a0.elems) (enc:=e8.cells) rfl rfl rfl rfl rfl cB hx24 rfl) ?_
 generalize hqx25:a0.elems.l[(y21.elem).toNat]=x25
 iterate 2 refine oV ?_
 refine fj (x25.kind) (4) (fun h26=>?_) (fun h26=>?_)
 refine ai ?_
 exact xA (.bool false) ⟨false,cV,rfl⟩
 refine aw ?_
 refine wa [(1,.fm (eM pK pK a1) false),(2,.la 2 0),(5,(.hm b1)),(7,.la 7 0),(15,Row.av fe.cells a0.signals),(16,iv (a0.signals.l.length:Int)),(17,iv (k5:Int))] H7 [(2,(eb.cells a0)),(7,(fe.cells x11))] ?_
 refine aY ?_
 refine e7 (H:=H7) rfl (iR (H:=H7) (i:=0) (ek:=pK) (ev:=bK) (l:=l6) x11.at_ true hS8 rfl rfl rfl rfl rfl rfl gB) ?_
 rintro _ H27 ⟨rfl,hS28⟩
 refine oN ?_
 refine wa [(1,.fm (eM pK pK a1) false),(2,.la 2 0),(5,(.hm b1)),(15,Row.av fe.cells a0.signals),(16,iv (a0.signals.l.length:Int)),(17,iv (k5:Int))] H27 [(2,(eb.cells a0))] ?_
 refine qg ?_
 refine fu ((k5:Int)) (1) ?_
 refine ab ?_
 exact ⟨by omega,((put x11.at_ true l6)),H27,(by exact uQ cC hV cB),(by exact uX cC cC hD),(by exact uS cC cC hD hJ cC),d8,hS28,rfl,rfl⟩
 refine bD ?_
 refine bU ?_
 refine ai ?_
 exact xA (.bool false) ⟨false,cV,rfl⟩
 refine ba ?_
 refine aw ?_
 refine wa [(1,.fm (eM pK pK a1) false),(2,.la 2 0),(5,(.hm b1)),(7,.la 7 0),(15,Row.av fe.cells a0.signals),(16,iv (a0.signals.l.length:Int)),(17,iv (k5:Int))] H7 [(2,(eb.cells a0)),(7,(fe.cells x11))] ?_
 refine aF ?_
 refine pT (key:=x11.at_) (l:=a1) (ek:=pK) (ev:=pK) rfl rfl rfl rfl rfl rfl rfl rfl rfl gB (fun y29 h30=>?_) (fun h31=>?_)
 have hvy29:0≤y29.elem∧y29.elem<(a0.elems.l.length:Int):=q1 _ (jt h30)
 refine bD ?_
 iterate 6 refine oV ?_
 have hx32:(y29.elem).toNat<a0.elems.l.length:=by omega
 refine eg rfl (fun _=>fE (n:=y29.elem) (r:=a0.elems) (enc:=e8.cells) rfl rfl rfl rfl rfl cB hx32 rfl) ?_
 generalize hqx33:a0.elems.l[(y29.elem).toNat]=x33
 iterate 2 refine oV ?_
 refine fj (x33.kind) (4) (fun h34=>?_) (fun h34=>?_)
 refine ai ?_
 exact xA (.bool false) ⟨false,cV,rfl⟩
 refine aw ?_
 refine wa [(1,.fm (eM pK pK a1) false),(2,.la 2 0),(5,(.hm b1)),(7,.la 7 0),(15,Row.av fe.cells a0.signals),(16,iv (a0.signals.l.length:Int)),(17,iv (k5:Int))] H7 [(2,(eb.cells a0)),(7,(fe.cells x11))] ?_
 refine aY ?_
 refine e7 (H:=H7) rfl (iR (H:=H7) (i:=0) (ek:=pK) (ev:=bK) (l:=l6) x11.at_ true hS8 rfl rfl rfl rfl rfl rfl gB) ?_
 rintro _ H35 ⟨rfl,hS36⟩
 refine oN ?_
 refine wa [(1,.fm (eM pK pK a1) false),(2,.la 2 0),(5,(.hm b1)),(15,Row.av fe.cells a0.signals),(16,iv (a0.signals.l.length:Int)),(17,iv (k5:Int))] H35 [(2,(eb.cells a0))] ?_
 refine qg ?_
 refine fu ((k5:Int)) (1) ?_
 refine ab ?_
 exact ⟨by omega,((put x11.at_ true l6)),H35,(by exact uQ cC hV cB),(by exact uX cC cC hD),(by exact uS cC cC hD hJ cC),d8,hS36,rfl,rfl⟩
 refine bD ?_
 refine bU ?_
 refine ai ?_
 exact xA (.bool false) ⟨false,cV,rfl⟩
 refine am ?_
 refine wa [(2,.la 2 0),(5,(.hm b1))] H7 [(2,(eb.cells a0))] ?_
 refine aI ?_
 have hL37:=a0.elems.lk
 refine fA a0.elems ?_
 refine aP ?_
 have hNk38:=a0.elems.lk
 refine eN (a0.elems.l.length) (fun k38 e h=>proj [5,70,71,72] e=[(5,(.hm b1)),(70,Row.av e8.cells a0.elems),(71,iv (a0.elems.l.length:Int)),(72,iv (k38:Int))]∧{ h with dO:=eV [5,70,71,72] h.dO } = { H7 with dO:=[] }) ?_ (k0:=0) cB ⟨rfl,rfl⟩
 rintro k38 e h hkk38 ⟨he,hh⟩
 refine ff he hh ?_
 clear he hh
 refine aa ?_
 refine fg ((k38:Int)) ((a0.elems.l.length:Int)) (fun h39=>?_) (fun h39=>?_)
 refine ao ?_
 refine wa [(5,(.hm b1)),(70,Row.av e8.cells a0.elems),(71,iv (a0.elems.l.length:Int)),(72,iv (k38:Int))] H7 [] ?_
 refine bE ?_
 have hx40:k38<a0.elems.l.length:=by omega
 refine gL k38 a0.elems hx40 ?_
 generalize hqx41:a0.elems.l[k38]=x41
 refine oV ?_
 refine cg ?_
 refine fj (x41.kind) (4) (fun h42=>?_) (fun h42=>?_)
 iterate 4 refine oV ?_
 refine ix (H:=H7) (i:=0) (ek:=pK) (ev:=bK) (l:=l6) ((⟨((k38:Int)),(0)⟩:ed)) rfl rfl hS8 rfl rfl rfl rfl rfl rfl rfl rfl gB (fun y43 h44=>?_) (fun h45=>?_)
 cases y43
 exact absurd (hT _ (jt h44)) dv
 refine bv ?_
 refine wa [(5,(.hm b1)),(70,Row.av e8.cells a0.elems),(71,iv (a0.elems.l.length:Int)),(72,iv (k38:Int))] H7 [] ?_
 refine qg ?_
 refine fu ((k38:Int)) (1) ?_
 refine ab ?_
 exact ⟨by omega,rfl,rfl⟩
 refine a8 ?_
 exact xA (.bool false) ⟨false,cV,rfl⟩
 refine bf ?_
 refine aw ?_
 refine wa [(5,(.hm b1)),(70,Row.av e8.cells a0.elems),(71,iv (a0.elems.l.length:Int)),(72,iv (k38:Int))] H7 [] ?_
 refine qg ?_
 refine fu ((k38:Int)) (1) ?_
 refine ab ?_
 exact ⟨by omega,rfl,rfl⟩
 refine am ?_
 refine wa [] H7 [] ?_
 refine a6 ?_
 exact xA (.bool true) ⟨true,cV,rfl⟩
theorem Lq:eG.get 206=some yS:=by kernel_rfl
theorem Ic:ei 206=none:=by kernel_rfl
def Ul (_a0:Row Int) (_a1:List (ed×ed)) (v:AV):Prop:=∃ r0:Bool,(True)∧v=.bool r0
theorem t206 (a0:Row Int) (a1:List (ed×ed))  (h:bY):∃ v,eH cfg eG.get ei false 206 [Row.av eu a0,.fm (eM pK pK a1) false] h v h∧Ul a0 a1 v:=by
 refine eW Ic Lq rfl rfl ?_
 refine aO ?_
 have hL1:=a0.lk
 refine fA a0 ?_
 refine fg ((a0.l.length:Int)) (2) (fun h2=>?_) (fun h2=>?_)
 refine be ?_
 exact xA (.bool true) ⟨true,trivial,rfl⟩
 refine az ?_
 refine w0 [(0,Row.av eu a0),(1,.fm (eM pK pK a1) false)] [] ?_
 refine aQ ?_
 refine aZ ?_
 refine iC (fun m7 e h=>∃ n3:Int,∃ n4:Int,m7=(n4+1).toNat∧(-1≤n4)∧(n4≤1)∧proj [0,1,5,6] e=[(0,Row.av eu a0),(1,.fm (eM pK pK a1) false),(5,iv n3),(6,iv n4)]∧{ h with dO:=eV [0,1,5,6] h.dO } = { bY.empty with dO:=[] }) ?_ _ _ _ ⟨(-1),(1),rfl,cB,cB,rfl,rfl⟩
 rintro m7 e h ⟨n3,n4,hmm7,hi5,hi6,he,hh⟩
 refine ff he hh ?_
 clear he hh
 refine ak ?_
 refine gV (n4) (0) (fun h8=>?_) (fun h8=>?_)
 refine aX ?_
 refine w0 [(0,Row.av eu a0),(1,.fm (eM pK pK a1) false),(5,iv n3),(6,iv n4)] [] ?_
 refine aA ?_
 refine ae ?_
 have hx9:0<a0.l.length:=by omega
 refine gL 0 a0 hx9 ?_
 generalize hqx10:a0.l[0]=x10
 iterate 3 refine oV ?_
 refine pT (key:=(⟨(x10),(n4)⟩:ed)) (l:=a1) (ek:=pK) (ev:=pK) rfl rfl rfl rfl rfl rfl rfl rfl rfl gB (fun y11 h12=>?_) (fun h13=>?_)
 refine au ?_
 refine bZ ?_
 have hx14:1<a0.l.length:=by omega
 refine jE 1 a0 hx14 ?_
 generalize hqx15:a0.l[1]=x15
 refine rV ?_
 refine kJ (y11.elem) (x15) (fun h16=>?_) (fun h16=>?_)
 refine bG ?_
 refine qg ?_
 refine ah ?_
 refine w0 [(0,Row.av eu a0),(1,.fm (eM pK pK a1) false),(5,iv n4),(6,iv n4)] [] ?_
 refine aM ?_
 refine g7 (n4) (1) ?_
 refine ab ?_
 refine ⟨_,?_,(n4),(n4 - 1),rfl,cB,cB,rfl,rfl⟩
 omega
 refine bu ?_
 refine w0 [(0,Row.av eu a0),(1,.fm (eM pK pK a1) false),(5,iv n3),(6,iv n4)] [] ?_
 refine aM ?_
 refine g7 (n4) (1) ?_
 refine ab ?_
 refine ⟨_,?_,(n3),(n4 - 1),rfl,cB,cB,rfl,rfl⟩
 omega
 refine au ?_
 refine aN ?_
 refine bp ?_
 refine bu ?_
 refine w0 [(0,Row.av eu a0),(1,.fm (eM pK pK a1) false),(5,iv n3),(6,iv n4)] [] ?_
 refine aM ?_
 refine g7 (n4) (1) ?_
 refine ab ?_
 refine ⟨_,?_,(n3),(n4 - 1),rfl,cB,cB,rfl,rfl⟩
 omega
 refine aE ?_
 refine w0 [(0,Row.av eu a0),(1,.fm (eM pK pK a1) false),(5,iv n3)] [] ?_
 refine ak ?_
 refine fg (n3) (0) (fun h17=>?_) (fun h17=>?_)
 refine be ?_
 exact xA (.bool false) ⟨false,trivial,rfl⟩
 refine az ?_
 refine w0 [(0,Row.av eu a0),(1,.fm (eM pK pK a1) false),(5,iv n3)] [] ?_
 refine aZ ?_
 have hNk18:=a0.lk
 refine eN (a0.l.length) (fun k18 e h=>∃ n19:Int,(1≤k18)∧proj [0,1,5,9] e=[(0,Row.av eu a0),(1,.fm (eM pK pK a1) false),(5,iv n19),(9,iv (k18:Int))]∧{ h with dO:=eV [0,1,5,9] h.dO } = { bY.empty with dO:=[] }) ?_ (k0:=1) cB ⟨(n3),cB,rfl,rfl⟩
 rintro k18 e h hkk18 ⟨n19,hw20,he,hh⟩
 refine ff he hh ?_
 clear he hh
 refine aI ?_
 have hL21:=a0.lk
 refine fA a0 ?_
 refine fg ((k18:Int)) ((a0.l.length:Int)) (fun h22=>?_) (fun h22=>?_)
 refine aX ?_
 refine w0 [(0,Row.av eu a0),(1,.fm (eM pK pK a1) false),(5,iv n19),(9,iv (k18:Int))] [] ?_
 refine bT ?_
 refine g7 ((k18:Int)) (1) ?_
 have hx23:((k18:Int) - 1).toNat<a0.l.length:=by omega
 refine eg rfl (fun _=>fE (n:=(k18:Int) - 1) (r:=a0) (enc:=eu) rfl rfl rfl rfl rfl cB hx23 rfl) ?_
 generalize hqx24:a0.l[((k18:Int) - 1).toNat]=x24
 iterate 3 refine oV ?_
 refine pT (key:=(⟨(x24),(n19)⟩:ed)) (l:=a1) (ek:=pK) (ev:=pK) rfl rfl rfl rfl rfl rfl rfl rfl rfl gB (fun y25 h26=>?_) (fun h27=>?_)
 refine au ?_
 refine qs ?_
 refine aN ?_
 iterate 7 refine rV ?_
 have hx28:k18<a0.l.length:=by omega
 refine jE k18 a0 hx28 ?_
 generalize hqx29:a0.l[k18]=x29
 refine rV ?_
 refine sO (y25.elem) (x29) (fun h30=>?_) (fun h30=>?_)
 refine aR ?_
 refine ac ?_
 exact xA (.bool false) ⟨false,trivial,rfl⟩
 refine bu ?_
 refine w0 [(0,Row.av eu a0),(1,.fm (eM pK pK a1) false),(9,iv (k18:Int)),(10,.la 10 0)] [(10,(ed.cells y25))] ?_
 refine br ?_
 refine eg rfl (fun _=>fD rfl rfl rfl (gD .i64 (1) (y25.en))) ?_
 refine ab ?_
 refine w0 [(0,Row.av eu a0),(1,.fm (eM pK pK a1) false),(5,iv (IntKind.i64.wrap (1 - (y25.en)))),(9,iv (k18:Int))] [] ?_
 refine aM ?_
 refine fu ((k18:Int)) (1) ?_
 refine ab ?_
 exact ⟨by omega,(IntKind.i64.wrap (1 - (y25.en))),cB,rfl,rfl⟩
 refine au ?_
 refine qs ?_
 refine bO ?_
 iterate 3 refine rS ?_
 refine bo ?_
 exact xA (.bool false) ⟨false,trivial,rfl⟩
 refine aE ?_
 refine w0 [] [] ?_
 refine a6 ?_
 exact xA (.bool true) ⟨true,trivial,rfl⟩
theorem JA:eG.get 150=some Ac:=by kernel_rfl
theorem Iz:ei 150=none:=by kernel_rfl
def Uz (_a0:eb) (_a1:List (ed×ed)) (v:AV):Prop:=∃ r0:Bool,(True)∧v=.bool r0
theorem t150 (a0:eb) (a1:List (ed×ed))  (h:bY):∃ v,eH cfg eG.get ei false 150 [.agg (eb.cells a0),.fm (eM pK pK a1) false] h v h∧Uz a0 a1 v:=by
 refine eW Iz JA rfl rfl ?_
 refine aU ?_
 refine aa ?_
 refine e7 (H:=bY.empty) rfl (ic gg) ?_
 rintro _ H2 ⟨b1,rfl,hS3⟩
 refine bX ?_
 have hL4:=a0.lines.lk
 refine fA a0.lines ?_
 refine aP ?_
 have hNk5:=a0.lines.lk
 refine eN (a0.lines.l.length) (fun k5 e h=>∃ l6:List (Int×Bool),∃ H7:bY,Sep H7 (.map (.hm b1) (eM iK bK l6)::[])∧proj [1,2,5,12,13,14] e=[(1,.fm (eM pK pK a1) false),(2,.la 2 0),(5,(.hm b1)),(12,Row.av eZ.cells a0.lines),(13,iv (a0.lines.l.length:Int)),(14,iv (k5:Int))]∧{ h with dO:=eV [1,2,5,12,13,14] h.dO } = { H7 with dO:=[(2,(eb.cells a0))] }) ?_ (k0:=0) cB ⟨([]),H2,hS3,rfl,rfl⟩
 rintro k5 e h hkk5 ⟨l6,H7,hS8,he,hh⟩
 refine ff he hh ?_
 clear he hh
 refine aa ?_
 refine fg ((k5:Int)) ((a0.lines.l.length:Int)) (fun h9=>?_) (fun h9=>?_)
 refine ao ?_
 refine wa [(1,.fm (eM pK pK a1) false),(2,.la 2 0),(5,(.hm b1)),(12,Row.av eZ.cells a0.lines),(13,iv (a0.lines.l.length:Int)),(14,iv (k5:Int))] H7 [(2,(eb.cells a0))] ?_
 refine bg ?_
 have hx10:k5<a0.lines.l.length:=by omega
 refine gL k5 a0.lines hx10 ?_
 generalize hqx11:a0.lines.l[k5]=x11
 refine aW ?_
 refine aI ?_
 have hL12:=x11.elems.lk
 refine fA x11.elems ?_
 refine fj ((x11.elems.l.length:Int)) (0) (fun h13=>?_) (fun h13=>?_)
 refine be ?_
 exact xA (.bool false) ⟨false,trivial,rfl⟩
 refine az ?_
 refine wa [(1,.fm (eM pK pK a1) false),(2,.la 2 0),(5,(.hm b1)),(7,.la 7 0),(12,Row.av eZ.cells a0.lines),(13,iv (a0.lines.l.length:Int)),(14,iv (k5:Int))] H7 [(2,(eb.cells a0)),(7,(eZ.cells x11))] ?_
 refine aI ?_
 have hL14:=x11.elems.lk
 refine fA x11.elems ?_
 refine aP ?_
 have hNk15:=x11.elems.lk
 refine eN (x11.elems.l.length) (fun k15 e h=>∃ l16:List (Int×Bool),∃ H17:bY,Sep H17 (.map (.hm b1) (eM iK bK l16)::[])∧proj [1,2,5,7,12,13,14,23,24,25] e=[(1,.fm (eM pK pK a1) false),(2,.la 2 0),(5,(.hm b1)),(7,.la 7 0),(12,Row.av eZ.cells a0.lines),(13,iv (a0.lines.l.length:Int)),(14,iv (k5:Int)),(23,Row.av eu x11.elems),(24,iv (x11.elems.l.length:Int)),(25,iv (k15:Int))]∧{ h with dO:=eV [1,2,5,7,12,13,14,23,24,25] h.dO } = { H17 with dO:=[(2,(eb.cells a0)),(7,(eZ.cells x11))] }) ?_ (k0:=0) cB ⟨(l6),H7,hS8,rfl,rfl⟩
 rintro k15 e h hkk15 ⟨l16,H17,hS18,he,hh⟩
 refine ff he hh ?_
 clear he hh
 refine aa ?_
 refine fg ((k15:Int)) ((x11.elems.l.length:Int)) (fun h19=>?_) (fun h19=>?_)
 refine ao ?_
 refine wa [(1,.fm (eM pK pK a1) false),(2,.la 2 0),(5,(.hm b1)),(7,.la 7 0),(12,Row.av eZ.cells a0.lines),(13,iv (a0.lines.l.length:Int)),(14,iv (k5:Int)),(23,Row.av eu x11.elems),(24,iv (x11.elems.l.length:Int)),(25,iv (k15:Int))] H17 [(2,(eb.cells a0)),(7,(eZ.cells x11))] ?_
 refine bg ?_
 have hx20:k15<x11.elems.l.length:=by omega
 refine gL k15 x11.elems hx20 ?_
 generalize hqx21:x11.elems.l[k15]=x21
 refine ah ?_
 refine ak ?_
 refine fg (x21) (0) (fun h22=>?_) (fun h22=>?_)
 refine bf ?_
 refine aL ?_
 iterate 5 refine oS ?_
 refine bI ?_
 refine ai ?_
 exact xA (.bool false) ⟨false,trivial,rfl⟩
 iterate 4 refine oV ?_
 have hL23:=a0.elems.lk
 refine fA a0.elems ?_
 refine gV (x21) ((a0.elems.l.length:Int)) (fun h24=>?_) (fun h24=>?_)
 refine aL ?_
 iterate 5 refine oS ?_
 refine bI ?_
 refine ai ?_
 exact xA (.bool false) ⟨false,trivial,rfl⟩
 iterate 5 refine oV ?_
 have hx25:(x21).toNat<a0.elems.l.length:=by omega
 refine eg rfl (fun _=>fE (n:=x21) (r:=a0.elems) (enc:=e8.cells) rfl rfl rfl rfl rfl cB hx25 rfl) ?_
 generalize hqx26:a0.elems.l[(x21).toNat]=x26
 iterate 2 refine oV ?_
 refine gK (x26.kind) (1) (fun h27=>?_) (fun h27=>?_)
 refine bI ?_
 refine ai ?_
 exact xA (.bool false) ⟨false,trivial,rfl⟩
 iterate 4 refine oV ?_
 refine ix (H:=H17) (i:=0) (ek:=iK) (ev:=bK) (l:=l16) (x21) rfl rfl hS18 rfl rfl rfl rfl rfl rfl rfl rfl mw (fun y28 h29=>?_) (fun h30=>?_)
 cases y28
 refine aw ?_
 refine wa [(1,.fm (eM pK pK a1) false),(2,.la 2 0),(5,(.hm b1)),(7,.la 7 0),(9,iv x21),(12,Row.av eZ.cells a0.lines),(13,iv (a0.lines.l.length:Int)),(14,iv (k5:Int)),(23,Row.av eu x11.elems),(24,iv (x11.elems.l.length:Int)),(25,iv (k15:Int))] H17 [(2,(eb.cells a0)),(7,(eZ.cells x11))] ?_
 refine br ?_
 refine e7 (H:=H17) rfl (iR (H:=H17) (i:=0) (ek:=iK) (ev:=bK) (l:=l16) (x21) true hS18 rfl rfl rfl rfl rfl rfl mw) ?_
 rintro _ H31 ⟨rfl,hS32⟩
 refine oN ?_
 refine wa [(1,.fm (eM pK pK a1) false),(2,.la 2 0),(5,(.hm b1)),(7,.la 7 0),(12,Row.av eZ.cells a0.lines),(13,iv (a0.lines.l.length:Int)),(14,iv (k5:Int)),(23,Row.av eu x11.elems),(24,iv (x11.elems.l.length:Int)),(25,iv (k15:Int))] H31 [(2,(eb.cells a0)),(7,(eZ.cells x11))] ?_
 refine qg ?_
 refine fu ((k15:Int)) (1) ?_
 refine ab ?_
 exact ⟨by omega,((put (x21) true l16)),H31,hS32,rfl,rfl⟩
 refine ai ?_
 exact xA (.bool false) ⟨false,trivial,rfl⟩
 refine aw ?_
 refine wa [(1,.fm (eM pK pK a1) false),(2,.la 2 0),(5,(.hm b1)),(7,.la 7 0),(9,iv x21),(12,Row.av eZ.cells a0.lines),(13,iv (a0.lines.l.length:Int)),(14,iv (k5:Int)),(23,Row.av eu x11.elems),(24,iv (x11.elems.l.length:Int)),(25,iv (k15:Int))] H17 [(2,(eb.cells a0)),(7,(eZ.cells x11))] ?_
 refine br ?_
 refine e7 (H:=H17) rfl (iR (H:=H17) (i:=0) (ek:=iK) (ev:=bK) (l:=l16) (x21) true hS18 rfl rfl rfl rfl rfl rfl mw) ?_
 rintro _ H33 ⟨rfl,hS34⟩
 refine oN ?_
 refine wa [(1,.fm (eM pK pK a1) false),(2,.la 2 0),(5,(.hm b1)),(7,.la 7 0),(12,Row.av eZ.cells a0.lines),(13,iv (a0.lines.l.length:Int)),(14,iv (k5:Int)),(23,Row.av eu x11.elems),(24,iv (x11.elems.l.length:Int)),(25,iv (k15:Int))] H33 [(2,(eb.cells a0)),(7,(eZ.cells x11))] ?_
 refine qg ?_
 refine fu ((k15:Int)) (1) ?_
 refine ab ?_
 exact ⟨by omega,((put (x21) true l16)),H33,hS34,rfl,rfl⟩
 refine am ?_
 refine wa [(1,.fm (eM pK pK a1) false),(2,.la 2 0),(5,(.hm b1)),(7,.la 7 0),(12,Row.av eZ.cells a0.lines),(13,iv (a0.lines.l.length:Int)),(14,iv (k5:Int))] H17 [(2,(eb.cells a0)),(7,(eZ.cells x11))] ?_
 refine aF ?_
 refine oC (t206 x11.elems a1) ?_
 rintro _ ⟨r36,hc35,rfl⟩
 cases r36
 refine ai ?_
 exact xA (.bool false) ⟨false,trivial,rfl⟩
 refine aw ?_
 refine wa [(1,.fm (eM pK pK a1) false),(2,.la 2 0),(5,(.hm b1)),(12,Row.av eZ.cells a0.lines),(13,iv (a0.lines.l.length:Int)),(14,iv (k5:Int))] H17 [(2,(eb.cells a0))] ?_
 refine qg ?_
 refine fu ((k5:Int)) (1) ?_
 refine ab ?_
 exact ⟨by omega,(l16),H17,hS18,rfl,rfl⟩
 refine am ?_
 refine wa [] H7 [] ?_
 refine a6 ?_
 exact xA (.bool true) ⟨true,trivial,rfl⟩
theorem KF:eG.get 207=some yQ:=by kernel_rfl
theorem HX:ei 207=none:=by kernel_rfl
def TT (_a0:Int) (_a1:Int) (v:AV):Prop:=∃ r0:Int,(True)∧v=iv r0
theorem t207 (a0:Int) (a1:Int)  (h:bY):∃ v,eH cfg eG.get ei false 207 [iv a0,iv a1] h v h∧TT a0 a1 v:=by
 refine eW HX KF rfl rfl ?_
 refine aO ?_
 refine fg (a0) (0) (fun h1=>?_) (fun h1=>?_)
 refine ba ?_
 refine aL ?_
 refine aL ?_
 refine ai ?_
 exact xA (iv 0) ⟨(0),trivial,rfl⟩
 iterate 2 refine oV ?_
 refine fW (a0) (60) (fun h2=>?_) (fun h2=>?_)
 refine aL ?_
 refine aL ?_
 refine ai ?_
 exact xA (iv 0) ⟨(0),trivial,rfl⟩
 iterate 3 refine oV ?_
 refine fg (a1) (1) (fun h3=>?_) (fun h3=>?_)
 refine aL ?_
 refine ai ?_
 exact xA (iv 0) ⟨(0),trivial,rfl⟩
 iterate 3 refine oV ?_
 refine fW (a1) (10) (fun h4=>?_) (fun h4=>?_)
 refine ai ?_
 exact xA (iv 0) ⟨(0),trivial,rfl⟩
 refine aw ?_
 refine w0 [(0,iv a0),(1,iv a1)] [] ?_
 refine aa ?_
 refine bX ?_
 refine g7 (a0) (a1) ?_
 refine aP ?_
 refine iC (fun m9 e h=>∃ n5:Int,∃ n6:Int,m9=(n5+10).toNat∧(-10≤n5)∧(n5≤60)∧proj [0,1,5] e=[(0,iv n5),(1,iv a1),(5,iv n6)]∧{ h with dO:=eV [0,1,5] h.dO } = { bY.empty with dO:=[] }) ?_ _ _ _ ⟨(a0 - a1),(0),rfl,cB,cB,rfl,rfl⟩
 rintro m9 e h ⟨n5,n6,hmm9,hi7,hi8,he,hh⟩
 refine ff he hh ?_
 clear he hh
 refine ak ?_
 refine fW (n5) (0) (fun h10=>?_) (fun h10=>?_)
 refine aX ?_
 refine w0 [(0,iv n5),(1,iv a1),(5,iv n6)] [] ?_
 refine aA ?_
 refine br ?_
 refine eg rfl (fun _=>fD rfl rfl rfl (mZ .i64 (n6) (n5))) ?_
 refine ab ?_
 refine w0 [(0,iv n5),(1,iv a1),(5,iv (IntKind.i64.wrap (n6+(n5))))] [] ?_
 refine br ?_
 refine g7 (n5) (a1) ?_
 refine ab ?_
 refine ⟨_,?_,(n5 - a1),(IntKind.i64.wrap (n6+(n5))),rfl,cB,cB,rfl,rfl⟩
 omega
 refine aE ?_
 refine w0 [(5,iv n6)] [] ?_
 refine a9 ?_
 exact xA (iv n6) ⟨(n6),trivial,rfl⟩
theorem Ll:eG.get 151=some zd:=by kernel_rfl
theorem Hw:ei 151=none:=by kernel_rfl
def Ti (_a0:eb) (v:AV):Prop:=∃ r0:Bool,(True)∧v=.bool r0
theorem t151 (a0:eb) (q1:(∀ s∈a0.signals.l,0≤s.at_.elem∧s.at_.elem<(a0.elems.l.length:Int)∧0≤s.at_.en)) (h:bY):∃ v,eH cfg eG.get ei false 151 [.agg (eb.cells a0)] h v h∧Ti a0 v:=by
 refine eW Hw Ll rfl rfl ?_
 refine aU ?_
 refine qs ?_
 refine aN ?_
 iterate 8 refine rV ?_
 refine rC (t207 (a0.top) (a0.gd)) ?_
 rintro _ ⟨r2,hc1,rfl⟩
 refine eI rfl rfl (fun _=>fD rfl rfl rfl (mZ .i64 (a0.top) (r2))) ?_
 refine j8 (a0.fQ) (IntKind.i64.wrap (a0.top+(r2))) (fun h3=>?_) (fun h3=>?_)
 refine rN ?_
 refine ac ?_
 exact xA (.bool false) ⟨false,trivial,rfl⟩
 refine bV ?_
 refine w0 [(1,.la 1 0)] [(1,(eb.cells a0))] ?_
 refine aI ?_
 have hL4:=a0.signals.lk
 refine fA a0.signals ?_
 refine aP ?_
 have hNk5:=a0.signals.lk
 refine eN (a0.signals.l.length) (fun k5 e h=>proj [1,20,21,22] e=[(1,.la 1 0),(20,Row.av fe.cells a0.signals),(21,iv (a0.signals.l.length:Int)),(22,iv (k5:Int))]∧{ h with dO:=eV [1,20,21,22] h.dO } = { bY.empty with dO:=[(1,(eb.cells a0))] }) ?_ (k0:=0) cB ⟨rfl,rfl⟩
 rintro k5 e h hkk5 ⟨he,hh⟩
 refine ff he hh ?_
 clear he hh
 refine aa ?_
 refine fg ((k5:Int)) ((a0.signals.l.length:Int)) (fun h6=>?_) (fun h6=>?_)
 refine ao ?_
 refine w0 [(1,.la 1 0),(20,Row.av fe.cells a0.signals),(21,iv (a0.signals.l.length:Int)),(22,iv (k5:Int))] [(1,(eb.cells a0))] ?_
 refine bg ?_
 have hx7:k5<a0.signals.l.length:=by omega
 refine gL k5 a0.signals hx7 ?_
 generalize hqx8:a0.signals.l[k5]=x8
 have hinx8:x8∈a0.signals.l:=by rw [← hqx8]; exact List.getElem_mem _
 have hsx8:=q1 x8 hinx8
 refine cg ?_
 iterate 3 refine oV ?_
 have hx9:(x8.at_.elem).toNat<a0.elems.l.length:=by omega
 refine eg rfl (fun _=>fE (n:=x8.at_.elem) (r:=a0.elems) (enc:=e8.cells) rfl rfl rfl rfl rfl cB hx9 rfl) ?_
 generalize hqx10:a0.elems.l[(x8.at_.elem).toNat]=x10
 refine cg ?_
 refine fj (x10.kind) (1) (fun h11=>?_) (fun h11=>?_)
 iterate 5 refine oV ?_
 refine fg (x10.len) (a0.fQ) (fun h12=>?_) (fun h12=>?_)
 refine ai ?_
 exact xA (.bool false) ⟨false,trivial,rfl⟩
 refine aw ?_
 refine w0 [(1,.la 1 0),(20,Row.av fe.cells a0.signals),(21,iv (a0.signals.l.length:Int)),(22,iv (k5:Int))] [(1,(eb.cells a0))] ?_
 refine qg ?_
 refine fu ((k5:Int)) (1) ?_
 refine ab ?_
 exact ⟨by omega,rfl,rfl⟩
 refine bf ?_
 refine aw ?_
 refine w0 [(1,.la 1 0),(20,Row.av fe.cells a0.signals),(21,iv (a0.signals.l.length:Int)),(22,iv (k5:Int))] [(1,(eb.cells a0))] ?_
 refine qg ?_
 refine fu ((k5:Int)) (1) ?_
 refine ab ?_
 exact ⟨by omega,rfl,rfl⟩
 refine am ?_
 refine w0 [(1,.la 1 0)] [(1,(eb.cells a0))] ?_
 refine aI ?_
 have hL13:=a0.elems.lk
 refine fA a0.elems ?_
 refine aP ?_
 have hNk14:=a0.elems.lk
 refine eN (a0.elems.l.length) (fun k14 e h=>proj [1,45,46,47] e=[(1,.la 1 0),(45,Row.av e8.cells a0.elems),(46,iv (a0.elems.l.length:Int)),(47,iv (k14:Int))]∧{ h with dO:=eV [1,45,46,47] h.dO } = { bY.empty with dO:=[(1,(eb.cells a0))] }) ?_ (k0:=0) cB ⟨rfl,rfl⟩
 rintro k14 e h hkk14 ⟨he,hh⟩
 refine ff he hh ?_
 clear he hh
 refine aa ?_
 refine fg ((k14:Int)) ((a0.elems.l.length:Int)) (fun h15=>?_) (fun h15=>?_)
 refine ao ?_
 refine w0 [(1,.la 1 0),(45,Row.av e8.cells a0.elems),(46,iv (a0.elems.l.length:Int)),(47,iv (k14:Int))] [(1,(eb.cells a0))] ?_
 refine bg ?_
 have hx16:k14<a0.elems.l.length:=by omega
 refine gL k14 a0.elems hx16 ?_
 generalize hqx17:a0.elems.l[k14]=x17
 refine cg ?_
 refine gK (x17.kind) (4) (fun h18=>?_) (fun h18=>?_)
 iterate 5 refine oV ?_
 refine fg (x17.len) (a0.top) (fun h19=>?_) (fun h19=>?_)
 refine ai ?_
 exact xA (.bool false) ⟨false,trivial,rfl⟩
 refine aw ?_
 refine w0 [(1,.la 1 0),(45,Row.av e8.cells a0.elems),(46,iv (a0.elems.l.length:Int)),(47,iv (k14:Int))] [(1,(eb.cells a0))] ?_
 refine qg ?_
 refine fu ((k14:Int)) (1) ?_
 refine ab ?_
 exact ⟨by omega,rfl,rfl⟩
 refine bf ?_
 refine aw ?_
 refine w0 [(1,.la 1 0),(45,Row.av e8.cells a0.elems),(46,iv (a0.elems.l.length:Int)),(47,iv (k14:Int))] [(1,(eb.cells a0))] ?_
 refine qg ?_
 refine fu ((k14:Int)) (1) ?_
 refine ab ?_
 exact ⟨by omega,rfl,rfl⟩
 refine am ?_
 refine w0 [] [] ?_
 refine a6 ?_
 exact xA (.bool true) ⟨true,trivial,rfl⟩
theorem Ml:eG.get 89=some C5:=by kernel_rfl
theorem J6:ei 89=none:=by kernel_rfl
def Wa (_a0:eb) (v:AV):Prop:=∃ r0:Int,((r0=0→rY _a0.eT.l∧nR _a0.signals.l∧(∀ s∈_a0.signals.l,0≤s.at_.elem∧s.at_.elem<(_a0.elems.l.length:Int)∧0≤s.at_.en)∧_a0.elems.l.length≤40∧_a0.signals.l.length≤24∧_a0.eT.l.length≤80))∧v=iv r0
theorem t89 (a0:eb)  (h:bY):∃ v,eH cfg eG.get ei false 89 [.agg (eb.cells a0)] h v h∧Wa a0 v:=by
 refine eW J6 Ml rfl rfl ?_
 refine aa ?_
 refine e7 (H:=bY.empty) rfl (mr gg rfl rfl rfl rfl rfl) ?_
 rintro _ H2 ⟨b1,rfl,hS3⟩
 refine ab ?_
 refine bL ?_
 refine eg rfl (fun _=>fq (H:=H2) (i:=0) hS3 rfl rfl rfl rfl rfl) ?_
 refine eg rfl (fun _=>eU (H:=H2) (i:=0) (o:=0) (r:=Row.av e8.cells a0.elems) hS3 rfl rfl rfl rfl) ?_
 have hL4:=a0.elems.lk
 refine fA a0.elems ?_
 refine fW ((a0.elems.l.length:Int)) (40) (fun h5=>?_) (fun h5=>?_)
 refine bk ?_
 refine aJ ?_
 refine bH ?_
 exact xA (iv 3) ⟨(3),cE,rfl⟩
 refine oV ?_
 refine eg rfl (fun _=>fq (H:=H2) (i:=0) hS3 rfl rfl rfl rfl rfl) ?_
 refine eg rfl (fun _=>eU (H:=H2) (i:=0) (o:=2) (r:=Row.av fe.cells a0.signals) hS3 rfl rfl rfl rfl) ?_
 have hL6:=a0.signals.lk
 refine fA a0.signals ?_
 refine fW ((a0.signals.l.length:Int)) (24) (fun h7=>?_) (fun h7=>?_)
 refine aJ ?_
 refine bH ?_
 exact xA (iv 3) ⟨(3),cE,rfl⟩
 iterate 2 refine oV ?_
 refine eg rfl (fun _=>fq (H:=H2) (i:=0) hS3 rfl rfl rfl rfl rfl) ?_
 refine eg rfl (fun _=>eU (H:=H2) (i:=0) (o:=3) (r:=Row.av eZ.cells a0.lines) hS3 rfl rfl rfl rfl) ?_
 have hL8:=a0.lines.lk
 refine fA a0.lines ?_
 refine fW ((a0.lines.l.length:Int)) (4) (fun h9=>?_) (fun h9=>?_)
 refine bH ?_
 exact xA (iv 3) ⟨(3),cE,rfl⟩
 iterate 2 refine oV ?_
 refine eg rfl (fun _=>fq (H:=H2) (i:=0) hS3 rfl rfl rfl rfl rfl) ?_
 refine eg rfl (fun _=>eU (H:=H2) (i:=0) (o:=1) (r:=Row.av fo.cells a0.eT) hS3 rfl rfl rfl rfl) ?_
 have hL10:=a0.eT.lk
 refine fA a0.eT ?_
 refine fW ((a0.eT.l.length:Int)) (80) (fun h11=>?_) (fun h11=>?_)
 refine ai ?_
 exact xA (iv 3) ⟨(3),cE,rfl⟩
 refine aw ?_
 refine wa [(1,(.ptr b1 0 0 0))] H2 [] ?_
 refine bL ?_
 refine eg rfl (fun _=>eU (H:=H2) (i:=0) (o:=0) (r:=.agg (eb.cells a0)) hS3 rfl rfl rfl rfl) ?_
 refine oC (t143 a0) ?_
 rintro _ ⟨r13,hc12,rfl⟩
 cases r13
 refine ai ?_
 exact xA (iv 1) ⟨(1),cE,rfl⟩
 refine aw ?_
 refine wa [(1,(.ptr b1 0 0 0))] H2 [] ?_
 refine bL ?_
 refine eg rfl (fun _=>fq (H:=H2) (i:=0) hS3 rfl rfl rfl rfl rfl) ?_
 refine eg rfl (fun _=>eU (H:=H2) (i:=0) (o:=0) (r:=Row.av e8.cells a0.elems) hS3 rfl rfl rfl rfl) ?_
 have hL14:=a0.elems.lk
 refine fA a0.elems ?_
 refine eg rfl (fun _=>qn rfl rfl (qo rfl rfl)) ?_
 have hS15:Sep H2 (.obj (.ptr b1 0 0 0) (eb.cells a0)::[]):=Sep.pick hS3 [0] 1 cG cG
 refine fU (H:=H2) (args:=[iv (a0.elems.l.length:Int),.fz 145 [] [(.ptr b1 0 0 0)]]) (p:=[]) (r:=[]) rfl rfl rfl rfl rfl rfl rfl (BI ((a0.elems.l.length:Int)) b1 a0 ([]) hS15 cq) ?_
 rintro _ H16 ⟨r19,hc18,hS17,rfl⟩
 cases r19
 refine oV ?_
 refine eg rfl (fun _=>fq (H:=H16) (i:=0) hS17 rfl rfl rfl rfl rfl) ?_
 refine eg rfl (fun _=>eU (H:=H16) (i:=0) (o:=2) (r:=Row.av fe.cells a0.signals) hS17 rfl rfl rfl rfl) ?_
 have hL20:=a0.signals.lk
 refine fA a0.signals ?_
 refine eg rfl (fun _=>qn rfl rfl (qo rfl rfl)) ?_
 have hS21:Sep H16 (.obj (.ptr b1 0 0 0) (eb.cells a0)::[]):=Sep.pick hS17 [0] 1 cG cG
 refine fU (H:=H16) (args:=[iv (a0.signals.l.length:Int),.fz 146 [] [(.ptr b1 0 0 0)]]) (p:=[]) (r:=[]) rfl rfl rfl rfl rfl rfl rfl (BS ((a0.signals.l.length:Int)) b1 a0 ([]) hS21 cq) ?_
 rintro _ H22 ⟨r25,hc24,hS23,rfl⟩
 cases r25
 iterate 2 refine oV ?_
 refine eg rfl (fun _=>fq (H:=H22) (i:=0) hS23 rfl rfl rfl rfl rfl) ?_
 refine eg rfl (fun _=>eU (H:=H22) (i:=0) (o:=3) (r:=Row.av eZ.cells a0.lines) hS23 rfl rfl rfl rfl) ?_
 have hL26:=a0.lines.lk
 refine fA a0.lines ?_
 refine eg rfl (fun _=>qn rfl rfl (qo rfl rfl)) ?_
 have hS27:Sep H22 (.obj (.ptr b1 0 0 0) (eb.cells a0)::[]):=Sep.pick hS23 [0] 1 cG cG
 refine fU (H:=H22) (args:=[iv (a0.lines.l.length:Int),.fz 147 [] [(.ptr b1 0 0 0)]]) (p:=[]) (r:=[]) rfl rfl rfl rfl rfl rfl rfl (B7 ((a0.lines.l.length:Int)) b1 a0 ([]) hS27 cq) ?_
 rintro _ H28 ⟨r31,hc30,hS29,rfl⟩
 cases r31
 refine aw ?_
 refine wa [(1,(.ptr b1 0 0 0))] H28 [] ?_
 refine aa ?_
 refine eg rfl (fun _=>eU (H:=H28) (i:=0) (o:=0) (r:=.agg (eb.cells a0)) hS29 rfl rfl rfl rfl) ?_
 refine oC (t148 a0) ?_
 rintro _ (⟨r33,hc32,rfl⟩ | ⟨hc32,rfl⟩)
 have hPre:=hc32.1; have hC148:=hc32.2
 refine bl ?_
 refine aA ?_
 refine ae ?_
 refine aS ?_
 refine eg rfl (fun _=>eU (H:=H28) (i:=0) (o:=0) (r:=.agg (eb.cells a0)) hS29 rfl rfl rfl rfl) ?_
 refine oV ?_
 refine oC (t149 a0 r33 cq) ?_
 rintro _ ⟨r35,hc34,rfl⟩
 cases r35
 clear hc34
 refine a8 ?_
 exact xA (iv 7) ⟨(7),cE,rfl⟩
 have hc34t:=hc34 rfl
 have hPre:=hc34t.1; have hD149:=hc34t.2
 refine oV ?_
 refine aS ?_
 refine eg rfl (fun _=>eU (H:=H28) (i:=0) (o:=0) (r:=.agg (eb.cells a0)) hS29 rfl rfl rfl rfl) ?_
 refine oV ?_
 refine oC (t150 a0 r33) ?_
 rintro _ ⟨r37,hc36,rfl⟩
 cases r37
 refine a8 ?_
 exact xA (iv 8) ⟨(8),cE,rfl⟩
 refine oV ?_
 refine aS ?_
 refine eg rfl (fun _=>eU (H:=H28) (i:=0) (o:=0) (r:=.agg (eb.cells a0)) hS29 rfl rfl rfl rfl) ?_
 refine oC (t151 a0 cq) ?_
 rintro _ ⟨r39,hc38,rfl⟩
 cases r39
 refine a8 ?_
 exact xA (iv 9) ⟨(9),cE,rfl⟩
 refine bv ?_
 refine wa [] H28 [] ?_
 refine a6 ?_
 exact xA (iv 0) ⟨(0),cE,rfl⟩
 refine bl ?_
 refine bE ?_
 refine a8 ?_
 exact xA (iv 6) ⟨(6),cE,rfl⟩
 refine ai ?_
 exact xA (iv 4) ⟨(4),cE,rfl⟩
 refine b5 ?_
 exact xA (iv 4) ⟨(4),cE,rfl⟩
 refine bf ?_
 refine b5 ?_
 exact xA (iv 4) ⟨(4),cE,rfl⟩
theorem K5:eG.get 115=some Ad:=by kernel_rfl
theorem Hx:ei 115=none:=by kernel_rfl
def UE (_a0:eR Int) (v:AV):Prop:=∃ r0:Row Int,(r0.l = _a0.l)∧v=Row.av eu r0
theorem t115 (a0:eR Int) (q1:a0.l.length≤1000) (h:bY):∃ v,eH cfg eG.get ei false 115 [eR.av eu a0] h v h∧UE a0 v:=by
 refine eW Hx K5 rfl rfl ?_
 refine aO ?_
 refine gH (b:=a0.isNil) rfl (fun _=>lE rfl rfl rfl rfl) (fun h1=>?_) (fun h1=>?_)
 refine be ?_
 exact xF (.sl [] .nil) ⟨(⟨[],.nil,Nat.zero_le _,rfl,fun _=>rfl⟩:Row Int),cT,rfl⟩
 refine az ?_
 refine w0 [(0,eR.av eu a0)] [] ?_
 refine ae ?_
 have hS2:=Sep.nH gg 1
 refine e7 (H:=bY.empty) rfl (fX (H:=bY.empty) (i:=0) (l:=([]:List Int)) (enc:=eu) a0.l hS2 rfl rfl rfl rfl rfl rfl rfl rfl rfl (fun _=>rfl) (.inl rfl) cF (fun _=>rfl)) ?_
 rintro v3 H4 hS5
 refine ag ?_
 obtain ⟨r6,hl7,hf8⟩:=gQ (H:=H4) (i:=0) (l:=(([]:List Int)++a0.l)) (enc:=eu) hS5 rfl cz
 have hlq:=hl7; have hln10:=congrArg List.length hl7
 have hz9:∀ m,freeze false { H4 with dO:=[] } (m+2) v3=some (Row.av eu r6):=fun m=>hf8 _ _ (fun _=>rfl)
 exact ⟨v3,(ia (vs:=[v3]) rfl (eJ (Sep.arg (i:=0) hS5 rfl) fG)),Row.av eu r6,(show freeze false { H4 with dO:=[] } 8 v3=some (Row.av eu r6) by simp only [FZ,hz9]),r6,cT,rfl⟩
theorem Kl:eG.get 152=some za:=by kernel_rfl
theorem HQ:ei 152=none:=by kernel_rfl
def U3 (_a0:eR e8) (v:AV):Prop:=∃ r0:Row e8,(r0.l = _a0.l)∧v=Row.av e8.cells r0
theorem t152 (a0:eR e8) (q1:a0.l.length≤1000) (h:bY):∃ v,eH cfg eG.get ei false 152 [eR.av e8.cells a0] h v h∧U3 a0 v:=by
 refine eW HQ Kl rfl rfl ?_
 refine aO ?_
 refine gH (b:=a0.isNil) rfl (fun _=>lE rfl rfl rfl rfl) (fun h1=>?_) (fun h1=>?_)
 refine be ?_
 exact xF (.sl [] .nil) ⟨(⟨[],.nil,Nat.zero_le _,rfl,fun _=>rfl⟩:Row e8),cT,rfl⟩
 refine az ?_
 refine w0 [(0,eR.av e8.cells a0)] [] ?_
 refine ae ?_
 have hS2:=Sep.nH gg 3
 refine e7 (H:=bY.empty) rfl (fX (H:=bY.empty) (i:=0) (l:=([]:List e8)) (enc:=e8.cells) a0.l hS2 rfl rfl rfl rfl rfl rfl rfl rfl rfl (fun _=>rfl) (.inl rfl) cF (fun _=>rfl)) ?_
 rintro v3 H4 hS5
 refine ag ?_
 obtain ⟨r6,hl7,hf8⟩:=gQ (H:=H4) (i:=0) (l:=(([]:List e8)++a0.l)) (enc:=e8.cells) hS5 rfl cz
 have hlq:=hl7; have hln10:=congrArg List.length hl7
 have hz9:∀ m,freeze false { H4 with dO:=[] } (m+2) v3=some (Row.av e8.cells r6):=fun m=>hf8 _ _ (fun _=>rfl)
 exact ⟨v3,(ia (vs:=[v3]) rfl (eJ (Sep.arg (i:=0) hS5 rfl) fG)),Row.av e8.cells r6,(show freeze false { H4 with dO:=[] } 8 v3=some (Row.av e8.cells r6) by simp only [FZ,hz9]),r6,cT,rfl⟩
theorem IP:eG.get 153=some zE:=by kernel_rfl
theorem Iq:ei 153=none:=by kernel_rfl
def UM (_a0:eR fo) (v:AV):Prop:=∃ r0:Row fo,(r0.l = _a0.l)∧v=Row.av fo.cells r0
theorem t153 (a0:eR fo) (q1:a0.l.length≤1000) (h:bY):∃ v,eH cfg eG.get ei false 153 [eR.av fo.cells a0] h v h∧UM a0 v:=by
 refine eW Iq IP rfl rfl ?_
 refine aO ?_
 refine gH (b:=a0.isNil) rfl (fun _=>lE rfl rfl rfl rfl) (fun h1=>?_) (fun h1=>?_)
 refine be ?_
 exact xF (.sl [] .nil) ⟨(⟨[],.nil,Nat.zero_le _,rfl,fun _=>rfl⟩:Row fo),cT,rfl⟩
 refine az ?_
 refine w0 [(0,eR.av fo.cells a0)] [] ?_
 refine ae ?_
 have hS2:=Sep.nH gg 4
 refine e7 (H:=bY.empty) rfl (fX (H:=bY.empty) (i:=0) (l:=([]:List fo)) (enc:=fo.cells) a0.l hS2 rfl rfl rfl rfl rfl rfl rfl rfl rfl (fun _=>rfl) (.inl rfl) cF (fun _=>rfl)) ?_
 rintro v3 H4 hS5
 refine ag ?_
 obtain ⟨r6,hl7,hf8⟩:=gQ (H:=H4) (i:=0) (l:=(([]:List fo)++a0.l)) (enc:=fo.cells) hS5 rfl cz
 have hlq:=hl7; have hln10:=congrArg List.length hl7
 have hz9:∀ m,freeze false { H4 with dO:=[] } (m+2) v3=some (Row.av fo.cells r6):=fun m=>hf8 _ _ (fun _=>rfl)
 exact ⟨v3,(ia (vs:=[v3]) rfl (eJ (Sep.arg (i:=0) hS5 rfl) fG)),Row.av fo.cells r6,(show freeze false { H4 with dO:=[] } 8 v3=some (Row.av fo.cells r6) by simp only [FZ,hz9]),r6,cT,rfl⟩
theorem IM:eG.get 154=some zP:=by kernel_rfl
theorem HM:ei 154=none:=by kernel_rfl
def TG (_a0:eR fe) (v:AV):Prop:=∃ r0:Row fe,(r0.l = _a0.l)∧v=Row.av fe.cells r0
theorem t154 (a0:eR fe) (q1:a0.l.length≤1000) (h:bY):∃ v,eH cfg eG.get ei false 154 [eR.av fe.cells a0] h v h∧TG a0 v:=by
 refine eW HM IM rfl rfl ?_
 refine aO ?_
 refine gH (b:=a0.isNil) rfl (fun _=>lE rfl rfl rfl rfl) (fun h1=>?_) (fun h1=>?_)
 refine be ?_
 exact xF (.sl [] .nil) ⟨(⟨[],.nil,Nat.zero_le _,rfl,fun _=>rfl⟩:Row fe),cT,rfl⟩
 refine az ?_
 refine w0 [(0,eR.av fe.cells a0)] [] ?_
 refine ae ?_
 have hS2:=Sep.nH gg 4
 refine e7 (H:=bY.empty) rfl (fX (H:=bY.empty) (i:=0) (l:=([]:List fe)) (enc:=fe.cells) a0.l hS2 rfl rfl rfl rfl rfl rfl rfl rfl rfl (fun _=>rfl) (.inl rfl) cF (fun _=>rfl)) ?_
 rintro v3 H4 hS5
 refine ag ?_
 obtain ⟨r6,hl7,hf8⟩:=gQ (H:=H4) (i:=0) (l:=(([]:List fe)++a0.l)) (enc:=fe.cells) hS5 rfl cz
 have hlq:=hl7; have hln10:=congrArg List.length hl7
 have hz9:∀ m,freeze false { H4 with dO:=[] } (m+2) v3=some (Row.av fe.cells r6):=fun m=>hf8 _ _ (fun _=>rfl)
 exact ⟨v3,(ia (vs:=[v3]) rfl (eJ (Sep.arg (i:=0) hS5 rfl) fG)),Row.av fe.cells r6,(show freeze false { H4 with dO:=[] } 8 v3=some (Row.av fe.cells r6) by simp only [FZ,hz9]),r6,cT,rfl⟩
theorem IY:eG.get 155=some Ap:=by kernel_rfl
theorem Iy:ei 155=none:=by kernel_rfl
theorem To {H:bY} (a0:eR eZ) (F:List gn) (hS:Sep H (F)) (q1:a0.l.length≤1000):∃ v H',eH cfg eG.get ei true 155 [eR.av eZ.cells a0] { H with dO:=[] } v H'∧(∃ ov:AV,∃ ol:List eZ,(ol=a0.l)∧Sep H' (.sl true true ov 2 (List.map eZ.cells ol)::F)∧v=ov):=by
 refine gF Iy IY rfl ?_
 refine aO ?_
 refine gH (b:=a0.isNil) rfl (fun _=>lE rfl rfl rfl rfl) (fun h1=>?_) (fun h1=>?_)
 refine be ?_
 have hS2:=Sep.iF hS 2
 have hS3:Sep H (.sl true true (.sl [] .nil) 2 (List.map eZ.cells ([]:List eZ))::F):=Sep.pick hS2 [0] 1 cG cG
 exact ⟨(.sl [] .nil),rfl,(.sl [] .nil),([]:List eZ),dZ,Sep.dO hS3 _,rfl⟩
 refine az ?_
 refine wa [(0,eR.av eZ.cells a0)] H [] ?_
 refine ae ?_
 have hS4:=Sep.nH hS 2
 refine e7 (H:=H) rfl (fX (H:=H) (i:=0) (l:=([]:List eZ)) (enc:=eZ.cells) a0.l hS4 rfl rfl rfl rfl rfl rfl rfl rfl rfl (fun _=>rfl) (.inl rfl) cF (fun _=>rfl)) ?_
 rintro v5 H6 hS7
 refine ag ?_
 have hS8:Sep H6 (.sl true true v5 2 (List.map eZ.cells (([]:List eZ)++a0.l))::F):=Sep.pick hS7 [0] 1 cG cG
 exact ⟨v5,(ia (vs:=[v5]) rfl (eJ (Sep.arg (i:=0) hS7 rfl) fG)),v5,(([]:List eZ)++a0.l),dZ,Sep.dO hS8 _,rfl⟩
theorem Nd:eG.get 90=some CU:=by kernel_rfl
theorem KS:ei 90=none:=by kernel_rfl
def Wm (_a0:eb) (v:AV):Prop:=∃ r0:eb,(r0.elems.l = _a0.elems.l∧r0.eT.l = _a0.eT.l∧r0.signals.l = _a0.signals.l∧r0.lines.l.length = _a0.lines.l.length∧∀ x∈r0.lines.l,x.elems.l.length≤60)∧v=.agg (eb.cells r0)
theorem t90 (a0:eb) (q1:iY a0) (h:bY):∃ v,eH cfg eG.get ei false 90 [.agg (eb.cells a0)] h v h∧Wm a0 v:=by
 refine eW KS Nd rfl rfl ?_
 have q2:=q1.elems; have q3:=q1.eT; have q4:=q1.signals; have q5:=q1.lines
 refine aU ?_
 refine bi ?_
 refine rC (t152 (Row.iV a0.elems) cq) ?_
 rintro _ ⟨r2,hc1,rfl⟩
 iterate 2 refine rV ?_
 refine rC (t153 (Row.iV a0.eT) cq) ?_
 rintro _ ⟨r4,hc3,rfl⟩
 iterate 2 refine rV ?_
 refine rC (t154 (Row.iV a0.signals) cq) ?_
 rintro _ ⟨r6,hc5,rfl⟩
 refine bc ?_
 refine ae ?_
 refine fU (H:=bY.empty) (args:=[Row.av eZ.cells a0.lines]) (p:=[]) (r:=[]) rfl rfl rfl rfl rfl rfl rfl (To (Row.iV a0.lines) ([]) gg cq) ?_
 rintro ov11 H8 ⟨_,ol12,hc10,hS9,rfl⟩
 have hqF:ol12.length=(Row.iV a0.lines).l.length:=by rw [hc10]
 simp only [Row.iV] at hqF
 refine oV ?_
 refine eg rfl (fun _=>sj rfl rfl rfl (iJ rfl rfl (Sep.cell (i:=0) hS9 rfl)) (eJ (Sep.cell (i:=0) hS9 rfl) fG) rfl rfl) ?_
 refine oN ?_
 refine aI ?_
 refine eg rfl (fun _=>jb (H:=H8) (i:=0) (l:=ol12) (enc:=eZ.cells) hS9 rfl rfl rfl rfl rfl rfl rfl) ?_
 refine aP ?_
 refine eN (ol12.length) (fun k13 e h=>∃ v14:AV,∃ l15:List eZ,∃ H16:bY,(l15.length=a0.lines.l.length)∧(∀ x∈l15,x.elems.l.length≤60)∧Sep H16 (.sl true true v14 2 (List.map eZ.cells l15)::[])∧proj [1,2,22,23] e=[(1,.la 1 0),(2,.la 2 0),(22,iv (ol12.length:Int)),(23,iv (k13:Int))]∧{ h with dO:=eV [1,2,22,23] h.dO } = { H16 with dO:=[(1,[Row.av e8.cells r2,Row.av fo.cells r4,Row.av fe.cells r6,v14,iv a0.top,iv a0.gd,iv a0.fQ,iv a0.ga,.bool a0.gT]),(2,[.sl [] .nil,.sl [] .nil,.sl [] .nil,.sl [] .nil,iv 0,iv 0,iv 0,iv 0,.bool false])] }) ?_ (k0:=0) cB ⟨(ov11),(ol12),H8,(by (simp_all [Row.iV])),(by (intro x hx; exact q1.line x (by simp_all [Row.iV]))),hS9,rfl,rfl⟩
 rintro k13 e h hkk13 ⟨v14,l15,H16,hL,hE,hS17,he,hh⟩
 refine ff he hh ?_
 clear he hh
 refine aa ?_
 refine fg ((k13:Int)) ((ol12.length:Int)) (fun h18=>?_) (fun h18=>?_)
 refine ao ?_
 refine wa [(1,.la 1 0),(2,.la 2 0),(22,iv (ol12.length:Int)),(23,iv (k13:Int))] H16 [(1,[Row.av e8.cells r2,Row.av fo.cells r4,Row.av fe.cells r6,v14,iv a0.top,iv a0.gd,iv a0.fQ,iv a0.ga,.bool a0.gT]),(2,[.sl [] .nil,.sl [] .nil,.sl [] .nil,.sl [] .nil,iv 0,iv 0,iv 0,iv 0,.bool false])] ?_
 refine bS ?_
 refine qd ?_
 iterate 6 refine rV ?_
 have hx19:k13<l15.length:=by first | omega | (simp<;>omega) | (simp_all; omega)
 obtain ⟨x20,hqx20⟩:∃ x,l15[k13]=x:=⟨_,rfl⟩
 have hinx20:x20∈l15:=by rw [← hqx20]; exact List.getElem_mem _
 have hsx20:=hE _ hinx20
 refine ki rfl rfl (je (H:=H16) (i:=0) (m:=k13) (cs:=eZ.cells x20) hS17 rfl rfl rfl rfl rfl rfl rfl (g9 hx19 hqx20)) ?_
 rintro a21 ⟨ha22,hea23⟩
 refine eI rfl rfl (fun _=>EA.Hh hea23 rfl rfl rfl ha22) ?_
 refine eI rfl rfl (fun _=>kB (H:=H16) (i:=0) (m:=k13) (o:=1) (r:=Row.av eu x20.elems) (cs:=eZ.cells x20) hS17 rfl (g9 hx19 hqx20) hea23 rfl rfl rfl) ?_
 refine rC (t115 (Row.iV x20.elems) cq) ?_
 rintro _ ⟨r25,hc24,rfl⟩
 have hC115:=congrArg List.length hc24; try simp only [Row.iV] at hC115
 have hx26:k13<l15.length:=by first | omega | (simp<;>omega) | (simp_all; omega)
 refine ki rfl rfl (je (H:=H16) (i:=0) (m:=k13) (cs:=eZ.cells x20) hS17 rfl rfl rfl rfl rfl rfl rfl (g9 hx26 hqx20)) ?_
 rintro a27 ⟨ha28,hea29⟩
 refine eI rfl rfl (fun _=>EA.Hh hea29 rfl rfl rfl ha28) ?_
 refine iA (H:=H16) rfl rfl (pD (H:=H16) (i:=0) (m:=k13) (o:=1) x20 (⟨x20.name,r25⟩:eZ) hS17 rfl hx26 hqx20 hea29 rfl rfl rfl rfl rfl rfl) ?_
 rintro _ H30 ⟨rfl,hS31⟩
 refine rN ?_
 refine wa [(1,.la 1 0),(2,.la 2 0),(22,iv (ol12.length:Int)),(23,iv (k13:Int))] H30 [(1,[Row.av e8.cells r2,Row.av fo.cells r4,Row.av fe.cells r6,v14,iv a0.top,iv a0.gd,iv a0.fQ,iv a0.ga,.bool a0.gT]),(2,[.sl [] .nil,.sl [] .nil,.sl [] .nil,.sl [] .nil,iv 0,iv 0,iv 0,iv 0,.bool false])] ?_
 refine qg ?_
 refine fu ((k13:Int)) (1) ?_
 refine ab ?_
 exact ⟨by omega,(v14),((l15.set k13 (⟨x20.name,r25⟩:eZ))),H30,(by (simp<;>omega)),(by exact yw hE (by show List.length (Row.l _)≤60; rw [hC115]; assumption)),hS31,rfl,rfl⟩
 refine am ?_
 refine wa [(1,.la 1 0),(2,.la 2 0),(2,.la 2 0)] H16 [(1,[Row.av e8.cells r2,Row.av fo.cells r4,Row.av fe.cells r6,v14,iv a0.top,iv a0.gd,iv a0.fQ,iv a0.ga,.bool a0.gT]),(2,[.sl [] .nil,.sl [] .nil,.sl [] .nil,.sl [] .nil,iv 0,iv 0,iv 0,iv 0,.bool false]),(2,[.sl [] .nil,.sl [] .nil,.sl [] .nil,.sl [] .nil,iv 0,iv 0,iv 0,iv 0,.bool false])] ?_
 refine aj ?_
 refine eg rfl (fun _=>sj rfl rfl rfl rfl (eJ rfl (eJ rfl (eJ rfl (eJ (Sep.cell (i:=0) hS17 rfl) (eJ rfl (eJ rfl (eJ rfl (eJ rfl (eJ rfl fG))))))))) rfl rfl) ?_
 refine ci ?_
 obtain ⟨r32,hl33,hf34⟩:=gQ (H:=H16) (i:=0) (l:=l15) (enc:=eZ.cells) hS17 rfl cz
 have hlq:=hl33; have hln36:=congrArg List.length hl33
 have hz35:∀ m,freeze false { H16 with dO:=[(1,[Row.av e8.cells r2,Row.av fo.cells r4,Row.av fe.cells r6,v14,iv a0.top,iv a0.gd,iv a0.fQ,iv a0.ga,.bool a0.gT]),(2,[Row.av e8.cells r2,Row.av fo.cells r4,Row.av fe.cells r6,v14,iv a0.top,iv a0.gd,iv a0.fQ,iv a0.ga,.bool a0.gT])] } (m+2) v14=some (Row.av eZ.cells r32):=fun m=>hf34 _ _ (fun _=>by simp only [eZ.cells,fx,kE,kP,lT,kD,lK])
 exact ⟨.agg [Row.av e8.cells r2,Row.av fo.cells r4,Row.av fe.cells r6,v14,iv a0.top,iv a0.gd,iv a0.fQ,iv a0.ga,.bool a0.gT],(ia (vs:=[.agg [Row.av e8.cells r2,Row.av fo.cells r4,Row.av fe.cells r6,v14,iv a0.top,iv a0.gd,iv a0.fQ,iv a0.ga,.bool a0.gT]]) rfl rfl),.agg [Row.av e8.cells r2,Row.av fo.cells r4,Row.av fe.cells r6,Row.av eZ.cells r32,iv a0.top,iv a0.gd,iv a0.fQ,iv a0.ga,.bool a0.gT],(show freeze false { H16 with dO:=[(1,[Row.av e8.cells r2,Row.av fo.cells r4,Row.av fe.cells r6,v14,iv a0.top,iv a0.gd,iv a0.fQ,iv a0.ga,.bool a0.gT]),(2,[Row.av e8.cells r2,Row.av fo.cells r4,Row.av fe.cells r6,v14,iv a0.top,iv a0.gd,iv a0.fQ,iv a0.ga,.bool a0.gT])] } 8 (.agg [Row.av e8.cells r2,Row.av fo.cells r4,Row.av fe.cells r6,v14,iv a0.top,iv a0.gd,iv a0.fQ,iv a0.ga,.bool a0.gT])=some (.agg [Row.av e8.cells r2,Row.av fo.cells r4,Row.av fe.cells r6,Row.av eZ.cells r32,iv a0.top,iv a0.gd,iv a0.fQ,iv a0.ga,.bool a0.gT]) by simp only [FZ,hz35]),(⟨r2,r4,r6,r32,(a0.top),(a0.gd),(a0.fQ),(a0.ga),(a0.gT)⟩:eb),(by refine ⟨by simp_all [Row.iV],by simp_all [Row.iV],by simp_all [Row.iV],by simp_all [Row.iV],?_⟩; simp_all [Row.iV]),rfl⟩
theorem Og:eG.get 51=some BT:=by kernel_rfl
theorem Lz:ei 51=none:=by kernel_rfl
def VW (_a0:eb) (v:AV):Prop:=(∃ r0:eE,(rF r0 _a0)∧v=.eP [.ip (eE.cells r0) 0 false,iv 0])∨(∃ r1:Int,(r1≠0)∧v=.eP [.fS,iv r1])
theorem t51 (a0:eb) (q1:iY a0) (h:bY):∃ v,eH cfg eG.get ei false 51 [.agg (eb.cells a0)] h v h∧VW a0 v:=by
 refine eW Lz Og rfl rfl ?_
 have q2:=q1.eT; have q3:=q1.signals; have q4:=q1.lines
 refine bm ?_
 refine ak ?_
 refine oC (t89 a0) ?_
 rintro _ ⟨r2,hc1,rfl⟩
 have hC89:=hc1
 refine ce ?_
 refine gK (r2) (0) (fun h3=>?_) (fun h3=>?_)
 refine ay ?_
 refine a7 ?_
 refine xF (.eP [.fS,iv r2]) (.inr (⟨r2,dW,rfl⟩))
 refine az ?_
 refine w0 [(1,.la 1 0)] [(1,(eb.cells a0))] ?_
 refine aj ?_
 refine oC (t90 a0 cq) ?_
 rintro _ ⟨r5,hc4,rfl⟩
 have hC90:=hc4
 refine e7 (H:=bY.empty) rfl (ic gg) ?_
 rintro _ H7 ⟨b6,rfl,hS8⟩
 refine e7 (H:=H7) rfl (ic hS8) ?_
 rintro _ H10 ⟨b9,rfl,hS11⟩
 refine e7 (H:=H10) rfl (ic hS11) ?_
 rintro _ H13 ⟨b12,rfl,hS14⟩
 refine e7 (H:=H13) rfl (ic hS14) ?_
 rintro _ H16 ⟨b15,rfl,hS17⟩
 refine oV ?_
 refine e7 (H:=H16) rfl (mr hS17 rfl rfl rfl rfl rfl) ?_
 rintro _ H19 ⟨b18,rfl,hS20⟩
 refine bX ?_
 have hL21:=a0.eT.lk
 refine fA a0.eT ?_
 refine aP ?_
 have hNk22:=a0.eT.lk
 refine eN (a0.eT.l.length) (fun k22 e h=>∃ l23:List (ed×ed),∃ H24:bY,(∀ x:ed,look x l23=gJ (a0.eT.l.take k22) x)∧(l23.length≤2*k22)∧Sep H24 (.obj (.ptr b18 0 0 0) [Row.av e8.cells r5.elems,Row.av fo.cells r5.eT,Row.av fe.cells r5.signals,Row.av eZ.cells r5.lines,iv r5.top,iv r5.gd,iv r5.fQ,iv r5.ga,.bool r5.gT,(.hm b6),(.hm b9),(.hm b12),(.hm b15)]::.map (.hm b15) (eM iK iK [])::.map (.hm b12) (eM iK m8 [])::.map (.hm b9) (eM pK iK [])::.map (.hm b6) (eM pK pK l23)::[])∧proj [1,5,31,32,33] e=[(1,.la 1 0),(5,(.ptr b18 0 0 0)),(31,Row.av fo.cells a0.eT),(32,iv (a0.eT.l.length:Int)),(33,iv (k22:Int))]∧{ h with dO:=eV [1,5,31,32,33] h.dO } = { H24 with dO:=[(1,(eb.cells a0))] }) ?_ (k0:=0) cB ⟨([]),H19,(by (intro x; rfl)),dv,hS20,rfl,rfl⟩
 rintro k22 e h hkk22 ⟨l23,H24,hD,hN,hS25,he,hh⟩
 refine ff he hh ?_
 clear he hh
 refine aa ?_
 refine fg ((k22:Int)) ((a0.eT.l.length:Int)) (fun h26=>?_) (fun h26=>?_)
 refine ao ?_
 refine wa [(1,.la 1 0),(5,(.ptr b18 0 0 0)),(31,Row.av fo.cells a0.eT),(32,iv (a0.eT.l.length:Int)),(33,iv (k22:Int))] H24 [(1,(eb.cells a0))] ?_
 refine bg ?_
 have hx27:k22<a0.eT.l.length:=by omega
 refine gL k22 a0.eT hx27 ?_
 generalize hqx28:a0.eT.l[k22]=x28
 refine aW ?_
 refine qd ?_
 refine rV ?_
 refine eI rfl rfl (fun _=>gh (H:=H24) (i:=0) hS25 rfl rfl) ?_
 refine eI rfl rfl (fun _=>fq (H:=H24) (i:=0) hS25 rfl rfl rfl rfl rfl) ?_
 refine eI rfl rfl (fun _=>eU (H:=H24) (i:=0) (o:=9) (r:=(.hm b6)) hS25 rfl rfl rfl rfl) ?_
 iterate 3 refine rV ?_
 refine eI rfl rfl (fun _=>gh (H:=H24) (i:=0) hS25 rfl rfl) ?_
 refine eI rfl rfl (fun _=>fq (H:=H24) (i:=0) hS25 rfl rfl rfl rfl rfl) ?_
 refine eI rfl rfl (fun _=>eU (H:=H24) (i:=0) (o:=9) (r:=(.hm b6)) hS25 rfl rfl rfl rfl) ?_
 iterate 6 refine rV ?_
 refine nv (H:=H24) rfl rfl (lR (H:=H24) (i:=4) (ek:=pK) (ev:=pK) (l:=l23) x28.a x28.b hS25 rfl rfl rfl rfl rfl rfl rfl rfl rfl gB) ?_
 rintro _ H29 ⟨w30,n31,H32,rfl,hop33,hS34⟩
 refine ⟨fun call=>(wM (jc rfl rfl rfl rfl rfl dp) (wM (jc rfl rfl rfl rfl rfl dp) (sR (jc rfl rfl rfl rfl rfl dp)))),?_⟩
 refine rV ?_
 refine xD rfl rfl ⟨0,fun _ _=>hop33 _ _ _ _ _ _ _ _ rfl rfl rfl⟩ (fun call=>(wM (jc rfl rfl rfl rfl rfl dp) (sR (jc rfl rfl rfl rfl rfl dp)))) ?_
 refine nv (H:=H32) rfl rfl (lR (H:=H32) (i:=4) (ek:=pK) (ev:=pK) (l:=(put x28.a x28.b l23)) x28.b x28.a hS34 rfl rfl rfl rfl rfl rfl rfl rfl rfl gB) ?_
 rintro _ H35 ⟨w36,n37,H38,rfl,hop39,hS40⟩
 refine ⟨fun call=>(sR (jc rfl rfl rfl rfl rfl dp)),?_⟩
 refine rV ?_
 refine eI rfl rfl (fun _=>hop39 _ _ _ _ _ _ _ _ rfl rfl rfl) ?_
 refine rN ?_
 refine wa [(1,.la 1 0),(5,(.ptr b18 0 0 0)),(31,Row.av fo.cells a0.eT),(32,iv (a0.eT.l.length:Int)),(33,iv (k22:Int))] H38 [(1,(eb.cells a0))] ?_
 refine qg ?_
 refine fu ((k22:Int)) (1) ?_
 refine ab ?_
 exact ⟨by omega,((put x28.b x28.a (put x28.a x28.b l23))),H38,(by exact Dv cC cC (hC89 cB).1 hD),(by exact BG hN),hS40,rfl,rfl⟩
 refine am ?_
 refine wa [(1,.la 1 0),(5,(.ptr b18 0 0 0))] H24 [(1,(eb.cells a0))] ?_
 refine aI ?_
 have hL41:=a0.signals.lk
 refine fA a0.signals ?_
 refine aP ?_
 have hNk42:=a0.signals.lk
 refine eN (a0.signals.l.length) (fun k42 e h=>∃ l43:List (ed×Int),∃ H44:bY,(∀ x:ed,look x l43=ig (a0.signals.l.take k42) x)∧Sep H44 (.obj (.ptr b18 0 0 0) [Row.av e8.cells r5.elems,Row.av fo.cells r5.eT,Row.av fe.cells r5.signals,Row.av eZ.cells r5.lines,iv r5.top,iv r5.gd,iv r5.fQ,iv r5.ga,.bool r5.gT,(.hm b6),(.hm b9),(.hm b12),(.hm b15)]::.map (.hm b15) (eM iK iK [])::.map (.hm b12) (eM iK m8 [])::.map (.hm b9) (eM pK iK l43)::.map (.hm b6) (eM pK pK l23)::[])∧proj [1,5,59,60,61] e=[(1,.la 1 0),(5,(.ptr b18 0 0 0)),(59,Row.av fe.cells a0.signals),(60,iv (a0.signals.l.length:Int)),(61,iv (k42:Int))]∧{ h with dO:=eV [1,5,59,60,61] h.dO } = { H44 with dO:=[(1,(eb.cells a0))] }) ?_ (k0:=0) cB ⟨([]),H24,(by (intro x; rfl)),hS25,rfl,rfl⟩
 rintro k42 e h hkk42 ⟨l43,H44,hR,hS45,he,hh⟩
 refine ff he hh ?_
 clear he hh
 refine aa ?_
 refine fg ((k42:Int)) ((a0.signals.l.length:Int)) (fun h46=>?_) (fun h46=>?_)
 refine ao ?_
 refine wa [(1,.la 1 0),(5,(.ptr b18 0 0 0)),(59,Row.av fe.cells a0.signals),(60,iv (a0.signals.l.length:Int)),(61,iv (k42:Int))] H44 [(1,(eb.cells a0))] ?_
 refine bE ?_
 have hx47:k42<a0.signals.l.length:=by omega
 refine gL k42 a0.signals hx47 ?_
 generalize hqx48:a0.signals.l[k42]=x48
 refine bF ?_
 refine qd ?_
 refine rV ?_
 refine eI rfl rfl (fun _=>gh (H:=H44) (i:=0) hS45 rfl rfl) ?_
 refine eI rfl rfl (fun _=>fq (H:=H44) (i:=0) hS45 rfl rfl rfl rfl rfl) ?_
 refine eI rfl rfl (fun _=>eU (H:=H44) (i:=0) (o:=10) (r:=(.hm b9)) hS45 rfl rfl rfl rfl) ?_
 iterate 3 refine rV ?_
 refine iA (H:=H44) rfl rfl (iR (H:=H44) (i:=3) (ek:=pK) (ev:=iK) (l:=l43) x48.at_ ((k42:Int)) hS45 rfl rfl rfl rfl rfl rfl gB) ?_
 rintro _ H49 ⟨rfl,hS50⟩
 refine rN ?_
 refine wa [(1,.la 1 0),(5,(.ptr b18 0 0 0)),(59,Row.av fe.cells a0.signals),(60,iv (a0.signals.l.length:Int)),(61,iv (k42:Int))] H49 [(1,(eb.cells a0))] ?_
 refine qg ?_
 refine fu ((k42:Int)) (1) ?_
 refine ab ?_
 exact ⟨by omega,((put x48.at_ ((k42:Int)) l43)),H49,(by exact zO cC cC (hC89 cB).2.1 hR),hS50,rfl,rfl⟩
 refine am ?_
 refine wa [(1,.la 1 0),(5,(.ptr b18 0 0 0))] H44 [(1,(eb.cells a0))] ?_
 refine aI ?_
 have hL51:=a0.lines.lk
 refine fA a0.lines ?_
 refine aP ?_
 have hNk52:=a0.lines.lk
 refine eN (a0.lines.l.length) (fun k52 e h=>∃ l53:List (Int×Int),∃ l54:List (Int×(Int×Int)),∃ H55:bY,Sep H55 (.obj (.ptr b18 0 0 0) [Row.av e8.cells r5.elems,Row.av fo.cells r5.eT,Row.av fe.cells r5.signals,Row.av eZ.cells r5.lines,iv r5.top,iv r5.gd,iv r5.fQ,iv r5.ga,.bool r5.gT,(.hm b6),(.hm b9),(.hm b12),(.hm b15)]::.map (.hm b15) (eM iK iK l53)::.map (.hm b12) (eM iK m8 l54)::.map (.hm b9) (eM pK iK l43)::.map (.hm b6) (eM pK pK l23)::[])∧proj [5,75,76,77] e=[(5,(.ptr b18 0 0 0)),(75,Row.av eZ.cells a0.lines),(76,iv (a0.lines.l.length:Int)),(77,iv (k52:Int))]∧{ h with dO:=eV [5,75,76,77] h.dO } = { H55 with dO:=[] }) ?_ (k0:=0) cB ⟨([]),([]),H44,hS45,rfl,rfl⟩
 rintro k52 e h hkk52 ⟨l53,l54,H55,hS56,he,hh⟩
 refine ff he hh ?_
 clear he hh
 refine aa ?_
 refine fg ((k52:Int)) ((a0.lines.l.length:Int)) (fun h57=>?_) (fun h57=>?_)
 refine ao ?_
 refine wa [(5,(.ptr b18 0 0 0)),(75,Row.av eZ.cells a0.lines),(76,iv (a0.lines.l.length:Int)),(77,iv (k52:Int))] H55 [] ?_
 refine bE ?_
 have hx58:k52<a0.lines.l.length:=by omega
 refine gL k52 a0.lines hx58 ?_
 generalize hqx59:a0.lines.l[k52]=x59
 have hinx59:x59∈a0.lines.l:=by rw [← hqx59]; exact List.getElem_mem _
 have hsx59:=q1.line x59 hinx59
 refine bF ?_
 refine aQ ?_
 refine kK (fun E Z=>(E=[(5,(.ptr b18 0 0 0)),(10,iv (k52:Int)),(11,.la 11 0),(12,iv 1),(75,Row.av eZ.cells a0.lines),(76,iv (a0.lines.l.length:Int)),(77,iv (k52:Int))]∧Z = { H55 with dO:=[(11,(eZ.cells x59))] })∨(E=[(5,(.ptr b18 0 0 0)),(10,iv (k52:Int)),(11,.la 11 0),(12,iv 0),(75,Row.av eZ.cells a0.lines),(76,iv (a0.lines.l.length:Int)),(77,iv (k52:Int))]∧Z = { H55 with dO:=[(11,(eZ.cells x59))] })) ?_ ?_
 rintro _ _ (⟨rfl,rfl⟩ | ⟨rfl,rfl⟩)
 refine ae ?_
 have hL60:=x59.elems.lk
 refine fA x59.elems ?_
 refine aP ?_
 have hNk61:=x59.elems.lk
 refine eN (x59.elems.l.length) (fun k61 e h=>∃ l62:List (Int×Int),∃ l63:List (Int×(Int×Int)),∃ n64:Int,∃ H65:bY,Sep H65 (.obj (.ptr b18 0 0 0) [Row.av e8.cells r5.elems,Row.av fo.cells r5.eT,Row.av fe.cells r5.signals,Row.av eZ.cells r5.lines,iv r5.top,iv r5.gd,iv r5.fQ,iv r5.ga,.bool r5.gT,(.hm b6),(.hm b9),(.hm b12),(.hm b15)]::.map (.hm b15) (eM iK iK l62)::.map (.hm b12) (eM iK m8 l63)::.map (.hm b9) (eM pK iK l43)::.map (.hm b6) (eM pK pK l23)::[])∧proj [5,10,12,75,76,77,110,111,112] e=[(5,(.ptr b18 0 0 0)),(10,iv (k52:Int)),(12,iv n64),(75,Row.av eZ.cells a0.lines),(76,iv (a0.lines.l.length:Int)),(77,iv (k52:Int)),(110,Row.av eu x59.elems),(111,iv (x59.elems.l.length:Int)),(112,iv (k61:Int))]∧{ h with dO:=eV [5,10,12,75,76,77,110,111,112] h.dO } = { H65 with dO:=[] }) ?_ (k0:=0) cB ⟨(l53),(l54),(1),H55,hS56,rfl,rfl⟩
 rintro k61 e h hkk61 ⟨l62,l63,n64,H65,hS66,he,hh⟩
 refine ff he hh ?_
 clear he hh
 refine aa ?_
 refine fg ((k61:Int)) ((x59.elems.l.length:Int)) (fun h67=>?_) (fun h67=>?_)
 refine ao ?_
 refine wa [(5,(.ptr b18 0 0 0)),(10,iv (k52:Int)),(12,iv n64),(75,Row.av eZ.cells a0.lines),(76,iv (a0.lines.l.length:Int)),(77,iv (k52:Int)),(110,Row.av eu x59.elems),(111,iv (x59.elems.l.length:Int)),(112,iv (k61:Int))] H65 [] ?_
 refine bE ?_
 have hx68:k61<x59.elems.l.length:=by omega
 refine gL k61 x59.elems hx68 ?_
 generalize hqx69:x59.elems.l[k61]=x69
 refine aW ?_
 refine aN ?_
 refine rV ?_
 refine eI rfl rfl (fun _=>gh (H:=H65) (i:=0) hS66 rfl rfl) ?_
 refine eI rfl rfl (fun _=>fq (H:=H65) (i:=0) hS66 rfl rfl rfl rfl rfl) ?_
 refine eI rfl rfl (fun _=>eU (H:=H65) (i:=0) (o:=11) (r:=(.hm b12)) hS66 rfl rfl rfl rfl) ?_
 iterate 2 refine rV ?_
 refine eI rfl rfl (fun _=>gh (H:=H65) (i:=0) hS66 rfl rfl) ?_
 refine eI rfl rfl (fun _=>fq (H:=H65) (i:=0) hS66 rfl rfl rfl rfl rfl) ?_
 refine eI rfl rfl (fun _=>eU (H:=H65) (i:=0) (o:=12) (r:=(.hm b15)) hS66 rfl rfl rfl rfl) ?_
 iterate 5 refine rV ?_
 refine iA (H:=H65) rfl rfl (lR (H:=H65) (i:=2) (ek:=iK) (ev:=m8) (l:=l63) (x69) (((k52:Int),(k61:Int))) hS66 rfl rfl rfl rfl rfl rfl rfl rfl rfl mw) ?_
 rintro _ H70 ⟨w71,n72,H73,rfl,hop74,hS75⟩
 refine rV ?_
 refine eI rfl rfl (fun _=>hop74 _ _ _ _ _ _ _ _ rfl rfl rfl) ?_
 refine iA (H:=H73) rfl rfl (lR (H:=H73) (i:=1) (ek:=iK) (ev:=iK) (l:=l62) (x69) (n64) hS75 rfl rfl rfl rfl rfl rfl rfl rfl rfl mw) ?_
 rintro _ H76 ⟨w77,n78,H79,rfl,hop80,hS81⟩
 refine rV ?_
 refine eI rfl rfl (fun _=>hop80 _ _ _ _ _ _ _ _ rfl rfl rfl) ?_
 refine rN ?_
 refine aM ?_
 refine eg rfl (fun _=>gh (H:=H79) (i:=0) hS81 rfl rfl) ?_
 refine eg rfl (fun _=>fq (H:=H79) (i:=0) hS81 rfl rfl rfl rfl rfl) ?_
 refine eg rfl (fun _=>eU (H:=H79) (i:=0) (o:=9) (r:=(.hm b6)) hS81 rfl rfl rfl rfl) ?_
 iterate 2 refine oV ?_
 refine eg rfl (fun _=>fD rfl rfl rfl (gD .i64 (1) (n64))) ?_
 refine oV ?_
 refine ix (H:=H79) (i:=4) (ek:=pK) (ev:=pK) (l:=l23) ((⟨(x69),(IntKind.i64.wrap (1 - (n64)))⟩:ed)) rfl rfl hS81 rfl rfl rfl rfl rfl rfl rfl rfl gB (fun y82 h83=>?_) (fun h84=>?_)
 refine ah ?_
 refine wa [(5,(.ptr b18 0 0 0)),(10,iv (k52:Int)),(12,iv y82.en),(75,Row.av eZ.cells a0.lines),(76,iv (a0.lines.l.length:Int)),(77,iv (k52:Int)),(110,Row.av eu x59.elems),(111,iv (x59.elems.l.length:Int)),(112,iv (k61:Int))] H79 [] ?_
 refine qg ?_
 refine fu ((k61:Int)) (1) ?_
 refine ab ?_
 exact ⟨by omega,((put (x69) (n64) l62)),((put (x69) (((k52:Int),(k61:Int))) l63)),(y82.en),H79,hS81,rfl,rfl⟩
 refine ah ?_
 refine wa [(5,(.ptr b18 0 0 0)),(10,iv (k52:Int)),(12,iv 0),(75,Row.av eZ.cells a0.lines),(76,iv (a0.lines.l.length:Int)),(77,iv (k52:Int)),(110,Row.av eu x59.elems),(111,iv (x59.elems.l.length:Int)),(112,iv (k61:Int))] H79 [] ?_
 refine qg ?_
 refine fu ((k61:Int)) (1) ?_
 refine ab ?_
 exact ⟨by omega,((put (x69) (n64) l62)),((put (x69) (((k52:Int),(k61:Int))) l63)),(0),H79,hS81,rfl,rfl⟩
 refine am ?_
 refine wa [(5,(.ptr b18 0 0 0)),(75,Row.av eZ.cells a0.lines),(76,iv (a0.lines.l.length:Int)),(77,iv (k52:Int))] H65 [] ?_
 refine qg ?_
 refine fu ((k52:Int)) (1) ?_
 refine ab ?_
 exact ⟨by omega,(l62),(l63),H65,hS66,rfl,rfl⟩
 refine ae ?_
 have hL85:=x59.elems.lk
 refine fA x59.elems ?_
 refine aP ?_
 have hNk86:=x59.elems.lk
 refine eN (x59.elems.l.length) (fun k86 e h=>∃ l87:List (Int×Int),∃ l88:List (Int×(Int×Int)),∃ n89:Int,∃ H90:bY,Sep H90 (.obj (.ptr b18 0 0 0) [Row.av e8.cells r5.elems,Row.av fo.cells r5.eT,Row.av fe.cells r5.signals,Row.av eZ.cells r5.lines,iv r5.top,iv r5.gd,iv r5.fQ,iv r5.ga,.bool r5.gT,(.hm b6),(.hm b9),(.hm b12),(.hm b15)]::.map (.hm b15) (eM iK iK l87)::.map (.hm b12) (eM iK m8 l88)::.map (.hm b9) (eM pK iK l43)::.map (.hm b6) (eM pK pK l23)::[])∧proj [5,10,12,75,76,77,110,111,112] e=[(5,(.ptr b18 0 0 0)),(10,iv (k52:Int)),(12,iv n89),(75,Row.av eZ.cells a0.lines),(76,iv (a0.lines.l.length:Int)),(77,iv (k52:Int)),(110,Row.av eu x59.elems),(111,iv (x59.elems.l.length:Int)),(112,iv (k86:Int))]∧{ h with dO:=eV [5,10,12,75,76,77,110,111,112] h.dO } = { H90 with dO:=[] }) ?_ (k0:=0) cB ⟨(l53),(l54),(0),H55,hS56,rfl,rfl⟩
 rintro k86 e h hkk86 ⟨l87,l88,n89,H90,hS91,he,hh⟩
 refine ff he hh ?_
 clear he hh
 refine aa ?_
 refine fg ((k86:Int)) ((x59.elems.l.length:Int)) (fun h92=>?_) (fun h92=>?_)
 refine ao ?_
 refine wa [(5,(.ptr b18 0 0 0)),(10,iv (k52:Int)),(12,iv n89),(75,Row.av eZ.cells a0.lines),(76,iv (a0.lines.l.length:Int)),(77,iv (k52:Int)),(110,Row.av eu x59.elems),(111,iv (x59.elems.l.length:Int)),(112,iv (k86:Int))] H90 [] ?_
 refine bE ?_
 have hx93:k86<x59.elems.l.length:=by omega
 refine gL k86 x59.elems hx93 ?_
 generalize hqx94:x59.elems.l[k86]=x94
 refine aW ?_
 refine aN ?_
 refine rV ?_
 refine eI rfl rfl (fun _=>gh (H:=H90) (i:=0) hS91 rfl rfl) ?_
 refine eI rfl rfl (fun _=>fq (H:=H90) (i:=0) hS91 rfl rfl rfl rfl rfl) ?_
 refine eI rfl rfl (fun _=>eU (H:=H90) (i:=0) (o:=11) (r:=(.hm b12)) hS91 rfl rfl rfl rfl) ?_
 iterate 2 refine rV ?_
 refine eI rfl rfl (fun _=>gh (H:=H90) (i:=0) hS91 rfl rfl) ?_
 refine eI rfl rfl (fun _=>fq (H:=H90) (i:=0) hS91 rfl rfl rfl rfl rfl) ?_
 refine eI rfl rfl (fun _=>eU (H:=H90) (i:=0) (o:=12) (r:=(.hm b15)) hS91 rfl rfl rfl rfl) ?_
 iterate 5 refine rV ?_
 refine iA (H:=H90) rfl rfl (lR (H:=H90) (i:=2) (ek:=iK) (ev:=m8) (l:=l88) (x94) (((k52:Int),(k86:Int))) hS91 rfl rfl rfl rfl rfl rfl rfl rfl rfl mw) ?_
 rintro _ H95 ⟨w96,n97,H98,rfl,hop99,hS100⟩
 refine rV ?_
 refine eI rfl rfl (fun _=>hop99 _ _ _ _ _ _ _ _ rfl rfl rfl) ?_
 refine iA (H:=H98) rfl rfl (lR (H:=H98) (i:=1) (ek:=iK) (ev:=iK) (l:=l87) (x94) (n89) hS100 rfl rfl rfl rfl rfl rfl rfl rfl rfl mw) ?_
 rintro _ H101 ⟨w102,n103,H104,rfl,hop105,hS106⟩
 refine rV ?_
 refine eI rfl rfl (fun _=>hop105 _ _ _ _ _ _ _ _ rfl rfl rfl) ?_
 refine rN ?_
 refine aM ?_
 refine eg rfl (fun _=>gh (H:=H104) (i:=0) hS106 rfl rfl) ?_
 refine eg rfl (fun _=>fq (H:=H104) (i:=0) hS106 rfl rfl rfl rfl rfl) ?_
 refine eg rfl (fun _=>eU (H:=H104) (i:=0) (o:=9) (r:=(.hm b6)) hS106 rfl rfl rfl rfl) ?_
 iterate 2 refine oV ?_
 refine eg rfl (fun _=>fD rfl rfl rfl (gD .i64 (1) (n89))) ?_
 refine oV ?_
 refine ix (H:=H104) (i:=4) (ek:=pK) (ev:=pK) (l:=l23) ((⟨(x94),(IntKind.i64.wrap (1 - (n89)))⟩:ed)) rfl rfl hS106 rfl rfl rfl rfl rfl rfl rfl rfl gB (fun y107 h108=>?_) (fun h109=>?_)
 refine ah ?_
 refine wa [(5,(.ptr b18 0 0 0)),(10,iv (k52:Int)),(12,iv y107.en),(75,Row.av eZ.cells a0.lines),(76,iv (a0.lines.l.length:Int)),(77,iv (k52:Int)),(110,Row.av eu x59.elems),(111,iv (x59.elems.l.length:Int)),(112,iv (k86:Int))] H104 [] ?_
 refine qg ?_
 refine fu ((k86:Int)) (1) ?_
 refine ab ?_
 exact ⟨by omega,((put (x94) (n89) l87)),((put (x94) (((k52:Int),(k86:Int))) l88)),(y107.en),H104,hS106,rfl,rfl⟩
 refine ah ?_
 refine wa [(5,(.ptr b18 0 0 0)),(10,iv (k52:Int)),(12,iv 0),(75,Row.av eZ.cells a0.lines),(76,iv (a0.lines.l.length:Int)),(77,iv (k52:Int)),(110,Row.av eu x59.elems),(111,iv (x59.elems.l.length:Int)),(112,iv (k86:Int))] H104 [] ?_
 refine qg ?_
 refine fu ((k86:Int)) (1) ?_
 refine ab ?_
 exact ⟨by omega,((put (x94) (n89) l87)),((put (x94) (((k52:Int),(k86:Int))) l88)),(0),H104,hS106,rfl,rfl⟩
 refine am ?_
 refine wa [(5,(.ptr b18 0 0 0)),(75,Row.av eZ.cells a0.lines),(76,iv (a0.lines.l.length:Int)),(77,iv (k52:Int))] H90 [] ?_
 refine qg ?_
 refine fu ((k52:Int)) (1) ?_
 refine ab ?_
 exact ⟨by omega,(l87),(l88),H90,hS91,rfl,rfl⟩
 refine ae ?_
 have hL110:=x59.elems.lk
 refine fA x59.elems ?_
 refine fW ((x59.elems.l.length:Int)) (1) (fun h111=>?_) (fun h111=>?_)
 refine bA ?_
 refine eI rfl rfl (fun _=>gh (H:=H55) (i:=0) hS56 rfl rfl) ?_
 refine eI rfl rfl (fun _=>fq (H:=H55) (i:=0) hS56 rfl rfl rfl rfl rfl) ?_
 refine eI rfl rfl (fun _=>eU (H:=H55) (i:=0) (o:=9) (r:=(.hm b6)) hS56 rfl rfl rfl rfl) ?_
 iterate 2 refine rV ?_
 have hx112:0<x59.elems.l.length:=by omega
 refine jE 0 x59.elems hx112 ?_
 generalize hqx113:x59.elems.l[0]=x113
 iterate 2 refine rV ?_
 refine AW (H:=H55) (i:=4) (ek:=pK) (ev:=pK) (l:=l23) ((⟨(x113),(0)⟩:ed)) rfl rfl rfl hS56 rfl rfl rfl rfl rfl rfl rfl rfl gB (fun y114 h115=>?_) (fun h116=>?_)
 refine bc ?_
 refine bZ ?_
 refine rV ?_
 have hx117:1<x59.elems.l.length:=by omega
 refine jE 1 x59.elems hx117 ?_
 generalize hqx118:x59.elems.l[1]=x118
 refine rV ?_
 refine kJ (y114.elem) (x118) (fun h119=>?_) (fun h119=>?_)
 refine bG ?_
 refine qg ?_
 refine ab ?_
 exact .inl ⟨rfl,rfl⟩
 refine bu ?_
 exact .inr (⟨rfl,rfl⟩)
 refine bc ?_
 refine bi ?_
 iterate 7 refine rS ?_
 refine bu ?_
 exact .inr (⟨rfl,rfl⟩)
 refine az ?_
 exact .inr (⟨rfl,rfl⟩)
 refine am ?_
 refine wa [(5,(.ptr b18 0 0 0))] H55 [] ?_
 refine a7 ?_
 have hz120:∀ m,freeze false { H55 with dO:=[] } (m+3) (.hm b6)=some (.fm (eM pK pK l23) false):=fun m=>nF (i:=4) hS56 rfl _ _ (pg fun _=>rfl)
 have hz121:∀ m,freeze false { H55 with dO:=[] } (m+3) (.hm b9)=some (.fm (eM pK iK l43) false):=fun m=>nF (i:=3) hS56 rfl _ _ (pg fun _=>rfl)
 have hz122:∀ m,freeze false { H55 with dO:=[] } (m+3) (.hm b12)=some (.fm (eM iK m8 l54) false):=fun m=>nF (i:=2) hS56 rfl _ _ (pg fun _=>rfl)
 have hz123:∀ m,freeze false { H55 with dO:=[] } (m+3) (.hm b15)=some (.fm (eM iK iK l53) false):=fun m=>nF (i:=1) hS56 rfl _ _ (pg fun _=>rfl)
 have hz124:∀ m,freeze false { H55 with dO:=[] } (m+4) (.ptr b18 0 0 0)=some (.ip [Row.av e8.cells r5.elems,Row.av fo.cells r5.eT,Row.av fe.cells r5.signals,Row.av eZ.cells r5.lines,iv r5.top,iv r5.gd,iv r5.fQ,iv r5.ga,.bool r5.gT,.fm (eM pK pK l23) false,.fm (eM pK iK l43) false,.fm (eM iK m8 l54) false,.fm (eM iK iK l53) false] 0 false):=fun m=>oa (i:=0) hS56 rfl _ _ (by simp only [FZ,hz120,hz121,hz122,hz123])
 refine ⟨.eP [(.ptr b18 0 0 0),iv 0],rfl,.eP [.ip [Row.av e8.cells r5.elems,Row.av fo.cells r5.eT,Row.av fe.cells r5.signals,Row.av eZ.cells r5.lines,iv r5.top,iv r5.gd,iv r5.fQ,iv r5.ga,.bool r5.gT,.fm (eM pK pK l23) false,.fm (eM pK iK l43) false,.fm (eM iK m8 l54) false,.fm (eM iK iK l53) false] 0 false,iv 0],(show freeze false { H55 with dO:=[] } 8 (.eP [(.ptr b18 0 0 0),iv 0])=some (.eP [.ip [Row.av e8.cells r5.elems,Row.av fo.cells r5.eT,Row.av fe.cells r5.signals,Row.av eZ.cells r5.lines,iv r5.top,iv r5.gd,iv r5.fQ,iv r5.ga,.bool r5.gT,.fm (eM pK pK l23) false,.fm (eM pK iK l43) false,.fm (eM iK m8 l54) false,.fm (eM iK iK l53) false] 0 false,iv 0]) by simp only [FZ,hz120,hz121,hz122,hz123,hz124]),.inl ⟨(⟨r5,l23,l43,l54,l53⟩:eE),dW,rfl⟩⟩
theorem Rb:eG.get 91=some Bx:=by kernel_rfl
theorem LD:ei 91=none:=by kernel_rfl
def WZ (_a0:eE) (v:AV):Prop:=∃ r0:Int,(r0=(_a0.p.signals.l.length:Int))∧v=iv r0
theorem t91 (a0:eE)  (h:bY):∃ v,eH cfg eG.get ei false 91 [.ip (eE.cells a0) 0 false] h v h∧WZ a0 v:=by
 refine eW LD Rb rfl rfl ?_
 refine aQ ?_
 refine aG ?_
 refine oV ?_
 have hL1:=a0.p.signals.lk
 refine fA a0.p.signals ?_
 refine ag ?_
 exact xA (iv (a0.p.signals.l.length:Int)) ⟨((a0.p.signals.l.length:Int)),(by rfl),rfl⟩
theorem O8:eG.get 19=some Di:=by kernel_rfl
theorem Kg:ei 19=none:=by kernel_rfl
def VX (_a0:eE) (_a1:Int) (v:AV):Prop:=∃ r0:ed,∃ r1:Bool,(((r1=true→iD _a0.p.signals.l _a1=some r0)∧(r1=false→iD _a0.p.signals.l _a1=none)))∧v=.eP [.agg (ed.cells r0),.bool r1]
theorem t19 (a0:eE) (a1:Int)  (h:bY):∃ v,eH cfg eG.get ei false 19 [.ip (eE.cells a0) 0 false,iv a1] h v h∧VX a0 a1 v:=by
 refine eW Kg O8 rfl rfl ?_
 refine aU ?_
 refine ak ?_
 refine fg (a1) (0) (fun h1=>?_) (fun h1=>?_)
 refine oV ?_
 iterate 8 refine oS ?_
 refine bR ?_
 exact xF (.eP [.agg [iv 0,iv 0],.bool false]) ⟨(⟨(0),(0)⟩:ed),false,c7,rfl⟩
 iterate 7 refine oV ?_
 have hL2:=a0.p.signals.lk
 refine fA a0.p.signals ?_
 refine gV (a1) ((a0.p.signals.l.length:Int)) (fun h3=>?_) (fun h3=>?_)
 refine bR ?_
 exact xF (.eP [.agg [iv 0,iv 0],.bool false]) ⟨(⟨(0),(0)⟩:ed),false,c7,rfl⟩
 refine aw ?_
 refine w0 [(0,.ip (eE.cells a0) 0 false),(1,iv a1),(4,.la 4 0),(4,.la 4 0)] [(4,[iv 0,iv 0]),(4,[iv 0,iv 0])] ?_
 refine aa ?_
 iterate 6 refine oV ?_
 have hx4:(a1).toNat<a0.p.signals.l.length:=by omega
 refine eg rfl (fun _=>fE (n:=a1) (r:=a0.p.signals) (enc:=fe.cells) rfl rfl rfl rfl rfl cB hx4 rfl) ?_
 generalize hqx5:a0.p.signals.l[(a1).toNat]=x5
 refine bb ?_
 exact xF (.eP [.agg (ed.cells x5.at_),.bool true]) ⟨x5.at_,true,c7,rfl⟩
theorem Q4:eG.get 81=some BE:=by kernel_rfl
theorem Ky:ei 81=none:=by kernel_rfl
def Wx (_a0:eE) (_a1:Int) (v:AV):Prop:=∃ r0:e8,(r0.kind=jG _a0.p _a1)∧v=.agg (e8.cells r0)
theorem t81 (a0:eE) (a1:Int)  (h:bY):∃ v,eH cfg eG.get ei false 81 [.ip (eE.cells a0) 0 false,iv a1] h v h∧Wx a0 a1 v:=by
 refine eW Ky Q4 rfl rfl ?_
 refine aO ?_
 refine fg (a1) (0) (fun h1=>?_) (fun h1=>?_)
 refine oV ?_
 iterate 8 refine oS ?_
 refine bQ ?_
 exact xA (.agg [.str ([]),iv 0,iv 0]) ⟨(⟨(⟨[],by decide⟩:jd),(0),(0)⟩:e8),di,rfl⟩
 iterate 7 refine oV ?_
 have hL2:=a0.p.elems.lk
 refine fA a0.p.elems ?_
 refine gV (a1) ((a0.p.elems.l.length:Int)) (fun h3=>?_) (fun h3=>?_)
 refine bQ ?_
 exact xA (.agg [.str ([]),iv 0,iv 0]) ⟨(⟨(⟨[],by decide⟩:jd),(0),(0)⟩:e8),di,rfl⟩
 refine aw ?_
 refine w0 [(0,.ip (eE.cells a0) 0 false),(1,iv a1),(4,.la 4 0),(4,.la 4 0)] [(4,[.str ([]),iv 0,iv 0]),(4,[.str ([]),iv 0,iv 0])] ?_
 refine aa ?_
 iterate 6 refine oV ?_
 have hx4:(a1).toNat<a0.p.elems.l.length:=by omega
 refine eg rfl (fun _=>fE (n:=a1) (r:=a0.p.elems) (enc:=e8.cells) rfl rfl rfl rfl rfl cB hx4 rfl) ?_
 generalize hqx5:a0.p.elems.l[(a1).toNat]=x5
 refine aV ?_
 exact xF (.agg (e8.cells x5)) ⟨x5,di,rfl⟩
theorem QJ:eG.get 46=some CQ:=by kernel_rfl
theorem LK:ei 46=none:=by kernel_rfl
def Ws (_a0:eE) (_a1:Int) (v:AV):Prop:=∃ r0:Int,(r0=jG _a0.p _a1)∧v=iv r0
theorem t46 (a0:eE) (a1:Int)  (h:bY):∃ v,eH cfg eG.get ei false 46 [.ip (eE.cells a0) 0 false,iv a1] h v h∧Ws a0 a1 v:=by
 refine eW LK QJ rfl rfl ?_
 refine aQ ?_
 refine ae ?_
 refine oC (t81 a0 (a1)) ?_
 rintro _ ⟨r2,hc1,rfl⟩
 refine aV ?_
 exact xA (iv r2.kind) ⟨(r2.kind),cC,rfl⟩
theorem QO:eG.get 47=some B4:=by kernel_rfl
theorem LI:ei 47=none:=by kernel_rfl
def WM (_a0:eE) (_a1:ed) (v:AV):Prop:=∃ r0:Int,(r0=(look _a1 _a0.reads).getD (-1))∧v=iv r0
theorem t47 (a0:eE) (a1:ed)  (h:bY):∃ v,eH cfg eG.get ei false 47 [.ip (eE.cells a0) 0 false,.agg (ed.cells a1)] h v h∧WM a0 a1 v:=by
 refine eW LI QO rfl rfl ?_
 refine aU ?_
 refine qs ?_
 refine bZ ?_
 refine vU (key:=a1) (l:=a0.reads) (ek:=pK) (ev:=iK) rfl rfl rfl rfl rfl rfl rfl rfl rfl rfl gB (fun y1 h2=>?_) (fun h3=>?_)
 iterate 4 refine rV ?_
 refine aR ?_
 refine aa ?_
 refine bQ ?_
 exact xA (iv y1) ⟨(y1),dS,rfl⟩
 iterate 4 refine rV ?_
 refine aR ?_
 refine aa ?_
 refine aw ?_
 refine w0 [] [] ?_
 refine a6 ?_
 exact xA (iv (-1)) ⟨(-1),dS,rfl⟩
theorem OH:eG.get 80=some Cl:=by kernel_rfl
theorem Lm:ei 80=none:=by kernel_rfl
def WQ (_a0:eE) (_a1:ed) (v:AV):Prop:=∃ r0:ed,∃ r1:Bool,(((r1=true→look _a1 _a0.next=some r0)∧(r1=false→look _a1 _a0.next=none)∧(r1=false→r0=⟨0,0⟩)))∧v=.eP [.agg (ed.cells r0),.bool r1]
theorem t80 (a0:eE) (a1:ed)  (h:bY):∃ v,eH cfg eG.get ei false 80 [.ip (eE.cells a0) 0 false,.agg (ed.cells a1)] h v h∧WQ a0 a1 v:=by
 refine eW Lm OH rfl rfl ?_
 refine bm ?_
 refine bZ ?_
 refine vU (key:=a1) (l:=a0.next) (ek:=pK) (ev:=pK) rfl rfl rfl rfl rfl rfl rfl rfl rfl rfl gB (fun y1 h2=>?_) (fun h3=>?_)
 refine bc ?_
 refine bM ?_
 exact xF (.eP [.agg (ed.cells y1),.bool true]) ⟨y1,true,dU,rfl⟩
 refine bc ?_
 refine bM ?_
 exact xF (.eP [.agg [iv 0,iv 0],.bool false]) ⟨(⟨(0),(0)⟩:ed),false,dU,rfl⟩
theorem KM:eG.get 161=some Am:=by kernel_rfl
theorem Is:ei 161=none:=by kernel_rfl
theorem SI {H:bY} (b:Nat) (x:ew) (en:Int) (F:List gn) (hS:Sep H (.obj (.ptr b 0 0 0) [iv en]::F)) :∃ v H',eH cfg eG.get ei true 161 [.agg (ew.cells x),(.ptr b 0 0 0)] { H with dO:=[] } v H'∧(∃ r0:Bool,(True)∧Sep H' (.obj (.ptr b 0 0 0) [iv en]::F)∧v=.bool r0):=by
 refine gF Is KM rfl ?_
 refine aU ?_
 refine ae ?_
 refine eg rfl (fun _=>eU (H:=H) (i:=0) (o:=0) (r:=iv en) hS rfl rfl rfl rfl) ?_
 refine fj (x.elem) (en) (fun h1=>?_) (fun h1=>?_)
 refine ag ?_
 have hS2:Sep H (.obj (.ptr b 0 0 0) [iv en]::F):=Sep.pick hS [0] 1 cG cG
 exact ⟨.bool true,rfl,true,trivial,Sep.dO hS2 _,rfl⟩
 refine ag ?_
 have hS3:Sep H (.obj (.ptr b 0 0 0) [iv en]::F):=Sep.pick hS [0] 1 cG cG
 exact ⟨.bool false,rfl,false,trivial,Sep.dO hS3 _,rfl⟩
theorem JF:eG.get 208=some zx:=by kernel_rfl
theorem Ii:ei 208=none:=by kernel_rfl
theorem Ud {H:bY} (b:Nat) (x:ew) (en:Int) (F:List gn) (hS:Sep H (.obj (.ptr b 0 0 0) [iv en]::F)) :∃ v H',eH cfg eG.get ei true 208 [.agg (ew.cells x),(.ptr b 0 0 0)] { H with dO:=[] } v H'∧(∃ r0:Bool,(True)∧Sep H' (.obj (.ptr b 0 0 0) [iv en]::F)∧v=.bool r0):=by
 refine gF Ii JF rfl ?_
 refine aU ?_
 refine ae ?_
 refine eg rfl (fun _=>eU (H:=H) (i:=0) (o:=0) (r:=iv en) hS rfl rfl rfl rfl) ?_
 refine fj (x.elem) (en) (fun h1=>?_) (fun h1=>?_)
 refine ag ?_
 have hS2:Sep H (.obj (.ptr b 0 0 0) [iv en]::F):=Sep.pick hS [0] 1 cG cG
 exact ⟨.bool true,rfl,true,trivial,Sep.dO hS2 _,rfl⟩
 refine ag ?_
 have hS3:Sep H (.obj (.ptr b 0 0 0) [iv en]::F):=Sep.pick hS [0] 1 cG cG
 exact ⟨.bool false,rfl,false,trivial,Sep.dO hS3 _,rfl⟩
theorem AD:eG.get 210=some Ak:=by kernel_rfl
theorem yg:ei 210=none:=by kernel_rfl
theorem Ds {H:bY} (l:eR ew) (b:Nat) (en:Int) (F:List gn) (hS:Sep H (.obj (.ptr b 0 0 0) [iv en]::F)) :∃ v H',eH cfg eG.get ei true 210 [eR.av ew.cells l,.fz 208 [] [(.ptr b 0 0 0)]] { H with dO:=[] } v H'∧(∃ r0:Int,(True)∧Sep H' (.obj (.ptr b 0 0 0) [iv en]::F)∧v=iv r0):=by
 refine gF yg AD rfl ?_
 refine aO ?_
 have hL1:=l.lk
 refine eg rfl (fun _=>lG (r:=l) (enc:=ew.cells) rfl rfl rfl rfl rfl rfl) ?_
 refine aP ?_
 have hNk2:=l.lk
 refine eN (l.l.length) (fun k2 e h=>∃ H3:bY,Sep H3 (.obj (.ptr b 0 0 0) [iv en]::F)∧proj [0,1,7,8] e=[(0,eR.av ew.cells l),(1,.fz 208 [] [(.ptr b 0 0 0)]),(7,iv (l.l.length:Int)),(8,iv (k2:Int))]∧{ h with dO:=eV [0,1,7,8] h.dO } = { H3 with dO:=[] }) ?_ (k0:=0) cB ⟨H,hS,rfl,rfl⟩
 rintro k2 e h hkk2 ⟨H3,hS4,he,hh⟩
 refine ff he hh ?_
 clear he hh
 refine aa ?_
 refine fg ((k2:Int)) ((l.l.length:Int)) (fun h5=>?_) (fun h5=>?_)
 refine ao ?_
 refine wa [(0,eR.av ew.cells l),(1,.fz 208 [] [(.ptr b 0 0 0)]),(7,iv (l.l.length:Int)),(8,iv (k2:Int))] H3 [] ?_
 refine bS ?_
 refine aF ?_
 have hx6:k2<l.l.length:=by omega
 refine eg rfl (fun _=>lS (n:=k2) (r:=l) (enc:=ew.cells) rfl rfl rfl rfl rfl hx6 rfl) ?_
 generalize hqx7:l.l[k2]=x7
 refine oV ?_
 have hS8:Sep H3 (.obj (.ptr b 0 0 0) [iv en]::F):=Sep.pick hS4 [0] 1 cG cG
 refine fU (H:=H3) (args:=[.agg (ew.cells x7)]) (p:=[]) (r:=[(.ptr b 0 0 0)]) rfl rfl rfl rfl rfl rfl rfl (Ud b x7 en (F) hS8) ?_
 rintro _ H9 ⟨r12,hc11,hS10,rfl⟩
 cases r12
 refine az ?_
 refine wa [(0,eR.av ew.cells l),(1,.fz 208 [] [(.ptr b 0 0 0)]),(7,iv (l.l.length:Int)),(8,iv (k2:Int))] H9 [] ?_
 refine qg ?_
 refine fu ((k2:Int)) (1) ?_
 refine ab ?_
 exact ⟨by omega,H9,hS10,rfl,rfl⟩
 refine bW ?_
 have hS13:Sep H9 (.obj (.ptr b 0 0 0) [iv en]::F):=Sep.pick hS10 [0] 1 cG cG
 exact ⟨iv (k2:Int),rfl,((k2:Int)),trivial,Sep.dO hS13 _,rfl⟩
 refine am ?_
 refine wa [] H3 [] ?_
 refine a6 ?_
 have hS14:Sep H3 (.obj (.ptr b 0 0 0) [iv en]::F):=Sep.pick hS4 [0] 1 cG cG
 exact ⟨iv (-1),rfl,(-1),trivial,Sep.dO hS14 _,rfl⟩
theorem CH {H:bY} (l:eR ew) (b:Nat) (en:Int) (F:List gn) (hS:Sep H (.obj (.ptr b 0 0 0) [iv en]::F)) :∃ v H',eH cfg eG.get ei true 210 [eR.av ew.cells l,.fz 161 [] [(.ptr b 0 0 0)]] { H with dO:=[] } v H'∧(∃ r0:Int,(True)∧Sep H' (.obj (.ptr b 0 0 0) [iv en]::F)∧v=iv r0):=by
 refine gF yg AD rfl ?_
 refine aO ?_
 have hL1:=l.lk
 refine eg rfl (fun _=>lG (r:=l) (enc:=ew.cells) rfl rfl rfl rfl rfl rfl) ?_
 refine aP ?_
 have hNk2:=l.lk
 refine eN (l.l.length) (fun k2 e h=>∃ H3:bY,Sep H3 (.obj (.ptr b 0 0 0) [iv en]::F)∧proj [0,1,7,8] e=[(0,eR.av ew.cells l),(1,.fz 161 [] [(.ptr b 0 0 0)]),(7,iv (l.l.length:Int)),(8,iv (k2:Int))]∧{ h with dO:=eV [0,1,7,8] h.dO } = { H3 with dO:=[] }) ?_ (k0:=0) cB ⟨H,hS,rfl,rfl⟩
 rintro k2 e h hkk2 ⟨H3,hS4,he,hh⟩
 refine ff he hh ?_
 clear he hh
 refine aa ?_
 refine fg ((k2:Int)) ((l.l.length:Int)) (fun h5=>?_) (fun h5=>?_)
 refine ao ?_
 refine wa [(0,eR.av ew.cells l),(1,.fz 161 [] [(.ptr b 0 0 0)]),(7,iv (l.l.length:Int)),(8,iv (k2:Int))] H3 [] ?_
 refine bS ?_
 refine aF ?_
 have hx6:k2<l.l.length:=by omega
 refine eg rfl (fun _=>lS (n:=k2) (r:=l) (enc:=ew.cells) rfl rfl rfl rfl rfl hx6 rfl) ?_
 generalize hqx7:l.l[k2]=x7
 refine oV ?_
 have hS8:Sep H3 (.obj (.ptr b 0 0 0) [iv en]::F):=Sep.pick hS4 [0] 1 cG cG
 refine fU (H:=H3) (args:=[.agg (ew.cells x7)]) (p:=[]) (r:=[(.ptr b 0 0 0)]) rfl rfl rfl rfl rfl rfl rfl (SI b x7 en (F) hS8) ?_
 rintro _ H9 ⟨r12,hc11,hS10,rfl⟩
 cases r12
 refine az ?_
 refine wa [(0,eR.av ew.cells l),(1,.fz 161 [] [(.ptr b 0 0 0)]),(7,iv (l.l.length:Int)),(8,iv (k2:Int))] H9 [] ?_
 refine qg ?_
 refine fu ((k2:Int)) (1) ?_
 refine ab ?_
 exact ⟨by omega,H9,hS10,rfl,rfl⟩
 refine bW ?_
 have hS13:Sep H9 (.obj (.ptr b 0 0 0) [iv en]::F):=Sep.pick hS10 [0] 1 cG cG
 exact ⟨iv (k2:Int),rfl,((k2:Int)),trivial,Sep.dO hS13 _,rfl⟩
 refine am ?_
 refine wa [] H3 [] ?_
 refine a6 ?_
 have hS14:Sep H3 (.obj (.ptr b 0 0 0) [iv en]::F):=Sep.pick hS4 [0] 1 cG cG
 exact ⟨iv (-1),rfl,(-1),trivial,Sep.dO hS14 _,rfl⟩
theorem Az:eG.get 160=some zN:=by kernel_rfl
theorem yH:ei 160=none:=by kernel_rfl
theorem Ce {H:bY} (l:eR ew) (b:Nat) (en:Int) (F:List gn) (hS:Sep H (.obj (.ptr b 0 0 0) [iv en]::F)) :∃ v H',eH cfg eG.get ei true 160 [eR.av ew.cells l,.fz 208 [] [(.ptr b 0 0 0)]] { H with dO:=[] } v H'∧(∃ r0:Bool,(True)∧Sep H' (.obj (.ptr b 0 0 0) [iv en]::F)∧v=.bool r0):=by
 refine gF yH Az rfl ?_
 refine aQ ?_
 refine ae ?_
 have hS1:Sep H (.obj (.ptr b 0 0 0) [iv en]::F):=Sep.pick hS [0] 1 cG cG
 refine fU (H:=H) (args:=[eR.av ew.cells l,.fz 208 [] [(.ptr b 0 0 0)]]) (p:=[]) (r:=[]) rfl rfl rfl rfl rfl rfl rfl (Ds l b en (F) hS1) ?_
 rintro _ H2 ⟨r5,hc4,hS3,rfl⟩
 refine gV (r5) (0) (fun h6=>?_) (fun h6=>?_)
 refine ag ?_
 have hS7:Sep H2 (.obj (.ptr b 0 0 0) [iv en]::F):=Sep.pick hS3 [0] 1 cG cG
 exact ⟨.bool true,rfl,true,trivial,Sep.dO hS7 _,rfl⟩
 refine ag ?_
 have hS8:Sep H2 (.obj (.ptr b 0 0 0) [iv en]::F):=Sep.pick hS3 [0] 1 cG cG
 exact ⟨.bool false,rfl,false,trivial,Sep.dO hS8 _,rfl⟩
theorem BY {H:bY} (l:eR ew) (b:Nat) (en:Int) (F:List gn) (hS:Sep H (.obj (.ptr b 0 0 0) [iv en]::F)) :∃ v H',eH cfg eG.get ei true 160 [eR.av ew.cells l,.fz 161 [] [(.ptr b 0 0 0)]] { H with dO:=[] } v H'∧(∃ r0:Bool,(True)∧Sep H' (.obj (.ptr b 0 0 0) [iv en]::F)∧v=.bool r0):=by
 refine gF yH Az rfl ?_
 refine aQ ?_
 refine ae ?_
 have hS1:Sep H (.obj (.ptr b 0 0 0) [iv en]::F):=Sep.pick hS [0] 1 cG cG
 refine fU (H:=H) (args:=[eR.av ew.cells l,.fz 161 [] [(.ptr b 0 0 0)]]) (p:=[]) (r:=[]) rfl rfl rfl rfl rfl rfl rfl (CH l b en (F) hS1) ?_
 rintro _ H2 ⟨r5,hc4,hS3,rfl⟩
 refine gV (r5) (0) (fun h6=>?_) (fun h6=>?_)
 refine ag ?_
 have hS7:Sep H2 (.obj (.ptr b 0 0 0) [iv en]::F):=Sep.pick hS3 [0] 1 cG cG
 exact ⟨.bool true,rfl,true,trivial,Sep.dO hS7 _,rfl⟩
 refine ag ?_
 have hS8:Sep H2 (.obj (.ptr b 0 0 0) [iv en]::F):=Sep.pick hS3 [0] 1 cG cG
 exact ⟨.bool false,rfl,false,trivial,Sep.dO hS8 _,rfl⟩
theorem KL:eG.get 156=some yU:=by kernel_rfl
theorem yo:ei 156=none:=by kernel_rfl
def Ly (_a0:iT) (_a1:Int) (v:AV):Prop:=∃ r0:Bool,((r0=true→_a0.steps.l.length<12))∧v=.bool r0
theorem t156 (a0:iT) (a1:Int)  (h:bY):∃ v,eH cfg eG.get ei false 156 [.ip (iT.cells a0) 0 true,iv a1] h v h∧Ly a0 a1 v:=by
 refine eW yo KL rfl rfl ?_
 refine aa ?_
 refine e7 (H:=bY.empty) rfl (mr gg rfl rfl rfl rfl rfl) ?_
 rintro _ H2 ⟨b1,rfl,hS3⟩
 refine ab ?_
 refine bO ?_
 refine rV ?_
 have hL4:=a0.steps.lk
 refine eI rfl rfl (fun _=>lG (r:=a0.steps) (enc:=ew.cells) rfl rfl rfl rfl rfl rfl) ?_
 refine j8 ((a0.steps.l.length:Int)) (12) (fun h5=>?_) (fun h5=>?_)
 refine rV ?_
 refine eI rfl rfl (fun _=>eU (H:=H2) (i:=0) (o:=0) (r:=iv a1) hS3 rfl rfl rfl rfl) ?_
 iterate 4 refine rV ?_
 refine sO (a1) (a0.mi) (fun h6=>?_) (fun h6=>?_)
 iterate 6 refine rV ?_
 refine eI rfl rfl (fun _=>qn rfl rfl (qo rfl rfl)) ?_
 have hS7:Sep H2 (.obj (.ptr b1 0 0 0) [iv a1]::[]):=Sep.pick hS3 [0] 1 cG cG
 refine If (H:=H2) (args:=[eR.av ew.cells a0.steps,.fz 208 [] [(.ptr b1 0 0 0)]]) (p:=[]) (r:=[]) rfl rfl rfl rfl rfl rfl rfl rfl (Ce a0.steps b1 a1 ([]) hS7) ?_
 rintro _ H8 ⟨r11,hc10,hS9,rfl⟩
 cases r11
 refine bj ?_
 exact xA (.bool true) ⟨true,cQ,rfl⟩
 refine bj ?_
 exact xA (.bool false) ⟨false,cQ,rfl⟩
 refine bp ?_
 refine rS ?_
 refine aH ?_
 exact xA (.bool false) ⟨false,cQ,rfl⟩
 refine ck ?_
 refine bp ?_
 refine rS ?_
 refine aH ?_
 exact xA (.bool false) ⟨false,cQ,rfl⟩
theorem Ji:eG.get 209=some zC:=by kernel_rfl
theorem Ik:ei 209=none:=by kernel_rfl
def SZ (_a0:eE) (_a1:Int) (_a2:Int) (v:AV):Prop:=∃ r0:Row fc,(r0.l.length≤2)∧v=Row.av fc.cells r0
theorem t209 (a0:eE) (a1:Int) (a2:Int)  (h:bY):∃ v,eH cfg eG.get ei false 209 [.ip (eE.cells a0) 0 false,iv a1,iv a2] h v h∧SZ a0 a1 a2 v:=by
 refine eW Ik Ji rfl rfl ?_
 refine aO ?_
 refine fg (a2) (0) (fun h1=>?_) (fun h1=>?_)
 refine bf ?_
 refine oS ?_
 refine ai ?_
 exact xF (.sl [] .nil) ⟨(⟨[],.nil,Nat.zero_le _,rfl,fun _=>rfl⟩:Row fc),de,rfl⟩
 iterate 4 refine oV ?_
 refine oC (t46 a0 (a1)) ?_
 rintro _ ⟨r3,hc2,rfl⟩
 have hK:=hc2
 refine oC (t204 (r3)) ?_
 rintro _ ⟨r5,hc4,rfl⟩
 refine gV (a2) (r5) (fun h6=>?_) (fun h6=>?_)
 refine ai ?_
 exact xF (.sl [] .nil) ⟨(⟨[],.nil,Nat.zero_le _,rfl,fun _=>rfl⟩:Row fc),de,rfl⟩
 refine aw ?_
 refine w0 [(0,.ip (eE.cells a0) 0 false),(1,iv a1),(2,iv a2)] [] ?_
 refine aI ?_
 refine oC (t46 a0 (a1)) ?_
 rintro _ ⟨r8,hc7,rfl⟩
 have hK:=hc7
 refine bP ?_
 refine fj (r8) (1) (fun h9=>?_) (fun h9=>?_)
 refine aC ?_
 refine aj ?_
 refine eg rfl (fun _=>fD rfl rfl rfl (gD .i64 (1) (a2))) ?_
 refine bz ?_
 exact xF (.sl [[iv (IntKind.i64.wrap (1 - (a2))),iv 0]] (.exact 1)) ⟨(⟨[(⟨(IntKind.i64.wrap (1 - (a2))),(0)⟩:fc)],.exact 1,Nat.le_of_ble_eq_true rfl,rfl,capXn⟩:Row fc),de,rfl⟩
 refine aS ?_
 refine fj (r8) (3) (fun h10=>?_) (fun h10=>?_)
 refine aC ?_
 refine ae ?_
 refine ce ?_
 have hd11:a2=0∨a2=1∨a2=2∨a2=3:=by omega
 rcases hd11 with rfl | rfl | rfl | rfl
 refine oV ?_
 refine bb ?_
 exact xF (.sl [[iv 1,iv 0]] (.exact 1)) ⟨(⟨[(⟨(1),(0)⟩:fc)],.exact 1,Nat.le_of_ble_eq_true rfl,rfl,capXn⟩:Row fc),de,rfl⟩
 refine oV ?_
 refine bb ?_
 exact xF (.sl [[iv 0,iv 0]] (.exact 1)) ⟨(⟨[(⟨(0),(0)⟩:fc)],.exact 1,Nat.le_of_ble_eq_true rfl,rfl,capXn⟩:Row fc),de,rfl⟩
 refine oV ?_
 refine bb ?_
 exact xF (.sl [[iv 3,iv 0]] (.exact 1)) ⟨(⟨[(⟨(3),(0)⟩:fc)],.exact 1,Nat.le_of_ble_eq_true rfl,rfl,capXn⟩:Row fc),de,rfl⟩
 refine oV ?_
 refine bb ?_
 exact xF (.sl [[iv 2,iv 0]] (.exact 1)) ⟨(⟨[(⟨(2),(0)⟩:fc)],.exact 1,Nat.le_of_ble_eq_true rfl,rfl,capXn⟩:Row fc),de,rfl⟩
 refine aS ?_
 refine fj (r8) (2) (fun h12=>?_) (fun h12=>?_)
 refine aC ?_
 refine ak ?_
 refine fj (a2) (0) (fun h13=>?_) (fun h13=>?_)
 refine ay ?_
 refine bM ?_
 exact xF (.sl [[iv 1,iv 1],[iv 2,iv 2]] (.exact 2)) ⟨(⟨[(⟨(1),(1)⟩:fc),(⟨(2),(2)⟩:fc)],.exact 2,Nat.le_of_ble_eq_true rfl,rfl,capXn⟩:Row fc),de,rfl⟩
 refine az ?_
 refine w0 [(2,iv a2)] [] ?_
 refine ae ?_
 have hd14:a2=0∨a2=1∨a2=2:=by omega
 rcases hd14 with rfl | rfl | rfl
 refine bb ?_
 exact xF (.sl [[iv 0,iv 0]] (.exact 1)) ⟨(⟨[(⟨(0),(0)⟩:fc)],.exact 1,Nat.le_of_ble_eq_true rfl,rfl,capXn⟩:Row fc),de,rfl⟩
 refine bb ?_
 exact xF (.sl [[iv 0,iv 1]] (.exact 1)) ⟨(⟨[(⟨(0),(1)⟩:fc)],.exact 1,Nat.le_of_ble_eq_true rfl,rfl,capXn⟩:Row fc),de,rfl⟩
 refine bb ?_
 exact xF (.sl [[iv 0,iv 2]] (.exact 1)) ⟨(⟨[(⟨(0),(2)⟩:fc)],.exact 1,Nat.le_of_ble_eq_true rfl,rfl,capXn⟩:Row fc),de,rfl⟩
 refine aw ?_
 refine w0 [] [] ?_
 refine a6 ?_
 exact xF (.sl [] .nil) ⟨(⟨[],.nil,Nat.zero_le _,rfl,fun _=>rfl⟩:Row fc),de,rfl⟩
theorem KG:eG.get 157=some yW:=by kernel_rfl
theorem IA:ei 157=none:=by kernel_rfl
theorem VJ {H:bY} (p:Nat) (mi:Int) (vs:AV) (steps:List ew) (vp:AV) (pos:List Int) (vl:AV) (left:List (Row fc)) (nn:eE) (x:ed) (F:List gn) (hS:Sep H (.obj (.ptr p 0 0 0) [iv mi,vs,vp,vl]::.sl true false vs 3 (List.map ew.cells steps)::.sl true false vp 1 (List.map eu pos)::.sl true false vl 1 (List.map (gi fc.cells) left)::F)) (q1:steps.length≤11) (q2:pos.length=steps.length) (q3:left.length=steps.length):∃ v H',eH cfg eG.get ei true 157 [(.ptr p 0 0 0),.ip (eE.cells nn) 0 false,.agg (ed.cells x)] { H with dO:=[] } v H'∧(∃ vso:AV,∃ stepso:List ew,∃ vpo:AV,∃ poso:List Int,∃ vlo:AV,∃ lefto:List (Row fc),(stepso.length=steps.length+1∧poso.length=stepso.length∧∃ w:Row fc,w.l.length≤2∧lefto=left++[w])∧Sep H' (.obj (.ptr p 0 0 0) [iv mi,vso,vpo,vlo]::.sl true false vso 3 (List.map ew.cells stepso)::.sl true false vpo 1 (List.map eu poso)::.sl true false vlo 1 (List.map (gi fc.cells) lefto)::F)∧v=.eP []):=by
 refine gF IA KG rfl ?_
 refine aQ ?_
 refine bi ?_
 refine eI rfl rfl (fun _=>gh (H:=H) (i:=0) hS rfl rfl) ?_
 refine eI rfl rfl (fun _=>fq (H:=H) (i:=0) hS rfl rfl rfl rfl rfl) ?_
 refine eI rfl rfl (fun _=>eU (H:=H) (i:=0) (o:=1) (r:=vs) hS rfl rfl rfl rfl) ?_
 iterate 6 refine rV ?_
 refine iA (H:=H) rfl rfl (fX (H:=H) (i:=1) (l:=steps) (enc:=ew.cells) [(⟨(x.elem),(x.en),(-1)⟩:ew)] hS rfl rfl rfl rfl rfl rfl rfl rfl rfl (fun _=>rfl) (.inr rfl) cF (fun _=>rfl)) ?_
 rintro v1 H2 hS3
 refine eI rfl rfl (fun _=>gh (H:=H2) (i:=0) hS3 rfl rfl) ?_
 refine eI rfl rfl (fun _=>fq (H:=H2) (i:=0) hS3 rfl rfl rfl rfl rfl) ?_
 refine iA (H:=H2) rfl rfl (gC (H:=H2) (i:=0) (o:=1) (r:=v1) hS3 rfl rfl rfl rfl (iJ rfl rfl (Sep.cell (i:=1) hS3 rfl)) (eJ (Sep.cell (i:=1) hS3 rfl) fG) rfl) ?_
 rintro _ H4 ⟨rfl,hS5⟩
 refine rN ?_
 refine ae ?_
 refine eg rfl (fun _=>gh (H:=H4) (i:=0) hS5 rfl rfl) ?_
 refine eg rfl (fun _=>fq (H:=H4) (i:=0) hS5 rfl rfl rfl rfl rfl) ?_
 refine eg rfl (fun _=>eU (H:=H4) (i:=0) (o:=2) (r:=vp) hS5 rfl rfl rfl rfl) ?_
 refine oV ?_
 refine e7 (H:=H4) rfl (fX (H:=H4) (i:=2) (l:=pos) (enc:=eu) [(0)] hS5 rfl rfl rfl rfl rfl rfl rfl rfl rfl (fun _=>rfl) (.inr rfl) cF (fun _=>rfl)) ?_
 rintro v6 H7 hS8
 refine eg rfl (fun _=>gh (H:=H7) (i:=0) hS8 rfl rfl) ?_
 refine eg rfl (fun _=>fq (H:=H7) (i:=0) hS8 rfl rfl rfl rfl rfl) ?_
 refine e7 (H:=H7) rfl (gC (H:=H7) (i:=0) (o:=2) (r:=v6) hS8 rfl rfl rfl rfl (iJ rfl rfl (Sep.cell (i:=2) hS8 rfl)) (eJ (Sep.cell (i:=2) hS8 rfl) fG) rfl) ?_
 rintro _ H9 ⟨rfl,hS10⟩
 refine oN ?_
 refine qd ?_
 iterate 2 refine rV ?_
 refine eI rfl rfl (fun _=>gh (H:=H9) (i:=0) hS10 rfl rfl) ?_
 refine eI rfl rfl (fun _=>fq (H:=H9) (i:=0) hS10 rfl rfl rfl rfl rfl) ?_
 refine eI rfl rfl (fun _=>eU (H:=H9) (i:=0) (o:=3) (r:=vl) hS10 rfl rfl rfl rfl) ?_
 iterate 5 refine rV ?_
 refine rC (t209 nn (x.elem) (x.en)) ?_
 rintro _ ⟨r12,hc11,rfl⟩
 refine eI rfl rfl (fun _=>vB (xs:=[[Row.av fc.cells r12]]) rfl rfl rfl rfl (Fz (eJ (ir _) fG) rfl)) ?_
 refine iA (H:=H9) rfl rfl (fX (H:=H9) (i:=3) (l:=left) (enc:=(gi fc.cells)) [r12] hS10 rfl rfl rfl rfl rfl rfl rfl rfl rfl (fun _=>rfl) (.inr rfl) cF (fun _=>rfl)) ?_
 rintro v13 H14 hS15
 refine eI rfl rfl (fun _=>gh (H:=H14) (i:=0) hS15 rfl rfl) ?_
 refine eI rfl rfl (fun _=>fq (H:=H14) (i:=0) hS15 rfl rfl rfl rfl rfl) ?_
 refine iA (H:=H14) rfl rfl (gC (H:=H14) (i:=0) (o:=3) (r:=v13) hS15 rfl rfl rfl rfl (iJ rfl rfl (Sep.cell (i:=3) hS15 rfl)) (eJ (Sep.cell (i:=3) hS15 rfl) fG) rfl) ?_
 rintro _ H16 ⟨rfl,hS17⟩
 refine rN ?_
 have hS18:Sep H16 (.obj (.ptr p 0 0 0) [iv mi,v1,v6,v13]::.sl true false v1 3 (List.map ew.cells ((steps++[(⟨(x.elem),(x.en),(-1)⟩:ew)])))::.sl true false v6 1 (List.map eu (pos++[(0)]))::.sl true false v13 1 (List.map (gi fc.cells) (left++[r12]))::F):=Sep.pick hS17 [0,1,2,3] 4 cG cG
 exact ⟨.eP [],rfl,v1,((steps++[(⟨(x.elem),(x.en),(-1)⟩:ew)])),v6,(pos++[(0)]),v13,(left++[r12]),(by refine ⟨by simp,by simp; omega,_,?_,rfl⟩; assumption),Sep.dO hS18 _,rfl⟩
theorem Qn:eG.get 93=some CS:=by kernel_rfl
theorem Jo:ei 93=none:=by kernel_rfl
def Wd (_a0:eR ew) (v:AV):Prop:=∃ r0:Row ew,(r0.l = _a0.l)∧v=Row.av ew.cells r0
theorem t93 (a0:eR ew) (q1:a0.l.length≤1000) (h:bY):∃ v,eH cfg eG.get ei false 93 [eR.av ew.cells a0] h v h∧Wd a0 v:=by
 refine eW Jo Qn rfl rfl ?_
 refine aO ?_
 refine gH (b:=a0.isNil) rfl (fun _=>lE rfl rfl rfl rfl) (fun h1=>?_) (fun h1=>?_)
 refine be ?_
 exact xF (.sl [] .nil) ⟨(⟨[],.nil,Nat.zero_le _,rfl,fun _=>rfl⟩:Row ew),cT,rfl⟩
 refine az ?_
 refine w0 [(0,eR.av ew.cells a0)] [] ?_
 refine ae ?_
 have hS2:=Sep.nH gg 3
 refine e7 (H:=bY.empty) rfl (fX (H:=bY.empty) (i:=0) (l:=([]:List ew)) (enc:=ew.cells) a0.l hS2 rfl rfl rfl rfl rfl rfl rfl rfl rfl (fun _=>rfl) (.inl rfl) cF (fun _=>rfl)) ?_
 rintro v3 H4 hS5
 refine ag ?_
 obtain ⟨r6,hl7,hf8⟩:=gQ (H:=H4) (i:=0) (l:=(([]:List ew)++a0.l)) (enc:=ew.cells) hS5 rfl cz
 have hlq:=hl7; have hln10:=congrArg List.length hl7
 have hz9:∀ m,freeze false { H4 with dO:=[] } (m+2) v3=some (Row.av ew.cells r6):=fun m=>hf8 _ _ (fun _=>rfl)
 exact ⟨v3,(ia (vs:=[v3]) rfl (eJ (Sep.arg (i:=0) hS5 rfl) fG)),Row.av ew.cells r6,(show freeze false { H4 with dO:=[] } 8 v3=some (Row.av ew.cells r6) by simp only [FZ,hz9]),r6,cT,rfl⟩
theorem Kk:eG.get 158=some zV:=by kernel_rfl
theorem rG:ei 158=none:=by kernel_rfl
def ze (_a0:iT) (_a1:Int) (_a2:Int) (_a3:Int) (v:AV):Prop:=∃ r0:eF,((r0.steps.l = _a0.steps.l∧r0.gU.l.length≤_a0.steps.l.length))∧v=.agg (eF.cells r0)
theorem t158 (a0:iT) (a1:Int) (a2:Int) (a3:Int) (q1:a0.steps.l.length≤12) (q2:a0.pos.l.length=a0.steps.l.length) (h:bY):∃ v,eH cfg eG.get ei false 158 [.ip (iT.cells a0) 0 true,iv a1,iv a2,iv a3] h v h∧ze a0 a1 a2 a3 v:=by
 refine eW rG Kk rfl rfl ?_
 refine aQ ?_
 refine aa ?_
 iterate 7 refine oV ?_
 refine oC (t93 a0.steps cq) ?_
 rintro _ ⟨r2,hc1,rfl⟩
 have hC93:=congrArg List.length hc1; try simp only [Row.iV] at hC93
 refine aW ?_
 refine qs ?_
 refine aG ?_
 have hL3:=a0.steps.lk
 refine eg rfl (fun _=>lG (r:=a0.steps) (enc:=ew.cells) rfl rfl rfl rfl rfl rfl) ?_
 refine aP ?_
 have hS4:=Sep.iF gg 2
 have hNk5:=a0.steps.lk
 refine eN (a0.steps.l.length) (fun k5 e h=>∃ v6:AV,∃ l7:List eA,∃ H8:bY,(l7.length≤0+k5)∧Sep H8 (.sl true true v6 2 (List.map eA.cells l7)::[])∧proj [0,8,9,24,25,26] e=[(0,.ip (iT.cells a0) 0 true),(8,.la 8 0),(9,.la 9 0),(24,eR.av ew.cells a0.steps),(25,iv (a0.steps.l.length:Int)),(26,iv (k5:Int))]∧{ h with dO:=eV [0,8,9,24,25,26] h.dO } = { H8 with dO:=[(8,[iv 0,iv 0,iv 0,.sl [] .nil,.sl [] .nil,.sl [] .nil,.sl [] .nil,.sl [] .nil,.bool false]),(9,[iv a1,iv a2,iv a3,Row.av ew.cells r2,v6,.sl [] .nil,.sl [] .nil,.sl [] .nil,.bool false])] }) ?_ (k0:=0) cB ⟨((.sl [] .nil)),(([]:List eA)),bY.empty,c8,hS4,rfl,rfl⟩
 rintro k5 e h hkk5 ⟨v6,l7,H8,hl10,hS9,he,hh⟩
 refine ff he hh ?_
 clear he hh
 refine aa ?_
 refine fg ((k5:Int)) ((a0.steps.l.length:Int)) (fun h11=>?_) (fun h11=>?_)
 refine ao ?_
 refine wa [(0,.ip (iT.cells a0) 0 true),(8,.la 8 0),(9,.la 9 0),(24,eR.av ew.cells a0.steps),(25,iv (a0.steps.l.length:Int)),(26,iv (k5:Int))] H8 [(8,[iv 0,iv 0,iv 0,.sl [] .nil,.sl [] .nil,.sl [] .nil,.sl [] .nil,.sl [] .nil,.bool false]),(9,[iv a1,iv a2,iv a3,Row.av ew.cells r2,v6,.sl [] .nil,.sl [] .nil,.sl [] .nil,.bool false])] ?_
 refine bE ?_
 have hx12:k5<a0.steps.l.length:=by omega
 refine eg rfl (fun _=>lS (n:=k5) (r:=a0.steps) (enc:=ew.cells) rfl rfl rfl rfl rfl hx12 rfl) ?_
 generalize hqx13:a0.steps.l[k5]=x13
 refine bF ?_
 refine aG ?_
 refine oV ?_
 have hx14:k5<a0.pos.l.length:=by omega
 refine eg rfl (fun _=>lS (n:=k5) (r:=a0.pos) (enc:=eu) rfl rfl rfl rfl rfl hx14 rfl) ?_
 generalize hqx15:a0.pos.l[k5]=x15
 refine oV ?_
 refine gK (x15) (0) (fun h16=>?_) (fun h16=>?_)
 refine ay ?_
 refine qd ?_
 iterate 9 refine rV ?_
 have hx17:k5<a0.pos.l.length:=by omega
 refine eI rfl rfl (fun _=>lS (n:=k5) (r:=a0.pos) (enc:=eu) rfl rfl rfl rfl rfl hx17 rfl) ?_
 rw [hqx15]
 iterate 3 refine rV ?_
 refine iA (H:=H8) rfl rfl (fX (H:=H8) (i:=0) (l:=l7) (enc:=eA.cells) [(⟨(x13.elem),(x15)⟩:eA)] hS9 rfl rfl rfl rfl rfl rfl rfl rfl rfl (fun _=>rfl) (.inl rfl) cF (fun _=>rfl)) ?_
 rintro v19 H20 hS21
 refine rV ?_
 refine eI rfl rfl (fun _=>sj rfl rfl rfl (iJ rfl rfl (Sep.cell (i:=0) hS21 rfl)) (eJ (Sep.cell (i:=0) hS21 rfl) fG) rfl rfl) ?_
 refine rN ?_
 refine wa [(0,.ip (iT.cells a0) 0 true),(8,.la 8 0),(9,.la 9 0),(24,eR.av ew.cells a0.steps),(25,iv (a0.steps.l.length:Int)),(26,iv (k5:Int))] H20 [(8,[iv 0,iv 0,iv 0,.sl [] .nil,.sl [] .nil,.sl [] .nil,.sl [] .nil,.sl [] .nil,.bool false]),(9,[iv a1,iv a2,iv a3,Row.av ew.cells r2,v19,.sl [] .nil,.sl [] .nil,.sl [] .nil,.bool false])] ?_
 refine qg ?_
 refine fu ((k5:Int)) (1) ?_
 refine ab ?_
 exact ⟨by omega,(v19),((l7++[(⟨(x13.elem),(x15)⟩:eA)])),H20,cA,hS21,rfl,rfl⟩
 refine az ?_
 refine wa [(0,.ip (iT.cells a0) 0 true),(8,.la 8 0),(9,.la 9 0),(24,eR.av ew.cells a0.steps),(25,iv (a0.steps.l.length:Int)),(26,iv (k5:Int))] H8 [(8,[iv 0,iv 0,iv 0,.sl [] .nil,.sl [] .nil,.sl [] .nil,.sl [] .nil,.sl [] .nil,.bool false]),(9,[iv a1,iv a2,iv a3,Row.av ew.cells r2,v6,.sl [] .nil,.sl [] .nil,.sl [] .nil,.bool false])] ?_
 refine qg ?_
 refine fu ((k5:Int)) (1) ?_
 refine ab ?_
 exact ⟨by omega,(v6),(l7),H8,cA,hS9,rfl,rfl⟩
 refine am ?_
 refine wa [(8,.la 8 0),(8,.la 8 0),(9,.la 9 0)] H8 [(8,[iv 0,iv 0,iv 0,.sl [] .nil,.sl [] .nil,.sl [] .nil,.sl [] .nil,.sl [] .nil,.bool false]),(8,[iv 0,iv 0,iv 0,.sl [] .nil,.sl [] .nil,.sl [] .nil,.sl [] .nil,.sl [] .nil,.bool false]),(9,[iv a1,iv a2,iv a3,Row.av ew.cells r2,v6,.sl [] .nil,.sl [] .nil,.sl [] .nil,.bool false])] ?_
 refine aj ?_
 refine eg rfl (fun _=>sj rfl rfl rfl rfl (eJ rfl (eJ rfl (eJ rfl (eJ rfl (eJ (Sep.cell (i:=0) hS9 rfl) (eJ rfl (eJ rfl (eJ rfl (eJ rfl fG))))))))) rfl rfl) ?_
 refine ci ?_
 obtain ⟨r22,hl23,hf24⟩:=gQ (H:=H8) (i:=0) (l:=l7) (enc:=eA.cells) hS9 rfl cz
 have hlq:=hl23; have hln26:=congrArg List.length hl23
 have hz25:∀ m,freeze false { H8 with dO:=[(8,[iv a1,iv a2,iv a3,Row.av ew.cells r2,v6,.sl [] .nil,.sl [] .nil,.sl [] .nil,.bool false]),(9,[iv a1,iv a2,iv a3,Row.av ew.cells r2,v6,.sl [] .nil,.sl [] .nil,.sl [] .nil,.bool false])] } (m+2) v6=some (Row.av eA.cells r22):=fun m=>hf24 _ _ (fun _=>rfl)
 exact ⟨.agg [iv a1,iv a2,iv a3,Row.av ew.cells r2,v6,.sl [] .nil,.sl [] .nil,.sl [] .nil,.bool false],(ia (vs:=[.agg [iv a1,iv a2,iv a3,Row.av ew.cells r2,v6,.sl [] .nil,.sl [] .nil,.sl [] .nil,.bool false]]) rfl rfl),.agg [iv a1,iv a2,iv a3,Row.av ew.cells r2,Row.av eA.cells r22,.sl [] .nil,.sl [] .nil,.sl [] .nil,.bool false],(show freeze false { H8 with dO:=[(8,[iv a1,iv a2,iv a3,Row.av ew.cells r2,v6,.sl [] .nil,.sl [] .nil,.sl [] .nil,.bool false]),(9,[iv a1,iv a2,iv a3,Row.av ew.cells r2,v6,.sl [] .nil,.sl [] .nil,.sl [] .nil,.bool false])] } 8 (.agg [iv a1,iv a2,iv a3,Row.av ew.cells r2,v6,.sl [] .nil,.sl [] .nil,.sl [] .nil,.bool false])=some (.agg [iv a1,iv a2,iv a3,Row.av ew.cells r2,Row.av eA.cells r22,.sl [] .nil,.sl [] .nil,.sl [] .nil,.bool false]) by simp only [FZ,hz25]),(⟨(a1),(a2),(a3),r2,r22,(⟨[],.nil,Nat.zero_le _,rfl,fun _=>rfl⟩:Row eA),(⟨[],.nil,Nat.zero_le _,rfl,fun _=>rfl⟩:Row Int),(⟨[],.nil,Nat.zero_le _,rfl,fun _=>rfl⟩:Row Int),false⟩:eF),(by first | exact ⟨by assumption,by dsimp only; omega⟩ | exact ⟨by assumption,by simp⟩),rfl⟩
theorem Lo:eG.get 159=some zU:=by kernel_rfl
theorem Io:ei 159=none:=by kernel_rfl
theorem Vr {H:bY} (p:Nat) (mi:Int) (vs:AV) (steps:List ew) (vp:AV) (pos:List Int) (vl:AV) (left:List (Row fc)) (F:List gn) (hS:Sep H (.obj (.ptr p 0 0 0) [iv mi,vs,vp,vl]::.sl true false vs 3 (List.map ew.cells steps)::.sl true false vp 1 (List.map eu pos)::.sl true false vl 1 (List.map (gi fc.cells) left)::F)) (q1:steps.length≤12) (q2:pos.length=steps.length) (q3:left.length=steps.length) (q4:0<steps.length):∃ v H',eH cfg eG.get ei true 159 [(.ptr p 0 0 0)] { H with dO:=[] } v H'∧(∃ vso:AV,∃ stepso:List ew,∃ vpo:AV,∃ poso:List Int,∃ vlo:AV,∃ lefto:List (Row fc),(stepso.length+1=steps.length∧poso.length=stepso.length∧lefto=left.take (left.length - 1))∧Sep H' (.obj (.ptr p 0 0 0) [iv mi,vso,vpo,vlo]::.sl true false vso 3 (List.map ew.cells stepso)::.sl true false vpo 1 (List.map eu poso)::.sl true false vlo 1 (List.map (gi fc.cells) lefto)::F)∧v=.eP []):=by
 refine gF Io Lo rfl ?_
 refine aj ?_
 refine eg rfl (fun _=>gh (H:=H) (i:=0) hS rfl rfl) ?_
 refine eg rfl (fun _=>fq (H:=H) (i:=0) hS rfl rfl rfl rfl rfl) ?_
 refine eg rfl (fun _=>eU (H:=H) (i:=0) (o:=1) (r:=vs) hS rfl rfl rfl rfl) ?_
 refine eg rfl (fun _=>jb (H:=H) (i:=1) (l:=steps) (enc:=ew.cells) hS rfl rfl rfl rfl rfl rfl rfl) ?_
 refine g7 ((steps.length:Int)) (1) ?_
 refine ab ?_
 refine qd ?_
 iterate 4 refine rV ?_
 refine eI rfl rfl (fun _=>gh (H:=H) (i:=0) hS rfl rfl) ?_
 refine eI rfl rfl (fun _=>fq (H:=H) (i:=0) hS rfl rfl rfl rfl rfl) ?_
 refine eI rfl rfl (fun _=>eU (H:=H) (i:=0) (o:=1) (r:=vs) hS rfl rfl rfl rfl) ?_
 refine rV ?_
 have hk1:((((steps.length:Int) - 1).toNat:Nat):Int)=(steps.length:Int) - 1:=Int.toNat_of_nonneg cA
 have hx2:((steps.length:Int) - 1).toNat≤steps.length:=by first | omega | (simp<;>omega) | (simp_all; omega)
 refine iA (H:=H) rfl rfl (nW (H:=H) (i:=1) (k:=((steps.length:Int) - 1).toNat) hS rfl rfl rfl rfl rfl rfl (congrArg (AV.int .i64) hk1.symm) hx2) ?_
 rintro v3 H4 ⟨hc5,hS6⟩
 refine rV ?_
 refine eI rfl rfl (fun _=>gh (H:=H4) (i:=0) hS6 rfl rfl) ?_
 refine eI rfl rfl (fun _=>fq (H:=H4) (i:=0) hS6 rfl rfl rfl rfl rfl) ?_
 refine eI rfl rfl (fun _=>eU (H:=H4) (i:=0) (o:=2) (r:=vp) hS6 rfl rfl rfl rfl) ?_
 refine rV ?_
 have hk7:((((steps.length:Int) - 1).toNat:Nat):Int)=(steps.length:Int) - 1:=Int.toNat_of_nonneg cA
 have hx8:((steps.length:Int) - 1).toNat≤pos.length:=by first | omega | (simp<;>omega) | (simp_all; omega)
 refine iA (H:=H4) rfl rfl (nW (H:=H4) (i:=2) (k:=((steps.length:Int) - 1).toNat) hS6 rfl rfl rfl rfl rfl rfl (congrArg (AV.int .i64) hk7.symm) hx8) ?_
 rintro v9 H10 ⟨hc11,hS12⟩
 refine rV ?_
 refine eI rfl rfl (fun _=>gh (H:=H10) (i:=0) hS12 rfl rfl) ?_
 refine eI rfl rfl (fun _=>fq (H:=H10) (i:=0) hS12 rfl rfl rfl rfl rfl) ?_
 refine eI rfl rfl (fun _=>eU (H:=H10) (i:=0) (o:=3) (r:=vl) hS12 rfl rfl rfl rfl) ?_
 refine rV ?_
 have hk13:((((steps.length:Int) - 1).toNat:Nat):Int)=(steps.length:Int) - 1:=Int.toNat_of_nonneg cA
 have hx14:((steps.length:Int) - 1).toNat≤left.length:=by first | omega | (simp<;>omega) | (simp_all; omega)
 refine iA (H:=H10) rfl rfl (nW (H:=H10) (i:=3) (k:=((steps.length:Int) - 1).toNat) hS12 rfl rfl rfl rfl rfl rfl (congrArg (AV.int .i64) hk13.symm) hx14) ?_
 rintro v15 H16 ⟨hc17,hS18⟩
 refine eI rfl rfl (fun _=>gh (H:=H16) (i:=0) hS18 rfl rfl) ?_
 refine eI rfl rfl (fun _=>fq (H:=H16) (i:=0) hS18 rfl rfl rfl rfl rfl) ?_
 refine nv (H:=H16) rfl rfl (gC (H:=H16) (i:=0) (o:=1) (r:=v3) hS18 rfl rfl rfl rfl (iJ rfl rfl (Sep.cell (i:=1) hS18 rfl)) (eJ (Sep.cell (i:=1) hS18 rfl) fG) rfl) ?_
 rintro _ H19 ⟨rfl,hS20⟩
 refine ⟨fun call=>(wM (jc rfl rfl rfl (m5 (H:=H19) (i:=2) (k:=((steps.length:Int) - 1).toNat) hS20 rfl hc11 rfl rfl rfl rfl rfl (congrArg (AV.int .i64) hk7.symm)) rfl (um (i:=2) hS20 rfl)) (sR (jc rfl rfl rfl (m5 (H:=H19) (i:=3) (k:=((steps.length:Int) - 1).toNat) hS20 rfl hc17 rfl rfl rfl rfl rfl (congrArg (AV.int .i64) hk13.symm)) rfl (um (i:=3) hS20 rfl)))),?_⟩
 refine eI rfl rfl (fun _=>gh (H:=H19) (i:=0) hS20 rfl rfl) ?_
 refine eI rfl rfl (fun _=>fq (H:=H19) (i:=0) hS20 rfl rfl rfl rfl rfl) ?_
 refine nv (H:=H19) rfl rfl (gC (H:=H19) (i:=0) (o:=2) (r:=v9) hS20 rfl rfl rfl rfl (iJ rfl rfl (Sep.cell (i:=2) hS20 rfl)) (eJ (Sep.cell (i:=2) hS20 rfl) fG) rfl) ?_
 rintro _ H21 ⟨rfl,hS22⟩
 refine ⟨fun call=>(sR (jc rfl rfl rfl (m5 (H:=H21) (i:=3) (k:=((steps.length:Int) - 1).toNat) hS22 rfl hc17 rfl rfl rfl rfl rfl (congrArg (AV.int .i64) hk13.symm)) rfl (um (i:=3) hS22 rfl))),?_⟩
 refine eI rfl rfl (fun _=>gh (H:=H21) (i:=0) hS22 rfl rfl) ?_
 refine eI rfl rfl (fun _=>fq (H:=H21) (i:=0) hS22 rfl rfl rfl rfl rfl) ?_
 refine iA (H:=H21) rfl rfl (gC (H:=H21) (i:=0) (o:=3) (r:=v15) hS22 rfl rfl rfl rfl (iJ rfl rfl (Sep.cell (i:=3) hS22 rfl)) (eJ (Sep.cell (i:=3) hS22 rfl) fG) rfl) ?_
 rintro _ H23 ⟨rfl,hS24⟩
 refine rN ?_
 have hS25:Sep H23 (.obj (.ptr p 0 0 0) [iv mi,v3,v9,v15]::.sl true false v3 3 (List.map ew.cells (steps.take (((steps.length:Int) - 1).toNat)))::.sl true false v9 1 (List.map eu (pos.take (((steps.length:Int) - 1).toNat)))::.sl true false v15 1 (List.map (gi fc.cells) (left.take (((steps.length:Int) - 1).toNat)))::F):=Sep.pick hS24 [0,1,2,3] 4 cG cG
 exact ⟨.eP [],rfl,v3,(steps.take (((steps.length:Int) - 1).toNat)),v9,(pos.take (((steps.length:Int) - 1).toNat)),v15,(left.take (((steps.length:Int) - 1).toNat)),(by refine ⟨by simp only [List.length_take]; omega,by simp only [List.length_take]; omega,?_⟩; congr 1; omega),Sep.dO hS25 _,rfl⟩
end Go.Sx
