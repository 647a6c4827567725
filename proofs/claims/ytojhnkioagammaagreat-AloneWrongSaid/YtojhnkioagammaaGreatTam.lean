/- Proves what some functions of the program answer, by walking through them. -/
import Derived.Test.YtojhnkioagammaaGreatTai
import Derived.Test.YtojhnkioagammaaGreatTak
import Derived.Test.YtojhnkioagammaaGreatTal
set_option linter.all false
set_option maxRecDepth 100000
set_option maxHeartbeats 0
namespace Go.Sx
open Go Go.Proofs
theorem Qs:FT 184=some Cs:=by kernel_rfl
theorem Me:aT 184=none:=by kernel_rfl
def Zb (_a0:fK) (v:AV):Prop:=∃ r0:Bool,(True)∧v=.bool r0
theorem t184 (a0:fK)  (h:ah):∃ v,fj cfg FT aT false 184 [.agg (fK.cells a0)] h v h∧Zb a0 v:=by
 refine fS Me Qs rfl rfl ?_
 refine aQ ?_
 refine ae ?_
 refine oC (t121 a0.name) ?_
 rintro _ ⟨r2,⟨hc1,hc1r⟩,rfl⟩
 cases r2
 refine bD ?_
 refine cq ?_
 refine aS ?_
 exact xA (.bool false) ⟨false,trivial,rfl⟩
 iterate 3 refine oV ?_
 refine oC (t235 (a0.len) (4000)) ?_
 rintro _ ⟨r4,hc3,rfl⟩
 cases r4
 refine cq ?_
 refine aS ?_
 exact xA (.bool false) ⟨false,trivial,rfl⟩
 iterate 4 refine oV ?_
 refine oC (t235 (a0.top) (60)) ?_
 rintro _ ⟨r6,hc5,rfl⟩
 cases r6
 refine cA ?_
 refine cA ?_
 refine aS ?_
 exact xA (.bool false) ⟨false,trivial,rfl⟩
 iterate 4 refine oV ?_
 refine oC (t235 (a0.acc) (10)) ?_
 rintro _ ⟨r8,hc7,rfl⟩
 cases r8
 refine cA ?_
 refine aS ?_
 exact xA (.bool false) ⟨false,trivial,rfl⟩
 iterate 4 refine oV ?_
 refine oC (t235 (a0.gE) (10)) ?_
 rintro _ ⟨r10,hc9,rfl⟩
 cases r10
 refine aS ?_
 exact xA (.bool false) ⟨false,trivial,rfl⟩
 refine aS ?_
 exact xA (.bool true) ⟨true,trivial,rfl⟩
theorem Qu:FT 118=some CT:=by kernel_rfl
theorem M4:aT 118=none:=by kernel_rfl
def aaV (_a0:Row fK) (v:AV):Prop:=∃ r0:Int,(True)∧v=iv r0
theorem t118 (a0:Row fK)  (h:ah):∃ v,fj cfg FT aT false 118 [Row.av fK.cells a0] h v h∧aaV a0 v:=by
 refine fS M4 Qu rfl rfl ?_
 refine aU ?_
 refine pD ?_
 refine bh ?_
 have hL1:=a0.lk
 refine gG a0 ?_
 refine g9 ((a0.l.length:Int)) (4) (fun h2=>?_) (fun h2=>?_)
 refine aZ ?_
 exact xA (iv 3) ⟨(3),trivial,rfl⟩
 refine az ?_
 refine aU ?_
 refine qq ?_
 refine ql ?_
 refine bh ?_
 have hL3:=a0.lk
 refine gG a0 ?_
 refine aC ?_
 have hNk4:=a0.lk
 refine fC (a0.l.length) (fun k4 e h=>∃ n5:Int,proj [0,3,11,12,13] e=[(0,Row.av fK.cells a0),(3,iv n5),(11,Row.av fK.cells a0),(12,iv (a0.l.length:Int)),(13,iv (k4:Int))]∧{ h with aq:=fU [0,3,11,12,13] h.aq } = { ah.empty with aq:=[] }) ?_ (k0:=0) cO ⟨(0),rfl,rfl⟩
 rintro k4 e h hkk4 ⟨n5,he,hh⟩
 refine gm he hh ?_
 clear he hh
 refine aa ?_
 refine gl ((k4:Int)) ((a0.l.length:Int)) (fun h6=>?_) (fun h6=>?_)
 refine bU ?_
 have hx7:k4<a0.l.length:=by omega
 refine iU k4 a0 hx7 ?_
 generalize hqx8:a0.l[k4]=x8
 refine bM ?_
 refine bh ?_
 refine oC (t184 x8) ?_
 rintro _ ⟨r10,hc9,rfl⟩
 cases r10
 refine au ?_
 exact xA (iv 1) ⟨(1),trivial,rfl⟩
 refine oV ?_
 refine bE ?_
 have hx11:k4≤a0.l.length:=by omega
 refine fq rfl (fun _=>Aw (k:=k4) (r:=a0) (enc:=fK.cells) (n:=5) rfl rfl rfl rfl rfl rfl hx11 (fun _=>rfl)) ?_
 have hL12:=(Row.take a0 k4).lk
 refine gG ((Row.take a0 k4)) ?_
 refine aC ?_
 have hNk13:=(Row.take a0 k4).lk
 refine fC ((Row.take a0 k4).l.length) (fun lE e h=>proj [0,3,5,11,12,13,23,24,25] e=[(0,Row.av fK.cells a0),(3,iv n5),(5,.la 5 0),(11,Row.av fK.cells a0),(12,iv (a0.l.length:Int)),(13,iv (k4:Int)),(23,Row.av fK.cells (Row.take a0 k4)),(24,iv ((Row.take a0 k4).l.length:Int)),(25,iv (lE:Int))]∧{ h with aq:=fU [0,3,5,11,12,13,23,24,25] h.aq } = { ah.empty with aq:=[(5,(fK.cells x8))] }) ?_ (k0:=0) cO ⟨rfl,rfl⟩
 rintro lE e h hkk13 ⟨he,hh⟩
 refine gm he hh ?_
 clear he hh
 refine aa ?_
 refine gl ((lE:Int)) (((Row.take a0 k4).l.length:Int)) (fun h14=>?_) (fun h14=>?_)
 refine bI ?_
 have hx15:lE<(Row.take a0 k4).l.length:=by omega
 refine iU lE ((Row.take a0 k4)) hx15 ?_
 generalize hqx16:(Row.take a0 k4).l[lE]=x16
 refine aX ?_
 refine be ?_
 refine lJ rfl (fun _=>qo rfl rfl) (fun h17=>?_) (fun h17=>?_)
 refine aA ?_
 refine aU ?_
 refine qe ?_
 refine qg ?_
 refine gy ((k4:Int)) (1) ?_
 refine ab ?_
 exact ⟨by omega,(4),rfl,rfl⟩
 refine bN ?_
 refine gy ((lE:Int)) (1) ?_
 refine ab ?_
 exact ⟨by omega,rfl,rfl⟩
 refine aj ?_
 refine qg ?_
 refine gy ((k4:Int)) (1) ?_
 refine ab ?_
 exact ⟨by omega,(n5),rfl,rfl⟩
 refine aj ?_
 refine bG ?_
 exact xA (iv n5) ⟨(n5),trivial,rfl⟩
theorem Np:FT 120=some D1:=by kernel_rfl
theorem Nk:aT 120=none:=by kernel_rfl
theorem abQ {H:ah} (b:Nat) (pp:fh) (x:fK) (F:List gH) (hS:Sep H (.obj (.ptr b 0 0 0) (fh.cells pp)::F)) :∃ v H',fj cfg FT aT true 120 [.agg (fK.cells x),(.ptr b 0 0 0)] { H with aq:=[] } v H'∧(∃ r0:Bool,(True)∧Sep H' (.obj (.ptr b 0 0 0) (fh.cells pp)::F)∧v=.bool r0):=by
 refine gB Nk Np rfl ?_
 refine aQ ?_
 refine ae ?_
 refine iN 0 hS ?_
 refine ix 0 hS (iv pp.top) ?_
 refine g9 (x.top) (pp.top) (fun h1=>?_) (fun h1=>?_)
 refine bi ?_
 refine aS ?_
 have hS2:=Sep.pick hS [0] 1 cK cK
 exact ⟨.bool true,rfl,true,trivial,Sep.aq hS2 _,rfl⟩
 iterate 3 refine oV ?_
 refine iN 0 hS ?_
 refine ix 0 hS (iv pp.gE) ?_
 refine gl (x.gE) (pp.gE) (fun h3=>?_) (fun h3=>?_)
 refine aS ?_
 have hS4:=Sep.pick hS [0] 1 cK cK
 exact ⟨.bool true,rfl,true,trivial,Sep.aq hS4 _,rfl⟩
 refine aS ?_
 have hS5:=Sep.pick hS [0] 1 cK cK
 exact ⟨.bool false,rfl,false,trivial,Sep.aq hS5 _,rfl⟩
theorem QX:FT 185=some Dz:=by kernel_rfl
theorem Mk:aT 185=none:=by kernel_rfl
theorem HG {H:ah} (l:fE fK) (b:Nat) (pp:fh) (F:List gH) (hS:Sep H (.obj (.ptr b 0 0 0) (fh.cells pp)::F)) :∃ v H',fj cfg FT aT true 185 [fE.av fK.cells l,.gL 120 [] [(.ptr b 0 0 0)]] { H with aq:=[] } v H'∧(∃ r0:Int,(True)∧Sep H' (.obj (.ptr b 0 0 0) (fh.cells pp)::F)∧v=iv r0):=by
 refine gB Mk QX rfl ?_
 refine aY ?_
 have hL1:=l.lk
 refine fq rfl (fun _=>jn (r:=l) (enc:=fK.cells) rfl rfl rfl rfl rfl rfl) ?_
 refine aC ?_
 have hNk2:=l.lk
 refine fC (l.l.length) (fun k2 e h=>∃ H3:ah,Sep H3 (.obj (.ptr b 0 0 0) (fh.cells pp)::F)∧proj [0,1,7,8] e=[(0,fE.av fK.cells l),(1,.gL 120 [] [(.ptr b 0 0 0)]),(7,iv (l.l.length:Int)),(8,iv (k2:Int))]∧{ h with aq:=fU [0,1,7,8] h.aq } = { H3 with aq:=[] }) ?_ (k0:=0) cO ⟨H,hS,rfl,rfl⟩
 rintro k2 e h hkk2 ⟨H3,hS4,he,hh⟩
 refine gm he hh ?_
 clear he hh
 refine aa ?_
 refine gl ((k2:Int)) ((l.l.length:Int)) (fun h5=>?_) (fun h5=>?_)
 refine bL ?_
 refine aB ?_
 have hx6:k2<l.l.length:=by omega
 refine fq rfl (fun _=>jM (n:=k2) (r:=l) (enc:=fK.cells) rfl rfl rfl rfl rfl hx6 rfl) ?_
 generalize hqx7:l.l[k2]=x7
 have hinx7:x7∈l.l:=by rw [← hqx7]; exact List.getElem_mem _
 have hmx7:=True.intro
 refine oV ?_
 have hS8:=Sep.pick hS4 [0] 1 cK cK
 refine gC (H:=H3) (args:=[.agg (fK.cells x7)]) (p:=[]) (r:=[(.ptr b 0 0 0)]) rfl rfl rfl rfl rfl rfl rfl (abQ b pp x7 (F) hS8) ?_
 rintro _ H9 ⟨r12,hc11,hS10,rfl⟩
 cases r12
 refine bN ?_
 refine gy ((k2:Int)) (1) ?_
 refine ab ?_
 exact ⟨by omega,H9,hS10,rfl,rfl⟩
 refine aH ?_
 have hS13:=Sep.pick hS10 [0] 1 cK cK
 exact ⟨iv (k2:Int),rfl,((k2:Int)),trivial,Sep.aq hS13 _,rfl⟩
 refine aN ?_
 have hS14:=Sep.pick hS4 [0] 1 cK cK
 exact ⟨iv (-1),rfl,(-1),trivial,Sep.aq hS14 _,rfl⟩
theorem Rb:FT 119=some DG:=by kernel_rfl
theorem Ly:aT 119=none:=by kernel_rfl
theorem Gv {H:ah} (l:fE fK) (b:Nat) (pp:fh) (F:List gH) (hS:Sep H (.obj (.ptr b 0 0 0) (fh.cells pp)::F)) :∃ v H',fj cfg FT aT true 119 [fE.av fK.cells l,.gL 120 [] [(.ptr b 0 0 0)]] { H with aq:=[] } v H'∧(∃ r0:Bool,(True)∧Sep H' (.obj (.ptr b 0 0 0) (fh.cells pp)::F)∧v=.bool r0):=by
 refine gB Ly Rb rfl ?_
 refine cm ?_
 have hS1:=Sep.pick hS [0] 1 cK cK
 refine gC (H:=H) (args:=[fE.av fK.cells l,.gL 120 [] [(.ptr b 0 0 0)]]) (p:=[]) (r:=[]) rfl rfl rfl rfl rfl rfl rfl (HG l b pp (F) hS1) ?_
 rintro _ H2 ⟨r5,hc4,hS3,rfl⟩
 refine jg (r5) (0) (fun h6=>?_) (fun h6=>?_)
 refine af ?_
 have hS7:=Sep.pick hS3 [0] 1 cK cK
 exact ⟨.bool true,rfl,true,trivial,Sep.aq hS7 _,rfl⟩
 refine af ?_
 have hS8:=Sep.pick hS3 [0] 1 cK cK
 exact ⟨.bool false,rfl,false,trivial,Sep.aq hS8 _,rfl⟩
theorem V8:FT 52=some G8:=by kernel_rfl
theorem PS:aT 52=none:=by kernel_rfl
def Zd (_a0:fh) (_a1:Row fK) (v:AV):Prop:=∃ r0:Int,(True)∧v=iv r0
theorem NO (a0:fh) (a1:Row fK)  (h:ah):∃ v,fj cfg FT aT false 52 [.agg (fh.cells a0),Row.av fK.cells a1] h v h∧Zd a0 a1 v:=by
 refine fS PS V8 rfl rfl ?_
 refine aa ?_
 refine gd (H:=ah.empty) rfl (iz gI rfl rfl rfl rfl rfl) ?_
 rintro _ H2 ⟨b1,rfl,hS3⟩
 refine ak ?_
 refine oC (t118 a1) ?_
 rintro _ ⟨r5,hc4,rfl⟩
 refine bP ?_
 refine iJ (r5) (0) (fun h6=>?_) (fun h6=>?_)
 refine aH ?_
 exact xA (iv r5) ⟨(r5),trivial,rfl⟩
 refine cz ?_
 refine fq rfl (fun _=>pf rfl rfl (ph rfl rfl)) ?_
 have hS7:=Sep.pick hS3 [0] 1 cK cK
 refine gC (H:=H2) (args:=[Row.av fK.cells a1,.gL 120 [] [(.ptr b1 0 0 0)]]) (p:=[]) (r:=[]) rfl rfl rfl rfl rfl rfl rfl (Gv (Row.j6 a1) b1 a0 ([]) hS7) ?_
 rintro _ H8 ⟨r11,hc10,hS9,rfl⟩
 cases r11
 refine az ?_
 refine bu ?_
 exact xA (iv 0) ⟨(0),trivial,rfl⟩
 refine aZ ?_
 exact xA (iv 9) ⟨(9),trivial,rfl⟩
def P52 (_a0:fh) (_a1:Row fK) (v:AV):Prop:=∃ r0:Int,((True)∧rs 52 [.agg (fh.cells _a0),Row.av fK.cells _a1]=iv r0)∧v=iv r0
theorem t52 (a0:fh) (a1:Row fK)  (h:ah):∃ v,fj cfg FT aT false 52 [.agg (fh.cells a0),Row.av fK.cells a1] h v h∧P52 a0 a1 v:=by
 obtain ⟨v,hc,hP,hr⟩:=kg mQ (NO a0 a1) h
 obtain ⟨r0,hp,rfl⟩:=hP
 exact ⟨_,hc,r0,⟨hp,hr⟩,rfl⟩
theorem aaB (a0:fh) (a1:Row fK)  {V:AV} (hV:rs 52 [.agg (fh.cells a0),Row.av fK.cells a1]=V) (h:ah):∃ v,fj cfg FT aT false 52 [.agg (fh.cells a0),Row.av fK.cells a1] h v h∧v=V:=by
 obtain ⟨v,hc,hP,hr⟩:=kg mQ (NO a0 a1) h
 exact ⟨v,hc,hr.symm.trans hV⟩
theorem Xl:FT 73=some HV:=by kernel_rfl
theorem PB:aT 73=none:=by kernel_rfl
def P73 (_a0:fk) (v:AV):Prop:=∃ r0:Int,(r0=(_a0.p.signals.l.length:Int))∧v=iv r0
theorem t73 (a0:fk)  (h:ah):∃ v,fj cfg FT aT false 73 [.ip (fk.cells a0) 0 false] h v h∧P73 a0 v:=by
 refine fS PB Xl rfl rfl ?_
 refine cm ?_
 iterate 3 refine oV ?_
 have hL1:=a0.p.signals.lk
 refine gG a0.p.signals ?_
 refine af ?_
 exact xA (iv (a0.p.signals.l.length:Int)) ⟨((a0.p.signals.l.length:Int)),eR,rfl⟩
theorem Uj:FT 78=some HS:=by kernel_rfl
theorem Po:aT 78=none:=by kernel_rfl
def P78 (_a0:fk) (_a1:bY) (v:AV):Prop:=∃ r0:bY,∃ r1:Bool,(((r1=true→look _a1 _a0.next=some r0)∧(r1=false→look _a1 _a0.next=none)∧(r1=false→r0=⟨0,0⟩)))∧v=.fz [.agg (bY.cells r0),.bool r1]
theorem t78 (a0:fk) (a1:bY)  (h:ah):∃ v,fj cfg FT aT false 78 [.ip (fk.cells a0) 0 false,.agg (bY.cells a1)] h v h∧P78 a0 a1 v:=by
 refine fS Po Uj rfl rfl ?_
 refine bJ ?_
 refine bR ?_
 refine zl (key:=a1) (l:=a0.next) (ek:=pK) (ev:=pK) rfl rfl rfl rfl rfl rfl rfl rfl rfl rfl ja (fun y1 h2=>?_) (fun h3=>?_)
 refine br ?_
 refine aa ?_
 refine bo ?_
 exact xF (.fz [.agg (bY.cells y1),.bool true]) ⟨y1,true,eP,rfl⟩
 refine br ?_
 refine aa ?_
 refine bo ?_
 exact xF (.fz [.agg [iv 0,iv 0],.bool false]) ⟨(⟨(0),(0)⟩:bY),false,eP,rfl⟩
theorem SI:FT 86=some GY:=by kernel_rfl
theorem QH:aT 86=none:=by kernel_rfl
def P86 (_a0:fk) (_a1:Int) (v:AV):Prop:=∃ r0:bY,∃ r1:Bool,((((r1=true→oT _a0.p.signals.l _a1=some r0)∧(r1=false→oT _a0.p.signals.l _a1=none))∧(r1=false→r0=⟨0,0⟩)))∧v=.fz [.agg (bY.cells r0),.bool r1]
theorem t86 (a0:fk) (a1:Int)  (h:ah):∃ v,fj cfg FT aT false 86 [.ip (fk.cells a0) 0 false,iv a1] h v h∧P86 a0 a1 v:=by
 refine fS QH SI rfl rfl ?_
 refine ai ?_
 refine ak ?_
 refine gl (a1) (0) (fun h1=>?_) (fun h1=>?_)
 refine oV ?_
 iterate 8 refine oS ?_
 refine bp ?_
 exact xF (.fz [.agg [iv 0,iv 0],.bool false]) ⟨(⟨(0),(0)⟩:bY),false,dG,rfl⟩
 iterate 7 refine oV ?_
 have hL2:=a0.p.signals.lk
 refine gG a0.p.signals ?_
 refine jg (a1) ((a0.p.signals.l.length:Int)) (fun h3=>?_) (fun h3=>?_)
 refine bp ?_
 exact xF (.fz [.agg [iv 0,iv 0],.bool false]) ⟨(⟨(0),(0)⟩:bY),false,dG,rfl⟩
 refine ay ?_
 refine aa ?_
 iterate 6 refine oV ?_
 have hx4:(a1).toNat<a0.p.signals.l.length:=by omega
 refine fq rfl (fun _=>gN (n:=a1) (r:=a0.p.signals) (enc:=gg.cells) rfl rfl rfl rfl rfl cO hx4 rfl) ?_
 generalize hqx5:a0.p.signals.l[(a1).toNat]=x5
 refine bo ?_
 exact xF (.fz [.agg (bY.cells x5.at_),.bool true]) ⟨x5.at_,true,dG,rfl⟩
theorem OP:FT 158=some CS:=by kernel_rfl
theorem Mn:aT 158=none:=by kernel_rfl
theorem abe {H:ah} (b:Nat) (x:fy) (en:Int) (F:List gH) (hS:Sep H (.obj (.ptr b 0 0 0) [iv en]::F)) :∃ v H',fj cfg FT aT true 158 [.agg (fy.cells x),(.ptr b 0 0 0)] { H with aq:=[] } v H'∧(∃ r0:Bool,(True)∧Sep H' (.obj (.ptr b 0 0 0) [iv en]::F)∧v=.bool r0):=by
 refine gB Mn OP rfl ?_
 refine aQ ?_
 refine ae ?_
 refine ix 0 hS (iv en) ?_
 refine gA (x.elem) (en) (fun h1=>?_) (fun h1=>?_)
 refine af ?_
 have hS2:=Sep.pick hS [0] 1 cK cK
 exact ⟨.bool true,rfl,true,trivial,Sep.aq hS2 _,rfl⟩
 refine af ?_
 have hS3:=Sep.pick hS [0] 1 cK cK
 exact ⟨.bool false,rfl,false,trivial,Sep.aq hS3 _,rfl⟩
theorem Qc:FT 193=some D2:=by kernel_rfl
theorem LR:aT 193=none:=by kernel_rfl
theorem ZO {H:ah} (b:Nat) (x:fy) (en:Int) (F:List gH) (hS:Sep H (.obj (.ptr b 0 0 0) [iv en]::F)) :∃ v H',fj cfg FT aT true 193 [.agg (fy.cells x),(.ptr b 0 0 0)] { H with aq:=[] } v H'∧(∃ r0:Bool,(True)∧Sep H' (.obj (.ptr b 0 0 0) [iv en]::F)∧v=.bool r0):=by
 refine gB LR Qc rfl ?_
 refine aQ ?_
 refine ae ?_
 refine ix 0 hS (iv en) ?_
 refine gA (x.elem) (en) (fun h1=>?_) (fun h1=>?_)
 refine af ?_
 have hS2:=Sep.pick hS [0] 1 cK cK
 exact ⟨.bool true,rfl,true,trivial,Sep.aq hS2 _,rfl⟩
 refine af ?_
 have hS3:=Sep.pick hS [0] 1 cK cK
 exact ⟨.bool false,rfl,false,trivial,Sep.aq hS3 _,rfl⟩
theorem FC:FT 195=some Cz:=by kernel_rfl
theorem Bt:aT 195=none:=by kernel_rfl
theorem Iw {H:ah} (l:fE fy) (b:Nat) (en:Int) (F:List gH) (hS:Sep H (.obj (.ptr b 0 0 0) [iv en]::F)) :∃ v H',fj cfg FT aT true 195 [fE.av fy.cells l,.gL 193 [] [(.ptr b 0 0 0)]] { H with aq:=[] } v H'∧(∃ r0:Int,(True)∧Sep H' (.obj (.ptr b 0 0 0) [iv en]::F)∧v=iv r0):=by
 refine gB Bt FC rfl ?_
 refine aY ?_
 have hL1:=l.lk
 refine fq rfl (fun _=>jn (r:=l) (enc:=fy.cells) rfl rfl rfl rfl rfl rfl) ?_
 refine aC ?_
 have hNk2:=l.lk
 refine fC (l.l.length) (fun k2 e h=>∃ H3:ah,Sep H3 (.obj (.ptr b 0 0 0) [iv en]::F)∧proj [0,1,7,8] e=[(0,fE.av fy.cells l),(1,.gL 193 [] [(.ptr b 0 0 0)]),(7,iv (l.l.length:Int)),(8,iv (k2:Int))]∧{ h with aq:=fU [0,1,7,8] h.aq } = { H3 with aq:=[] }) ?_ (k0:=0) cO ⟨H,hS,rfl,rfl⟩
 rintro k2 e h hkk2 ⟨H3,hS4,he,hh⟩
 refine gm he hh ?_
 clear he hh
 refine aa ?_
 refine gl ((k2:Int)) ((l.l.length:Int)) (fun h5=>?_) (fun h5=>?_)
 refine bL ?_
 refine aB ?_
 have hx6:k2<l.l.length:=by omega
 refine fq rfl (fun _=>jM (n:=k2) (r:=l) (enc:=fy.cells) rfl rfl rfl rfl rfl hx6 rfl) ?_
 generalize hqx7:l.l[k2]=x7
 refine oV ?_
 have hS8:=Sep.pick hS4 [0] 1 cK cK
 refine gC (H:=H3) (args:=[.agg (fy.cells x7)]) (p:=[]) (r:=[(.ptr b 0 0 0)]) rfl rfl rfl rfl rfl rfl rfl (ZO b x7 en (F) hS8) ?_
 rintro _ H9 ⟨r12,hc11,hS10,rfl⟩
 cases r12
 refine bN ?_
 refine gy ((k2:Int)) (1) ?_
 refine ab ?_
 exact ⟨by omega,H9,hS10,rfl,rfl⟩
 refine aH ?_
 have hS13:=Sep.pick hS10 [0] 1 cK cK
 exact ⟨iv (k2:Int),rfl,((k2:Int)),trivial,Sep.aq hS13 _,rfl⟩
 refine aN ?_
 have hS14:=Sep.pick hS4 [0] 1 cK cK
 exact ⟨iv (-1),rfl,(-1),trivial,Sep.aq hS14 _,rfl⟩
theorem Gc {H:ah} (l:fE fy) (b:Nat) (en:Int) (F:List gH) (hS:Sep H (.obj (.ptr b 0 0 0) [iv en]::F)) :∃ v H',fj cfg FT aT true 195 [fE.av fy.cells l,.gL 158 [] [(.ptr b 0 0 0)]] { H with aq:=[] } v H'∧(∃ r0:Int,(True)∧Sep H' (.obj (.ptr b 0 0 0) [iv en]::F)∧v=iv r0):=by
 refine gB Bt FC rfl ?_
 refine aY ?_
 have hL1:=l.lk
 refine fq rfl (fun _=>jn (r:=l) (enc:=fy.cells) rfl rfl rfl rfl rfl rfl) ?_
 refine aC ?_
 have hNk2:=l.lk
 refine fC (l.l.length) (fun k2 e h=>∃ H3:ah,Sep H3 (.obj (.ptr b 0 0 0) [iv en]::F)∧proj [0,1,7,8] e=[(0,fE.av fy.cells l),(1,.gL 158 [] [(.ptr b 0 0 0)]),(7,iv (l.l.length:Int)),(8,iv (k2:Int))]∧{ h with aq:=fU [0,1,7,8] h.aq } = { H3 with aq:=[] }) ?_ (k0:=0) cO ⟨H,hS,rfl,rfl⟩
 rintro k2 e h hkk2 ⟨H3,hS4,he,hh⟩
 refine gm he hh ?_
 clear he hh
 refine aa ?_
 refine gl ((k2:Int)) ((l.l.length:Int)) (fun h5=>?_) (fun h5=>?_)
 refine bL ?_
 refine aB ?_
 have hx6:k2<l.l.length:=by omega
 refine fq rfl (fun _=>jM (n:=k2) (r:=l) (enc:=fy.cells) rfl rfl rfl rfl rfl hx6 rfl) ?_
 generalize hqx7:l.l[k2]=x7
 refine oV ?_
 have hS8:=Sep.pick hS4 [0] 1 cK cK
 refine gC (H:=H3) (args:=[.agg (fy.cells x7)]) (p:=[]) (r:=[(.ptr b 0 0 0)]) rfl rfl rfl rfl rfl rfl rfl (abe b x7 en (F) hS8) ?_
 rintro _ H9 ⟨r12,hc11,hS10,rfl⟩
 cases r12
 refine bN ?_
 refine gy ((k2:Int)) (1) ?_
 refine ab ?_
 exact ⟨by omega,H9,hS10,rfl,rfl⟩
 refine aH ?_
 have hS13:=Sep.pick hS10 [0] 1 cK cK
 exact ⟨iv (k2:Int),rfl,((k2:Int)),trivial,Sep.aq hS13 _,rfl⟩
 refine aN ?_
 have hS14:=Sep.pick hS4 [0] 1 cK cK
 exact ⟨iv (-1),rfl,(-1),trivial,Sep.aq hS14 _,rfl⟩
theorem FJ:FT 157=some DC:=by kernel_rfl
theorem BU:aT 157=none:=by kernel_rfl
theorem Gj {H:ah} (l:fE fy) (b:Nat) (en:Int) (F:List gH) (hS:Sep H (.obj (.ptr b 0 0 0) [iv en]::F)) :∃ v H',fj cfg FT aT true 157 [fE.av fy.cells l,.gL 193 [] [(.ptr b 0 0 0)]] { H with aq:=[] } v H'∧(∃ r0:Bool,(True)∧Sep H' (.obj (.ptr b 0 0 0) [iv en]::F)∧v=.bool r0):=by
 refine gB BU FJ rfl ?_
 refine cm ?_
 have hS1:=Sep.pick hS [0] 1 cK cK
 refine gC (H:=H) (args:=[fE.av fy.cells l,.gL 193 [] [(.ptr b 0 0 0)]]) (p:=[]) (r:=[]) rfl rfl rfl rfl rfl rfl rfl (Iw l b en (F) hS1) ?_
 rintro _ H2 ⟨r5,hc4,hS3,rfl⟩
 refine jg (r5) (0) (fun h6=>?_) (fun h6=>?_)
 refine af ?_
 have hS7:=Sep.pick hS3 [0] 1 cK cK
 exact ⟨.bool true,rfl,true,trivial,Sep.aq hS7 _,rfl⟩
 refine af ?_
 have hS8:=Sep.pick hS3 [0] 1 cK cK
 exact ⟨.bool false,rfl,false,trivial,Sep.aq hS8 _,rfl⟩
theorem HR {H:ah} (l:fE fy) (b:Nat) (en:Int) (F:List gH) (hS:Sep H (.obj (.ptr b 0 0 0) [iv en]::F)) :∃ v H',fj cfg FT aT true 157 [fE.av fy.cells l,.gL 158 [] [(.ptr b 0 0 0)]] { H with aq:=[] } v H'∧(∃ r0:Bool,(True)∧Sep H' (.obj (.ptr b 0 0 0) [iv en]::F)∧v=.bool r0):=by
 refine gB BU FJ rfl ?_
 refine cm ?_
 have hS1:=Sep.pick hS [0] 1 cK cK
 refine gC (H:=H) (args:=[fE.av fy.cells l,.gL 158 [] [(.ptr b 0 0 0)]]) (p:=[]) (r:=[]) rfl rfl rfl rfl rfl rfl rfl (Gc l b en (F) hS1) ?_
 rintro _ H2 ⟨r5,hc4,hS3,rfl⟩
 refine jg (r5) (0) (fun h6=>?_) (fun h6=>?_)
 refine af ?_
 have hS7:=Sep.pick hS3 [0] 1 cK cK
 exact ⟨.bool true,rfl,true,trivial,Sep.aq hS7 _,rfl⟩
 refine af ?_
 have hS8:=Sep.pick hS3 [0] 1 cK cK
 exact ⟨.bool false,rfl,false,trivial,Sep.aq hS8 _,rfl⟩
theorem Pv:FT 153=some C4:=by kernel_rfl
theorem BK:aT 153=none:=by kernel_rfl
def Qd (_a0:lF) (_a1:Int) (v:AV):Prop:=∃ r0:Bool,((r0=true→_a0.steps.l.length<12))∧v=.bool r0
theorem t153 (a0:lF) (a1:Int)  (h:ah):∃ v,fj cfg FT aT false 153 [.ip (lF.cells a0) 0 true,iv a1] h v h∧Qd a0 a1 v:=by
 refine fS BK Pv rfl rfl ?_
 refine aa ?_
 refine gd (H:=ah.empty) rfl (iz gI rfl rfl rfl rfl rfl) ?_
 rintro _ H2 ⟨b1,rfl,hS3⟩
 refine ab ?_
 refine bV ?_
 refine rV ?_
 have hL4:=a0.steps.lk
 refine ga rfl rfl (fun _=>jn (r:=a0.steps) (enc:=fy.cells) rfl rfl rfl rfl rfl rfl) ?_
 refine o4 ((a0.steps.l.length:Int)) (12) (fun h5=>?_) (fun h5=>?_)
 refine rV ?_
 refine lR 0 hS3 (iv a1) ?_
 iterate 4 refine rV ?_
 refine ym (a1) (a0.pY) (fun h6=>?_) (fun h6=>?_)
 iterate 6 refine rV ?_
 refine ga rfl rfl (fun _=>pf rfl rfl (ph rfl rfl)) ?_
 have hS7:=Sep.pick hS3 [0] 1 cK cK
 refine MP (H:=H2) (args:=[fE.av fy.cells a0.steps,.gL 193 [] [(.ptr b1 0 0 0)]]) (p:=[]) (r:=[]) rfl rfl rfl rfl rfl rfl rfl rfl (Gj a0.steps b1 a1 ([]) hS7) ?_
 rintro _ H8 ⟨r11,hc10,hS9,rfl⟩
 cases r11
 refine rV ?_
 refine aJ ?_
 exact xA (.bool true) ⟨true,dh,rfl⟩
 refine rV ?_
 refine aJ ?_
 exact xA (.bool false) ⟨false,dh,rfl⟩
 refine rV ?_
 refine co ?_
 refine rS ?_
 refine aJ ?_
 exact xA (.bool false) ⟨false,dh,rfl⟩
 refine co ?_
 refine rV ?_
 refine co ?_
 refine rS ?_
 refine aJ ?_
 exact xA (.bool false) ⟨false,dh,rfl⟩
theorem PN:FT 194=some Dw:=by kernel_rfl
theorem MD:aT 194=none:=by kernel_rfl
def abf (_a0:fk) (_a1:Int) (_a2:Int) (v:AV):Prop:=∃ r0:Row gM,(r0.l.length≤2)∧v=Row.av gM.cells r0
theorem t194 (a0:fk) (a1:Int) (a2:Int)  (h:ah):∃ v,fj cfg FT aT false 194 [.ip (fk.cells a0) 0 false,iv a1,iv a2] h v h∧abf a0 a1 a2 v:=by
 refine fS MD PN rfl rfl ?_
 refine aY ?_
 refine gl (a2) (0) (fun h1=>?_) (fun h1=>?_)
 refine bS ?_
 refine au ?_
 exact xF (.sl [] .nil) ⟨(⟨[],.nil,Nat.zero_le _,rfl,fun _=>rfl⟩:Row gM),dE,rfl⟩
 iterate 4 refine oV ?_
 refine oC (t82 a0 (a1)) ?_
 rintro _ ⟨r3,hc2,rfl⟩
 have hK:=hc2
 refine oC (t188 (r3)) ?_
 rintro _ ⟨r5,hc4,rfl⟩
 refine jg (a2) (r5) (fun h6=>?_) (fun h6=>?_)
 refine au ?_
 exact xF (.sl [] .nil) ⟨(⟨[],.nil,Nat.zero_le _,rfl,fun _=>rfl⟩:Row gM),dE,rfl⟩
 refine ay ?_
 refine aW ?_
 refine oC (t82 a0 (a1)) ?_
 rintro _ ⟨r8,hc7,rfl⟩
 have hK:=hc7
 refine cD ?_
 refine gA (r8) (1) (fun h9=>?_) (fun h9=>?_)
 refine a7 ?_
 refine ai ?_
 refine fq rfl (fun _=>gY rfl rfl rfl (nb .i64 (1) (a2))) ?_
 refine bk ?_
 exact xF (.sl [[iv (IntKind.i64.wrap (1 - (a2))),iv 0]] (.exact 1)) ⟨(⟨[(⟨(IntKind.i64.wrap (1 - (a2))),(0)⟩:gM)],.exact 1,Nat.le_of_ble_eq_true rfl,rfl,gU⟩:Row gM),dE,rfl⟩
 refine bf ?_
 refine gA (r8) (3) (fun h10=>?_) (fun h10=>?_)
 refine a7 ?_
 refine ae ?_
 refine bP ?_
 have hd11:a2=0∨a2=1∨a2=2∨a2=3:=by omega
 rcases hd11 with rfl | rfl | rfl | rfl
 refine oV ?_
 refine bo ?_
 exact xF (.sl [[iv 1,iv 0]] (.exact 1)) ⟨(⟨[(⟨(1),(0)⟩:gM)],.exact 1,Nat.le_of_ble_eq_true rfl,rfl,gU⟩:Row gM),dE,rfl⟩
 refine oV ?_
 refine bo ?_
 exact xF (.sl [[iv 0,iv 0]] (.exact 1)) ⟨(⟨[(⟨(0),(0)⟩:gM)],.exact 1,Nat.le_of_ble_eq_true rfl,rfl,gU⟩:Row gM),dE,rfl⟩
 refine oV ?_
 refine bo ?_
 exact xF (.sl [[iv 3,iv 0]] (.exact 1)) ⟨(⟨[(⟨(3),(0)⟩:gM)],.exact 1,Nat.le_of_ble_eq_true rfl,rfl,gU⟩:Row gM),dE,rfl⟩
 refine oV ?_
 refine bo ?_
 exact xF (.sl [[iv 2,iv 0]] (.exact 1)) ⟨(⟨[(⟨(2),(0)⟩:gM)],.exact 1,Nat.le_of_ble_eq_true rfl,rfl,gU⟩:Row gM),dE,rfl⟩
 refine bf ?_
 refine gA (r8) (2) (fun h12=>?_) (fun h12=>?_)
 refine a7 ?_
 refine bh ?_
 refine gA (a2) (0) (fun h13=>?_) (fun h13=>?_)
 refine aA ?_
 refine aa ?_
 refine bo ?_
 exact xF (.sl [[iv 1,iv 1],[iv 2,iv 2]] (.exact 2)) ⟨(⟨[(⟨(1),(1)⟩:gM),(⟨(2),(2)⟩:gM)],.exact 2,Nat.le_of_ble_eq_true rfl,rfl,gU⟩:Row gM),dE,rfl⟩
 refine bE ?_
 have hd14:a2=0∨a2=1∨a2=2:=by omega
 rcases hd14 with rfl | rfl | rfl
 refine bo ?_
 exact xF (.sl [[iv 0,iv 0]] (.exact 1)) ⟨(⟨[(⟨(0),(0)⟩:gM)],.exact 1,Nat.le_of_ble_eq_true rfl,rfl,gU⟩:Row gM),dE,rfl⟩
 refine bo ?_
 exact xF (.sl [[iv 0,iv 1]] (.exact 1)) ⟨(⟨[(⟨(0),(1)⟩:gM)],.exact 1,Nat.le_of_ble_eq_true rfl,rfl,gU⟩:Row gM),dE,rfl⟩
 refine bo ?_
 exact xF (.sl [[iv 0,iv 2]] (.exact 1)) ⟨(⟨[(⟨(0),(2)⟩:gM)],.exact 1,Nat.le_of_ble_eq_true rfl,rfl,gU⟩:Row gM),dE,rfl⟩
 refine ay ?_
 refine bu ?_
 exact xF (.sl [] .nil) ⟨(⟨[],.nil,Nat.zero_le _,rfl,fun _=>rfl⟩:Row gM),dE,rfl⟩
theorem OG:FT 154=some CP:=by kernel_rfl
theorem Lo:aT 154=none:=by kernel_rfl
theorem YW {H:ah} (p:Nat) (pY:Int) (vs:AV) (steps:List fy) (vp:AV) (pos:List Int) (vl:AV) (left:List (Row gM)) (nn:fk) (x:bY) (F:List gH) (hS:Sep H (.obj (.ptr p 0 0 0) [iv pY,vs,vp,vl]::.sl true false vs 3 (List.map fy.cells steps)::.sl true false vp 1 (List.map fu pos)::.sl true false vl 1 (List.map (g6 gM.cells) left)::F)) (q1:steps.length≤11) (q2:pos.length=steps.length) (q3:left.length=steps.length):∃ v H',fj cfg FT aT true 154 [(.ptr p 0 0 0),.ip (fk.cells nn) 0 false,.agg (bY.cells x)] { H with aq:=[] } v H'∧(∃ vso:AV,∃ stepso:List fy,∃ vpo:AV,∃ poso:List Int,∃ vlo:AV,∃ lefto:List (Row gM),(stepso.length=steps.length+1∧poso.length=stepso.length∧∃ w:Row gM,w.l.length≤2∧lefto=left++[w])∧Sep H' (.obj (.ptr p 0 0 0) [iv pY,vso,vpo,vlo]::.sl true false vso 3 (List.map fy.cells stepso)::.sl true false vpo 1 (List.map fu poso)::.sl true false vlo 1 (List.map (g6 gM.cells) lefto)::F)∧v=.fz []):=by
 refine gB Lo OG rfl ?_
 refine aU ?_
 refine a6 ?_
 refine kM 0 hS ?_
 refine kj 0 hS ?_
 refine lR 0 hS vs ?_
 iterate 6 refine rV ?_
 refine gS rfl rfl (ib (H:=H) (i:=1) [(⟨(x.elem),(x.en),(-1)⟩:fy)] hS rfl rfl rfl rfl rfl rfl rfl rfl rfl (fun _=>rfl) (.inr rfl) cS (fun _=>rfl)) ?_
 rintro v1 H2 hS3
 refine kM 0 hS3 ?_
 refine kj 0 hS3 ?_
 refine gS rfl rfl (iG (H:=H2) (i:=0) (o:=1) (r:=v1) hS3 rfl rfl rfl rfl (jq rfl rfl (Sep.cell (i:=1) hS3 rfl)) (fD (Sep.cell (i:=1) hS3 rfl) gJ) rfl) ?_
 rintro _ H4 ⟨rfl,hS5⟩
 refine rN ?_
 refine ae ?_
 refine lP 0 hS5 ?_
 refine iN 0 hS5 ?_
 refine ix 0 hS5 vp ?_
 refine oV ?_
 refine gd rfl (ib (H:=H4) (i:=2) [(0)] hS5 rfl rfl rfl rfl rfl rfl rfl rfl rfl (fun _=>rfl) (.inr rfl) cS (fun _=>rfl)) ?_
 rintro v6 H7 hS8
 refine lP 0 hS8 ?_
 refine iN 0 hS8 ?_
 refine gd rfl (iG (H:=H7) (i:=0) (o:=2) (r:=v6) hS8 rfl rfl rfl rfl (jq rfl rfl (Sep.cell (i:=2) hS8 rfl)) (fD (Sep.cell (i:=2) hS8 rfl) gJ) rfl) ?_
 rintro _ H9 ⟨rfl,hS10⟩
 refine oN ?_
 refine bT ?_
 refine kM 0 hS10 ?_
 refine kj 0 hS10 ?_
 refine lR 0 hS10 vl ?_
 iterate 5 refine rV ?_
 refine rC (t194 nn (x.elem) (x.en)) ?_
 rintro _ ⟨r12,hc11,rfl⟩
 refine ga rfl rfl (fun _=>vx (xs:=[[Row.av gM.cells r12]]) rfl rfl rfl rfl (BV (fD (jw _) gJ) rfl)) ?_
 refine gS rfl rfl (ib (H:=H9) (i:=3) [r12] hS10 rfl rfl rfl rfl rfl rfl rfl rfl rfl (fun _=>rfl) (.inr rfl) cS (fun _=>rfl)) ?_
 rintro v13 H14 hS15
 refine kM 0 hS15 ?_
 refine kj 0 hS15 ?_
 refine gS rfl rfl (iG (H:=H14) (i:=0) (o:=3) (r:=v13) hS15 rfl rfl rfl rfl (jq rfl rfl (Sep.cell (i:=3) hS15 rfl)) (fD (Sep.cell (i:=3) hS15 rfl) gJ) rfl) ?_
 rintro _ H16 ⟨rfl,hS17⟩
 refine rN ?_
 have hS18:=Sep.pick hS17 [0,1,2,3] 4 cK cK
 exact ⟨.fz [],rfl,v1,((steps++[(⟨(x.elem),(x.en),(-1)⟩:fy)])),v6,(pos++[(0)]),v13,(left++[r12]),(by refine ⟨by simp,by simp; omega,_,?_,rfl⟩; assumption),Sep.aq hS18 _,rfl⟩
theorem Wm:FT 75=some HF:=by kernel_rfl
theorem RB:aT 75=none:=by kernel_rfl
def P75 (_a0:fE fy) (v:AV):Prop:=∃ r0:Row fy,(r0.l = _a0.l)∧v=Row.av fy.cells r0
theorem t75 (a0:fE fy) (q1:a0.l.length≤1000) (h:ah):∃ v,fj cfg FT aT false 75 [fE.av fy.cells a0] h v h∧P75 a0 v:=by
 refine fS RB Wm rfl rfl ?_
 refine aY ?_
 refine ik (b:=a0.isNil) rfl (fun _=>kT rfl rfl rfl rfl) (fun h1=>?_) (fun h1=>?_)
 refine aZ ?_
 exact xF (.sl [] .nil) ⟨(⟨[],.nil,Nat.zero_le _,rfl,fun _=>rfl⟩:Row fy),dm,rfl⟩
 refine bE ?_
 have hS2:=Sep.mF gI 3
 refine gd rfl (ib (i:=0) (l:=([]:List fy)) (enc:=fy.cells) a0.l hS2 rfl rfl rfl rfl rfl rfl rfl rfl rfl (fun _=>rfl) (.inl rfl) cS (fun _=>rfl)) ?_
 rintro v3 H4 hS5
 refine af ?_
 obtain ⟨r6,hl7,hf8⟩:=gZ (H:=H4) (i:=0) (l:=(([]:List fy)++a0.l)) (enc:=fy.cells) hS5 rfl cH
 have hlq:=hl7; have hln10:=congrArg List.length hl7
 have hz9:∀ m,freeze false { H4 with aq:=[] } (m+2) v3=some (Row.av fy.cells r6):=fun m=>hf8 _ _ (fun _=>rfl)
 exact ⟨v3,(iB (vs:=[v3]) rfl (fD (Sep.arg (i:=0) hS5 rfl) gJ)),Row.av fy.cells r6,(show freeze false { H4 with aq:=[] } 8 v3=some (Row.av fy.cells r6) by simp only [FZ,hz9]),r6,dm,rfl⟩
theorem N3:FT 155=some En:=by kernel_rfl
theorem vi:aT 155=none:=by kernel_rfl
def CO (_a0:lF) (_a1:Int) (_a2:Int) (_a3:Int) (v:AV):Prop:=∃ r0:fP,((r0.steps.l = _a0.steps.l∧r0.jJ.l.length≤_a0.steps.l.length))∧v=.agg (fP.cells r0)
theorem t155 (a0:lF) (a1:Int) (a2:Int) (a3:Int) (q1:a0.steps.l.length≤12) (q2:a0.pos.l.length=a0.steps.l.length) (h:ah):∃ v,fj cfg FT aT false 155 [.ip (lF.cells a0) 0 true,iv a1,iv a2,iv a3] h v h∧CO a0 a1 a2 a3 v:=by
 refine fS vi N3 rfl rfl ?_
 refine cm ?_
 iterate 5 refine oV ?_
 refine oC (t75 a0.steps cG) ?_
 rintro _ ⟨r2,hc1,rfl⟩
 have hC93:=congrArg List.length hc1; try simp only [Row.j6] at hC93
 refine aX ?_
 refine qs ?_
 refine be ?_
 have hL3:=a0.steps.lk
 refine fq rfl (fun _=>jn (r:=a0.steps) (enc:=fy.cells) rfl rfl rfl rfl rfl rfl) ?_
 refine aC ?_
 have hS4:=Sep.iF gI 2
 have hNk5:=a0.steps.lk
 refine fC (a0.steps.l.length) (fun k5 e h=>∃ v6:AV,∃ l7:List gi,∃ H8:ah,(l7.length≤0+k5)∧Sep H8 (.sl true true v6 2 (List.map gi.cells l7)::[])∧proj [0,8,9,24,25,26] e=[(0,.ip (lF.cells a0) 0 true),(8,.la 8 0),(9,.la 9 0),(24,fE.av fy.cells a0.steps),(25,iv (a0.steps.l.length:Int)),(26,iv (k5:Int))]∧{ h with aq:=fU [0,8,9,24,25,26] h.aq } = { H8 with aq:=[(8,[iv 0,iv 0,iv 0,.sl [] .nil,.sl [] .nil,.sl [] .nil,.sl [] .nil,.sl [] .nil,.bool false]),(9,[iv a1,iv a2,iv a3,Row.av fy.cells r2,v6,.sl [] .nil,.sl [] .nil,.sl [] .nil,.bool false])] }) ?_ (k0:=0) cO ⟨((.sl [] .nil)),(([]:List gi)),ah.empty,dx,hS4,rfl,rfl⟩
 rintro k5 e h hkk5 ⟨v6,l7,H8,hl10,hS9,he,hh⟩
 refine gm he hh ?_
 clear he hh
 refine aa ?_
 refine gl ((k5:Int)) ((a0.steps.l.length:Int)) (fun h11=>?_) (fun h11=>?_)
 refine bU ?_
 have hx12:k5<a0.steps.l.length:=by omega
 refine fq rfl (fun _=>jM (n:=k5) (r:=a0.steps) (enc:=fy.cells) rfl rfl rfl rfl rfl hx12 rfl) ?_
 generalize hqx13:a0.steps.l[k5]=x13
 refine bM ?_
 refine be ?_
 refine oV ?_
 have hx14:k5<a0.pos.l.length:=by omega
 refine fq rfl (fun _=>jM (n:=k5) (r:=a0.pos) (enc:=fu) rfl rfl rfl rfl rfl hx14 rfl) ?_
 generalize hqx15:a0.pos.l[k5]=x15
 refine oV ?_
 refine iJ (x15) (0) (fun h16=>?_) (fun h16=>?_)
 refine aA ?_
 refine qd ?_
 iterate 9 refine rV ?_
 have hx17:k5<a0.pos.l.length:=by omega
 refine ga rfl rfl (fun _=>jM (n:=k5) (r:=a0.pos) (enc:=fu) rfl rfl rfl rfl rfl hx17 rfl) ?_
 rw [hqx15]
 iterate 3 refine rV ?_
 refine gS rfl rfl (ib (H:=H8) (i:=0) [(⟨(x13.elem),(x15)⟩:gi)] hS9 rfl rfl rfl rfl rfl rfl rfl rfl rfl (fun _=>rfl) (.inl rfl) cS (fun _=>rfl)) ?_
 rintro v19 H20 hS21
 refine rV ?_
 refine ga rfl rfl (fun _=>wH rfl rfl rfl (jq rfl rfl (Sep.cell (i:=0) hS21 rfl)) (fD (Sep.cell (i:=0) hS21 rfl) gJ) rfl rfl) ?_
 refine cg ?_
 refine gy ((k5:Int)) (1) ?_
 refine ab ?_
 exact ⟨by omega,(v19),((l7++[(⟨(x13.elem),(x15)⟩:gi)])),H20,cL,hS21,rfl,rfl⟩
 refine bN ?_
 refine gy ((k5:Int)) (1) ?_
 refine ab ?_
 exact ⟨by omega,(v6),(l7),H8,cL,hS9,rfl,rfl⟩
 refine aj ?_
 refine ai ?_
 refine fq rfl (fun _=>wH rfl rfl rfl rfl (fD rfl (fD rfl (fD rfl (fD rfl (fD (Sep.cell (i:=0) hS9 rfl) (fD rfl (fD rfl (fD rfl (fD rfl gJ))))))))) rfl rfl) ?_
 refine oN ?_
 refine qr ?_
 obtain ⟨r22,hl23,hf24⟩:=gZ (H:=H8) (i:=0) (l:=l7) (enc:=gi.cells) hS9 rfl cH
 have hlq:=hl23; have hln26:=congrArg List.length hl23
 have hz25:∀ m,freeze false { H8 with aq:=[(8,[iv a1,iv a2,iv a3,Row.av fy.cells r2,v6,.sl [] .nil,.sl [] .nil,.sl [] .nil,.bool false]),(9,[iv a1,iv a2,iv a3,Row.av fy.cells r2,v6,.sl [] .nil,.sl [] .nil,.sl [] .nil,.bool false])] } (m+2) v6=some (Row.av gi.cells r22):=fun m=>hf24 _ _ (fun _=>rfl)
 exact ⟨.agg [iv a1,iv a2,iv a3,Row.av fy.cells r2,v6,.sl [] .nil,.sl [] .nil,.sl [] .nil,.bool false],(iB (vs:=[.agg [iv a1,iv a2,iv a3,Row.av fy.cells r2,v6,.sl [] .nil,.sl [] .nil,.sl [] .nil,.bool false]]) rfl rfl),.agg [iv a1,iv a2,iv a3,Row.av fy.cells r2,Row.av gi.cells r22,.sl [] .nil,.sl [] .nil,.sl [] .nil,.bool false],(show freeze false { H8 with aq:=[(8,[iv a1,iv a2,iv a3,Row.av fy.cells r2,v6,.sl [] .nil,.sl [] .nil,.sl [] .nil,.bool false]),(9,[iv a1,iv a2,iv a3,Row.av fy.cells r2,v6,.sl [] .nil,.sl [] .nil,.sl [] .nil,.bool false])] } 8 (.agg [iv a1,iv a2,iv a3,Row.av fy.cells r2,v6,.sl [] .nil,.sl [] .nil,.sl [] .nil,.bool false])=some (.agg [iv a1,iv a2,iv a3,Row.av fy.cells r2,Row.av gi.cells r22,.sl [] .nil,.sl [] .nil,.sl [] .nil,.bool false]) by simp only [FZ,hz25]),(⟨(a1),(a2),(a3),r2,r22,(⟨[],.nil,Nat.zero_le _,rfl,fun _=>rfl⟩:Row gi),(⟨[],.nil,Nat.zero_le _,rfl,fun _=>rfl⟩:Row Int),(⟨[],.nil,Nat.zero_le _,rfl,fun _=>rfl⟩:Row Int),false⟩:fP),(by first | exact ⟨by assumption,by dsimp only; omega⟩ | exact ⟨by assumption,by simp⟩),rfl⟩
theorem N5:FT 156=some Cl:=by kernel_rfl
theorem MU:aT 156=none:=by kernel_rfl
theorem abP {H:ah} (p:Nat) (pY:Int) (vs:AV) (steps:List fy) (vp:AV) (pos:List Int) (vl:AV) (left:List (Row gM)) (F:List gH) (hS:Sep H (.obj (.ptr p 0 0 0) [iv pY,vs,vp,vl]::.sl true false vs 3 (List.map fy.cells steps)::.sl true false vp 1 (List.map fu pos)::.sl true false vl 1 (List.map (g6 gM.cells) left)::F)) (q1:steps.length≤12) (q2:pos.length=steps.length) (q3:left.length=steps.length) (q4:0<steps.length):∃ v H',fj cfg FT aT true 156 [(.ptr p 0 0 0)] { H with aq:=[] } v H'∧(∃ vso:AV,∃ stepso:List fy,∃ vpo:AV,∃ poso:List Int,∃ vlo:AV,∃ lefto:List (Row gM),(stepso.length+1=steps.length∧poso.length=stepso.length∧lefto=left.take (left.length - 1))∧Sep H' (.obj (.ptr p 0 0 0) [iv pY,vso,vpo,vlo]::.sl true false vso 3 (List.map fy.cells stepso)::.sl true false vpo 1 (List.map fu poso)::.sl true false vlo 1 (List.map (g6 gM.cells) lefto)::F)∧v=.fz []):=by
 refine gB MU N5 rfl ?_
 refine ai ?_
 refine fq rfl (fun _=>j3 (i:=0) hS rfl rfl) ?_
 refine fq rfl (fun _=>jz (i:=0) hS rfl rfl rfl rfl rfl) ?_
 refine fq rfl (fun _=>jU (i:=0) (o:=1) (r:=vs) hS rfl rfl rfl rfl) ?_
 refine fq rfl (fun _=>jT (i:=1) hS rfl rfl rfl rfl rfl rfl rfl) ?_
 refine lY ((steps.length:Int)) (1) ?_
 refine ab ?_
 refine qd ?_
 iterate 4 refine rV ?_
 refine ga rfl rfl (fun _=>j3 (i:=0) hS rfl rfl) ?_
 refine ga rfl rfl (fun _=>jz (i:=0) hS rfl rfl rfl rfl rfl) ?_
 refine ga rfl rfl (fun _=>jU (i:=0) (o:=1) (r:=vs) hS rfl rfl rfl rfl) ?_
 refine rV ?_
 have hk1:((((steps.length:Int) - 1).toNat:Nat):Int)=(steps.length:Int) - 1:=Int.toNat_of_nonneg cL
 have hx2:((steps.length:Int) - 1).toNat≤steps.length:=by first | omega | (simp<;>omega) | (simp_all; omega)
 refine gS rfl rfl (th (i:=1) (k:=((steps.length:Int) - 1).toNat) hS rfl rfl rfl rfl rfl rfl (congrArg (AV.int .i64) hk1.symm) hx2) ?_
 rintro v3 H4 ⟨hc5,hS6⟩
 refine rV ?_
 refine ga rfl rfl (fun _=>j3 (i:=0) hS6 rfl rfl) ?_
 refine ga rfl rfl (fun _=>jz (i:=0) hS6 rfl rfl rfl rfl rfl) ?_
 refine ga rfl rfl (fun _=>jU (i:=0) (o:=2) (r:=vp) hS6 rfl rfl rfl rfl) ?_
 refine rV ?_
 have hk7:((((steps.length:Int) - 1).toNat:Nat):Int)=(steps.length:Int) - 1:=Int.toNat_of_nonneg cL
 have hx8:((steps.length:Int) - 1).toNat≤pos.length:=by first | omega | (simp<;>omega) | (simp_all; omega)
 refine gS rfl rfl (th (i:=2) (k:=((steps.length:Int) - 1).toNat) hS6 rfl rfl rfl rfl rfl rfl (congrArg (AV.int .i64) hk7.symm) hx8) ?_
 rintro v9 H10 ⟨hc11,hS12⟩
 refine rV ?_
 refine ga rfl rfl (fun _=>j3 (i:=0) hS12 rfl rfl) ?_
 refine ga rfl rfl (fun _=>jz (i:=0) hS12 rfl rfl rfl rfl rfl) ?_
 refine ga rfl rfl (fun _=>jU (i:=0) (o:=3) (r:=vl) hS12 rfl rfl rfl rfl) ?_
 refine rV ?_
 have hk13:((((steps.length:Int) - 1).toNat:Nat):Int)=(steps.length:Int) - 1:=Int.toNat_of_nonneg cL
 have hx14:((steps.length:Int) - 1).toNat≤left.length:=by first | omega | (simp<;>omega) | (simp_all; omega)
 refine gS rfl rfl (th (i:=3) (k:=((steps.length:Int) - 1).toNat) hS12 rfl rfl rfl rfl rfl rfl (congrArg (AV.int .i64) hk13.symm) hx14) ?_
 rintro v15 H16 ⟨hc17,hS18⟩
 refine ga rfl rfl (fun _=>j3 (i:=0) hS18 rfl rfl) ?_
 refine ga rfl rfl (fun _=>jz (i:=0) hS18 rfl rfl rfl rfl rfl) ?_
 refine qv rfl rfl (iG (i:=0) (o:=1) (r:=v3) hS18 rfl rfl rfl rfl (jq rfl rfl (Sep.cell (i:=1) hS18 rfl)) (fD (Sep.cell (i:=1) hS18 rfl) gJ) rfl) ?_
 rintro _ H19 ⟨rfl,hS20⟩
 refine ⟨fun call=>(zo (kS rfl rfl rfl (pF (i:=2) (k:=((steps.length:Int) - 1).toNat) hS20 rfl hc11 rfl rfl rfl rfl rfl (congrArg (AV.int .i64) hk7.symm)) rfl (ye (i:=2) hS20 rfl)) (we (kS rfl rfl rfl (pF (i:=3) (k:=((steps.length:Int) - 1).toNat) hS20 rfl hc17 rfl rfl rfl rfl rfl (congrArg (AV.int .i64) hk13.symm)) rfl (ye (i:=3) hS20 rfl)))),?_⟩
 refine ga rfl rfl (fun _=>j3 (i:=0) hS20 rfl rfl) ?_
 refine ga rfl rfl (fun _=>jz (i:=0) hS20 rfl rfl rfl rfl rfl) ?_
 refine qv rfl rfl (iG (i:=0) (o:=2) (r:=v9) hS20 rfl rfl rfl rfl (jq rfl rfl (Sep.cell (i:=2) hS20 rfl)) (fD (Sep.cell (i:=2) hS20 rfl) gJ) rfl) ?_
 rintro _ H21 ⟨rfl,hS22⟩
 refine ⟨fun call=>(we (kS rfl rfl rfl (pF (i:=3) (k:=((steps.length:Int) - 1).toNat) hS22 rfl hc17 rfl rfl rfl rfl rfl (congrArg (AV.int .i64) hk13.symm)) rfl (ye (i:=3) hS22 rfl))),?_⟩
 refine ga rfl rfl (fun _=>j3 (i:=0) hS22 rfl rfl) ?_
 refine ga rfl rfl (fun _=>jz (i:=0) hS22 rfl rfl rfl rfl rfl) ?_
 refine gS rfl rfl (iG (i:=0) (o:=3) (r:=v15) hS22 rfl rfl rfl rfl (jq rfl rfl (Sep.cell (i:=3) hS22 rfl)) (fD (Sep.cell (i:=3) hS22 rfl) gJ) rfl) ?_
 rintro _ H23 ⟨rfl,hS24⟩
 refine rN ?_
 have hS25:=Sep.pick hS24 [0,1,2,3] 4 cK cK
 exact ⟨.fz [],rfl,v3,(steps.take (((steps.length:Int) - 1).toNat)),v9,(pos.take (((steps.length:Int) - 1).toNat)),v15,(left.take (((steps.length:Int) - 1).toNat)),(by refine ⟨by simp only [List.length_take]; omega,by simp only [List.length_take]; omega,?_⟩; congr 1; omega),Sep.aq hS25 _,rfl⟩
theorem Vy:FT 74=some IG:=by kernel_rfl
theorem Pd:aT 74=none:=by kernel_rfl
def P74 (_a0:fk) (_a1:Int) (v:AV):Prop:=∃ r0:Row fP,(r0.l.length≤8192∧(∀ r∈(r0.l:List fP),0<r.steps.l.length∧r.steps.l.length≤12∧r.jJ.l.length≤12))∧v=Row.av fP.cells r0
theorem t74 (a0:fk) (a1:Int)  (h:ah):∃ v,fj cfg FT aT false 74 [.ip (fk.cells a0) 0 false,iv a1] h v h∧P74 a0 a1 v:=by
 refine fS Pd Vy rfl rfl ?_
 refine aU ?_
 refine pD ?_
 refine ae ?_
 refine oC (t86 a0 (a1)) ?_
 rintro _ ⟨r2,r3,hc1,rfl⟩
 have hA:=hc1.1; have hA0:=hc1.2
 cases r3
 refine cy ?_
 refine bd ?_
 exact xF (.sl [] .nil) ⟨(⟨[],.nil,Nat.zero_le _,rfl,fun _=>rfl⟩:Row fP),dX,rfl⟩
 refine aO ?_
 refine aW ?_
 refine bE ?_
 refine oC (t78 a0 r2) ?_
 rintro _ ⟨r5,r6,hc4,rfl⟩
 have hN:=hc4
 cases r6
 refine cy ?_
 refine bd ?_
 exact xF (.sl [] .nil) ⟨(⟨[],.nil,Nat.zero_le _,rfl,fun _=>rfl⟩:Row fP),dX,rfl⟩
 refine cy ?_
 refine bA ?_
 refine aU ?_
 refine aB ?_
 refine gd (H:=ah.empty) rfl (iz gI rfl rfl rfl rfl rfl) ?_
 rintro _ H8 ⟨b7,rfl,hS9⟩
 refine ab ?_
 refine qq ?_
 refine ql ?_
 refine ba ?_
 have hS10:=Sep.iF hS9 1
 have hS11:=Sep.iF hS10 9
 have hS12:=Sep.iF hS11 1
 have hS13:=Sep.iF hS12 3
 have hS14:=Sep.ni (i:=0) hS13 rfl
 have hS15:=Sep.ni (i:=1) hS14 rfl
 have hS16:=Sep.ni (i:=3) hS15 rfl
 refine lD (fun m30 e h=>∃ v17:AV,∃ l18:List fy,∃ v19:AV,∃ l20:List Int,∃ v21:AV,∃ l22:List fP,∃ v23:AV,∃ l24:List (Row gM),∃ n25:Int,∃ n26:Int,∃ n27:Int,∃ H28:ah,m30=2*(wt l24+qP l18.length)+l18.length∧(l18.length≤12∧l20.length=l18.length∧l22.length+wt l24+qP l18.length≤8192)∧(l24.length=l18.length)∧((∀ r∈(l22:List fP),0<r.steps.l.length∧r.steps.l.length≤12∧r.jJ.l.length≤12))∧Sep H28 (.sl true false v17 3 (List.map fy.cells l18)::.sl true false v19 1 (List.map fu l20)::.sl true true v21 9 (List.map fP.cells l22)::.sl true false v23 1 (List.map (g6 gM.cells) l24)::.obj (.ptr b7 0 0 0) [iv n27,v17,v19,v23]::[])∧proj [0,1,7,8,9] e=[(0,.ip (fk.cells a0) 0 false),(1,iv a1),(7,.la 7 0),(8,v21),(9,(.ptr b7 0 0 0))]∧{ h with aq:=fU [0,1,7,8,9] h.aq } = { H28 with aq:=[(7,[iv n25,iv n26])] }) ?_ _ _ _ ⟨((.sl [] .nil)),(([]:List fy)),((.sl [] .nil)),(([]:List Int)),((.sl [] .nil)),(([]:List fP)),((.sl [] .nil)),(([]:List (Row gM))),(r5.elem),(r5.en),(r2.elem),H8,rfl,(by (simp [Px,PJ])),ef,ef,hS16,rfl,rfl⟩
 rintro m30 e h ⟨v17,l18,v19,l20,v21,l22,v23,l24,n25,n26,n27,H28,hmm30,hL,hL3,hRo,hS29,he,hh⟩
 refine gm he hh ?_
 clear he hh
 have hPp:l18.length≤12→1≤qP l18.length:=wc
 refine qb ?_
 refine pD ?_
 refine wE (fun E Z=>∃ v31:AV,∃ l32:List fy,∃ v33:AV,∃ l34:List Int,∃ v35:AV,∃ l36:List fP,∃ v37:AV,∃ l38:List (Row gM),∃ H39:ah,(l32.length≤12∧l34.length=l32.length∧l36.length+wt l38≤8192∧2*wt l38+l32.length<m30)∧(l38.length=l32.length)∧((∀ r∈(l36:List fP),0<r.steps.l.length∧r.steps.l.length≤12∧r.jJ.l.length≤12))∧Sep H39 (.sl true false v31 3 (List.map fy.cells l32)::.sl true false v33 1 (List.map fu l34)::.sl true true v35 9 (List.map fP.cells l36)::.sl true false v37 1 (List.map (g6 gM.cells) l38)::.obj (.ptr b7 0 0 0) [iv n27,v31,v33,v37]::[])∧E=[(0,.ip (fk.cells a0) 0 false),(1,iv a1),(7,.la 7 0),(8,v35),(9,(.ptr b7 0 0 0))]∧Z = { H39 with aq:=[(7,[iv n25,iv n26])] }) ?_ ?_
 rintro _ _ ⟨v31,l32,v33,l34,v35,l36,v37,l38,H39,hL,hL3,hRo,hS40,rfl,rfl⟩
 have hPp:l32.length≤12→1≤qP l32.length:=wc
 refine qq ?_
 refine ql ?_
 refine ba ?_
 refine lD (fun m51 e h=>∃ v41:AV,∃ l42:List fy,∃ v43:AV,∃ l44:List Int,∃ v45:AV,∃ l46:List fP,∃ v47:AV,∃ l48:List (Row gM),∃ H49:ah,m51=2*wt l48+l42.length∧(l42.length≤12∧l44.length=l42.length∧l46.length+wt l48≤8192∧2*wt l48+l42.length<m30)∧(l48.length=l42.length)∧((∀ r∈(l46:List fP),0<r.steps.l.length∧r.steps.l.length≤12∧r.jJ.l.length≤12))∧Sep H49 (.sl true false v41 3 (List.map fy.cells l42)::.sl true false v43 1 (List.map fu l44)::.sl true true v45 9 (List.map fP.cells l46)::.sl true false v47 1 (List.map (g6 gM.cells) l48)::.obj (.ptr b7 0 0 0) [iv n27,v41,v43,v47]::[])∧proj [0,1,7,8,9] e=[(0,.ip (fk.cells a0) 0 false),(1,iv a1),(7,.la 7 0),(8,v45),(9,(.ptr b7 0 0 0))]∧{ h with aq:=fU [0,1,7,8,9] h.aq } = { H49 with aq:=[(7,[iv n25,iv n26])] }) ?_ _ _ _ ⟨(v31),(l32),(v33),(l34),(v35),(l36),(v37),(l38),H39,rfl,cO,cO,(by exact hRo),hS40,(Eq.trans (b:=[(0,.ip (fk.cells a0) 0 false),(1,iv a1),(7,.la 7 0),(8,fi 8 v35),(9,(.ptr b7 0 0 0))]) rfl (by first | (rw [(show fi 8 v35=v35 from Sep.fT (i:=2) hS40 rfl 8)]; done) | (rw [(show fi 8 v35=v35 from Sep.fT (i:=2) hS40 rfl 8)]; rfl))),rfl⟩
 rintro m51 e h ⟨v41,l42,v43,l44,v45,l46,v47,l48,H49,hmm51,hL,hL3,hRo,hS50,he,hh⟩
 refine gm he hh ?_
 clear he hh
 have hPp:l42.length≤12→1≤qP l42.length:=wc
 refine bh ?_
 refine lP 4 hS50 ?_
 refine iN 4 hS50 ?_
 refine ix 4 hS50 v41 ?_
 refine fq rfl (fun _=>jT (H:=H49) (i:=0) (l:=l42) (enc:=fy.cells) hS50 rfl rfl rfl rfl rfl rfl rfl) ?_
 refine g9 ((l42.length:Int)) (0) (fun h52=>?_) (fun h52=>?_)
 refine b8 ?_
 refine wa [(0,.ip (fk.cells a0) 0 false),(1,iv a1),(7,.la 7 0),(8,v45),(9,(.ptr b7 0 0 0))] H49 [(7,[iv n25,iv n26])] ?_ (Eq.trans (b:=[(0,.ip (fk.cells a0) 0 false),(1,iv a1),(7,.la 7 0),(8,fi 8 v45),(9,(.ptr b7 0 0 0))]) rfl dz)
 refine qb ?_
 refine ai ?_
 refine lP 4 hS50 ?_
 refine iN 4 hS50 ?_
 refine ix 4 hS50 v41 ?_
 refine fq rfl (fun _=>jT (H:=H49) (i:=0) (l:=l42) (enc:=fy.cells) hS50 rfl rfl rfl rfl rfl rfl rfl) ?_
 refine lY ((l42.length:Int)) (1) ?_
 refine ak ?_
 refine lP 4 hS50 ?_
 refine iN 4 hS50 ?_
 refine ix 4 hS50 v47 ?_
 refine oV ?_
 have hk53:((((l42.length:Int) - 1).toNat:Nat):Int)=(l42.length:Int) - 1:=Int.toNat_of_nonneg cL
 have hx54:((l42.length:Int) - 1).toNat<l48.length:=by first | omega | (simp<;>omega) | (simp_all; omega)
 obtain ⟨x55,hqx55⟩:∃ x,l48[((l42.length:Int) - 1).toNat]=x:=⟨_,rfl⟩
 refine kz rfl (ji (H:=H49) (i:=3) (m:=((l42.length:Int) - 1).toNat) (cs:=(g6 gM.cells) x55) hS50 rfl rfl rfl rfl rfl rfl (congrArg (AV.int .i64) hk53.symm) (iq hx54 hqx55)) ?_
 rintro a56 ⟨ha57,hea58⟩
 refine fq rfl (fun _=>ko (H:=H49) (i:=3) (m:=((l42.length:Int) - 1).toNat) (o:=0) (r:=Row.av gM.cells x55) (cs:=(g6 gM.cells) x55) hS50 rfl (iq hx54 hqx55) hea58 rfl rfl ha57) ?_
 have hL59:=x55.lk
 refine gG x55 ?_
 refine gA ((x55.l.length:Int)) (0) (fun h60=>?_) (fun h60=>?_)
 refine aA ?_
 refine ai ?_
 have hS61:=Sep.pick hS50 [4,0,1,3,2] 5 cK cK
 refine gC (H:=H49) (args:=[(.ptr b7 0 0 0)]) (p:=[]) (r:=[]) rfl rfl rfl rfl rfl rfl rfl (abP b7 n27 v41 l42 v43 l44 v47 l48 (.sl true true v45 9 (List.map fP.cells l46)::[]) hS61 cG cG cG cG) ?_
 rintro _ H62 ⟨vso65,stepso66,vpo67,poso68,vlo69,lefto70,hc64,hS63,rfl⟩
 obtain ⟨hp1,hp2,hp3⟩:=hc64
 have hWt:wt lefto70=wt l48:=by rw [hp3]; exact IU cP cO cP cO
 have hp5:lefto70.length+1=l48.length:=by rw [hp3,List.length_take]; omega
 refine oN ?_
 refine qe ?_
 have hS71:=Sep.pick hS63 [1,2,4,3,0] 5 cK cK
 refine ⟨_,?_,(vso65),(stepso66),(vpo67),(poso68),(v45),(l46),(vlo69),(lefto70),H62,rfl,cO,cO,cW,hS71,(Eq.trans (b:=[(0,.ip (fk.cells a0) 0 false),(1,iv a1),(7,.la 7 0),(8,fi 8 v45),(9,(.ptr b7 0 0 0))]) rfl (by first | (rw [(show fi 8 v45=v45 from Sep.fT (i:=2) hS71 rfl 8)]; done) | (rw [(show fi 8 v45=v45 from Sep.fT (i:=2) hS71 rfl 8)]; rfl))),rfl⟩
 omega
 refine az ?_
 refine wa [(0,.ip (fk.cells a0) 0 false),(1,iv a1),(7,.la 7 0),(8,v45),(9,(.ptr b7 0 0 0)),(10,iv ((l42.length:Int) - 1))] H49 [(7,[iv n25,iv n26])] ?_ (Eq.trans (b:=[(0,.ip (fk.cells a0) 0 false),(1,iv a1),(7,.la 7 0),(8,fi 8 v45),(9,(.ptr b7 0 0 0)),(10,iv ((l42.length:Int) - 1))]) rfl dz)
 refine ai ?_
 refine lP 4 hS50 ?_
 refine iN 4 hS50 ?_
 refine ix 4 hS50 v47 ?_
 refine oV ?_
 have hk72:((((l42.length:Int) - 1).toNat:Nat):Int)=(l42.length:Int) - 1:=Int.toNat_of_nonneg cL
 have hx73:((l42.length:Int) - 1).toNat<l48.length:=by first | omega | (simp<;>omega) | (simp_all; omega)
 refine kz rfl (ji (H:=H49) (i:=3) (m:=((l42.length:Int) - 1).toNat) (cs:=(g6 gM.cells) x55) hS50 rfl rfl rfl rfl rfl rfl (congrArg (AV.int .i64) hk72.symm) (iq hx73 hqx55)) ?_
 rintro a74 ⟨ha75,hea76⟩
 refine fq rfl (fun _=>ko (H:=H49) (i:=3) (m:=((l42.length:Int) - 1).toNat) (o:=0) (r:=Row.av gM.cells x55) (cs:=(g6 gM.cells) x55) hS50 rfl (iq hx73 hqx55) hea76 rfl rfl ha75) ?_
 have hx77:0<x55.l.length:=by omega
 refine iU 0 x55 hx77 ?_
 generalize hqx78:x55.l[0]=x78
 refine aX ?_
 refine cf ?_
 refine kM 4 hS50 ?_
 refine kj 4 hS50 ?_
 refine lR 4 hS50 v47 ?_
 iterate 2 refine rV ?_
 refine kM 4 hS50 ?_
 refine kj 4 hS50 ?_
 refine lR 4 hS50 v47 ?_
 refine rV ?_
 have hk79:((((l42.length:Int) - 1).toNat:Nat):Int)=(l42.length:Int) - 1:=Int.toNat_of_nonneg cL
 have hx80:((l42.length:Int) - 1).toNat<l48.length:=by first | omega | (simp<;>omega) | (simp_all; omega)
 refine me rfl rfl (ji (H:=H49) (i:=3) (m:=((l42.length:Int) - 1).toNat) (cs:=(g6 gM.cells) x55) hS50 rfl rfl rfl rfl rfl rfl (congrArg (AV.int .i64) hk79.symm) (iq hx80 hqx55)) ?_
 rintro a81 ⟨ha82,hea83⟩
 refine ga rfl rfl (fun _=>ko (H:=H49) (i:=3) (m:=((l42.length:Int) - 1).toNat) (o:=0) (r:=Row.av gM.cells x55) (cs:=(g6 gM.cells) x55) hS50 rfl (iq hx80 hqx55) hea83 rfl rfl ha82) ?_
 have hx84:1≤x55.l.length:=by omega
 refine ga rfl rfl (fun _=>Ia (k:=1) (r:=x55) (enc:=gM.cells) (n:=2) rfl rfl rfl rfl rfl rfl hx84 (fun _=>rfl)) ?_
 have hk85:((((l42.length:Int) - 1).toNat:Nat):Int)=(l42.length:Int) - 1:=Int.toNat_of_nonneg cL
 have hx86:((l42.length:Int) - 1).toNat<l48.length:=by first | omega | (simp<;>omega) | (simp_all; omega)
 refine me rfl rfl (ji (H:=H49) (i:=3) (m:=((l42.length:Int) - 1).toNat) (cs:=(g6 gM.cells) x55) hS50 rfl rfl rfl rfl rfl rfl (congrArg (AV.int .i64) hk85.symm) (iq hx86 hqx55)) ?_
 rintro a87 ⟨ha88,hea89⟩
 have hWs:wt (l48.set _ (Row.drop x55 1))+qP l48.length=wt l48:=OL hx86 cO hqx55 cO (by simp [Row.drop]; omega); rw [hL3] at hWs
 have hz92:(l48.set (((l42.length:Int) - 1).toNat) (Row.drop x55 1)).length=l48.length:=List.length_set
 refine gS (H:=H49) rfl rfl (od (H:=H49) (i:=3) (m:=((l42.length:Int) - 1).toNat) (o:=0) x55 (Row.drop x55 1) hS50 rfl hx86 hqx55 hea89 rfl ha88 rfl rfl rfl rfl) ?_
 rintro _ H90 ⟨rfl,hS91⟩
 simp only [List.set] at hS91
 refine rN ?_
 refine cf ?_
 refine kM 4 hS91 ?_
 refine kj 4 hS91 ?_
 refine lR 4 hS91 v41 ?_
 iterate 2 refine rV ?_
 refine kM 4 hS91 ?_
 refine kj 4 hS91 ?_
 refine lR 4 hS91 v43 ?_
 iterate 5 refine rV ?_
 have hk93:((((l42.length:Int) - 1).toNat:Nat):Int)=(l42.length:Int) - 1:=Int.toNat_of_nonneg cL
 have hx94:((l42.length:Int) - 1).toNat<l42.length:=by first | omega | (simp<;>omega) | (simp_all; omega)
 obtain ⟨x95,hqx95⟩:∃ x,l42[((l42.length:Int) - 1).toNat]=x:=⟨_,rfl⟩
 refine me rfl rfl (ji (H:=H90) (i:=0) (m:=((l42.length:Int) - 1).toNat) (cs:=fy.cells x95) hS91 rfl rfl rfl rfl rfl rfl (congrArg (AV.int .i64) hk93.symm) (iq hx94 hqx95)) ?_
 rintro a96 ⟨ha97,hea98⟩
 refine ga rfl rfl (fun _=>EA.w4 hea98 rfl rfl rfl ha97) ?_
 have hz101:(l42.set (((l42.length:Int) - 1).toNat) (⟨(x95.elem),(x95.jQ),(x78.out)⟩:fy)).length=l42.length:=List.length_set
 refine qv (H:=H90) rfl rfl (od (H:=H90) (i:=0) (m:=((l42.length:Int) - 1).toNat) (o:=2) x95 (⟨(x95.elem),(x95.jQ),(x78.out)⟩:fy) hS91 rfl hx94 hqx95 hea98 rfl rfl rfl rfl rfl rfl) ?_
 rintro _ H99 ⟨rfl,hS100⟩
 refine ⟨fun call=>(we (kS rfl rfl rfl rfl rfl dP)),?_⟩
 have hk102:((((l42.length:Int) - 1).toNat:Nat):Int)=(l42.length:Int) - 1:=Int.toNat_of_nonneg cL
 have hx103:((l42.length:Int) - 1).toNat<l44.length:=by first | omega | (simp<;>omega) | (simp_all; omega)
 obtain ⟨x104,hqx104⟩:∃ x,l44[((l42.length:Int) - 1).toNat]=x:=⟨_,rfl⟩
 refine me rfl rfl (ji (H:=H99) (i:=1) (m:=((l42.length:Int) - 1).toNat) (cs:=fu x104) hS100 rfl rfl rfl rfl rfl rfl (congrArg (AV.int .i64) hk102.symm) (iq hx103 hqx104)) ?_
 rintro a105 ⟨ha106,hea107⟩
 have hz110:(l44.set (((l42.length:Int) - 1).toNat) (x78.pos)).length=l44.length:=List.length_set
 refine gS (H:=H99) rfl rfl (od (H:=H99) (i:=1) (m:=((l42.length:Int) - 1).toNat) (o:=0) x104 (x78.pos) hS100 rfl hx103 hqx104 hea107 rfl ha106 rfl rfl rfl rfl) ?_
 rintro _ H108 ⟨rfl,hS109⟩
 simp only [List.set] at hS109
 refine rN ?_
 refine cf ?_
 refine kM 4 hS109 ?_
 refine kj 4 hS109 ?_
 refine lR 4 hS109 v41 ?_
 refine rV ?_
 have hk111:((((l42.length:Int) - 1).toNat:Nat):Int)=(l42.length:Int) - 1:=Int.toNat_of_nonneg cL
 have hx112:((l42.length:Int) - 1).toNat<((l42.set (((l42.length:Int) - 1).toNat) (⟨(x95.elem),(x95.jQ),(x78.out)⟩:fy))).length:=by first | omega | (simp<;>omega) | (simp_all; omega)
 obtain ⟨x113,hqx113⟩:∃ x,((l42.set (((l42.length:Int) - 1).toNat) (⟨(x95.elem),(x95.jQ),(x78.out)⟩:fy)))[((l42.length:Int) - 1).toNat]=x:=⟨_,rfl⟩
 refine me rfl rfl (ji (H:=H108) (i:=0) (m:=((l42.length:Int) - 1).toNat) (cs:=fy.cells x113) hS109 rfl rfl rfl rfl rfl rfl (congrArg (AV.int .i64) hk111.symm) (iq hx112 hqx113)) ?_
 rintro a114 ⟨ha115,hea116⟩
 refine ga rfl rfl (fun _=>EA.w4 hea116 rfl rfl rfl ha115) ?_
 refine ga rfl rfl (fun _=>ko (H:=H108) (i:=0) (m:=((l42.length:Int) - 1).toNat) (o:=0) (r:=iv x113.elem) (cs:=fy.cells x113) hS109 rfl (iq hx112 hqx113) hea116 rfl rfl rfl) ?_
 iterate 4 refine rV ?_
 refine aV ?_
 refine aW ?_
 refine oC (t81 a0 (⟨(x113.elem),(x78.out)⟩:bY)) ?_
 rintro _ ⟨r118,hc117,rfl⟩
 have hR:=hc117
 refine bP ?_
 refine jg (r118) (0) (fun h119=>?_) (fun h119=>?_)
 refine aA ?_
 refine be ?_
 refine Exists.elim (jv (H:=H108) (i:=0) (l:=(l42.set (((l42.length:Int) - 1).toNat) (⟨(x95.elem),(x95.jQ),(x78.out)⟩:fy))) (enc:=fy.cells) hS109 rfl db) (fun r120 hh=>And.elim (fun hl121 hf122=>?_) hh)
 have hln124:=congrArg List.length hl121
 have hz123:∀ m,freeze true { H108 with aq:=[] } (m+2) v41=some (fE.av fy.cells r120):=fun m=>hf122 [] _ (fun _=>rfl)
 refine Exists.elim (jv (H:=H108) (i:=1) (l:=(l44.set (((l42.length:Int) - 1).toNat) (x78.pos))) (enc:=fu) hS109 rfl db) (fun r125 hh=>And.elim (fun hl126 hf127=>?_) hh)
 have hln129:=congrArg List.length hl126
 have hz128:∀ m,freeze true { H108 with aq:=[] } (m+2) v43=some (fE.av fu r125):=fun m=>hf127 [] _ (fun _=>rfl)
 refine Exists.elim (jv (H:=H108) (i:=3) (l:=(l48.set (((l42.length:Int) - 1).toNat) (Row.drop x55 1))) (enc:=(g6 gM.cells)) hS109 rfl db) (fun r130 hh=>And.elim (fun hl131 hf132=>?_) hh)
 have hln134:=congrArg List.length hl131
 have hz133:∀ m,freeze true { H108 with aq:=[] } (m+2) v47=some (fE.av (g6 gM.cells) r130):=fun m=>hf132 [] _ (fun _=>by simp only [g6,gr,jC,ju,jK,jH,j1])
 have hz135:∀ m,freeze true { H108 with aq:=[] } (m+4) (.ptr b7 0 0 0)=some (.ip [iv n27,fE.av fy.cells r120,fE.av fu r125,fE.av (g6 gM.cells) r130] 0 true):=fun m=>iS (i:=4) hS109 rfl [] _ (by simp only [FZ,hz123,hz128,hz133])
 refine kE (args:=[(.ptr b7 0 0 0),iv a1,iv r118,iv 1]) (p:=[]) (r:=[]) (args':=[.ip [iv n27,fE.av fy.cells r120,fE.av fu r125,fE.av (g6 gM.cells) r130] 0 true,iv a1,iv r118,iv 1]) (R:=CO (⟨(n27),r120,r125,r130⟩:lF) (a1) (r118) (1)) rfl rfl rfl rfl rfl rfl rfl vi (iR (by show gr (freeze true { H108 with aq:=[] } 8) [(.ptr b7 0 0 0),iv a1,iv r118,iv 1] = _; simp only [FZ,hz123,hz128,hz133,hz135]) (fD rfl (fD rfl (fD rfl (fD rfl gJ))))) (iR dN (fD rfl (fD rfl (fD rfl (fD rfl gJ))))) (fun h=>t155 (⟨(n27),r120,r125,r130⟩:lF) (a1) (r118) (1) cG cG h) ?_
 rintro _ ⟨r137,hc136,rfl⟩
 have hC158:=congrArg List.length hc136.1; have hD158:=hc136.2; dsimp only at hC158 hD158
 refine fq rfl (fun _=>vx (xs:=[(fP.cells r137)]) rfl rfl rfl rfl (BV (fD rfl (fD rfl (fD rfl (fD (jw _) (fD (jw _) (fD (jw _) (fD (jw _) (fD (jw _) (fD rfl gJ))))))))) rfl)) ?_
 have hz141:(l46++[r137]).length=l46.length+1:=List.length_append
 refine wM 2 [r137] hS109 fun v138 H139 hS140=>?_
 simp only [List.set] at hS140
 refine ab ?_
 refine qe ?_
 refine ⟨_,?_,(v41),((l42.set (((l42.length:Int) - 1).toNat) (⟨(x95.elem),(x95.jQ),(x78.out)⟩:fy))),(v43),((l44.set (((l42.length:Int) - 1).toNat) (x78.pos))),(v138),((l46++[r137])),(v47),((l48.set (((l42.length:Int) - 1).toNat) (Row.drop x55 1))),H139,rfl,cO,cO,cW,hS140,(Eq.trans (b:=[(0,.ip (fk.cells a0) 0 false),(1,iv a1),(7,.la 7 0),(8,fi 8 v138),(9,(.ptr b7 0 0 0))]) rfl (by first | (rw [(show fi 8 v138=v138 from Sep.fT (i:=2) hS140 rfl 8)]; done) | (rw [(show fi 8 v138=v138 from Sep.fT (i:=2) hS140 rfl 8)]; rfl))),rfl⟩
 omega
 refine az ?_
 refine wa [(0,.ip (fk.cells a0) 0 false),(1,iv a1),(7,.la 7 0),(8,v45),(9,(.ptr b7 0 0 0)),(12,.la 12 0)] H108 [(7,[iv n25,iv n26]),(12,[iv x113.elem,iv x78.out])] ?_ (Eq.trans (b:=[(0,.ip (fk.cells a0) 0 false),(1,iv a1),(7,.la 7 0),(8,fi 8 v45),(9,(.ptr b7 0 0 0)),(12,.la 12 0)]) rfl dL)
 refine ae ?_
 refine oC (t78 a0 (⟨(x113.elem),(x78.out)⟩:bY)) ?_
 rintro _ ⟨r143,r144,hc142,rfl⟩
 have hN:=hc142
 cases r144
 refine oV ?_
 refine bj ?_
 refine a7 ?_
 refine aB ?_
 refine Exists.elim (jv (H:=H108) (i:=0) (l:=(l42.set (((l42.length:Int) - 1).toNat) (⟨(x95.elem),(x95.jQ),(x78.out)⟩:fy))) (enc:=fy.cells) hS109 rfl db) (fun r145 hh=>And.elim (fun hl146 hf147=>?_) hh)
 have hln149:=congrArg List.length hl146
 have hz148:∀ m,freeze true { H108 with aq:=[] } (m+2) v41=some (fE.av fy.cells r145):=fun m=>hf147 [] _ (fun _=>rfl)
 refine Exists.elim (jv (H:=H108) (i:=1) (l:=(l44.set (((l42.length:Int) - 1).toNat) (x78.pos))) (enc:=fu) hS109 rfl db) (fun r150 hh=>And.elim (fun hl151 hf152=>?_) hh)
 have hln154:=congrArg List.length hl151
 have hz153:∀ m,freeze true { H108 with aq:=[] } (m+2) v43=some (fE.av fu r150):=fun m=>hf152 [] _ (fun _=>rfl)
 refine Exists.elim (jv (H:=H108) (i:=3) (l:=(l48.set (((l42.length:Int) - 1).toNat) (Row.drop x55 1))) (enc:=(g6 gM.cells)) hS109 rfl db) (fun r155 hh=>And.elim (fun hl156 hf157=>?_) hh)
 have hln159:=congrArg List.length hl156
 have hz158:∀ m,freeze true { H108 with aq:=[] } (m+2) v47=some (fE.av (g6 gM.cells) r155):=fun m=>hf157 [] _ (fun _=>by simp only [g6,gr,jC,ju,jK,jH,j1])
 have hz160:∀ m,freeze true { H108 with aq:=[] } (m+4) (.ptr b7 0 0 0)=some (.ip [iv n27,fE.av fy.cells r145,fE.av fu r150,fE.av (g6 gM.cells) r155] 0 true):=fun m=>iS (i:=4) hS109 rfl [] _ (by simp only [FZ,hz148,hz153,hz158])
 refine kE (args:=[(.ptr b7 0 0 0),iv a1,iv (-1),iv 3]) (p:=[]) (r:=[]) (args':=[.ip [iv n27,fE.av fy.cells r145,fE.av fu r150,fE.av (g6 gM.cells) r155] 0 true,iv a1,iv (-1),iv 3]) (R:=CO (⟨(n27),r145,r150,r155⟩:lF) (a1) (-1) (3)) rfl rfl rfl rfl rfl rfl rfl vi (iR (by show gr (freeze true { H108 with aq:=[] } 8) [(.ptr b7 0 0 0),iv a1,iv (-1),iv 3] = _; simp only [FZ,hz148,hz153,hz158,hz160]) (fD rfl (fD rfl (fD rfl (fD rfl gJ))))) (iR dN (fD rfl (fD rfl (fD rfl (fD rfl gJ))))) (fun h=>t155 (⟨(n27),r145,r150,r155⟩:lF) (a1) (-1) (3) cG cG h) ?_
 rintro _ ⟨r162,hc161,rfl⟩
 have hC158:=congrArg List.length hc161.1; have hD158:=hc161.2; dsimp only at hC158 hD158
 refine fq rfl (fun _=>vx (xs:=[(fP.cells r162)]) rfl rfl rfl rfl (BV (fD rfl (fD rfl (fD rfl (fD (jw _) (fD (jw _) (fD (jw _) (fD (jw _) (fD (jw _) (fD rfl gJ))))))))) rfl)) ?_
 have hz166:(l46++[r162]).length=l46.length+1:=List.length_append
 refine wM 2 [r162] hS109 fun v163 H164 hS165=>?_
 simp only [List.set] at hS165
 refine ab ?_
 refine qe ?_
 refine ⟨_,?_,(v41),((l42.set (((l42.length:Int) - 1).toNat) (⟨(x95.elem),(x95.jQ),(x78.out)⟩:fy))),(v43),((l44.set (((l42.length:Int) - 1).toNat) (x78.pos))),(v163),((l46++[r162])),(v47),((l48.set (((l42.length:Int) - 1).toNat) (Row.drop x55 1))),H164,rfl,cO,cO,cW,hS165,(Eq.trans (b:=[(0,.ip (fk.cells a0) 0 false),(1,iv a1),(7,.la 7 0),(8,fi 8 v163),(9,(.ptr b7 0 0 0))]) rfl (by first | (rw [(show fi 8 v163=v163 from Sep.fT (i:=2) hS165 rfl 8)]; done) | (rw [(show fi 8 v163=v163 from Sep.fT (i:=2) hS165 rfl 8)]; rfl))),rfl⟩
 omega
 refine cy ?_
 refine bA ?_
 refine wa [(0,.ip (fk.cells a0) 0 false),(1,iv a1),(7,.la 7 0),(8,v45),(9,(.ptr b7 0 0 0)),(14,.la 14 0)] H108 [(7,[iv n25,iv n26]),(14,(bY.cells r143))] ?_ (Eq.trans (b:=[(0,.ip (fk.cells a0) 0 false),(1,iv a1),(7,.la 7 0),(8,fi 8 v45),(9,(.ptr b7 0 0 0)),(14,.la 14 0)]) rfl dL)
 refine aQ ?_
 refine qe ?_
 refine ⟨_,?_,(v41),((l42.set (((l42.length:Int) - 1).toNat) (⟨(x95.elem),(x95.jQ),(x78.out)⟩:fy))),(v43),((l44.set (((l42.length:Int) - 1).toNat) (x78.pos))),(v45),(l46),(v47),((l48.set (((l42.length:Int) - 1).toNat) (Row.drop x55 1))),(r143.elem),(r143.en),(n27),H108,rfl,fc,cO,cW,hS109,(Eq.trans (b:=[(0,.ip (fk.cells a0) 0 false),(1,iv a1),(7,.la 7 0),(8,fi 8 v45),(9,(.ptr b7 0 0 0))]) rfl dL),rfl⟩
 (first | omega | (simp only [List.length_set]; omega))
 refine aF ?_
 refine wa [(8,v45)] H49 [] ?_ (Eq.trans (b:=[(8,fi 8 v45)]) rfl dz)
 refine qe ?_
 refine wa [(8,v45)] H49 [] ?_ (Eq.trans (b:=[(8,fi 8 v45)]) rfl dz)
 refine bG ?_
 obtain ⟨r167,hl168,hf169⟩:=gZ (H:=H49) (i:=2) (l:=l46) (enc:=fP.cells) hS50 rfl cH
 have hlq:=hl168; have hln171:=congrArg List.length hl168
 have hz170:∀ m,freeze false { H49 with aq:=[] } (m+2) v45=some (Row.av fP.cells r167):=fun m=>hf169 _ _ (fun _=>by simp only [fP.cells,gr,jC,ju,jK,jH,j1])
 exact ⟨v45,(iB (vs:=[v45]) rfl (fD (Sep.arg (i:=2) hS50 rfl) gJ)),Row.av fP.cells r167,(show freeze false { H49 with aq:=[] } 8 v45=some (Row.av fP.cells r167) by simp only [FZ,hz170]),r167,dX,rfl⟩
 refine aB ?_
 refine Exists.elim (jv (H:=H28) (i:=0) (l:=l18) (enc:=fy.cells) hS29 rfl db) (fun r172 hh=>And.elim (fun hl173 hf174=>?_) hh)
 have hln176:=congrArg List.length hl173
 have hz175:∀ m,freeze true { H28 with aq:=[] } (m+2) v17=some (fE.av fy.cells r172):=fun m=>hf174 [] _ (fun _=>rfl)
 refine Exists.elim (jv (H:=H28) (i:=1) (l:=l20) (enc:=fu) hS29 rfl db) (fun r177 hh=>And.elim (fun hl178 hf179=>?_) hh)
 have hln181:=congrArg List.length hl178
 have hz180:∀ m,freeze true { H28 with aq:=[] } (m+2) v19=some (fE.av fu r177):=fun m=>hf179 [] _ (fun _=>rfl)
 refine Exists.elim (jv (H:=H28) (i:=3) (l:=l24) (enc:=(g6 gM.cells)) hS29 rfl db) (fun r182 hh=>And.elim (fun hl183 hf184=>?_) hh)
 have hln186:=congrArg List.length hl183
 have hz185:∀ m,freeze true { H28 with aq:=[] } (m+2) v23=some (fE.av (g6 gM.cells) r182):=fun m=>hf184 [] _ (fun _=>by simp only [g6,gr,jC,ju,jK,jH,j1])
 have hz187:∀ m,freeze true { H28 with aq:=[] } (m+4) (.ptr b7 0 0 0)=some (.ip [iv n27,fE.av fy.cells r172,fE.av fu r177,fE.av (g6 gM.cells) r182] 0 true):=fun m=>iS (i:=4) hS29 rfl [] _ (by simp only [FZ,hz175,hz180,hz185])
 refine kE (args:=[(.ptr b7 0 0 0),iv n25]) (p:=[]) (r:=[]) (args':=[.ip [iv n27,fE.av fy.cells r172,fE.av fu r177,fE.av (g6 gM.cells) r182] 0 true,iv n25]) (R:=Qd (⟨(n27),r172,r177,r182⟩:lF) (n25)) rfl rfl rfl rfl rfl rfl rfl BK (iR (by show gr (freeze true { H28 with aq:=[] } 8) [(.ptr b7 0 0 0),iv n25] = _; simp only [FZ,hz175,hz180,hz185,hz187]) (fD rfl (fD rfl gJ))) (iR dN (fD rfl (fD rfl gJ))) (fun h=>t153 (⟨(n27),r172,r177,r182⟩:lF) (n25)  h) ?_
 rintro _ ⟨r189,hc188,rfl⟩
 cases r189
 clear hc188
 refine az ?_
 exact ⟨(v17),(l18),(v19),(l20),(v21),(l22),(v23),(l24),H28,cO,cO,cW,hS29,(Eq.trans (b:=[(0,.ip (fk.cells a0) 0 false),(1,iv a1),(7,.la 7 0),(8,fi 8 v21),(9,(.ptr b7 0 0 0))]) rfl (by first | (rw [(show fi 8 v21=v21 from Sep.fT (i:=2) hS29 rfl 8)]; done) | (rw [(show fi 8 v21=v21 from Sep.fT (i:=2) hS29 rfl 8)]; rfl))),rfl⟩
 have hc188t:=hc188 rfl
 dsimp only at hc188t
 refine aA ?_
 refine aB ?_
 have hS190:=Sep.pick hS29 [4,0,1,3,2] 5 cK cK
 refine gC (H:=H28) (args:=[(.ptr b7 0 0 0),.ip (fk.cells a0) 0 false,.agg [iv n25,iv n26]]) (p:=[]) (r:=[]) rfl rfl rfl rfl rfl rfl rfl (YW b7 n27 v17 l18 v19 l20 v23 l24 a0 ((⟨(n25),(n26)⟩:bY)) (.sl true true v21 9 (List.map fP.cells l22)::[]) hS190 cG cG cG) ?_
 rintro _ H191 ⟨vso194,stepso195,vpo196,poso197,vlo198,lefto199,hc193,hS192,rfl⟩
 obtain ⟨hp1,hp2,ww,hp3,hp4⟩:=hc193
 have hWp:=L9 (l:=l24) (w:=ww) cO hp3
 rw [← hp4,hL3] at hWp
 have hp5:lefto199.length=l24.length+1:=by rw [hp4]; simp
 refine oN ?_
 refine aB ?_
 refine oC (t82 a0 (n25)) ?_
 rintro _ ⟨r201,hc200,rfl⟩
 have hK:=hc200
 refine gA (r201) (4) (fun h202=>?_) (fun h202=>?_)
 refine aA ?_
 refine a8 ?_
 refine Exists.elim (jv (H:=H191) (i:=1) (l:=stepso195) (enc:=fy.cells) hS192 rfl db) (fun r203 hh=>And.elim (fun hl204 hf205=>?_) hh)
 have hln207:=congrArg List.length hl204
 have hz206:∀ m,freeze true { H191 with aq:=[] } (m+2) vso194=some (fE.av fy.cells r203):=fun m=>hf205 [] _ (fun _=>rfl)
 refine Exists.elim (jv (H:=H191) (i:=2) (l:=poso197) (enc:=fu) hS192 rfl db) (fun r208 hh=>And.elim (fun hl209 hf210=>?_) hh)
 have hln212:=congrArg List.length hl209
 have hz211:∀ m,freeze true { H191 with aq:=[] } (m+2) vpo196=some (fE.av fu r208):=fun m=>hf210 [] _ (fun _=>rfl)
 refine Exists.elim (jv (H:=H191) (i:=3) (l:=lefto199) (enc:=(g6 gM.cells)) hS192 rfl db) (fun r213 hh=>And.elim (fun hl214 hf215=>?_) hh)
 have hln217:=congrArg List.length hl214
 have hz216:∀ m,freeze true { H191 with aq:=[] } (m+2) vlo198=some (fE.av (g6 gM.cells) r213):=fun m=>hf215 [] _ (fun _=>by simp only [g6,gr,jC,ju,jK,jH,j1])
 have hz218:∀ m,freeze true { H191 with aq:=[] } (m+4) (.ptr b7 0 0 0)=some (.ip [iv n27,fE.av fy.cells r203,fE.av fu r208,fE.av (g6 gM.cells) r213] 0 true):=fun m=>iS (i:=0) hS192 rfl [] _ (by simp only [FZ,hz206,hz211,hz216])
 refine kE (args:=[(.ptr b7 0 0 0),iv a1,iv (-1),iv 2]) (p:=[]) (r:=[]) (args':=[.ip [iv n27,fE.av fy.cells r203,fE.av fu r208,fE.av (g6 gM.cells) r213] 0 true,iv a1,iv (-1),iv 2]) (R:=CO (⟨(n27),r203,r208,r213⟩:lF) (a1) (-1) (2)) rfl rfl rfl rfl rfl rfl rfl vi (iR (by show gr (freeze true { H191 with aq:=[] } 8) [(.ptr b7 0 0 0),iv a1,iv (-1),iv 2] = _; simp only [FZ,hz206,hz211,hz216,hz218]) (fD rfl (fD rfl (fD rfl (fD rfl gJ))))) (iR dN (fD rfl (fD rfl (fD rfl (fD rfl gJ))))) (fun h=>t155 (⟨(n27),r203,r208,r213⟩:lF) (a1) (-1) (2) cG cG h) ?_
 rintro _ ⟨r220,hc219,rfl⟩
 have hC158:=congrArg List.length hc219.1; have hD158:=hc219.2; dsimp only at hC158 hD158
 refine fq rfl (fun _=>vx (xs:=[(fP.cells r220)]) rfl rfl rfl rfl (BV (fD rfl (fD rfl (fD rfl (fD (jw _) (fD (jw _) (fD (jw _) (fD (jw _) (fD (jw _) (fD rfl gJ))))))))) rfl)) ?_
 have hz224:(l22++[r220]).length=l22.length+1:=List.length_append
 refine wM 4 [r220] hS192 fun v221 H222 hS223=>?_
 simp only [List.set] at hS223
 refine ab ?_
 have hS225:=Sep.pick hS223 [1,2,4,3,0] 5 cK cK
 exact ⟨(vso194),(stepso195),(vpo196),(poso197),(v221),((l22++[r220])),(vlo198),(lefto199),H222,cO,cO,cW,hS225,(Eq.trans (b:=[(0,.ip (fk.cells a0) 0 false),(1,iv a1),(7,.la 7 0),(8,fi 8 v221),(9,(.ptr b7 0 0 0))]) rfl (by first | (rw [(show fi 8 v221=v221 from Sep.fT (i:=2) hS225 rfl 8)]; done) | (rw [(show fi 8 v221=v221 from Sep.fT (i:=2) hS225 rfl 8)]; rfl))),rfl⟩
 refine az ?_
 have hS226:=Sep.pick hS192 [1,2,4,3,0] 5 cK cK
 exact ⟨(vso194),(stepso195),(vpo196),(poso197),(v21),(l22),(vlo198),(lefto199),H191,cO,cO,cW,hS226,(Eq.trans (b:=[(0,.ip (fk.cells a0) 0 false),(1,iv a1),(7,.la 7 0),(8,fi 8 v21),(9,(.ptr b7 0 0 0))]) rfl (by first | (rw [(show fi 8 v21=v21 from Sep.fT (i:=2) hS226 rfl 8)]; done) | (rw [(show fi 8 v21=v21 from Sep.fT (i:=2) hS226 rfl 8)]; rfl))),rfl⟩
theorem XV:FT 30=some Gi:=by kernel_rfl
theorem NY:aT 30=none:=by kernel_rfl
theorem s52 {H:ah} (nn:fk) (F:List gH) (hS:Sep H (F)) (q1:nn.p.signals.l.length≤60):∃ v H',fj cfg FT aT true 30 [.ip (fk.cells nn) 0 false] { H with aq:=[] } v H'∧(∃ ov:AV,∃ ol:List fP,∃ eo:Int,((∀ r∈(ol:List fP),0<r.steps.l.length∧r.steps.l.length≤12∧r.jJ.l.length≤12)∧ol.length≤64)∧Sep H' (.sl true true ov 9 (List.map fP.cells ol)::F)∧v=.fz [ov,iv eo]):=by
 refine gB NY XV rfl ?_
 refine aQ ?_
 refine aY ?_
 refine oC (t73 nn) ?_
 rintro _ ⟨r2,hc1,rfl⟩
 have hC91:=hc1
 refine aC ?_
 have hS3:=Sep.iF hS 9
 refine fC ((r2).toNat) (fun k4 e h=>∃ v5:AV,∃ l6:List fP,∃ H7:ah,(l6.length≤8192*k4)∧((∀ r∈(l6:List fP),0<r.steps.l.length∧r.steps.l.length≤12∧r.jJ.l.length≤12))∧Sep H7 (.sl true true v5 9 (List.map fP.cells l6)::F)∧proj [0,4,7,8] e=[(0,.ip (fk.cells nn) 0 false),(4,v5),(7,iv r2),(8,iv (k4:Int))]∧{ h with aq:=fU [0,4,7,8] h.aq } = { H7 with aq:=[] }) ?_ (k0:=0) cO ⟨((.sl [] .nil)),(([]:List fP)),H,ef,ef,hS3,rfl,rfl⟩
 rintro k4 e h hkk4 ⟨v5,l6,H7,hI,hR,hS8,he,hh⟩
 refine gm he hh ?_
 clear he hh
 refine aa ?_
 refine gl ((k4:Int)) (r2) (fun h9=>?_) (fun h9=>?_)
 refine aM ?_
 refine wa [(0,.ip (fk.cells nn) 0 false),(4,v5),(7,iv r2),(8,iv (k4:Int))] H7 [] ?_ (Eq.trans (b:=[(0,.ip (fk.cells nn) 0 false),(4,fi 4 v5),(7,iv r2),(8,iv (k4:Int))]) rfl dM)
 refine ba ?_
 refine aQ ?_
 refine a8 ?_
 refine oC (t74 nn ((k4:Int))) ?_
 rintro _ ⟨r11,hc10,rfl⟩
 have hL12:=r11.lk
 refine gd rfl (ib (i:=0) r11.l hS8 rfl rfl rfl rfl rfl rfl rfl rfl rfl (fun _=>rfl) (.inl rfl) cS (fun _=>rfl)) ?_
 rintro v13 H14 hS15
 refine ab ?_
 refine wa [(0,.ip (fk.cells nn) 0 false),(4,v13),(7,iv r2),(8,iv (k4:Int))] H14 [] ?_ (Eq.trans (b:=[(0,.ip (fk.cells nn) 0 false),(4,fi 4 v13),(7,iv r2),(8,iv (k4:Int))]) rfl eB)
 refine qg ?_
 refine gy ((k4:Int)) (1) ?_
 refine ab ?_
 exact ⟨by omega,(v13),((l6++r11.l)),H14,d4,(by exact LC hR (by simp_all)),hS15,(Eq.trans (b:=[(0,.ip (fk.cells nn) 0 false),(4,fi 4 v13),(7,iv r2),(8,iv ((k4:Int)+1))]) rfl eB),rfl⟩
 refine aj ?_
 refine wa [(4,v5)] H7 [] ?_ (Eq.trans (b:=[(4,fi 4 v5)]) rfl dM)
 refine bh ?_
 refine fq rfl (fun _=>jT (i:=0) hS8 rfl rfl rfl rfl rfl rfl rfl) ?_
 refine g9 ((l6.length:Int)) (64) (fun h16=>?_) (fun h16=>?_)
 refine aH ?_
 have hS17:=Sep.iF hS8 9
 have hS18:=Sep.pick hS17 [0] 2 cK cK
 exact ⟨.fz [(.sl [] .nil),iv 3],rfl,(.sl [] .nil),([]:List fP),3,eX,Sep.aq hS18 _,rfl⟩
 refine az ?_
 refine wa [(4,v5)] H7 [] ?_ (Eq.trans (b:=[(4,fi 4 v5)]) rfl dM)
 refine aD ?_
 have hS19:=Sep.pick hS8 [0] 1 cK cK
 exact ⟨.fz [v5,iv 0],(iB (vs:=[v5,iv 0]) rfl (fD (Sep.arg (i:=0) hS8 rfl) (fD rfl gJ))),v5,l6,0,eX,Sep.aq hS19 _,rfl⟩
theorem Vx:FT 32=some G9:=by kernel_rfl
theorem Pp:aT 32=none:=by kernel_rfl
def P32 (_a0:fk) (v:AV):Prop:=∃ r0:fh,(r0.elems.l = _a0.p.elems.l∧r0.fQ.l = _a0.p.fQ.l∧r0.signals.l = _a0.p.signals.l∧r0.lines.l.length = _a0.p.lines.l.length∧(∀ x∈r0.lines.l,x.elems.l.length≤60)∧r0 = _a0.p.canon)∧v=.agg (fh.cells r0)
theorem t32 (a0:fk) (q1:jb a0.p) (h:ah):∃ v,fj cfg FT aT false 32 [.ip (fk.cells a0) 0 false] h v h∧P32 a0 v:=by
 refine fS Pp Vx rfl rfl ?_
 refine aU ?_
 refine be ?_
 refine oC (t58 a0.p cG) ?_
 rintro _ ⟨r2,hc1,rfl⟩
 have hC90:=hc1
 refine af ?_
 exact xF (.agg (fh.cells r2)) ⟨r2,cP,rfl⟩
theorem Rd:FT 141=some Ec:=by kernel_rfl
theorem Ms:aT 141=none:=by kernel_rfl
def aaJ (_a0:fE Int) (_a1:Int) (v:AV):Prop:=∃ r0:Int,(True)∧v=iv r0
theorem t141 (a0:fE Int) (a1:Int)  (h:ah):∃ v,fj cfg FT aT false 141 [fE.av fu a0,iv a1] h v h∧aaJ a0 a1 v:=by
 refine fS Ms Rd rfl rfl ?_
 refine aY ?_
 have hL1:=a0.lk
 refine fq rfl (fun _=>jn (r:=a0) (enc:=fu) rfl rfl rfl rfl rfl rfl) ?_
 refine aC ?_
 have hNk2:=a0.lk
 refine fC (a0.l.length) (fun k2 e h=>proj [0,1,7,8] e=[(0,fE.av fu a0),(1,iv a1),(7,iv (a0.l.length:Int)),(8,iv (k2:Int))]∧{ h with aq:=fU [0,1,7,8] h.aq } = { ah.empty with aq:=[] }) ?_ (k0:=0) cO ⟨rfl,rfl⟩
 rintro k2 e h hkk2 ⟨he,hh⟩
 refine gm he hh ?_
 clear he hh
 refine aa ?_
 refine gl ((k2:Int)) ((a0.l.length:Int)) (fun h3=>?_) (fun h3=>?_)
 refine bL ?_
 refine aB ?_
 have hx4:k2<a0.l.length:=by omega
 refine fq rfl (fun _=>jM (n:=k2) (r:=a0) (enc:=fu) rfl rfl rfl rfl rfl hx4 rfl) ?_
 generalize hqx5:a0.l[k2]=x5
 refine oV ?_
 refine gA (a1) (x5) (fun h6=>?_) (fun h6=>?_)
 refine aH ?_
 exact xA (iv (k2:Int)) ⟨((k2:Int)),trivial,rfl⟩
 refine bN ?_
 refine gy ((k2:Int)) (1) ?_
 refine ab ?_
 exact ⟨by omega,rfl,rfl⟩
 refine aN ?_
 exact xA (iv (-1)) ⟨(-1),trivial,rfl⟩
theorem X6:FT 64=some G7:=by kernel_rfl
theorem zJ:aT 64=none:=by kernel_rfl
def N7 (_a0:fE Int) (_a1:Int) (v:AV):Prop:=∃ r0:Bool,(True)∧v=.bool r0
theorem t64 (a0:fE Int) (a1:Int)  (h:ah):∃ v,fj cfg FT aT false 64 [fE.av fu a0,iv a1] h v h∧N7 a0 a1 v:=by
 refine fS zJ X6 rfl rfl ?_
 refine cm ?_
 refine oC (t141 a0 (a1)) ?_
 rintro _ ⟨r2,hc1,rfl⟩
 refine jg (r2) (0) (fun h3=>?_) (fun h3=>?_)
 refine af ?_
 exact xA (.bool true) ⟨true,trivial,rfl⟩
 refine af ?_
 exact xA (.bool false) ⟨false,trivial,rfl⟩
theorem TL:FT 76=some IP:=by kernel_rfl
theorem NJ:aT 76=none:=by kernel_rfl
def P76 (_a0:fE gi) (v:AV):Prop:=∃ r0:Row gi,(r0.l = _a0.l)∧v=Row.av gi.cells r0
theorem t76 (a0:fE gi) (q1:a0.l.length≤1000) (h:ah):∃ v,fj cfg FT aT false 76 [fE.av gi.cells a0] h v h∧P76 a0 v:=by
 refine fS NJ TL rfl rfl ?_
 refine aY ?_
 refine ik (b:=a0.isNil) rfl (fun _=>kT rfl rfl rfl rfl) (fun h1=>?_) (fun h1=>?_)
 refine aZ ?_
 exact xF (.sl [] .nil) ⟨(⟨[],.nil,Nat.zero_le _,rfl,fun _=>rfl⟩:Row gi),dm,rfl⟩
 refine bE ?_
 have hS2:=Sep.mF gI 2
 refine gd rfl (ib (i:=0) (l:=([]:List gi)) (enc:=gi.cells) a0.l hS2 rfl rfl rfl rfl rfl rfl rfl rfl rfl (fun _=>rfl) (.inl rfl) cS (fun _=>rfl)) ?_
 rintro v3 H4 hS5
 refine af ?_
 obtain ⟨r6,hl7,hf8⟩:=gZ (H:=H4) (i:=0) (l:=(([]:List gi)++a0.l)) (enc:=gi.cells) hS5 rfl cH
 have hlq:=hl7; have hln10:=congrArg List.length hl7
 have hz9:∀ m,freeze false { H4 with aq:=[] } (m+2) v3=some (Row.av gi.cells r6):=fun m=>hf8 _ _ (fun _=>rfl)
 exact ⟨v3,(iB (vs:=[v3]) rfl (fD (Sep.arg (i:=0) hS5 rfl) gJ)),Row.av gi.cells r6,(show freeze false { H4 with aq:=[] } 8 v3=some (Row.av gi.cells r6) by simp only [FZ,hz9]),r6,dm,rfl⟩
theorem Tx:FT 77=some HA:=by kernel_rfl
theorem Od:aT 77=none:=by kernel_rfl
def P77 (_a0:fk) (_a1:fP) (v:AV):Prop:=∃ r0:Row bY,(r0.l.length≤2 * _a1.steps.l.length)∧v=Row.av bY.cells r0
theorem t77 (a0:fk) (a1:fP) (q1:a1.steps.l.length≤12) (h:ah):∃ v,fj cfg FT aT false 77 [.ip (fk.cells a0) 0 false,.agg (fP.cells a1)] h v h∧P77 a0 a1 v:=by
 refine fS Od Tx rfl rfl ?_
 refine aQ ?_
 refine aU ?_
 refine aW ?_
 have hL1:=a1.steps.lk
 refine gG a1.steps ?_
 refine aC ?_
 have hS2:=Sep.iF gI 2
 have hNk3:=a1.steps.lk
 refine fC (a1.steps.l.length) (fun k3 e h=>∃ v4:AV,∃ l5:List bY,∃ H6:ah,(l5.length≤2*k3)∧Sep H6 (.sl true true v4 2 (List.map bY.cells l5)::[])∧proj [0,5,16,17,18] e=[(0,.ip (fk.cells a0) 0 false),(5,v4),(16,Row.av fy.cells a1.steps),(17,iv (a1.steps.l.length:Int)),(18,iv (k3:Int))]∧{ h with aq:=fU [0,5,16,17,18] h.aq } = { H6 with aq:=[] }) ?_ (k0:=0) cO ⟨((.sl [] .nil)),(([]:List bY)),ah.empty,ef,hS2,rfl,rfl⟩
 rintro k3 e h hkk3 ⟨v4,l5,H6,hI,hS7,he,hh⟩
 refine gm he hh ?_
 clear he hh
 refine aa ?_
 refine gl ((k3:Int)) ((a1.steps.l.length:Int)) (fun h8=>?_) (fun h8=>?_)
 refine aM ?_
 refine wa [(0,.ip (fk.cells a0) 0 false),(5,v4),(16,Row.av fy.cells a1.steps),(17,iv (a1.steps.l.length:Int)),(18,iv (k3:Int))] H6 [] ?_ (Eq.trans (b:=[(0,.ip (fk.cells a0) 0 false),(5,fi 5 v4),(16,Row.av fy.cells a1.steps),(17,iv (a1.steps.l.length:Int)),(18,iv (k3:Int))]) rfl cN)
 refine bZ ?_
 have hx9:k3<a1.steps.l.length:=by omega
 refine iU k3 a1.steps hx9 ?_
 generalize hqx10:a1.steps.l[k3]=x10
 refine aX ?_
 refine aU ?_
 refine bb ?_
 refine oC (t82 a0 (x10.elem)) ?_
 rintro _ ⟨r12,hc11,rfl⟩
 have hK:=hc11
 refine cD ?_
 refine gA (r12) (2) (fun h13=>?_) (fun h13=>?_)
 refine a7 ?_
 refine aa ?_
 refine aO ?_
 refine aL ?_
 refine fq rfl (fun _=>gY rfl rfl rfl (nb .i64 (3) ((if x10.out > x10.jQ then x10.out else x10.jQ)))) ?_
 refine aw ?_
 refine wa [(0,.ip (fk.cells a0) 0 false),(5,v4),(7,.la 7 0),(8,.sl [[iv (IntKind.i64.wrap (3 - ((if x10.out > x10.jQ then x10.out else x10.jQ))))]] (.exact 1)),(16,Row.av fy.cells a1.steps),(17,iv (a1.steps.l.length:Int)),(18,iv (k3:Int))] H6 [(7,(fy.cells x10))] ?_ (Eq.trans (b:=[(0,.ip (fk.cells a0) 0 false),(5,fi 5 v4),(7,.la 7 0),(8,.sl [[iv (IntKind.i64.wrap (3 - ((if x10.out > x10.jQ then x10.out else x10.jQ))))]] (.exact 1)),(16,Row.av fy.cells a1.steps),(17,iv (a1.steps.l.length:Int)),(18,iv (k3:Int))]) rfl cN)
 refine ae ?_
 refine aC ?_
 refine fC (1) (fun gh e h=>∃ v15:AV,∃ l16:List bY,∃ H17:ah,(l16.length≤l5.length+gh)∧Sep H17 (.sl true true v15 2 (List.map bY.cells l16)::[])∧proj [0,5,7,16,17,18,43,44,45] e=[(0,.ip (fk.cells a0) 0 false),(5,v15),(7,.la 7 0),(16,Row.av fy.cells a1.steps),(17,iv (a1.steps.l.length:Int)),(18,iv (k3:Int)),(43,.sl [[iv (IntKind.i64.wrap (3 - ((if x10.out > x10.jQ then x10.out else x10.jQ))))]] (.exact 1)),(44,iv 1),(45,iv (gh:Int))]∧{ h with aq:=fU [0,5,7,16,17,18,43,44,45] h.aq } = { H17 with aq:=[(7,(fy.cells x10))] }) ?_ (k0:=0) cO ⟨(v4),(l5),H6,dx,hS7,(Eq.trans (b:=[(0,.ip (fk.cells a0) 0 false),(5,fi 5 v4),(7,.la 7 0),(16,Row.av fy.cells a1.steps),(17,iv (a1.steps.l.length:Int)),(18,iv (k3:Int)),(43,.sl [[iv (IntKind.i64.wrap (3 - ((if x10.out > x10.jQ then x10.out else x10.jQ))))]] (.exact 1)),(44,iv 1),(45,iv 0)]) rfl cN),rfl⟩
 rintro gh e h hkk14 ⟨v15,l16,H17,hl19,hS18,he,hh⟩
 refine gm he hh ?_
 clear he hh
 refine aa ?_
 refine gl ((gh:Int)) (1) (fun h20=>?_) (fun h20=>?_)
 refine aM ?_
 refine wa [(0,.ip (fk.cells a0) 0 false),(5,v15),(7,.la 7 0),(16,Row.av fy.cells a1.steps),(17,iv (a1.steps.l.length:Int)),(18,iv (k3:Int)),(43,.sl [[iv (IntKind.i64.wrap (3 - ((if x10.out > x10.jQ then x10.out else x10.jQ))))]] (.exact 1)),(44,iv 1),(45,iv (gh:Int))] H17 [(7,(fy.cells x10))] ?_ (Eq.trans (b:=[(0,.ip (fk.cells a0) 0 false),(5,fi 5 v15),(7,.la 7 0),(16,Row.av fy.cells a1.steps),(17,iv (a1.steps.l.length:Int)),(18,iv (k3:Int)),(43,.sl [[iv (IntKind.i64.wrap (3 - ((if x10.out > x10.jQ then x10.out else x10.jQ))))]] (.exact 1)),(44,iv 1),(45,iv (gh:Int))]) rfl dr)
 refine bZ ?_
 have hx21:gh<(⟨[(IntKind.i64.wrap (3 - ((if x10.out > x10.jQ then x10.out else x10.jQ))))],.exact 1,Nat.le_of_ble_eq_true rfl,rfl,gU⟩:Row Int).l.length:=by show gh<1; omega
 refine fq rfl (fun _=>ss (n:=gh) (r:=(⟨[(IntKind.i64.wrap (3 - ((if x10.out > x10.jQ then x10.out else x10.jQ))))],.exact 1,Nat.le_of_ble_eq_true rfl,rfl,gU⟩:Row Int)) (enc:=fu) rfl rfl rfl rfl rfl hx21 rfl) ?_
 generalize (⟨[(IntKind.i64.wrap (3 - ((if x10.out > x10.jQ then x10.out else x10.jQ))))],.exact 1,Nat.le_of_ble_eq_true rfl,rfl,gU⟩:Row Int).l[gh]=x22
 refine aw ?_
 refine aa ?_
 refine aO ?_
 refine ae ?_
 refine oC (t78 a0 (⟨(x10.elem),(x22)⟩:bY)) ?_
 rintro _ ⟨r24,r25,hc23,rfl⟩
 have hN:=hc23
 cases r25
 refine ca ?_
 refine ay ?_
 refine wa [(0,.ip (fk.cells a0) 0 false),(5,v15),(7,.la 7 0),(16,Row.av fy.cells a1.steps),(17,iv (a1.steps.l.length:Int)),(18,iv (k3:Int)),(43,.sl [[iv (IntKind.i64.wrap (3 - ((if x10.out > x10.jQ then x10.out else x10.jQ))))]] (.exact 1)),(44,iv 1),(45,iv (gh:Int))] H17 [(7,(fy.cells x10))] ?_ (Eq.trans (b:=[(0,.ip (fk.cells a0) 0 false),(5,fi 5 v15),(7,.la 7 0),(16,Row.av fy.cells a1.steps),(17,iv (a1.steps.l.length:Int)),(18,iv (k3:Int)),(43,.sl [[iv (IntKind.i64.wrap (3 - ((if x10.out > x10.jQ then x10.out else x10.jQ))))]] (.exact 1)),(44,iv 1),(45,iv (gh:Int))]) rfl dr)
 refine qg ?_
 refine gy ((gh:Int)) (1) ?_
 refine ab ?_
 exact ⟨by omega,(v15),(l16),H17,cL,hS18,(Eq.trans (b:=[(0,.ip (fk.cells a0) 0 false),(5,fi 5 v15),(7,.la 7 0),(16,Row.av fy.cells a1.steps),(17,iv (a1.steps.l.length:Int)),(18,iv (k3:Int)),(43,.sl [[iv (IntKind.i64.wrap (3 - ((if x10.out > x10.jQ then x10.out else x10.jQ))))]] (.exact 1)),(44,iv 1),(45,iv ((gh:Int)+1))]) rfl dr),rfl⟩
 refine ca ?_
 refine a7 ?_
 refine a8 ?_
 refine gd rfl (ib (H:=H17) (i:=0) [(⟨(x10.elem),(x22)⟩:bY)] hS18 rfl rfl rfl rfl rfl rfl rfl rfl rfl (fun _=>rfl) (.inl rfl) cS (fun _=>rfl)) ?_
 rintro v26 H27 hS28
 refine ab ?_
 refine wa [(0,.ip (fk.cells a0) 0 false),(5,v26),(7,.la 7 0),(16,Row.av fy.cells a1.steps),(17,iv (a1.steps.l.length:Int)),(18,iv (k3:Int)),(43,.sl [[iv (IntKind.i64.wrap (3 - ((if x10.out > x10.jQ then x10.out else x10.jQ))))]] (.exact 1)),(44,iv 1),(45,iv (gh:Int))] H27 [(7,(fy.cells x10))] ?_ (Eq.trans (b:=[(0,.ip (fk.cells a0) 0 false),(5,fi 5 v26),(7,.la 7 0),(16,Row.av fy.cells a1.steps),(17,iv (a1.steps.l.length:Int)),(18,iv (k3:Int)),(43,.sl [[iv (IntKind.i64.wrap (3 - ((if x10.out > x10.jQ then x10.out else x10.jQ))))]] (.exact 1)),(44,iv 1),(45,iv (gh:Int))]) rfl ey)
 refine qg ?_
 refine gy ((gh:Int)) (1) ?_
 refine ab ?_
 exact ⟨by omega,(v26),((l16++[(⟨(x10.elem),(x22)⟩:bY)])),H27,cL,hS28,(Eq.trans (b:=[(0,.ip (fk.cells a0) 0 false),(5,fi 5 v26),(7,.la 7 0),(16,Row.av fy.cells a1.steps),(17,iv (a1.steps.l.length:Int)),(18,iv (k3:Int)),(43,.sl [[iv (IntKind.i64.wrap (3 - ((if x10.out > x10.jQ then x10.out else x10.jQ))))]] (.exact 1)),(44,iv 1),(45,iv ((gh:Int)+1))]) rfl ey),rfl⟩
 refine aj ?_
 refine wa [(0,.ip (fk.cells a0) 0 false),(5,v15),(16,Row.av fy.cells a1.steps),(17,iv (a1.steps.l.length:Int)),(18,iv (k3:Int))] H17 [] ?_ (Eq.trans (b:=[(0,.ip (fk.cells a0) 0 false),(5,fi 5 v15),(16,Row.av fy.cells a1.steps),(17,iv (a1.steps.l.length:Int)),(18,iv (k3:Int))]) rfl dr)
 refine qg ?_
 refine gy ((k3:Int)) (1) ?_
 refine ab ?_
 exact ⟨by omega,(v15),(l16),H17,cM,hS18,(Eq.trans (b:=[(0,.ip (fk.cells a0) 0 false),(5,fi 5 v15),(16,Row.av fy.cells a1.steps),(17,iv (a1.steps.l.length:Int)),(18,iv ((k3:Int)+1))]) rfl dr),rfl⟩
 refine bf ?_
 refine gA (r12) (3) (fun h29=>?_) (fun h29=>?_)
 refine a7 ?_
 refine aQ ?_
 refine ae ?_
 refine g9 (x10.jQ) (1) (fun h30=>?_) (fun h30=>?_)
 refine aA ?_
 refine qg ?_
 refine aw ?_
 refine wa [(0,.ip (fk.cells a0) 0 false),(5,v4),(7,.la 7 0),(8,.sl [[iv 0],[iv 1]] (.exact 2)),(16,Row.av fy.cells a1.steps),(17,iv (a1.steps.l.length:Int)),(18,iv (k3:Int))] H6 [(7,(fy.cells x10))] ?_ (Eq.trans (b:=[(0,.ip (fk.cells a0) 0 false),(5,fi 5 v4),(7,.la 7 0),(8,.sl [[iv 0],[iv 1]] (.exact 2)),(16,Row.av fy.cells a1.steps),(17,iv (a1.steps.l.length:Int)),(18,iv (k3:Int))]) rfl cN)
 refine ae ?_
 refine aC ?_
 refine fC (2) (fun ij e h=>∃ v32:AV,∃ l33:List bY,∃ H34:ah,(l33.length≤l5.length+ij)∧Sep H34 (.sl true true v32 2 (List.map bY.cells l33)::[])∧proj [0,5,7,16,17,18,43,44,45] e=[(0,.ip (fk.cells a0) 0 false),(5,v32),(7,.la 7 0),(16,Row.av fy.cells a1.steps),(17,iv (a1.steps.l.length:Int)),(18,iv (k3:Int)),(43,.sl [[iv 0],[iv 1]] (.exact 2)),(44,iv 2),(45,iv (ij:Int))]∧{ h with aq:=fU [0,5,7,16,17,18,43,44,45] h.aq } = { H34 with aq:=[(7,(fy.cells x10))] }) ?_ (k0:=0) cO ⟨(v4),(l5),H6,dx,hS7,(Eq.trans (b:=[(0,.ip (fk.cells a0) 0 false),(5,fi 5 v4),(7,.la 7 0),(16,Row.av fy.cells a1.steps),(17,iv (a1.steps.l.length:Int)),(18,iv (k3:Int)),(43,.sl [[iv 0],[iv 1]] (.exact 2)),(44,iv 2),(45,iv 0)]) rfl cN),rfl⟩
 rintro ij e h hkk31 ⟨v32,l33,H34,hl36,hS35,he,hh⟩
 refine gm he hh ?_
 clear he hh
 refine aa ?_
 refine gl ((ij:Int)) (2) (fun h37=>?_) (fun h37=>?_)
 refine aM ?_
 refine wa [(0,.ip (fk.cells a0) 0 false),(5,v32),(7,.la 7 0),(16,Row.av fy.cells a1.steps),(17,iv (a1.steps.l.length:Int)),(18,iv (k3:Int)),(43,.sl [[iv 0],[iv 1]] (.exact 2)),(44,iv 2),(45,iv (ij:Int))] H34 [(7,(fy.cells x10))] ?_ (Eq.trans (b:=[(0,.ip (fk.cells a0) 0 false),(5,fi 5 v32),(7,.la 7 0),(16,Row.av fy.cells a1.steps),(17,iv (a1.steps.l.length:Int)),(18,iv (k3:Int)),(43,.sl [[iv 0],[iv 1]] (.exact 2)),(44,iv 2),(45,iv (ij:Int))]) rfl dq)
 refine bZ ?_
 have hx38:ij<(⟨[(0),(1)],.exact 2,Nat.le_of_ble_eq_true rfl,rfl,gU⟩:Row Int).l.length:=by show ij<2; omega
 refine fq rfl (fun _=>ss (n:=ij) (r:=(⟨[(0),(1)],.exact 2,Nat.le_of_ble_eq_true rfl,rfl,gU⟩:Row Int)) (enc:=fu) rfl rfl rfl rfl rfl hx38 rfl) ?_
 generalize (⟨[(0),(1)],.exact 2,Nat.le_of_ble_eq_true rfl,rfl,gU⟩:Row Int).l[ij]=x39
 refine aw ?_
 refine aa ?_
 refine aO ?_
 refine ae ?_
 refine oC (t78 a0 (⟨(x10.elem),(x39)⟩:bY)) ?_
 rintro _ ⟨r41,r42,hc40,rfl⟩
 have hN:=hc40
 cases r42
 refine ca ?_
 refine ay ?_
 refine wa [(0,.ip (fk.cells a0) 0 false),(5,v32),(7,.la 7 0),(16,Row.av fy.cells a1.steps),(17,iv (a1.steps.l.length:Int)),(18,iv (k3:Int)),(43,.sl [[iv 0],[iv 1]] (.exact 2)),(44,iv 2),(45,iv (ij:Int))] H34 [(7,(fy.cells x10))] ?_ (Eq.trans (b:=[(0,.ip (fk.cells a0) 0 false),(5,fi 5 v32),(7,.la 7 0),(16,Row.av fy.cells a1.steps),(17,iv (a1.steps.l.length:Int)),(18,iv (k3:Int)),(43,.sl [[iv 0],[iv 1]] (.exact 2)),(44,iv 2),(45,iv (ij:Int))]) rfl dq)
 refine qg ?_
 refine gy ((ij:Int)) (1) ?_
 refine ab ?_
 exact ⟨by omega,(v32),(l33),H34,cL,hS35,(Eq.trans (b:=[(0,.ip (fk.cells a0) 0 false),(5,fi 5 v32),(7,.la 7 0),(16,Row.av fy.cells a1.steps),(17,iv (a1.steps.l.length:Int)),(18,iv (k3:Int)),(43,.sl [[iv 0],[iv 1]] (.exact 2)),(44,iv 2),(45,iv ((ij:Int)+1))]) rfl dq),rfl⟩
 refine ca ?_
 refine a7 ?_
 refine a8 ?_
 refine gd rfl (ib (H:=H34) (i:=0) [(⟨(x10.elem),(x39)⟩:bY)] hS35 rfl rfl rfl rfl rfl rfl rfl rfl rfl (fun _=>rfl) (.inl rfl) cS (fun _=>rfl)) ?_
 rintro v43 H44 hS45
 refine ab ?_
 refine wa [(0,.ip (fk.cells a0) 0 false),(5,v43),(7,.la 7 0),(16,Row.av fy.cells a1.steps),(17,iv (a1.steps.l.length:Int)),(18,iv (k3:Int)),(43,.sl [[iv 0],[iv 1]] (.exact 2)),(44,iv 2),(45,iv (ij:Int))] H44 [(7,(fy.cells x10))] ?_ (Eq.trans (b:=[(0,.ip (fk.cells a0) 0 false),(5,fi 5 v43),(7,.la 7 0),(16,Row.av fy.cells a1.steps),(17,iv (a1.steps.l.length:Int)),(18,iv (k3:Int)),(43,.sl [[iv 0],[iv 1]] (.exact 2)),(44,iv 2),(45,iv (ij:Int))]) rfl ew)
 refine qg ?_
 refine gy ((ij:Int)) (1) ?_
 refine ab ?_
 exact ⟨by omega,(v43),((l33++[(⟨(x10.elem),(x39)⟩:bY)])),H44,cL,hS45,(Eq.trans (b:=[(0,.ip (fk.cells a0) 0 false),(5,fi 5 v43),(7,.la 7 0),(16,Row.av fy.cells a1.steps),(17,iv (a1.steps.l.length:Int)),(18,iv (k3:Int)),(43,.sl [[iv 0],[iv 1]] (.exact 2)),(44,iv 2),(45,iv ((ij:Int)+1))]) rfl ew),rfl⟩
 refine aj ?_
 refine wa [(0,.ip (fk.cells a0) 0 false),(5,v32),(16,Row.av fy.cells a1.steps),(17,iv (a1.steps.l.length:Int)),(18,iv (k3:Int))] H34 [] ?_ (Eq.trans (b:=[(0,.ip (fk.cells a0) 0 false),(5,fi 5 v32),(16,Row.av fy.cells a1.steps),(17,iv (a1.steps.l.length:Int)),(18,iv (k3:Int))]) rfl dq)
 refine qg ?_
 refine gy ((k3:Int)) (1) ?_
 refine ab ?_
 exact ⟨by omega,(v32),(l33),H34,cM,hS35,(Eq.trans (b:=[(0,.ip (fk.cells a0) 0 false),(5,fi 5 v32),(16,Row.av fy.cells a1.steps),(17,iv (a1.steps.l.length:Int)),(18,iv ((k3:Int)+1))]) rfl dq),rfl⟩
 refine az ?_
 refine wa [(0,.ip (fk.cells a0) 0 false),(5,v4),(7,.la 7 0),(8,.sl [[iv 2],[iv 3]] (.exact 2)),(16,Row.av fy.cells a1.steps),(17,iv (a1.steps.l.length:Int)),(18,iv (k3:Int))] H6 [(7,(fy.cells x10))] ?_ (Eq.trans (b:=[(0,.ip (fk.cells a0) 0 false),(5,fi 5 v4),(7,.la 7 0),(8,.sl [[iv 2],[iv 3]] (.exact 2)),(16,Row.av fy.cells a1.steps),(17,iv (a1.steps.l.length:Int)),(18,iv (k3:Int))]) rfl cN)
 refine ae ?_
 refine aC ?_
 refine fC (2) (fun mH e h=>∃ v47:AV,∃ l48:List bY,∃ H49:ah,(l48.length≤l5.length+mH)∧Sep H49 (.sl true true v47 2 (List.map bY.cells l48)::[])∧proj [0,5,7,16,17,18,43,44,45] e=[(0,.ip (fk.cells a0) 0 false),(5,v47),(7,.la 7 0),(16,Row.av fy.cells a1.steps),(17,iv (a1.steps.l.length:Int)),(18,iv (k3:Int)),(43,.sl [[iv 2],[iv 3]] (.exact 2)),(44,iv 2),(45,iv (mH:Int))]∧{ h with aq:=fU [0,5,7,16,17,18,43,44,45] h.aq } = { H49 with aq:=[(7,(fy.cells x10))] }) ?_ (k0:=0) cO ⟨(v4),(l5),H6,dx,hS7,(Eq.trans (b:=[(0,.ip (fk.cells a0) 0 false),(5,fi 5 v4),(7,.la 7 0),(16,Row.av fy.cells a1.steps),(17,iv (a1.steps.l.length:Int)),(18,iv (k3:Int)),(43,.sl [[iv 2],[iv 3]] (.exact 2)),(44,iv 2),(45,iv 0)]) rfl cN),rfl⟩
 rintro mH e h hkk46 ⟨v47,l48,H49,hl51,hS50,he,hh⟩
 refine gm he hh ?_
 clear he hh
 refine aa ?_
 refine gl ((mH:Int)) (2) (fun h52=>?_) (fun h52=>?_)
 refine aM ?_
 refine wa [(0,.ip (fk.cells a0) 0 false),(5,v47),(7,.la 7 0),(16,Row.av fy.cells a1.steps),(17,iv (a1.steps.l.length:Int)),(18,iv (k3:Int)),(43,.sl [[iv 2],[iv 3]] (.exact 2)),(44,iv 2),(45,iv (mH:Int))] H49 [(7,(fy.cells x10))] ?_ (Eq.trans (b:=[(0,.ip (fk.cells a0) 0 false),(5,fi 5 v47),(7,.la 7 0),(16,Row.av fy.cells a1.steps),(17,iv (a1.steps.l.length:Int)),(18,iv (k3:Int)),(43,.sl [[iv 2],[iv 3]] (.exact 2)),(44,iv 2),(45,iv (mH:Int))]) rfl dp)
 refine bZ ?_
 have hx53:mH<(⟨[(2),(3)],.exact 2,Nat.le_of_ble_eq_true rfl,rfl,gU⟩:Row Int).l.length:=by show mH<2; omega
 refine fq rfl (fun _=>ss (n:=mH) (r:=(⟨[(2),(3)],.exact 2,Nat.le_of_ble_eq_true rfl,rfl,gU⟩:Row Int)) (enc:=fu) rfl rfl rfl rfl rfl hx53 rfl) ?_
 generalize (⟨[(2),(3)],.exact 2,Nat.le_of_ble_eq_true rfl,rfl,gU⟩:Row Int).l[mH]=x54
 refine aw ?_
 refine aa ?_
 refine aO ?_
 refine ae ?_
 refine oC (t78 a0 (⟨(x10.elem),(x54)⟩:bY)) ?_
 rintro _ ⟨r56,r57,hc55,rfl⟩
 have hN:=hc55
 cases r57
 refine ca ?_
 refine ay ?_
 refine wa [(0,.ip (fk.cells a0) 0 false),(5,v47),(7,.la 7 0),(16,Row.av fy.cells a1.steps),(17,iv (a1.steps.l.length:Int)),(18,iv (k3:Int)),(43,.sl [[iv 2],[iv 3]] (.exact 2)),(44,iv 2),(45,iv (mH:Int))] H49 [(7,(fy.cells x10))] ?_ (Eq.trans (b:=[(0,.ip (fk.cells a0) 0 false),(5,fi 5 v47),(7,.la 7 0),(16,Row.av fy.cells a1.steps),(17,iv (a1.steps.l.length:Int)),(18,iv (k3:Int)),(43,.sl [[iv 2],[iv 3]] (.exact 2)),(44,iv 2),(45,iv (mH:Int))]) rfl dp)
 refine qg ?_
 refine gy ((mH:Int)) (1) ?_
 refine ab ?_
 exact ⟨by omega,(v47),(l48),H49,cL,hS50,(Eq.trans (b:=[(0,.ip (fk.cells a0) 0 false),(5,fi 5 v47),(7,.la 7 0),(16,Row.av fy.cells a1.steps),(17,iv (a1.steps.l.length:Int)),(18,iv (k3:Int)),(43,.sl [[iv 2],[iv 3]] (.exact 2)),(44,iv 2),(45,iv ((mH:Int)+1))]) rfl dp),rfl⟩
 refine ca ?_
 refine a7 ?_
 refine a8 ?_
 refine gd rfl (ib (H:=H49) (i:=0) [(⟨(x10.elem),(x54)⟩:bY)] hS50 rfl rfl rfl rfl rfl rfl rfl rfl rfl (fun _=>rfl) (.inl rfl) cS (fun _=>rfl)) ?_
 rintro v58 H59 hS60
 refine ab ?_
 refine wa [(0,.ip (fk.cells a0) 0 false),(5,v58),(7,.la 7 0),(16,Row.av fy.cells a1.steps),(17,iv (a1.steps.l.length:Int)),(18,iv (k3:Int)),(43,.sl [[iv 2],[iv 3]] (.exact 2)),(44,iv 2),(45,iv (mH:Int))] H59 [(7,(fy.cells x10))] ?_ (Eq.trans (b:=[(0,.ip (fk.cells a0) 0 false),(5,fi 5 v58),(7,.la 7 0),(16,Row.av fy.cells a1.steps),(17,iv (a1.steps.l.length:Int)),(18,iv (k3:Int)),(43,.sl [[iv 2],[iv 3]] (.exact 2)),(44,iv 2),(45,iv (mH:Int))]) rfl eu)
 refine qg ?_
 refine gy ((mH:Int)) (1) ?_
 refine ab ?_
 exact ⟨by omega,(v58),((l48++[(⟨(x10.elem),(x54)⟩:bY)])),H59,cL,hS60,(Eq.trans (b:=[(0,.ip (fk.cells a0) 0 false),(5,fi 5 v58),(7,.la 7 0),(16,Row.av fy.cells a1.steps),(17,iv (a1.steps.l.length:Int)),(18,iv (k3:Int)),(43,.sl [[iv 2],[iv 3]] (.exact 2)),(44,iv 2),(45,iv ((mH:Int)+1))]) rfl eu),rfl⟩
 refine aj ?_
 refine wa [(0,.ip (fk.cells a0) 0 false),(5,v47),(16,Row.av fy.cells a1.steps),(17,iv (a1.steps.l.length:Int)),(18,iv (k3:Int))] H49 [] ?_ (Eq.trans (b:=[(0,.ip (fk.cells a0) 0 false),(5,fi 5 v47),(16,Row.av fy.cells a1.steps),(17,iv (a1.steps.l.length:Int)),(18,iv (k3:Int))]) rfl dp)
 refine qg ?_
 refine gy ((k3:Int)) (1) ?_
 refine ab ?_
 exact ⟨by omega,(v47),(l48),H49,cM,hS50,(Eq.trans (b:=[(0,.ip (fk.cells a0) 0 false),(5,fi 5 v47),(16,Row.av fy.cells a1.steps),(17,iv (a1.steps.l.length:Int)),(18,iv ((k3:Int)+1))]) rfl dp),rfl⟩
 refine ay ?_
 refine wa [(0,.ip (fk.cells a0) 0 false),(5,v4),(7,.la 7 0),(8,.sl [] .nil),(16,Row.av fy.cells a1.steps),(17,iv (a1.steps.l.length:Int)),(18,iv (k3:Int))] H6 [(7,(fy.cells x10))] ?_ (Eq.trans (b:=[(0,.ip (fk.cells a0) 0 false),(5,fi 5 v4),(7,.la 7 0),(8,.sl [] .nil),(16,Row.av fy.cells a1.steps),(17,iv (a1.steps.l.length:Int)),(18,iv (k3:Int))]) rfl cN)
 refine ae ?_
 refine aC ?_
 refine fC (0) (fun kX e h=>proj [0,5,7,16,17,18,43,44,45] e=[(0,.ip (fk.cells a0) 0 false),(5,v4),(7,.la 7 0),(16,Row.av fy.cells a1.steps),(17,iv (a1.steps.l.length:Int)),(18,iv (k3:Int)),(43,.sl [] .nil),(44,iv 0),(45,iv (kX:Int))]∧{ h with aq:=fU [0,5,7,16,17,18,43,44,45] h.aq } = { H6 with aq:=[(7,(fy.cells x10))] }) ?_ (k0:=0) cO ⟨(Eq.trans (b:=[(0,.ip (fk.cells a0) 0 false),(5,fi 5 v4),(7,.la 7 0),(16,Row.av fy.cells a1.steps),(17,iv (a1.steps.l.length:Int)),(18,iv (k3:Int)),(43,.sl [] .nil),(44,iv 0),(45,iv 0)]) rfl cN),rfl⟩
 rintro kX e h hkk61 ⟨he,hh⟩
 refine gm he hh ?_
 clear he hh
 refine aa ?_
 refine gl ((kX:Int)) (0) (fun h62=>?_) (fun h62=>?_)
 refine aM ?_
 refine wa [(0,.ip (fk.cells a0) 0 false),(5,v4),(7,.la 7 0),(16,Row.av fy.cells a1.steps),(17,iv (a1.steps.l.length:Int)),(18,iv (k3:Int)),(43,.sl [] .nil),(44,iv 0),(45,iv (kX:Int))] H6 [(7,(fy.cells x10))] ?_ (Eq.trans (b:=[(0,.ip (fk.cells a0) 0 false),(5,fi 5 v4),(7,.la 7 0),(16,Row.av fy.cells a1.steps),(17,iv (a1.steps.l.length:Int)),(18,iv (k3:Int)),(43,.sl [] .nil),(44,iv 0),(45,iv (kX:Int))]) rfl cN)
 refine bZ ?_
 exfalso; omega
 refine aj ?_
 refine wa [(0,.ip (fk.cells a0) 0 false),(5,v4),(16,Row.av fy.cells a1.steps),(17,iv (a1.steps.l.length:Int)),(18,iv (k3:Int))] H6 [] ?_ (Eq.trans (b:=[(0,.ip (fk.cells a0) 0 false),(5,fi 5 v4),(16,Row.av fy.cells a1.steps),(17,iv (a1.steps.l.length:Int)),(18,iv (k3:Int))]) rfl cN)
 refine qg ?_
 refine gy ((k3:Int)) (1) ?_
 refine ab ?_
 exact ⟨by omega,(v4),(l5),H6,cM,hS7,(Eq.trans (b:=[(0,.ip (fk.cells a0) 0 false),(5,fi 5 v4),(16,Row.av fy.cells a1.steps),(17,iv (a1.steps.l.length:Int)),(18,iv ((k3:Int)+1))]) rfl cN),rfl⟩
 refine aj ?_
 refine wa [(5,v4)] H6 [] ?_ (Eq.trans (b:=[(5,fi 5 v4)]) rfl cN)
 refine bG ?_
 obtain ⟨r63,hl64,hf65⟩:=gZ (H:=H6) (i:=0) (l:=l5) (enc:=bY.cells) hS7 rfl cH
 have hlq:=hl64; have hln67:=congrArg List.length hl64
 have hz66:∀ m,freeze false { H6 with aq:=[] } (m+2) v4=some (Row.av bY.cells r63):=fun m=>hf65 _ _ (fun _=>rfl)
 exact ⟨v4,(iB (vs:=[v4]) rfl (fD (Sep.arg (i:=0) hS7 rfl) gJ)),Row.av bY.cells r63,(show freeze false { H6 with aq:=[] } 8 v4=some (Row.av bY.cells r63) by simp only [FZ,hz66]),r63,(by first | omega | (simp_all; omega)),rfl⟩
theorem TN:FT 79=some Ix:=by kernel_rfl
theorem Ql:aT 79=none:=by kernel_rfl
theorem FD {H:ah} (el:Int) (en:Int) (bn:Nat) (nn:fk) (bt:Nat) (vt:AV) (todo:List bY) (F:List gH) (hS:Sep H (.obj (.ptr bn 0 0 0) [.ip (fk.cells nn) 0 false]::.obj (.ptr bt 0 0 0) [vt]::.sl true false vt 2 (List.map bY.cells todo)::F)) (q1:todo.length≤2000):∃ v H',fj cfg FT aT true 79 [iv el,iv en,(.ptr bn 0 0 0),(.ptr bt 0 0 0)] { H with aq:=[] } v H'∧(∃ vto:AV,∃ todoo:List bY,(todoo.length≤todo.length+1∧∀ y∈todoo,y∈todo∨y∈univ nn)∧Sep H' (.obj (.ptr bn 0 0 0) [.ip (fk.cells nn) 0 false]::.obj (.ptr bt 0 0 0) [vto]::.sl true false vto 2 (List.map bY.cells todoo)::F)∧v=.fz []):=by
 refine gB Ql TN rfl ?_
 refine aa ?_
 refine ix 0 hS (.ip (fk.cells nn) 0 false) ?_
 iterate 3 refine oV ?_
 refine oC (t78 nn (⟨(el),(en)⟩:bY)) ?_
 rintro _ ⟨r2,r3,hc1,rfl⟩
 have hN:=hc1
 cases r3
 refine ca ?_
 refine ay ?_
 have hS4:=Sep.pick hS [0,1,2] 3 cK cK
 exact ⟨.fz [],rfl,vt,todo,d7,Sep.aq hS4 _,rfl⟩
 refine ca ?_
 refine a7 ?_
 refine qg ?_
 refine ix 1 hS vt ?_
 iterate 2 refine oV ?_
 refine gd rfl (ib (H:=H) (i:=2) [r2] hS rfl rfl rfl rfl rfl rfl rfl rfl rfl (fun _=>rfl) (.inr rfl) cS (fun _=>rfl)) ?_
 rintro v5 H6 hS7
 refine gd rfl (iG (H:=H6) (i:=1) (o:=0) (r:=v5) hS7 rfl rfl rfl rfl (jq rfl rfl (Sep.cell (i:=2) hS7 rfl)) (fD (Sep.cell (i:=2) hS7 rfl) gJ) rfl) ?_
 rintro _ H8 ⟨rfl,hS9⟩
 refine oN ?_
 have hS10:=Sep.pick hS9 [0,1,2] 3 cK cK
 exact ⟨.fz [],rfl,v5,(todo++[r2]),d7,Sep.aq hS10 _,rfl⟩
theorem Yk:FT 80=some HD:=by kernel_rfl
theorem ED:aT 80=none:=by kernel_rfl
def Yv (_a0:pv) (_a1:Int) (v:AV):Prop:=∃ r0:Bool,(True)∧v=.bool r0
theorem t80 (a0:pv) (a1:Int)  (h:ah):∃ v,fj cfg FT aT false 80 [.agg (pv.cells a0),iv a1] h v h∧Yv a0 a1 v:=by
 refine fS ED Yk rfl rfl ?_
 refine ai ?_
 refine gd rfl (iz gI rfl rfl rfl rfl rfl) ?_
 rintro _ H2 ⟨b1,rfl,hS3⟩
 refine ab ?_
 refine ae ?_
 refine fq rfl (fun _=>pf rfl rfl (ph rfl rfl)) ?_
 have hS4:=Sep.pick hS3 [0] 1 cK cK
 refine gC (H:=H2) (args:=[fE.av fy.cells a0.steps,.gL 158 [] [(.ptr b1 0 0 0)]]) (p:=[]) (r:=[]) rfl rfl rfl rfl rfl rfl rfl (HR a0.steps b1 a1 ([]) hS4) ?_
 rintro _ H5 ⟨r8,hc7,hS6,rfl⟩
 cases r8
 refine af ?_
 exact xA (.bool false) ⟨false,trivial,rfl⟩
 refine af ?_
 exact xA (.bool true) ⟨true,trivial,rfl⟩
theorem TA:FT 83=some F7:=by kernel_rfl
theorem Rl:aT 83=none:=by kernel_rfl
theorem K9 {H:ah} (b:Nat) (f0:Int) (f1:Int) (f2:Int) (steps:Row fy) (jJ:Row gi) (vg:AV) (guards:List gi) (vz:AV) (nT:List Int) (vh:AV) (holds:List Int) (bare:Bool) (el:Int) (F:List gH) (hS:Sep H (.obj (.ptr b 0 0 0) [iv f0,iv f1,iv f2,Row.av fy.cells steps,Row.av gi.cells jJ,vg,vz,vh,.bool bare]::.sl true true vg 2 (List.map gi.cells guards)::.sl true true vz 1 (List.map fu nT)::.sl true true vh 1 (List.map fu holds)::F)) (q1:nT.length≤12):∃ v H',fj cfg FT aT true 83 [(.ptr b 0 0 0),iv el] { H with aq:=[] } v H'∧(∃ r0:Bool,∃ vzo:AV,∃ zoneo:List Int,∃ bareo:Bool,(zoneo.length≤12)∧Sep H' (.obj (.ptr b 0 0 0) [iv f0,iv f1,iv f2,Row.av fy.cells steps,Row.av gi.cells jJ,vg,vzo,vh,.bool bareo]::.sl true true vg 2 (List.map gi.cells guards)::.sl true true vzo 1 (List.map fu zoneo)::.sl true true vh 1 (List.map fu holds)::F)∧v=.bool r0):=by
 refine gB Rl TA rfl ?_
 refine aY ?_
 refine lP 0 hS ?_
 refine iN 0 hS ?_
 refine ix 0 hS vz ?_
 refine oV ?_
 refine Exists.elim (jv (H:=H) (i:=2) (l:=nT) (enc:=fu) hS rfl db) (fun r1 hh=>And.elim (fun hl2 hf3=>?_) hh)
 have hln5:=congrArg List.length hl2
 have hz4:∀ m,freeze true { H with aq:=[] } (m+2) vz=some (fE.av fu r1):=fun m=>hf3 [] _ (fun _=>rfl)
 refine kE (args:=[vz,iv el]) (p:=[]) (r:=[]) (args':=[fE.av fu r1,iv el]) (R:=N7 r1 (el)) rfl rfl rfl rfl rfl (fD (Sep.arg (i:=2) hS rfl) (fD rfl gJ)) rfl zJ (iR (by show gr (freeze true { H with aq:=[] } 8) [vz,iv el] = _; simp only [FZ,hz4]) (fD (Sep.pL (i:=2) hS rfl) (fD rfl gJ))) (iR dN (fD rfl (fD rfl gJ))) (fun h=>t64 r1 (el)  h) ?_
 rintro _ ⟨r7,hc6,rfl⟩
 cases r7
 refine cz ?_
 refine lP 0 hS ?_
 refine iN 0 hS ?_
 refine ix 0 hS vz ?_
 refine fq rfl (fun _=>jT (H:=H) (i:=2) hS rfl rfl rfl rfl rfl rfl rfl) ?_
 refine jg ((nT.length:Int)) (12) (fun h8=>?_) (fun h8=>?_)
 refine aA ?_
 refine ai ?_
 refine lP 0 hS ?_
 refine iN 0 hS ?_
 refine gd rfl (iG (H:=H) (i:=0) (o:=8) (r:=.bool true) hS rfl rfl rfl rfl rfl rfl rfl) ?_
 rintro _ H9 ⟨rfl,hS10⟩
 refine oN ?_
 refine bu ?_
 have hS11:=Sep.pick hS10 [0,1,2,3] 4 cK cK
 exact ⟨.bool false,rfl,false,vz,nT,true,eZ,Sep.aq hS11 _,rfl⟩
 refine bE ?_
 refine lP 0 hS ?_
 refine iN 0 hS ?_
 refine ix 0 hS vz ?_
 iterate 2 refine oV ?_
 refine gd rfl (ib (H:=H) (i:=2) [(el)] hS rfl rfl rfl rfl rfl rfl rfl rfl rfl (fun _=>rfl) (.inl rfl) cS (fun _=>rfl)) ?_
 rintro v12 H13 hS14
 refine lP 0 hS14 ?_
 refine iN 0 hS14 ?_
 refine gd rfl (iG (H:=H13) (i:=0) (o:=6) (r:=v12) hS14 rfl rfl rfl rfl (jq rfl rfl (Sep.cell (i:=2) hS14 rfl)) (fD (Sep.cell (i:=2) hS14 rfl) gJ) rfl) ?_
 rintro _ H15 ⟨rfl,hS16⟩
 refine oN ?_
 refine bu ?_
 have hS17:=Sep.pick hS16 [0,1,2,3] 4 cK cK
 exact ⟨.bool true,rfl,true,v12,(nT++[(el)]),(bare),eZ,Sep.aq hS17 _,rfl⟩
 refine aZ ?_
 have hS18:=Sep.pick hS [0,1,2,3] 4 cK cK
 exact ⟨.bool true,rfl,true,vz,nT,(bare),eZ,Sep.aq hS18 _,rfl⟩
theorem RH:FT 160=some Ct:=by kernel_rfl
theorem L3:aT 160=none:=by kernel_rfl
def ab9 (_a0:fE gi) (_a1:gi) (v:AV):Prop:=∃ r0:Int,(True)∧v=iv r0
theorem t160 (a0:fE gi) (a1:gi)  (h:ah):∃ v,fj cfg FT aT false 160 [fE.av gi.cells a0,.agg (gi.cells a1)] h v h∧ab9 a0 a1 v:=by
 refine fS L3 RH rfl rfl ?_
 refine ai ?_
 refine ak ?_
 have hL1:=a0.lk
 refine fq rfl (fun _=>jn (r:=a0) (enc:=gi.cells) rfl rfl rfl rfl rfl rfl) ?_
 refine aC ?_
 have hNk2:=a0.lk
 refine fC (a0.l.length) (fun k2 e h=>proj [0,3,7,8] e=[(0,fE.av gi.cells a0),(3,.la 3 0),(7,iv (a0.l.length:Int)),(8,iv (k2:Int))]∧{ h with aq:=fU [0,3,7,8] h.aq } = { ah.empty with aq:=[(3,(gi.cells a1))] }) ?_ (k0:=0) cO ⟨rfl,rfl⟩
 rintro k2 e h hkk2 ⟨he,hh⟩
 refine gm he hh ?_
 clear he hh
 refine aa ?_
 refine gl ((k2:Int)) ((a0.l.length:Int)) (fun h3=>?_) (fun h3=>?_)
 refine bL ?_
 refine bV ?_
 have hx4:k2<a0.l.length:=by omega
 refine ga rfl rfl (fun _=>jM (n:=k2) (r:=a0) (enc:=gi.cells) rfl rfl rfl rfl rfl hx4 rfl) ?_
 generalize hqx5:a0.l[k2]=x5
 refine rV ?_
 refine mN rfl rfl (fun _=>sx rfl rfl rfl (fun _ _=>rfl)) (fun h6=>?_) (fun h6=>?_)
 refine rN ?_
 refine qT ?_
 refine bG ?_
 exact xA (iv (k2:Int)) ⟨((k2:Int)),trivial,rfl⟩
 refine bH ?_
 refine qg ?_
 refine gy ((k2:Int)) (1) ?_
 refine ab ?_
 exact ⟨by omega,rfl,rfl⟩
 refine aN ?_
 exact xA (iv (-1)) ⟨(-1),trivial,rfl⟩
theorem Xw:FT 84=some F6:=by kernel_rfl
theorem Ao:aT 84=none:=by kernel_rfl
def Pq (_a0:fE gi) (_a1:gi) (v:AV):Prop:=∃ r0:Bool,(True)∧v=.bool r0
theorem t84 (a0:fE gi) (a1:gi)  (h:ah):∃ v,fj cfg FT aT false 84 [fE.av gi.cells a0,.agg (gi.cells a1)] h v h∧Pq a0 a1 v:=by
 refine fS Ao Xw rfl rfl ?_
 refine aQ ?_
 refine ae ?_
 refine oC (t160 a0 a1) ?_
 rintro _ ⟨r2,hc1,rfl⟩
 refine jg (r2) (0) (fun h3=>?_) (fun h3=>?_)
 refine af ?_
 exact xA (.bool true) ⟨true,trivial,rfl⟩
 refine af ?_
 exact xA (.bool false) ⟨false,trivial,rfl⟩
theorem Oi:FT 161=some De:=by kernel_rfl
theorem L0:aT 161=none:=by kernel_rfl
def ZQ (_a0:fk) (_a1:Int) (_a2:Int) (_a3:Int) (v:AV):Prop:=∃ r0:Int,∃ r1:Bool,(True)∧v=.fz [iv r0,.bool r1]
theorem t161 (a0:fk) (a1:Int) (a2:Int) (a3:Int)  (h:ah):∃ v,fj cfg FT aT false 161 [.ip (fk.cells a0) 0 false,iv a1,iv a2,iv a3] h v h∧ZQ a0 a1 a2 a3 v:=by
 refine fS L0 Oi rfl rfl ?_
 refine aQ ?_
 refine bb ?_
 refine oC (t194 a0 (a1) (a2)) ?_
 rintro _ ⟨r2,hc1,rfl⟩
 have hL3:=r2.lk
 refine gG r2 ?_
 refine aC ?_
 have hNk4:=r2.lk
 refine fC (r2.l.length) (fun k4 e h=>proj [3,15,16,17] e=[(3,iv a3),(15,Row.av gM.cells r2),(16,iv (r2.l.length:Int)),(17,iv (k4:Int))]∧{ h with aq:=fU [3,15,16,17] h.aq } = { ah.empty with aq:=[] }) ?_ (k0:=0) cO ⟨rfl,rfl⟩
 rintro k4 e h hkk4 ⟨he,hh⟩
 refine gm he hh ?_
 clear he hh
 refine aa ?_
 refine gl ((k4:Int)) ((r2.l.length:Int)) (fun h5=>?_) (fun h5=>?_)
 refine bI ?_
 have hx6:k4<r2.l.length:=by omega
 refine iU k4 r2 hx6 ?_
 generalize hqx7:r2.l[k4]=x7
 refine aX ?_
 refine ae ?_
 refine gA (x7.pos) (0) (fun h8=>?_) (fun h8=>?_)
 refine bm ?_
 refine a7 ?_
 refine aa ?_
 refine bo ?_
 exact xF (.fz [iv x7.out,.bool true]) ⟨(x7.out),true,trivial,rfl⟩
 iterate 4 refine oV ?_
 refine gA (x7.pos) (a3) (fun h9=>?_) (fun h9=>?_)
 refine a7 ?_
 refine aa ?_
 refine bo ?_
 exact xF (.fz [iv x7.out,.bool true]) ⟨(x7.out),true,trivial,rfl⟩
 refine bW ?_
 refine gy ((k4:Int)) (1) ?_
 refine ab ?_
 exact ⟨by omega,rfl,rfl⟩
 refine aj ?_
 refine bG ?_
 exact xF (.fz [iv 0,.bool false]) ⟨(0),false,trivial,rfl⟩
theorem SA:FT 85=some Gb:=by kernel_rfl
theorem NQ:aT 85=none:=by kernel_rfl
def P85 (_a0:fk) (_a1:Int) (_a2:Int) (_a3:Int) (v:AV):Prop:=∃ r0:Int,∃ r1:Bool,(True)∧v=.fz [iv r0,.bool r1]
theorem t85 (a0:fk) (a1:Int) (a2:Int) (a3:Int)  (h:ah):∃ v,fj cfg FT aT false 85 [.ip (fk.cells a0) 0 false,iv a1,iv a2,iv a3] h v h∧P85 a0 a1 a2 a3 v:=by
 refine fS NQ SA rfl rfl ?_
 refine aQ ?_
 refine be ?_
 refine oC (t161 a0 (a1) (a2) (a3)) ?_
 rintro _ ⟨r2,r3,hc1,rfl⟩
 cases r3
 refine bo ?_
 exact xF (.fz [iv r2,.bool false]) ⟨(r2),false,trivial,rfl⟩
 refine bo ?_
 exact xF (.fz [iv r2,.bool true]) ⟨(r2),true,trivial,rfl⟩
end Go.Sx
