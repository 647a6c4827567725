/- Proves what some functions of the program answer, by walking through them. -/
import Derived.KernelRfl
import Derived.Test.YtojhnkioagammaaGreatTaf
import Derived.Test.YtojhnkioagammaaGreatTai
import Derived.Test.YtojhnkioagammaaGreatTak
import Derived.Test.YtojhnkioagammaaGreatTan
import Derived.Test.YtojhnkioagammaaGreatTao
set_option linter.all false
set_option maxRecDepth 100000
set_option maxHeartbeats 0
namespace Go.Sx
open Go Go.Proofs
theorem Vc:FT 66=some Hf:=by kernel_rfl
theorem OW:aT 66=none:=by kernel_rfl
def P66 (_a0:fh) (v:AV):Prop:=∃ r0:Row kO,∃ r1:Row kO,∃ r2:Row kO,(True)∧v=.fz [Row.av j5 r0,Row.av j5 r1,Row.av j5 r2]
theorem t66 (a0:fh) (q1:jb a0) (h:ah):∃ v,fj cfg FT aT false 66 [.agg (fh.cells a0)] h v h∧P66 a0 v:=by
 refine fS OW Vc rfl rfl ?_
 have q2:=q1.elems; have q3:=q1.signals; have q4:=q1.lines
 refine aa ?_
 refine bM ?_
 refine bJ ?_
 refine bc ?_
 have hS1:=Sep.iF gI 1
 have hNk2:=a0.elems.lk
 refine fC (a0.elems.l.length) (fun k2 e h=>∃ v3:AV,∃ l4:List kO,∃ H5:ah,(l4.length≤0+k2)∧Sep H5 (.sl true true v3 1 (List.map j5 l4)::[])∧proj [1,5,6,7,8] e=[(1,.la 1 0),(5,v3),(6,.sl [] .nil),(7,.sl [] .nil),(8,iv (k2:Int))]∧{ h with aq:=fU [1,5,6,7,8] h.aq } = { H5 with aq:=[(1,(fh.cells a0))] }) ?_ (k0:=0) cO ⟨((.sl [] .nil)),(([]:List kO)),ah.empty,dx,hS1,rfl,rfl⟩
 rintro k2 e h hkk2 ⟨v3,l4,H5,hl7,hS6,he,hh⟩
 refine gm he hh ?_
 clear he hh
 refine bb ?_
 have hL8:=a0.elems.lk
 refine gG a0.elems ?_
 refine gl ((k2:Int)) ((a0.elems.l.length:Int)) (fun h9=>?_) (fun h9=>?_)
 refine b8 ?_
 refine wa [(1,.la 1 0),(5,v3),(6,.sl [] .nil),(7,.sl [] .nil),(8,iv (k2:Int))] H5 [(1,(fh.cells a0))] ?_ (Eq.trans (b:=[(1,.la 1 0),(5,fi 5 v3),(6,.sl [] .nil),(7,.sl [] .nil),(8,iv (k2:Int))]) rfl eH)
 refine ba ?_
 refine cC ?_
 have hx10:k2<a0.elems.l.length:=by omega
 refine iU k2 a0.elems hx10 ?_
 generalize hqx11:a0.elems.l[k2]=x11
 iterate 3 refine oV ?_
 refine gd rfl (ib (i:=0) [x11.name] hS6 rfl rfl rfl rfl rfl rfl rfl rfl rfl (fun _=>rfl) (.inl rfl) cS (fun _=>rfl)) ?_
 rintro v12 H13 hS14
 refine ab ?_
 refine wa [(1,.la 1 0),(5,v12),(6,.sl [] .nil),(7,.sl [] .nil),(8,iv (k2:Int))] H13 [(1,(fh.cells a0))] ?_ (Eq.trans (b:=[(1,.la 1 0),(5,fi 5 v12),(6,.sl [] .nil),(7,.sl [] .nil),(8,iv (k2:Int))]) rfl eA)
 refine aL ?_
 refine gy ((k2:Int)) (1) ?_
 refine ab ?_
 exact ⟨by omega,(v12),((l4++[x11.name])),H13,cL,hS14,(Eq.trans (b:=[(1,.la 1 0),(5,fi 5 v12),(6,.sl [] .nil),(7,.sl [] .nil),(8,iv ((k2:Int)+1))]) rfl eA),rfl⟩
 refine aF ?_
 refine wa [(1,.la 1 0),(5,v3),(6,.sl [] .nil),(7,.sl [] .nil)] H5 [(1,(fh.cells a0))] ?_ (Eq.trans (b:=[(1,.la 1 0),(5,fi 5 v3),(6,.sl [] .nil),(7,.sl [] .nil)]) rfl eH)
 refine bc ?_
 have hS15:=Sep.iF hS6 1
 have hNk16:=a0.signals.lk
 refine fC (a0.signals.l.length) (fun im e h=>∃ v17:AV,∃ l18:List kO,∃ H19:ah,(l18.length≤0+im)∧Sep H19 (.sl true true v17 1 (List.map j5 l18)::.sl true true v3 1 (List.map j5 l4)::[])∧proj [1,5,6,7,9] e=[(1,.la 1 0),(5,v3),(6,v17),(7,.sl [] .nil),(9,iv (im:Int))]∧{ h with aq:=fU [1,5,6,7,9] h.aq } = { H19 with aq:=[(1,(fh.cells a0))] }) ?_ (k0:=0) cO ⟨((.sl [] .nil)),(([]:List kO)),H5,dx,hS15,(Eq.trans (b:=[(1,.la 1 0),(5,fi 5 v3),(6,(.sl [] .nil)),(7,.sl [] .nil),(9,iv 0)]) rfl (by first | (rw [(show fi 5 v3=v3 from Sep.fT (i:=1) hS15 rfl 5)]; done) | (rw [(show fi 5 v3=v3 from Sep.fT (i:=1) hS15 rfl 5)]; rfl))),rfl⟩
 rintro im e h hkk16 ⟨v17,l18,H19,hl21,hS20,he,hh⟩
 refine gm he hh ?_
 clear he hh
 refine bb ?_
 have hL22:=a0.signals.lk
 refine gG a0.signals ?_
 refine gl ((im:Int)) ((a0.signals.l.length:Int)) (fun h23=>?_) (fun h23=>?_)
 refine b8 ?_
 refine wa [(1,.la 1 0),(5,v3),(6,v17),(7,.sl [] .nil),(9,iv (im:Int))] H19 [(1,(fh.cells a0))] ?_ (Eq.trans (b:=[(1,.la 1 0),(5,fi 5 v3),(6,fi 6 v17),(7,.sl [] .nil),(9,iv (im:Int))]) rfl dU)
 refine ba ?_
 refine cC ?_
 have hx24:im<a0.signals.l.length:=by omega
 refine iU im a0.signals hx24 ?_
 generalize hqx25:a0.signals.l[im]=x25
 iterate 3 refine oV ?_
 refine gd rfl (ib (i:=0) [x25.name] hS20 rfl rfl rfl rfl rfl rfl rfl rfl rfl (fun _=>rfl) (.inl rfl) cS (fun _=>rfl)) ?_
 rintro v26 H27 hS28
 refine ab ?_
 refine wa [(1,.la 1 0),(5,v3),(6,v26),(7,.sl [] .nil),(9,iv (im:Int))] H27 [(1,(fh.cells a0))] ?_ (Eq.trans (b:=[(1,.la 1 0),(5,fi 5 v3),(6,fi 6 v26),(7,.sl [] .nil),(9,iv (im:Int))]) rfl dT)
 refine aL ?_
 refine gy ((im:Int)) (1) ?_
 refine ab ?_
 exact ⟨by omega,(v26),((l18++[x25.name])),H27,cL,hS28,(Eq.trans (b:=[(1,.la 1 0),(5,fi 5 v3),(6,fi 6 v26),(7,.sl [] .nil),(9,iv ((im:Int)+1))]) rfl dT),rfl⟩
 refine aF ?_
 refine wa [(1,.la 1 0),(5,v3),(6,v17),(7,.sl [] .nil)] H19 [(1,(fh.cells a0))] ?_ (Eq.trans (b:=[(1,.la 1 0),(5,fi 5 v3),(6,fi 6 v17),(7,.sl [] .nil)]) rfl dU)
 refine bc ?_
 have hS29:=Sep.iF hS20 1
 have hNk30:=a0.lines.lk
 refine fC (a0.lines.l.length) (fun kY e h=>∃ v31:AV,∃ l32:List kO,∃ H33:ah,(l32.length≤0+kY)∧Sep H33 (.sl true true v31 1 (List.map j5 l32)::.sl true true v17 1 (List.map j5 l18)::.sl true true v3 1 (List.map j5 l4)::[])∧proj [1,5,6,7,10] e=[(1,.la 1 0),(5,v3),(6,v17),(7,v31),(10,iv (kY:Int))]∧{ h with aq:=fU [1,5,6,7,10] h.aq } = { H33 with aq:=[(1,(fh.cells a0))] }) ?_ (k0:=0) cO ⟨((.sl [] .nil)),(([]:List kO)),H19,dx,hS29,(Eq.trans (b:=[(1,.la 1 0),(5,fi 5 v3),(6,fi 6 v17),(7,(.sl [] .nil)),(10,iv 0)]) rfl (by first | (rw [(show fi 5 v3=v3 from Sep.fT (i:=2) hS29 rfl 5),(show fi 6 v17=v17 from Sep.fT (i:=1) hS29 rfl 6)]; done) | (rw [(show fi 5 v3=v3 from Sep.fT (i:=2) hS29 rfl 5),(show fi 6 v17=v17 from Sep.fT (i:=1) hS29 rfl 6)]; rfl))),rfl⟩
 rintro kY e h hkk30 ⟨v31,l32,H33,hl35,hS34,he,hh⟩
 refine gm he hh ?_
 clear he hh
 refine bb ?_
 have hL36:=a0.lines.lk
 refine gG a0.lines ?_
 refine gl ((kY:Int)) ((a0.lines.l.length:Int)) (fun h37=>?_) (fun h37=>?_)
 refine b8 ?_
 refine wa [(1,.la 1 0),(5,v3),(6,v17),(7,v31),(10,iv (kY:Int))] H33 [(1,(fh.cells a0))] ?_ (Eq.trans (b:=[(1,.la 1 0),(5,fi 5 v3),(6,fi 6 v17),(7,fi 7 v31),(10,iv (kY:Int))]) rfl dD)
 refine ba ?_
 refine cC ?_
 have hx38:kY<a0.lines.l.length:=by omega
 refine iU kY a0.lines hx38 ?_
 generalize hqx39:a0.lines.l[kY]=x39
 iterate 3 refine oV ?_
 refine gd rfl (ib (i:=0) [x39.name] hS34 rfl rfl rfl rfl rfl rfl rfl rfl rfl (fun _=>rfl) (.inl rfl) cS (fun _=>rfl)) ?_
 rintro v40 H41 hS42
 refine ab ?_
 refine wa [(1,.la 1 0),(5,v3),(6,v17),(7,v40),(10,iv (kY:Int))] H41 [(1,(fh.cells a0))] ?_ (Eq.trans (b:=[(1,.la 1 0),(5,fi 5 v3),(6,fi 6 v17),(7,fi 7 v40),(10,iv (kY:Int))]) rfl dC)
 refine aL ?_
 refine gy ((kY:Int)) (1) ?_
 refine ab ?_
 exact ⟨by omega,(v40),((l32++[x39.name])),H41,cL,hS42,(Eq.trans (b:=[(1,.la 1 0),(5,fi 5 v3),(6,fi 6 v17),(7,fi 7 v40),(10,iv ((kY:Int)+1))]) rfl dC),rfl⟩
 refine aF ?_
 refine wa [(5,v3),(6,v17),(7,v31)] H33 [] ?_ (Eq.trans (b:=[(5,fi 5 v3),(6,fi 6 v17),(7,fi 7 v31)]) rfl dD)
 refine ae ?_
 refine bo ?_
 obtain ⟨r43,hl44,hf45⟩:=gZ (H:=H33) (i:=2) (l:=l4) (enc:=j5) hS34 rfl cH
 have hlq:=hl44; have hln47:=congrArg List.length hl44
 have hz46:∀ m,freeze false { H33 with aq:=[] } (m+2) v3=some (Row.av j5 r43):=fun m=>hf45 _ _ (fun _=>rfl)
 obtain ⟨r48,hl49,hf50⟩:=gZ (H:=H33) (i:=1) (l:=l18) (enc:=j5) hS34 rfl cH
 have hlq:=hl49; have hln52:=congrArg List.length hl49
 have hz51:∀ m,freeze false { H33 with aq:=[] } (m+2) v17=some (Row.av j5 r48):=fun m=>hf50 _ _ (fun _=>rfl)
 obtain ⟨r53,hl54,hf55⟩:=gZ (H:=H33) (i:=0) (l:=l32) (enc:=j5) hS34 rfl cH
 have hlq:=hl54; have hln57:=congrArg List.length hl54
 have hz56:∀ m,freeze false { H33 with aq:=[] } (m+2) v31=some (Row.av j5 r53):=fun m=>hf55 _ _ (fun _=>rfl)
 exact ⟨.fz [v3,v17,v31],(iB (vs:=[v3,v17,v31]) rfl (fD (Sep.arg (i:=2) hS34 rfl) (fD (Sep.arg (i:=1) hS34 rfl) (fD (Sep.arg (i:=0) hS34 rfl) gJ)))),.fz [Row.av j5 r43,Row.av j5 r48,Row.av j5 r53],(show freeze false { H33 with aq:=[] } 8 (.fz [v3,v17,v31])=some (.fz [Row.av j5 r43,Row.av j5 r48,Row.av j5 r53]) by simp only [FZ,hz46,hz51,hz56]),r43,r48,r53,trivial,rfl⟩
theorem QK:FT 142=some DP:=by kernel_rfl
theorem MS:aT 142=none:=by kernel_rfl
def aci (_a0:Int) (_a1:Int) (_a2:Int) (v:AV):Prop:=∃ r0:Bool,(True)∧v=.bool r0
theorem t142 (a0:Int) (a1:Int) (a2:Int)  (h:ah):∃ v,fj cfg FT aT false 142 [iv a0,iv a1,iv a2] h v h∧aci a0 a1 a2 v:=by
 refine fS MS QK rfl rfl ?_
 refine cm ?_
 refine jg (a0) (a1) (fun h1=>?_) (fun h1=>?_)
 iterate 3 refine oV ?_
 refine o5 (a0) (a2) (fun h2=>?_) (fun h2=>?_)
 refine aS ?_
 exact xA (.bool true) ⟨true,trivial,rfl⟩
 refine aS ?_
 exact xA (.bool false) ⟨false,trivial,rfl⟩
 refine bD ?_
 refine aS ?_
 exact xA (.bool false) ⟨false,trivial,rfl⟩
theorem Qy:FT 143=some C8:=by kernel_rfl
theorem LV:aT 143=none:=by kernel_rfl
def abS (_a0:kO) (v:AV):Prop:=∃ r0:Bool,(True)∧v=.bool r0
theorem t143 (a0:kO)  (h:ah):∃ v,fj cfg FT aT false 143 [.str (a0.l)] h v h∧abS a0 v:=by
 refine fS LV Qy rfl rfl ?_
 refine aU ?_
 refine bc ?_
 have hNk1:=a0.lk
 refine fC (a0.l.length) (fun k1 e h=>proj [0,3] e=[(0,.str (a0.l)),(3,iv (k1:Int))]∧{ h with aq:=fU [0,3] h.aq } = { ah.empty with aq:=[] }) ?_ (k0:=0) cO ⟨rfl,rfl⟩
 rintro k1 e h hkk1 ⟨he,hh⟩
 refine gm he hh ?_
 clear he hh
 refine bb ?_
 refine gl ((k1:Int)) ((a0.l.length:Int)) (fun h2=>?_) (fun h2=>?_)
 refine aG ?_
 refine ae ?_
 have hx3:k1<a0.l.length:=by omega
 refine fq rfl (fun _=>uD (n:=k1) (s:=a0.l) rfl rfl rfl rfl hx3) ?_
 generalize hqc4:a0.l[k1]=c4
 refine bP ?_
 refine jg ((c4.toNat:Int)) (97) (fun h5=>?_) (fun h5=>?_)
 iterate 2 refine oV ?_
 refine o5 ((c4.toNat:Int)) (122) (fun h6=>?_) (fun h6=>?_)
 refine oV ?_
 refine bS ?_
 refine aw ?_
 refine aB ?_
 iterate 10 refine oS ?_
 refine ci ?_
 refine gy ((k1:Int)) (1) ?_
 refine ab ?_
 exact ⟨by omega,rfl,rfl⟩
 iterate 3 refine oV ?_
 refine jg ((c4.toNat:Int)) (65) (fun h7=>?_) (fun h7=>?_)
 iterate 2 refine oV ?_
 refine o5 ((c4.toNat:Int)) (90) (fun h8=>?_) (fun h8=>?_)
 refine aX ?_
 refine aB ?_
 iterate 10 refine oS ?_
 refine ci ?_
 refine gy ((k1:Int)) (1) ?_
 refine ab ?_
 exact ⟨by omega,rfl,rfl⟩
 refine aX ?_
 refine be ?_
 refine gA ((k1:Int)) (0) (fun h9=>?_) (fun h9=>?_)
 refine bg ?_
 refine aP ?_
 refine bd ?_
 exact xA (.bool false) ⟨false,trivial,rfl⟩
 iterate 2 refine oV ?_
 refine gl ((c4.toNat:Int)) (48) (fun h10=>?_) (fun h10=>?_)
 refine aP ?_
 refine bd ?_
 exact xA (.bool false) ⟨false,trivial,rfl⟩
 iterate 3 refine oV ?_
 refine g9 ((c4.toNat:Int)) (57) (fun h11=>?_) (fun h11=>?_)
 refine bd ?_
 exact xA (.bool false) ⟨false,trivial,rfl⟩
 refine oV ?_
 refine ci ?_
 refine gy ((k1:Int)) (1) ?_
 refine ab ?_
 exact ⟨by omega,rfl,rfl⟩
 refine bg ?_
 refine aX ?_
 refine be ?_
 refine gA ((k1:Int)) (0) (fun h12=>?_) (fun h12=>?_)
 refine bg ?_
 refine aP ?_
 refine bd ?_
 exact xA (.bool false) ⟨false,trivial,rfl⟩
 iterate 2 refine oV ?_
 refine gl ((c4.toNat:Int)) (48) (fun h13=>?_) (fun h13=>?_)
 refine aP ?_
 refine bd ?_
 exact xA (.bool false) ⟨false,trivial,rfl⟩
 iterate 3 refine oV ?_
 refine g9 ((c4.toNat:Int)) (57) (fun h14=>?_) (fun h14=>?_)
 refine bd ?_
 exact xA (.bool false) ⟨false,trivial,rfl⟩
 refine oV ?_
 refine ci ?_
 refine gy ((k1:Int)) (1) ?_
 refine ab ?_
 exact ⟨by omega,rfl,rfl⟩
 refine bg ?_
 iterate 3 refine oV ?_
 refine jg ((c4.toNat:Int)) (65) (fun h15=>?_) (fun h15=>?_)
 iterate 2 refine oV ?_
 refine o5 ((c4.toNat:Int)) (90) (fun h16=>?_) (fun h16=>?_)
 refine aX ?_
 refine aB ?_
 iterate 10 refine oS ?_
 refine ci ?_
 refine gy ((k1:Int)) (1) ?_
 refine ab ?_
 exact ⟨by omega,rfl,rfl⟩
 refine aX ?_
 refine be ?_
 refine gA ((k1:Int)) (0) (fun h17=>?_) (fun h17=>?_)
 refine bg ?_
 refine aP ?_
 refine bd ?_
 exact xA (.bool false) ⟨false,trivial,rfl⟩
 iterate 2 refine oV ?_
 refine gl ((c4.toNat:Int)) (48) (fun h18=>?_) (fun h18=>?_)
 refine aP ?_
 refine bd ?_
 exact xA (.bool false) ⟨false,trivial,rfl⟩
 iterate 3 refine oV ?_
 refine g9 ((c4.toNat:Int)) (57) (fun h19=>?_) (fun h19=>?_)
 refine bd ?_
 exact xA (.bool false) ⟨false,trivial,rfl⟩
 refine oV ?_
 refine ci ?_
 refine gy ((k1:Int)) (1) ?_
 refine ab ?_
 exact ⟨by omega,rfl,rfl⟩
 refine bg ?_
 refine aX ?_
 refine be ?_
 refine gA ((k1:Int)) (0) (fun h20=>?_) (fun h20=>?_)
 refine bg ?_
 refine aP ?_
 refine bd ?_
 exact xA (.bool false) ⟨false,trivial,rfl⟩
 iterate 2 refine oV ?_
 refine gl ((c4.toNat:Int)) (48) (fun h21=>?_) (fun h21=>?_)
 refine aP ?_
 refine bd ?_
 exact xA (.bool false) ⟨false,trivial,rfl⟩
 iterate 3 refine oV ?_
 refine g9 ((c4.toNat:Int)) (57) (fun h22=>?_) (fun h22=>?_)
 refine bd ?_
 exact xA (.bool false) ⟨false,trivial,rfl⟩
 refine oV ?_
 refine ci ?_
 refine gy ((k1:Int)) (1) ?_
 refine ab ?_
 exact ⟨by omega,rfl,rfl⟩
 refine aF ?_
 refine ae ?_
 refine jg ((a0.l.length:Int)) (1) (fun h23=>?_) (fun h23=>?_)
 iterate 3 refine oV ?_
 refine o5 ((a0.l.length:Int)) (8) (fun h24=>?_) (fun h24=>?_)
 refine aS ?_
 exact xA (.bool true) ⟨true,trivial,rfl⟩
 refine aS ?_
 exact xA (.bool false) ⟨false,trivial,rfl⟩
 refine bD ?_
 refine aS ?_
 exact xA (.bool false) ⟨false,trivial,rfl⟩
theorem Pe:FT 144=some Cu:=by kernel_rfl
theorem MO:aT 144=none:=by kernel_rfl
def abA (_a0:Int) (v:AV):Prop:=∃ r0:Int,(((_a0=1→r0=2)∧(_a0=2→r0=3)∧(_a0=3→r0=4)∧(_a0=4→r0=1)∧0≤r0∧r0≤4))∧v=iv r0
theorem t144 (a0:Int)  (h:ah):∃ v,fj cfg FT aT false 144 [iv a0] h v h∧abA a0 v:=by
 refine fS MO Pe rfl rfl ?_
 refine aY ?_
 refine cD ?_
 refine gA (a0) (1) (fun h1=>?_) (fun h1=>?_)
 refine au ?_
 exact xA (iv 2) ⟨(2),cO,rfl⟩
 refine bf ?_
 refine gA (a0) (2) (fun h2=>?_) (fun h2=>?_)
 refine au ?_
 exact xA (iv 3) ⟨(3),cO,rfl⟩
 refine bf ?_
 refine gA (a0) (3) (fun h3=>?_) (fun h3=>?_)
 refine au ?_
 exact xA (iv 4) ⟨(4),cO,rfl⟩
 refine bf ?_
 refine gA (a0) (4) (fun h4=>?_) (fun h4=>?_)
 refine au ?_
 exact xA (iv 1) ⟨(1),cO,rfl⟩
 refine ay ?_
 refine bu ?_
 exact xA (iv 0) ⟨(0),cO,rfl⟩
theorem X4:FT 67=some GC:=by kernel_rfl
theorem Of:aT 67=none:=by kernel_rfl
def P67 (_a0:fh) (v:AV):Prop:=∃ r0:Bool,(True)∧v=.bool r0
theorem t67 (a0:fh)  (h:ah):∃ v,fj cfg FT aT false 67 [.agg (fh.cells a0)] h v h∧P67 a0 v:=by
 refine fS Of X4 rfl rfl ?_
 refine aQ ?_
 refine aW ?_
 refine oC (t142 (a0.top) (1) (60)) ?_
 rintro _ ⟨r2,hc1,rfl⟩
 cases r2
 refine aE ?_
 refine aE ?_
 refine aE ?_
 refine bz ?_
 exact xA (.bool false) ⟨false,trivial,rfl⟩
 iterate 4 refine oV ?_
 refine oC (t142 (a0.gE) (1) (10)) ?_
 rintro _ ⟨r4,hc3,rfl⟩
 cases r4
 refine oV ?_
 refine aE ?_
 refine aE ?_
 refine bz ?_
 exact xA (.bool false) ⟨false,trivial,rfl⟩
 iterate 5 refine oV ?_
 refine oC (t142 (a0.gv) (1) (4000)) ?_
 rintro _ ⟨r6,hc5,rfl⟩
 cases r6
 refine oV ?_
 refine aE ?_
 refine bz ?_
 exact xA (.bool false) ⟨false,trivial,rfl⟩
 iterate 5 refine oV ?_
 refine oC (t142 (a0.gz) (1) (20)) ?_
 rintro _ ⟨r8,hc7,rfl⟩
 cases r8
 refine oV ?_
 refine bz ?_
 exact xA (.bool false) ⟨false,trivial,rfl⟩
 iterate 5 refine oV ?_
 have hL9:=a0.elems.lk
 refine gG a0.elems ?_
 refine gA ((a0.elems.l.length:Int)) (0) (fun h10=>?_) (fun h10=>?_)
 refine au ?_
 exact xA (.bool false) ⟨false,trivial,rfl⟩
 refine ay ?_
 refine bc ?_
 have hNk11:=a0.elems.lk
 refine fC (a0.elems.l.length) (fun j8 e h=>proj [1,3] e=[(1,.la 1 0),(3,iv (j8:Int))]∧{ h with aq:=fU [1,3] h.aq } = { ah.empty with aq:=[(1,(fh.cells a0))] }) ?_ (k0:=0) cO ⟨rfl,rfl⟩
 rintro j8 e h hkk11 ⟨he,hh⟩
 refine gm he hh ?_
 clear he hh
 refine bb ?_
 have hL12:=a0.elems.lk
 refine gG a0.elems ?_
 refine gl ((j8:Int)) ((a0.elems.l.length:Int)) (fun h13=>?_) (fun h13=>?_)
 refine aG ?_
 refine aB ?_
 have hx14:j8<a0.elems.l.length:=by omega
 refine iU j8 a0.elems hx14 ?_
 generalize hqx15:a0.elems.l[j8]=x15
 refine aX ?_
 refine ae ?_
 refine oC (t143 x15.name) ?_
 rintro _ ⟨r17,hc16,rfl⟩
 cases r17
 refine aE ?_
 refine aP ?_
 iterate 6 refine oS ?_
 refine bX ?_
 refine au ?_
 exact xA (.bool false) ⟨false,trivial,rfl⟩
 iterate 4 refine oV ?_
 refine oC (t144 (x15.kind)) ?_
 rintro _ ⟨r19,hc18,rfl⟩
 refine gA (r19) (0) (fun h20=>?_) (fun h20=>?_)
 refine aP ?_
 iterate 6 refine oS ?_
 refine bX ?_
 refine au ?_
 exact xA (.bool false) ⟨false,trivial,rfl⟩
 iterate 4 refine oV ?_
 refine gA (x15.kind) (4) (fun h21=>?_) (fun h21=>?_)
 iterate 3 refine oV ?_
 refine iJ (x15.len) (0) (fun h22=>?_) (fun h22=>?_)
 refine oV ?_
 refine bX ?_
 refine au ?_
 exact xA (.bool false) ⟨false,trivial,rfl⟩
 iterate 5 refine oV ?_
 refine iJ (x15.kind) (4) (fun h23=>?_) (fun h23=>?_)
 iterate 3 refine oV ?_
 refine oC (t142 (x15.len) (1) (4000)) ?_
 rintro _ ⟨r25,hc24,rfl⟩
 cases r25
 refine oV ?_
 refine bd ?_
 exact xA (.bool false) ⟨false,trivial,rfl⟩
 iterate 2 refine oV ?_
 refine ci ?_
 refine gy ((j8:Int)) (1) ?_
 refine ab ?_
 exact ⟨by omega,rfl,rfl⟩
 refine bm ?_
 refine oV ?_
 refine ci ?_
 refine gy ((j8:Int)) (1) ?_
 refine ab ?_
 exact ⟨by omega,rfl,rfl⟩
 refine bD ?_
 iterate 5 refine oV ?_
 refine iJ (x15.kind) (4) (fun h26=>?_) (fun h26=>?_)
 iterate 3 refine oV ?_
 refine oC (t142 (x15.len) (1) (4000)) ?_
 rintro _ ⟨r28,hc27,rfl⟩
 cases r28
 refine oV ?_
 refine bd ?_
 exact xA (.bool false) ⟨false,trivial,rfl⟩
 iterate 2 refine oV ?_
 refine ci ?_
 refine gy ((j8:Int)) (1) ?_
 refine ab ?_
 exact ⟨by omega,rfl,rfl⟩
 refine bm ?_
 refine oV ?_
 refine ci ?_
 refine gy ((j8:Int)) (1) ?_
 refine ab ?_
 exact ⟨by omega,rfl,rfl⟩
 refine aF ?_
 refine bc ?_
 have hNk29:=a0.signals.lk
 refine fC (a0.signals.l.length) (fun ki e h=>proj [1,5] e=[(1,.la 1 0),(5,iv (ki:Int))]∧{ h with aq:=fU [1,5] h.aq } = { ah.empty with aq:=[(1,(fh.cells a0))] }) ?_ (k0:=0) cO ⟨rfl,rfl⟩
 rintro ki e h hkk29 ⟨he,hh⟩
 refine gm he hh ?_
 clear he hh
 refine bb ?_
 have hL30:=a0.signals.lk
 refine gG a0.signals ?_
 refine gl ((ki:Int)) ((a0.signals.l.length:Int)) (fun h31=>?_) (fun h31=>?_)
 refine aG ?_
 refine aB ?_
 have hx32:ki<a0.signals.l.length:=by omega
 refine iU ki a0.signals hx32 ?_
 generalize hqx33:a0.signals.l[ki]=x33
 iterate 2 refine oV ?_
 refine oC (t143 x33.name) ?_
 rintro _ ⟨r35,hc34,rfl⟩
 cases r35
 refine au ?_
 exact xA (.bool false) ⟨false,trivial,rfl⟩
 refine ci ?_
 refine gy ((ki:Int)) (1) ?_
 refine ab ?_
 exact ⟨by omega,rfl,rfl⟩
 refine aF ?_
 refine bc ?_
 have hNk36:=a0.lines.lk
 refine fC (a0.lines.l.length) (fun vK e h=>proj [1,6] e=[(1,.la 1 0),(6,iv (vK:Int))]∧{ h with aq:=fU [1,6] h.aq } = { ah.empty with aq:=[(1,(fh.cells a0))] }) ?_ (k0:=0) cO ⟨rfl,rfl⟩
 rintro vK e h hkk36 ⟨he,hh⟩
 refine gm he hh ?_
 clear he hh
 refine bb ?_
 have hL37:=a0.lines.lk
 refine gG a0.lines ?_
 refine gl ((vK:Int)) ((a0.lines.l.length:Int)) (fun h38=>?_) (fun h38=>?_)
 refine aG ?_
 refine aB ?_
 have hx39:vK<a0.lines.l.length:=by omega
 refine iU vK a0.lines hx39 ?_
 generalize hqx40:a0.lines.l[vK]=x40
 iterate 2 refine oV ?_
 refine oC (t143 x40.name) ?_
 rintro _ ⟨r42,hc41,rfl⟩
 cases r42
 refine au ?_
 exact xA (.bool false) ⟨false,trivial,rfl⟩
 refine ci ?_
 refine gy ((vK:Int)) (1) ?_
 refine ab ?_
 exact ⟨by omega,rfl,rfl⟩
 refine cF ?_
 exact xA (.bool true) ⟨true,trivial,rfl⟩
theorem VI:FT 68=some Hn:=by kernel_rfl
theorem OK:aT 68=none:=by kernel_rfl
def P68 (_a0:Row kO) (v:AV):Prop:=∃ r0:Bool,(True)∧v=.bool r0
theorem t68 (a0:Row kO)  (h:ah):∃ v,fj cfg FT aT false 68 [Row.av j5 a0] h v h∧P68 a0 v:=by
 refine fS OK VI rfl rfl ?_
 refine aU ?_
 refine bc ?_
 have hNk1:=a0.lk
 refine fC (a0.l.length) (fun k1 e h=>proj [0,3] e=[(0,Row.av j5 a0),(3,iv (k1:Int))]∧{ h with aq:=fU [0,3] h.aq } = { ah.empty with aq:=[] }) ?_ (k0:=0) cO ⟨rfl,rfl⟩
 rintro k1 e h hkk1 ⟨he,hh⟩
 refine gm he hh ?_
 clear he hh
 refine aW ?_
 have hL2:=a0.lk
 refine gG a0 ?_
 refine gl ((k1:Int)) ((a0.l.length:Int)) (fun h3=>?_) (fun h3=>?_)
 refine b8 ?_
 refine bZ ?_
 refine aC ?_
 refine fC (k1) (fun k4 e h=>proj [0,3,4] e=[(0,Row.av j5 a0),(3,iv (k1:Int)),(4,iv (k4:Int))]∧{ h with aq:=fU [0,3,4] h.aq } = { ah.empty with aq:=[] }) ?_ (k0:=0) cO ⟨rfl,rfl⟩
 rintro k4 e h hkk4 ⟨he,hh⟩
 refine gm he hh ?_
 clear he hh
 refine aW ?_
 refine gl ((k4:Int)) ((k1:Int)) (fun h5=>?_) (fun h5=>?_)
 refine aG ?_
 refine a6 ?_
 have hx6:k1<a0.l.length:=by omega
 refine lO k1 a0 hx6 ?_
 generalize hqx7:a0.l[k1]=x7
 iterate 3 refine rV ?_
 have hx8:k4<a0.l.length:=by omega
 refine lO k4 a0 hx8 ?_
 generalize hqx9:a0.l[k4]=x9
 refine rV ?_
 refine mN rfl rfl (fun _=>qo rfl rfl) (fun h10=>?_) (fun h10=>?_)
 refine rN ?_
 refine ac ?_
 exact xA (.bool true) ⟨true,trivial,rfl⟩
 refine bH ?_
 refine aL ?_
 refine gy ((k4:Int)) (1) ?_
 refine ab ?_
 exact ⟨by omega,rfl,rfl⟩
 refine aF ?_
 refine aL ?_
 refine gy ((k1:Int)) (1) ?_
 refine ab ?_
 exact ⟨by omega,rfl,rfl⟩
 refine cF ?_
 exact xA (.bool false) ⟨false,trivial,rfl⟩
theorem Q3:FT 145=some D0:=by kernel_rfl
theorem LY:aT 145=none:=by kernel_rfl
def Zc (_a0:fh) (_a1:bY) (v:AV):Prop:=∃ r0:Bool,((r0=true→0≤_a1.elem∧_a1.elem<(_a0.elems.l.length:Int)∧0≤_a1.en∧_a1.en<4))∧v=.bool r0
theorem t145 (a0:fh) (a1:bY)  (h:ah):∃ v,fj cfg FT aT false 145 [.agg (fh.cells a0),.agg (bY.cells a1)] h v h∧Zc a0 a1 v:=by
 refine fS LY Q3 rfl rfl ?_
 refine bJ ?_
 refine a6 ?_
 refine wm (a1.elem) (0) (fun h1=>?_) (fun h1=>?_)
 iterate 5 refine rV ?_
 have hL2:=a0.elems.lk
 refine yG a0.elems ?_
 refine o4 (a1.elem) ((a0.elems.l.length:Int)) (fun h3=>?_) (fun h3=>?_)
 iterate 4 refine rV ?_
 refine wm (a1.en) (0) (fun h4=>?_) (fun h4=>?_)
 iterate 8 refine rV ?_
 have hx5:(a1.elem).toNat<a0.elems.l.length:=by omega
 refine ga rfl rfl (fun _=>gN (n:=a1.elem) (r:=a0.elems) (enc:=gf.cells) rfl rfl rfl rfl rfl cO hx5 rfl) ?_
 generalize hqx6:a0.elems.l[(a1.elem).toNat]=x6
 iterate 2 refine rV ?_
 refine rC (t144 (x6.kind)) ?_
 rintro _ ⟨r8,hc7,rfl⟩
 refine o4 (a1.en) (r8) (fun h9=>?_) (fun h9=>?_)
 refine aJ ?_
 exact xA (.bool true) ⟨true,dh,rfl⟩
 refine aJ ?_
 exact xA (.bool false) ⟨false,dh,rfl⟩
 iterate 2 refine rV ?_
 refine ct ?_
 exact xA (.bool false) ⟨false,dh,rfl⟩
 refine bv ?_
 refine ct ?_
 exact xA (.bool false) ⟨false,dh,rfl⟩
 refine co ?_
 refine bv ?_
 refine ct ?_
 exact xA (.bool false) ⟨false,dh,rfl⟩
theorem QI:FT 146=some D3:=by kernel_rfl
theorem Nf:aT 146=none:=by kernel_rfl
def acO (_a0:fh) (_a1:bY) (v:AV):Prop:=∃ r0:bY,∃ r1:Bool,(((r1=true→jE _a0.fQ.l _a1=some r0)∧(r1=false→jE _a0.fQ.l _a1=none)))∧v=.fz [.agg (bY.cells r0),.bool r1]
theorem t146 (a0:fh) (a1:bY)  (h:ah):∃ v,fj cfg FT aT false 146 [.agg (fh.cells a0),.agg (bY.cells a1)] h v h∧acO a0 a1 v:=by
 refine fS Nf QI rfl rfl ?_
 refine aa ?_
 refine bM ?_
 refine bc ?_
 have hNk1:=a0.fQ.lk
 refine fC (a0.fQ.l.length) (fun k1 e h=>(jE (a0.fQ.l.drop k1) a1=jE a0.fQ.l a1)∧proj [2,3,4,6] e=[(2,.la 2 0),(3,.la 3 0),(4,.la 4 0),(6,iv (k1:Int))]∧{ h with aq:=fU [2,3,4,6] h.aq } = { ah.empty with aq:=[(2,(fh.cells a0)),(3,(bY.cells a1)),(4,[iv 0,iv 0])] }) ?_ (k0:=0) cO ⟨eR,rfl,rfl⟩
 rintro k1 e h hkk1 ⟨hI,he,hh⟩
 refine gm he hh ?_
 clear he hh
 refine bb ?_
 have hL2:=a0.fQ.lk
 refine gG a0.fQ ?_
 refine gl ((k1:Int)) ((a0.fQ.l.length:Int)) (fun h3=>?_) (fun h3=>?_)
 refine aG ?_
 refine qs ?_
 refine bV ?_
 have hx4:k1<a0.fQ.l.length:=by omega
 refine lO k1 a0.fQ hx4 ?_
 generalize hqx5:a0.fQ.l[k1]=x5
 iterate 3 refine rV ?_
 refine mN rfl rfl (fun _=>sx rfl rfl rfl (fun _ _=>rfl)) (fun h6=>?_) (fun h6=>?_)
 refine rN ?_
 refine qT ?_
 refine aB ?_
 have hx7:k1<a0.fQ.l.length:=by omega
 refine iU k1 a0.fQ hx7 ?_
 rw [hqx5]
 refine bo ?_
 exact xF (.fz [.agg (bY.cells x5.b),.bool true]) ⟨x5.b,true,dH,rfl⟩
 refine bH ?_
 refine bV ?_
 have hx9:k1<a0.fQ.l.length:=by omega
 refine lO k1 a0.fQ hx9 ?_
 rw [hqx5]
 iterate 3 refine rV ?_
 refine mN rfl rfl (fun _=>sx rfl rfl rfl (fun _ _=>rfl)) (fun h11=>?_) (fun h11=>?_)
 refine rN ?_
 refine qT ?_
 refine aB ?_
 have hx12:k1<a0.fQ.l.length:=by omega
 refine iU k1 a0.fQ hx12 ?_
 rw [hqx5]
 refine bo ?_
 exact xF (.fz [.agg (bY.cells x5.a),.bool true]) ⟨x5.a,true,dH,rfl⟩
 refine bH ?_
 refine aL ?_
 refine gy ((k1:Int)) (1) ?_
 refine ab ?_
 exact ⟨by omega,(by (exact (EP cP cP cP cP).trans hI)),rfl,rfl⟩
 refine aF ?_
 refine aD ?_
 exact xF (.fz [.agg [iv 0,iv 0],.bool false]) ⟨(⟨(0),(0)⟩:bY),false,dH,rfl⟩
theorem Nt:FT 147=some Dd:=by kernel_rfl
theorem LA:aT 147=none:=by kernel_rfl
def acV (_a0:fh) (_a1:Int) (v:AV):Prop:=∃ r0:Int,(r0=mV _a0 _a1)∧v=iv r0
theorem t147 (a0:fh) (a1:Int)  (h:ah):∃ v,fj cfg FT aT false 147 [.agg (fh.cells a0),iv a1] h v h∧acV a0 a1 v:=by
 refine fS LA Nt rfl rfl ?_
 refine ai ?_
 refine ak ?_
 refine gl (a1) (0) (fun h1=>?_) (fun h1=>?_)
 refine bi ?_
 refine au ?_
 exact xA (iv 0) ⟨(0),dF,rfl⟩
 iterate 4 refine oV ?_
 have hL2:=a0.elems.lk
 refine gG a0.elems ?_
 refine jg (a1) ((a0.elems.l.length:Int)) (fun h3=>?_) (fun h3=>?_)
 refine au ?_
 exact xA (iv 0) ⟨(0),dF,rfl⟩
 refine ay ?_
 refine aB ?_
 have hx4:(a1).toNat<a0.elems.l.length:=by omega
 refine fq rfl (fun _=>gN (n:=a1) (r:=a0.elems) (enc:=gf.cells) rfl rfl rfl rfl rfl cO hx4 rfl) ?_
 generalize hqx5:a0.elems.l[(a1).toNat]=x5
 refine bk ?_
 exact xA (iv x5.kind) ⟨(x5.kind),dF,rfl⟩
theorem Yd:FT 69=some GN:=by kernel_rfl
theorem Qv:aT 69=none:=by kernel_rfl
def P69 (_a0:fh) (v:AV):Prop:=∃ r0:Bool,(True)∧v=.bool r0
theorem t69 (a0:fh) (q1:jb a0) (h:ah):∃ v,fj cfg FT aT false 69 [.agg (fh.cells a0)] h v h∧P69 a0 v:=by
 refine fS Qv Yd rfl rfl ?_
 have q2:=q1.elems; have q3:=q1.fQ
 refine aQ ?_
 refine aU ?_
 refine bc ?_
 have hS1:=Sep.iF gI 2
 have hNk2:=a0.fQ.lk
 refine fC (a0.fQ.l.length) (fun k2 e h=>∃ v3:AV,∃ l4:List bY,∃ H5:ah,(l4.length≤0+2*k2)∧Sep H5 (.sl true true v3 2 (List.map bY.cells l4)::[])∧proj [1,3,4] e=[(1,.la 1 0),(3,v3),(4,iv (k2:Int))]∧{ h with aq:=fU [1,3,4] h.aq } = { H5 with aq:=[(1,(fh.cells a0))] }) ?_ (k0:=0) cO ⟨((.sl [] .nil)),(([]:List bY)),ah.empty,dx,hS1,rfl,rfl⟩
 rintro k2 e h hkk2 ⟨v3,l4,H5,hl7,hS6,he,hh⟩
 refine gm he hh ?_
 clear he hh
 refine bb ?_
 have hL8:=a0.fQ.lk
 refine gG a0.fQ ?_
 refine gl ((k2:Int)) ((a0.fQ.l.length:Int)) (fun h9=>?_) (fun h9=>?_)
 refine b8 ?_
 refine wa [(1,.la 1 0),(3,v3),(4,iv (k2:Int))] H5 [(1,(fh.cells a0))] ?_ (Eq.trans (b:=[(1,.la 1 0),(3,fi 3 v3),(4,iv (k2:Int))]) rfl cU)
 refine ba ?_
 refine qd ?_
 iterate 4 refine rV ?_
 have hx10:k2<a0.fQ.l.length:=by omega
 refine lO k2 a0.fQ hx10 ?_
 generalize hqx11:a0.fQ.l[k2]=x11
 iterate 5 refine rV ?_
 have hx12:k2<a0.fQ.l.length:=by omega
 refine lO k2 a0.fQ hx12 ?_
 rw [hqx11]
 iterate 3 refine rV ?_
 refine gS rfl rfl (ib (i:=0) [x11.a,x11.b] hS6 rfl rfl rfl rfl rfl rfl rfl rfl rfl (fun _=>rfl) (.inl rfl) cS (fun _=>rfl)) ?_
 rintro v14 H15 hS16
 refine aV ?_
 refine wa [(1,.la 1 0),(3,v14),(4,iv (k2:Int))] H15 [(1,(fh.cells a0))] ?_ (Eq.trans (b:=[(1,.la 1 0),(3,fi 3 v14),(4,iv (k2:Int))]) rfl eD)
 refine aL ?_
 refine gy ((k2:Int)) (1) ?_
 refine ab ?_
 exact ⟨by omega,(v14),((l4++[x11.a,x11.b])),H15,cL,hS16,(Eq.trans (b:=[(1,.la 1 0),(3,fi 3 v14),(4,iv ((k2:Int)+1))]) rfl eD),rfl⟩
 refine aF ?_
 refine wa [(1,.la 1 0),(3,v3)] H5 [(1,(fh.cells a0))] ?_ (Eq.trans (b:=[(1,.la 1 0),(3,fi 3 v3)]) rfl cU)
 refine bc ?_
 refine fC (l4.length) (fun kW e h=>proj [1,3,5] e=[(1,.la 1 0),(3,v3),(5,iv (kW:Int))]∧{ h with aq:=fU [1,3,5] h.aq } = { H5 with aq:=[(1,(fh.cells a0))] }) ?_ (k0:=0) cO ⟨(Eq.trans (b:=[(1,.la 1 0),(3,fi 3 v3),(5,iv 0)]) rfl cU),rfl⟩
 rintro kW e h hkk17 ⟨he,hh⟩
 refine gm he hh ?_
 clear he hh
 refine aW ?_
 refine fq rfl (fun _=>jT (i:=0) hS6 rfl rfl rfl rfl rfl rfl rfl) ?_
 refine gl ((kW:Int)) ((l4.length:Int)) (fun h18=>?_) (fun h18=>?_)
 refine b8 ?_
 refine wa [(1,.la 1 0),(3,v3),(5,iv (kW:Int))] H5 [(1,(fh.cells a0))] ?_ (Eq.trans (b:=[(1,.la 1 0),(3,fi 3 v3),(5,iv (kW:Int))]) rfl cU)
 refine ba ?_
 refine qs ?_
 refine bV ?_
 have hx19:kW<l4.length:=by first | omega | (simp<;>omega) | (simp_all; omega)
 obtain ⟨x20,hqx20⟩:∃ x,l4[kW]=x:=⟨_,rfl⟩
 refine me rfl rfl (ji (i:=0) (m:=kW) (cs:=bY.cells x20) hS6 rfl rfl rfl rfl rfl rfl rfl (iq hx19 hqx20)) ?_
 rintro a21 ⟨ha22,hea23⟩
 refine ga rfl rfl (fun _=>ko (i:=0) (m:=kW) (o:=0) (r:=.agg (bY.cells x20)) (cs:=bY.cells x20) hS6 rfl (iq hx19 hqx20) hea23 rfl rfl ha22) ?_
 refine rC (t145 a0 x20) ?_
 rintro _ ⟨r25,hc24,rfl⟩
 cases r25
 clear hc24
 refine aV ?_
 refine ac ?_
 exact xA (.bool false) ⟨false,trivial,rfl⟩
 have hc24t:=hc24 rfl
 refine bB ?_
 refine wa [(1,.la 1 0),(3,v3),(5,iv (kW:Int))] H5 [(1,(fh.cells a0))] ?_ (Eq.trans (b:=[(1,.la 1 0),(3,fi 3 v3),(5,iv (kW:Int))]) rfl cU)
 refine aa ?_
 refine aC ?_
 refine fC (kW) (fun jI e h=>proj [1,3,5,6] e=[(1,.la 1 0),(3,v3),(5,iv (kW:Int)),(6,iv (jI:Int))]∧{ h with aq:=fU [1,3,5,6] h.aq } = { H5 with aq:=[(1,(fh.cells a0))] }) ?_ (k0:=0) cO ⟨(Eq.trans (b:=[(1,.la 1 0),(3,fi 3 v3),(5,iv (kW:Int)),(6,iv 0)]) rfl cU),rfl⟩
 rintro jI e h hkk26 ⟨he,hh⟩
 refine gm he hh ?_
 clear he hh
 refine aW ?_
 refine gl ((jI:Int)) ((kW:Int)) (fun h27=>?_) (fun h27=>?_)
 refine b8 ?_
 refine wa [(1,.la 1 0),(3,v3),(5,iv (kW:Int)),(6,iv (jI:Int))] H5 [(1,(fh.cells a0))] ?_ (Eq.trans (b:=[(1,.la 1 0),(3,fi 3 v3),(5,iv (kW:Int)),(6,iv (jI:Int))]) rfl cU)
 refine ba ?_
 refine a6 ?_
 have hx28:jI<l4.length:=by first | omega | (simp<;>omega) | (simp_all; omega)
 obtain ⟨x29,hqx29⟩:∃ x,l4[jI]=x:=⟨_,rfl⟩
 refine me rfl rfl (ji (i:=0) (m:=jI) (cs:=bY.cells x29) hS6 rfl rfl rfl rfl rfl rfl rfl (iq hx28 hqx29)) ?_
 rintro a30 ⟨ha31,hea32⟩
 refine ga rfl rfl (fun _=>ko (i:=0) (m:=jI) (o:=0) (r:=.agg (bY.cells x29)) (cs:=bY.cells x29) hS6 rfl (iq hx28 hqx29) hea32 rfl rfl ha31) ?_
 iterate 2 refine rV ?_
 have hx33:kW<l4.length:=by first | omega | (simp<;>omega) | (simp_all; omega)
 refine me rfl rfl (ji (i:=0) (m:=kW) (cs:=bY.cells x20) hS6 rfl rfl rfl rfl rfl rfl rfl (iq hx33 hqx20)) ?_
 rintro a34 ⟨ha35,hea36⟩
 refine ga rfl rfl (fun _=>ko (i:=0) (m:=kW) (o:=0) (r:=.agg (bY.cells x20)) (cs:=bY.cells x20) hS6 rfl (iq hx33 hqx20) hea36 rfl rfl ha35) ?_
 refine mN rfl rfl (fun _=>sx rfl rfl rfl (fun _ _=>rfl)) (fun h37=>?_) (fun h37=>?_)
 refine rN ?_
 refine ac ?_
 exact xA (.bool false) ⟨false,trivial,rfl⟩
 refine bH ?_
 refine wa [(1,.la 1 0),(3,v3),(5,iv (kW:Int)),(6,iv (jI:Int))] H5 [(1,(fh.cells a0))] ?_ (Eq.trans (b:=[(1,.la 1 0),(3,fi 3 v3),(5,iv (kW:Int)),(6,iv (jI:Int))]) rfl cU)
 refine aL ?_
 refine gy ((jI:Int)) (1) ?_
 refine ab ?_
 exact ⟨by omega,(Eq.trans (b:=[(1,.la 1 0),(3,fi 3 v3),(5,iv (kW:Int)),(6,iv ((jI:Int)+1))]) rfl cU),rfl⟩
 refine aF ?_
 refine wa [(1,.la 1 0),(3,v3),(5,iv (kW:Int))] H5 [(1,(fh.cells a0))] ?_ (Eq.trans (b:=[(1,.la 1 0),(3,fi 3 v3),(5,iv (kW:Int))]) rfl cU)
 refine aL ?_
 refine gy ((kW:Int)) (1) ?_
 refine ab ?_
 exact ⟨by omega,(Eq.trans (b:=[(1,.la 1 0),(3,fi 3 v3),(5,iv ((kW:Int)+1))]) rfl cU),rfl⟩
 refine aF ?_
 refine bc ?_
 have hNk38:=a0.elems.lk
 refine fC (a0.elems.l.length) (fun lA e h=>proj [1,7] e=[(1,.la 1 0),(7,iv (lA:Int))]∧{ h with aq:=fU [1,7] h.aq } = { H5 with aq:=[(1,(fh.cells a0))] }) ?_ (k0:=0) cO ⟨rfl,rfl⟩
 rintro lA e h hkk38 ⟨he,hh⟩
 refine gm he hh ?_
 clear he hh
 refine bb ?_
 have hL39:=a0.elems.lk
 refine gG a0.elems ?_
 refine gl ((lA:Int)) ((a0.elems.l.length:Int)) (fun h40=>?_) (fun h40=>?_)
 refine aG ?_
 refine aB ?_
 have hx41:lA<a0.elems.l.length:=by omega
 refine iU lA a0.elems hx41 ?_
 generalize hqx42:a0.elems.l[lA]=x42
 iterate 2 refine oV ?_
 refine gA (x42.kind) (4) (fun h43=>?_) (fun h43=>?_)
 refine aA ?_
 refine aB ?_
 refine oC (t146 a0 (⟨((lA:Int)),(0)⟩:bY)) ?_
 rintro _ ⟨r45,r46,hc44,rfl⟩
 have hN:=hc44
 cases r46
 refine aO ?_
 refine ai ?_
 refine cB ?_
 refine au ?_
 exact xA (.bool false) ⟨false,trivial,rfl⟩
 refine ca ?_
 iterate 6 refine oV ?_
 refine oC (t147 a0 (r45.elem)) ?_
 rintro _ ⟨r48,hc47,rfl⟩
 refine gA (r48) (4) (fun h49=>?_) (fun h49=>?_)
 refine au ?_
 exact xA (.bool false) ⟨false,trivial,rfl⟩
 refine ci ?_
 refine gy ((lA:Int)) (1) ?_
 refine ab ?_
 exact ⟨by omega,rfl,rfl⟩
 refine az ?_
 refine aL ?_
 refine gy ((lA:Int)) (1) ?_
 refine ab ?_
 exact ⟨by omega,rfl,rfl⟩
 refine cF ?_
 exact xA (.bool true) ⟨true,trivial,rfl⟩
theorem O0:FT 148=some Cb:=by kernel_rfl
theorem Nd:aT 148=none:=by kernel_rfl
def abX (_a0:fh) (_a1:bY) (v:AV):Prop:=∃ r0:Int,(r0=(oi _a0.signals.l _a1).getD (-1))∧v=iv r0
theorem t148 (a0:fh) (a1:bY)  (h:ah):∃ v,fj cfg FT aT false 148 [.agg (fh.cells a0),.agg (bY.cells a1)] h v h∧abX a0 a1 v:=by
 refine fS Nd O0 rfl rfl ?_
 refine bJ ?_
 refine bc ?_
 have hNk1:=a0.signals.lk
 refine fC (a0.signals.l.length) (fun k1 e h=>(jR a1 k1 (a0.signals.l.drop k1)=oi a0.signals.l a1)∧proj [2,3,5] e=[(2,.la 2 0),(3,.la 3 0),(5,iv (k1:Int))]∧{ h with aq:=fU [2,3,5] h.aq } = { ah.empty with aq:=[(2,(fh.cells a0)),(3,(bY.cells a1))] }) ?_ (k0:=0) cO ⟨eR,rfl,rfl⟩
 rintro k1 e h hkk1 ⟨hI,he,hh⟩
 refine gm he hh ?_
 clear he hh
 refine bb ?_
 have hL2:=a0.signals.lk
 refine gG a0.signals ?_
 refine gl ((k1:Int)) ((a0.signals.l.length:Int)) (fun h3=>?_) (fun h3=>?_)
 refine aG ?_
 refine bV ?_
 have hx4:k1<a0.signals.l.length:=by omega
 refine lO k1 a0.signals hx4 ?_
 generalize hqx5:a0.signals.l[k1]=x5
 iterate 3 refine rV ?_
 refine mN rfl rfl (fun _=>sx rfl rfl rfl (fun _ _=>rfl)) (fun h6=>?_) (fun h6=>?_)
 refine rN ?_
 refine qT ?_
 refine bG ?_
 exact xA (iv (k1:Int)) ⟨((k1:Int)),eQ,rfl⟩
 refine bH ?_
 refine aL ?_
 refine gy ((k1:Int)) (1) ?_
 refine ab ?_
 exact ⟨by omega,(by (exact (yk cP cP cP).trans hI)),rfl,rfl⟩
 refine cF ?_
 exact xA (iv (-1)) ⟨(-1),eQ,rfl⟩
theorem To:FT 70=some GR:=by kernel_rfl
theorem N0:aT 70=none:=by kernel_rfl
def P70 (_a0:fh) (v:AV):Prop:=∃ r0:Bool,(True)∧v=.bool r0
theorem t70 (a0:fh)  (h:ah):∃ v,fj cfg FT aT false 70 [.agg (fh.cells a0)] h v h∧P70 a0 v:=by
 refine fS N0 To rfl rfl ?_
 refine aQ ?_
 refine bc ?_
 have hNk1:=a0.signals.lk
 refine fC (a0.signals.l.length) (fun k1 e h=>proj [1,3] e=[(1,.la 1 0),(3,iv (k1:Int))]∧{ h with aq:=fU [1,3] h.aq } = { ah.empty with aq:=[(1,(fh.cells a0))] }) ?_ (k0:=0) cO ⟨rfl,rfl⟩
 rintro k1 e h hkk1 ⟨he,hh⟩
 refine gm he hh ?_
 clear he hh
 refine bb ?_
 have hL2:=a0.signals.lk
 refine gG a0.signals ?_
 refine gl ((k1:Int)) ((a0.signals.l.length:Int)) (fun h3=>?_) (fun h3=>?_)
 refine aG ?_
 refine aB ?_
 have hx4:k1<a0.signals.l.length:=by omega
 refine iU k1 a0.signals hx4 ?_
 generalize hqx5:a0.signals.l[k1]=x5
 refine bM ?_
 refine aB ?_
 refine oC (t147 a0 (x5.at_.elem)) ?_
 rintro _ ⟨r7,hc6,rfl⟩
 refine ab ?_
 refine aW ?_
 refine oC (t145 a0 x5.at_) ?_
 rintro _ ⟨r9,hc8,rfl⟩
 cases r9
 clear hc8
 refine oV ?_
 refine bS ?_
 refine au ?_
 exact xA (.bool false) ⟨false,trivial,rfl⟩
 have hc8t:=hc8 rfl
 iterate 3 refine oV ?_
 refine iJ (r7) (1) (fun h10=>?_) (fun h10=>?_)
 iterate 2 refine oV ?_
 refine iJ (r7) (4) (fun h11=>?_) (fun h11=>?_)
 refine bd ?_
 exact xA (.bool false) ⟨false,trivial,rfl⟩
 refine bA ?_
 refine ae ?_
 refine oC (t146 a0 x5.at_) ?_
 rintro _ ⟨r13,r14,hc12,rfl⟩
 have hN:=hc12
 cases r14
 refine aO ?_
 refine ai ?_
 refine ap ?_
 refine au ?_
 exact xA (.bool false) ⟨false,trivial,rfl⟩
 refine ca ?_
 iterate 6 refine oV ?_
 refine oC (t147 a0 (r13.elem)) ?_
 rintro _ ⟨r16,hc15,rfl⟩
 refine gA (r16) (4) (fun h17=>?_) (fun h17=>?_)
 refine cB ?_
 refine au ?_
 exact xA (.bool false) ⟨false,trivial,rfl⟩
 iterate 4 refine oV ?_
 refine oC (t148 a0 x5.at_) ?_
 rintro _ ⟨r19,hc18,rfl⟩
 have hR:=hc18
 refine oV ?_
 refine iJ (r19) ((k1:Int)) (fun h20=>?_) (fun h20=>?_)
 refine au ?_
 exact xA (.bool false) ⟨false,trivial,rfl⟩
 refine ci ?_
 refine gy ((k1:Int)) (1) ?_
 refine ab ?_
 exact ⟨by omega,rfl,rfl⟩
 refine bg ?_
 refine bA ?_
 refine ae ?_
 refine oC (t146 a0 x5.at_) ?_
 rintro _ ⟨r22,r23,hc21,rfl⟩
 have hN:=hc21
 cases r23
 refine aO ?_
 refine ai ?_
 refine ap ?_
 refine au ?_
 exact xA (.bool false) ⟨false,trivial,rfl⟩
 refine ca ?_
 iterate 6 refine oV ?_
 refine oC (t147 a0 (r22.elem)) ?_
 rintro _ ⟨r25,hc24,rfl⟩
 refine gA (r25) (4) (fun h26=>?_) (fun h26=>?_)
 refine cB ?_
 refine au ?_
 exact xA (.bool false) ⟨false,trivial,rfl⟩
 iterate 4 refine oV ?_
 refine oC (t148 a0 x5.at_) ?_
 rintro _ ⟨r28,hc27,rfl⟩
 have hR:=hc27
 refine oV ?_
 refine iJ (r28) ((k1:Int)) (fun h29=>?_) (fun h29=>?_)
 refine au ?_
 exact xA (.bool false) ⟨false,trivial,rfl⟩
 refine ci ?_
 refine gy ((k1:Int)) (1) ?_
 refine ab ?_
 exact ⟨by omega,rfl,rfl⟩
 refine aF ?_
 refine bc ?_
 have hNk30:=a0.elems.lk
 refine fC (a0.elems.l.length) (fun kY e h=>proj [1,8] e=[(1,.la 1 0),(8,iv (kY:Int))]∧{ h with aq:=fU [1,8] h.aq } = { ah.empty with aq:=[(1,(fh.cells a0))] }) ?_ (k0:=0) cO ⟨rfl,rfl⟩
 rintro kY e h hkk30 ⟨he,hh⟩
 refine gm he hh ?_
 clear he hh
 refine bb ?_
 have hL31:=a0.elems.lk
 refine gG a0.elems ?_
 refine gl ((kY:Int)) ((a0.elems.l.length:Int)) (fun h32=>?_) (fun h32=>?_)
 refine aG ?_
 refine aB ?_
 have hx33:kY<a0.elems.l.length:=by omega
 refine iU kY a0.elems hx33 ?_
 generalize hqx34:a0.elems.l[kY]=x34
 iterate 2 refine oV ?_
 refine gA (x34.kind) (4) (fun h35=>?_) (fun h35=>?_)
 iterate 4 refine oV ?_
 refine oC (t148 a0 (⟨((kY:Int)),(0)⟩:bY)) ?_
 rintro _ ⟨r37,hc36,rfl⟩
 have hR:=hc36
 refine gl (r37) (0) (fun h38=>?_) (fun h38=>?_)
 refine au ?_
 exact xA (.bool false) ⟨false,trivial,rfl⟩
 refine ci ?_
 refine gy ((kY:Int)) (1) ?_
 refine ab ?_
 exact ⟨by omega,rfl,rfl⟩
 refine bi ?_
 refine ci ?_
 refine gy ((kY:Int)) (1) ?_
 refine ab ?_
 exact ⟨by omega,rfl,rfl⟩
 refine cF ?_
 exact xA (.bool true) ⟨true,trivial,rfl⟩
theorem OD:FT 149=some DY:=by kernel_rfl
theorem B2:aT 149=none:=by kernel_rfl
def NI (_a0:fE Int) (_a1:Int) (v:AV):Prop:=∃ r0:Bool,(True)∧v=.bool r0
theorem t149 (a0:fE Int) (a1:Int)  (h:ah):∃ v,fj cfg FT aT false 149 [fE.av fu a0,iv a1] h v h∧NI a0 a1 v:=by
 refine fS B2 OD rfl rfl ?_
 refine aU ?_
 refine bc ?_
 have hNk1:=a0.lk
 refine fC (a0.l.length) (fun k1 e h=>proj [0,1,5] e=[(0,fE.av fu a0),(1,iv a1),(5,iv (k1:Int))]∧{ h with aq:=fU [0,1,5] h.aq } = { ah.empty with aq:=[] }) ?_ (k0:=0) cO ⟨rfl,rfl⟩
 rintro k1 e h hkk1 ⟨he,hh⟩
 refine gm he hh ?_
 clear he hh
 refine aW ?_
 have hL2:=a0.lk
 refine fq rfl (fun _=>jn (r:=a0) (enc:=fu) rfl rfl rfl rfl rfl rfl) ?_
 refine gl ((k1:Int)) ((a0.l.length:Int)) (fun h3=>?_) (fun h3=>?_)
 refine aG ?_
 refine ae ?_
 have hx4:k1<a0.l.length:=by omega
 refine fq rfl (fun _=>jM (n:=k1) (r:=a0) (enc:=fu) rfl rfl rfl rfl rfl hx4 rfl) ?_
 generalize hqx5:a0.l[k1]=x5
 iterate 2 refine oV ?_
 refine gA (x5) (a1) (fun h6=>?_) (fun h6=>?_)
 refine aZ ?_
 exact xA (.bool true) ⟨true,trivial,rfl⟩
 refine az ?_
 refine aL ?_
 refine gy ((k1:Int)) (1) ?_
 refine ab ?_
 exact ⟨by omega,rfl,rfl⟩
 refine cF ?_
 exact xA (.bool false) ⟨false,trivial,rfl⟩
theorem ON:FT 150=some D8:=by kernel_rfl
theorem LF:aT 150=none:=by kernel_rfl
def aas (_a0:fh) (_a1:Row Int) (v:AV):Prop:=∃ r0:Row Int,∃ r1:Bool,(True)∧v=.fz [Row.av fu r0,.bool r1]
theorem t150 (a0:fh) (a1:Row Int) (q1:a1.l.length≤1000) (h:ah):∃ v,fj cfg FT aT false 150 [.agg (fh.cells a0),Row.av fu a1] h v h∧aas a0 a1 v:=by
 refine fS LF ON rfl rfl ?_
 refine ae ?_
 refine ak ?_
 have hL1:=a1.lk
 refine gG a1 ?_
 refine gA ((a1.l.length:Int)) (0) (fun h2=>?_) (fun h2=>?_)
 refine aH ?_
 exact xF (.fz [.sl [] .nil,.bool false]) ⟨(⟨[],.nil,Nat.zero_le _,rfl,fun _=>rfl⟩:Row Int),false,trivial,rfl⟩
 refine az ?_
 refine bc ?_
 have hNk3:=a1.lk
 refine fC (a1.l.length) (fun k3 e h=>proj [1,2,6] e=[(1,Row.av fu a1),(2,.la 2 0),(6,iv (k3:Int))]∧{ h with aq:=fU [1,2,6] h.aq } = { ah.empty with aq:=[(2,(fh.cells a0))] }) ?_ (k0:=0) cO ⟨rfl,rfl⟩
 rintro k3 e h hkk3 ⟨he,hh⟩
 refine gm he hh ?_
 clear he hh
 refine aW ?_
 have hL4:=a1.lk
 refine gG a1 ?_
 refine gl ((k3:Int)) ((a1.l.length:Int)) (fun h5=>?_) (fun h5=>?_)
 refine aG ?_
 refine bV ?_
 have hx6:k3<a1.l.length:=by omega
 refine lO k3 a1 hx6 ?_
 generalize hqx7:a1.l[k3]=x7
 refine rV ?_
 refine rC (t147 a0 (x7)) ?_
 rintro _ ⟨r9,hc8,rfl⟩
 refine ym (r9) (1) (fun h10=>?_) (fun h10=>?_)
 refine rN ?_
 refine qT ?_
 refine bG ?_
 exact xF (.fz [.sl [] .nil,.bool false]) ⟨(⟨[],.nil,Nat.zero_le _,rfl,fun _=>rfl⟩:Row Int),false,trivial,rfl⟩
 refine bH ?_
 refine aL ?_
 refine gy ((k3:Int)) (1) ?_
 refine ab ?_
 exact ⟨by omega,rfl,rfl⟩
 refine aF ?_
 refine bh ?_
 have hL11:=a1.lk
 refine gG a1 ?_
 refine gA ((a1.l.length:Int)) (1) (fun h12=>?_) (fun h12=>?_)
 refine aA ?_
 refine aD ?_
 exact xF (.fz [.sl [[iv 0]] (.exact 1),.bool true]) ⟨(⟨[(0)],.exact 1,Nat.le_of_ble_eq_true rfl,rfl,gU⟩:Row Int),true,trivial,rfl⟩
 refine az ?_
 refine aU ?_
 refine bc ?_
 refine lD (fun m17 e h=>∃ n13:Int,∃ n14:Int,m17=(n14+1).toNat∧(-1≤n14)∧(n14≤1)∧proj [1,2,7,8] e=[(1,Row.av fu a1),(2,.la 2 0),(7,iv n13),(8,iv n14)]∧{ h with aq:=fU [1,2,7,8] h.aq } = { ah.empty with aq:=[(2,(fh.cells a0))] }) ?_ _ _ _ ⟨(-1),(1),rfl,cO,cO,rfl,rfl⟩
 rintro m17 e h ⟨n13,n14,hmm17,hi15,hi16,he,hh⟩
 refine gm he hh ?_
 clear he hh
 refine bh ?_
 refine jg (n14) (0) (fun h18=>?_) (fun h18=>?_)
 refine aG ?_
 refine a6 ?_
 have hx19:0<a1.l.length:=by omega
 refine lO 0 a1 hx19 ?_
 generalize hqx20:a1.l[0]=x20
 iterate 3 refine rV ?_
 refine rC (t146 a0 (⟨(x20),(n14)⟩:bY)) ?_
 rintro _ ⟨r22,r23,hc21,rfl⟩
 have hN:=hc21
 cases r23
 refine br ?_
 refine cf ?_
 refine co ?_
 refine bB ?_
 refine aL ?_
 refine lY (n14) (1) ?_
 refine ab ?_
 refine ⟨_,?_,(n13),(n14 - 1),rfl,cO,cO,rfl,rfl⟩
 omega
 refine br ?_
 refine bR ?_
 have hx24:1<a1.l.length:=by omega
 refine lO 1 a1 hx24 ?_
 generalize hqx25:a1.l[1]=x25
 refine rV ?_
 refine wv (r22.elem) (x25) (fun h26=>?_) (fun h26=>?_)
 refine cE ?_
 refine qg ?_
 refine aw ?_
 refine aL ?_
 refine lY (n14) (1) ?_
 refine ab ?_
 refine ⟨_,?_,(n14),(n14 - 1),rfl,cO,cO,rfl,rfl⟩
 omega
 refine bB ?_
 refine aL ?_
 refine lY (n14) (1) ?_
 refine ab ?_
 refine ⟨_,?_,(n13),(n14 - 1),rfl,cO,cO,rfl,rfl⟩
 omega
 refine aF ?_
 refine bh ?_
 refine gl (n13) (0) (fun h27=>?_) (fun h27=>?_)
 refine aH ?_
 exact xF (.fz [.sl [] .nil,.bool false]) ⟨(⟨[],.nil,Nat.zero_le _,rfl,fun _=>rfl⟩:Row Int),false,trivial,rfl⟩
 refine az ?_
 refine ai ?_
 refine fq rfl (fun _=>gY rfl rfl rfl (nb .i64 (1) (n13))) ?_
 refine aw ?_
 refine bc ?_
 have hS28:=Sep.Kg gI 1 (List.map fu [(IntKind.i64.wrap (1 - (n13)))]) (by intro x hx; obtain ⟨y,_,rfl⟩:=List.mem_map.mp hx; rfl) (k:=1) rfl
 have hNk29:=a1.lk
 refine fC (a1.l.length) (fun ki e h=>∃ v30:AV,∃ l31:List Int,∃ n32:Int,∃ H33:ah,(1≤ki)∧(l31.length≤1+ki)∧Sep H33 (.sl false true v30 1 (List.map fu l31)::[])∧proj [1,2,7,11,12] e=[(1,Row.av fu a1),(2,.la 2 0),(7,iv n32),(11,v30),(12,iv (ki:Int))]∧{ h with aq:=fU [1,2,7,11,12] h.aq } = { H33 with aq:=[(2,(fh.cells a0))] }) ?_ (k0:=1) cO ⟨((.sl (List.map fu [(IntKind.i64.wrap (1 - (n13)))]) (.exact 1))),([(IntKind.i64.wrap (1 - (n13)))]),(n13),ah.empty,cO,dx,hS28,rfl,rfl⟩
 rintro ki e h hkk29 ⟨v30,l31,n32,H33,hw35,hl36,hS34,he,hh⟩
 refine gm he hh ?_
 clear he hh
 refine aW ?_
 have hL37:=a1.lk
 refine gG a1 ?_
 refine gl ((ki:Int)) ((a1.l.length:Int)) (fun h38=>?_) (fun h38=>?_)
 refine b8 ?_
 refine wa [(1,Row.av fu a1),(2,.la 2 0),(7,iv n32),(11,v30),(12,iv (ki:Int))] H33 [(2,(fh.cells a0))] ?_ (Eq.trans (b:=[(1,Row.av fu a1),(2,.la 2 0),(7,iv n32),(11,fi 11 v30),(12,iv (ki:Int))]) rfl dK)
 refine ba ?_
 refine bV ?_
 refine OU ((ki:Int)) (1) ?_
 have hx39:((ki:Int) - 1).toNat<a1.l.length:=by omega
 refine ga rfl rfl (fun _=>gN (n:=(ki:Int) - 1) (r:=a1) (enc:=fu) rfl rfl rfl rfl rfl cO hx39 rfl) ?_
 generalize hqx40:a1.l[((ki:Int) - 1).toNat]=x40
 iterate 3 refine rV ?_
 refine rC (t146 a0 (⟨(x40),(n32)⟩:bY)) ?_
 rintro _ ⟨r42,r43,hc41,rfl⟩
 have hN:=hc41
 cases r43
 refine br ?_
 refine qs ?_
 refine bV ?_
 iterate 7 refine rS ?_
 refine cE ?_
 refine bG ?_
 exact xF (.fz [.sl [] .nil,.bool false]) ⟨(⟨[],.nil,Nat.zero_le _,rfl,fun _=>rfl⟩:Row Int),false,trivial,rfl⟩
 refine br ?_
 refine qs ?_
 refine aK ?_
 iterate 7 refine rV ?_
 have hx44:ki<a1.l.length:=by omega
 refine lO ki a1 hx44 ?_
 generalize hqx45:a1.l[ki]=x45
 refine rV ?_
 refine ym (r42.elem) (x45) (fun h46=>?_) (fun h46=>?_)
 refine cE ?_
 refine bG ?_
 exact xF (.fz [.sl [] .nil,.bool false]) ⟨(⟨[],.nil,Nat.zero_le _,rfl,fun _=>rfl⟩:Row Int),false,trivial,rfl⟩
 refine bB ?_
 refine wa [(1,Row.av fu a1),(2,.la 2 0),(11,v30),(12,iv (ki:Int)),(13,.la 13 0)] H33 [(2,(fh.cells a0)),(13,(bY.cells r42))] ?_ (Eq.trans (b:=[(1,Row.av fu a1),(2,.la 2 0),(11,fi 11 v30),(12,iv (ki:Int)),(13,.la 13 0)]) rfl dK)
 refine be ?_
 refine gd rfl (ib (i:=0) [(r42.en)] hS34 rfl rfl rfl rfl rfl rfl rfl rfl rfl (fun _=>rfl) (.inl rfl) cS (fun _=>rfl)) ?_
 rintro v47 H48 hS49
 refine ab ?_
 refine bC ?_
 refine fq rfl (fun _=>gY rfl rfl rfl (nb .i64 (1) (r42.en))) ?_
 refine ab ?_
 refine wa [(1,Row.av fu a1),(2,.la 2 0),(7,iv (IntKind.i64.wrap (1 - (r42.en)))),(11,v47),(12,iv (ki:Int))] H48 [(2,(fh.cells a0))] ?_ (Eq.trans (b:=[(1,Row.av fu a1),(2,.la 2 0),(7,iv (IntKind.i64.wrap (1 - (r42.en)))),(11,fi 11 v47),(12,iv (ki:Int))]) rfl ee)
 refine aL ?_
 refine gy ((ki:Int)) (1) ?_
 refine ab ?_
 exact ⟨by omega,(v47),((l31++[(r42.en)])),(IntKind.i64.wrap (1 - (r42.en))),H48,cO,cL,hS49,(Eq.trans (b:=[(1,Row.av fu a1),(2,.la 2 0),(7,iv (IntKind.i64.wrap (1 - (r42.en)))),(11,fi 11 v47),(12,iv ((ki:Int)+1))]) rfl ee),rfl⟩
 refine aF ?_
 refine wa [(11,v30)] H33 [] ?_ (Eq.trans (b:=[(11,fi 11 v30)]) rfl dK)
 refine aD ?_
 obtain ⟨r50,hl51,hf52⟩:=gZ (H:=H33) (i:=0) (l:=l31) (enc:=fu) hS34 rfl cH
 have hlq:=hl51; have hln54:=congrArg List.length hl51
 have hz53:∀ m,freeze false { H33 with aq:=[] } (m+2) v30=some (Row.av fu r50):=fun m=>hf52 _ _ (fun _=>rfl)
 exact ⟨.fz [v30,.bool true],(iB (vs:=[v30,.bool true]) rfl (fD (Sep.arg (i:=0) hS34 rfl) (fD rfl gJ))),.fz [Row.av fu r50,.bool true],(show freeze false { H33 with aq:=[] } 8 (.fz [v30,.bool true])=some (.fz [Row.av fu r50,.bool true]) by simp only [FZ,hz53]),r50,true,trivial,rfl⟩
theorem Tp:FT 71=some Ie:=by kernel_rfl
theorem RA:aT 71=none:=by kernel_rfl
def P71 (_a0:fh) (v:AV):Prop:=∃ r0:Bool,(True)∧v=.bool r0
theorem t71 (a0:fh) (q1:jb a0) (h:ah):∃ v,fj cfg FT aT false 71 [.agg (fh.cells a0)] h v h∧P71 a0 v:=by
 refine fS RA Tp rfl rfl ?_
 have q2:=q1.lines
 refine aQ ?_
 refine aU ?_
 refine bc ?_
 have hS1:=Sep.iF gI 1
 have hNk2:=a0.lines.lk
 refine fC (a0.lines.l.length) (fun k2 e h=>∃ v3:AV,∃ l4:List Int,∃ H5:ah,(l4.length≤60*k2)∧Sep H5 (.sl true true v3 1 (List.map fu l4)::[])∧proj [1,3,4] e=[(1,.la 1 0),(3,v3),(4,iv (k2:Int))]∧{ h with aq:=fU [1,3,4] h.aq } = { H5 with aq:=[(1,(fh.cells a0))] }) ?_ (k0:=0) cO ⟨((.sl [] .nil)),(([]:List Int)),ah.empty,ef,hS1,rfl,rfl⟩
 rintro k2 e h hkk2 ⟨v3,l4,H5,hI,hS6,he,hh⟩
 refine gm he hh ?_
 clear he hh
 refine bb ?_
 have hL7:=a0.lines.lk
 refine gG a0.lines ?_
 refine gl ((k2:Int)) ((a0.lines.l.length:Int)) (fun h8=>?_) (fun h8=>?_)
 refine b8 ?_
 refine wa [(1,.la 1 0),(3,v3),(4,iv (k2:Int))] H5 [(1,(fh.cells a0))] ?_ (Eq.trans (b:=[(1,.la 1 0),(3,fi 3 v3),(4,iv (k2:Int))]) rfl cU)
 refine ba ?_
 refine aB ?_
 have hx9:k2<a0.lines.l.length:=by omega
 refine iU k2 a0.lines hx9 ?_
 generalize hqx10:a0.lines.l[k2]=x10
 have hinx10:x10∈a0.lines.l:=by rw [← hqx10]; exact List.getElem_mem _
 have hsx10:=q1.line x10 hinx10
 refine aX ?_
 refine bc ?_
 have hNk11:=x10.elems.lk
 refine fC (x10.elems.l.length) (fun j8 e h=>∃ v12:AV,∃ l13:List Int,∃ H14:ah,(l13.length≤l4.length+j8)∧Sep H14 (.sl true true v12 1 (List.map fu l13)::[])∧proj [1,3,4,5,6] e=[(1,.la 1 0),(3,v12),(4,iv (k2:Int)),(5,Row.av fu x10.elems),(6,iv (j8:Int))]∧{ h with aq:=fU [1,3,4,5,6] h.aq } = { H14 with aq:=[(1,(fh.cells a0))] }) ?_ (k0:=0) cO ⟨(v3),(l4),H5,dx,hS6,(Eq.trans (b:=[(1,.la 1 0),(3,fi 3 v3),(4,iv (k2:Int)),(5,Row.av fu x10.elems),(6,iv 0)]) rfl cU),rfl⟩
 rintro j8 e h hkk11 ⟨v12,l13,H14,hl16,hS15,he,hh⟩
 refine gm he hh ?_
 clear he hh
 refine aW ?_
 have hL17:=x10.elems.lk
 refine gG x10.elems ?_
 refine gl ((j8:Int)) ((x10.elems.l.length:Int)) (fun h18=>?_) (fun h18=>?_)
 refine b8 ?_
 refine wa [(1,.la 1 0),(3,v12),(4,iv (k2:Int)),(5,Row.av fu x10.elems),(6,iv (j8:Int))] H14 [(1,(fh.cells a0))] ?_ (Eq.trans (b:=[(1,.la 1 0),(3,fi 3 v12),(4,iv (k2:Int)),(5,Row.av fu x10.elems),(6,iv (j8:Int))]) rfl dt)
 refine ba ?_
 refine bb ?_
 have hx19:j8<x10.elems.l.length:=by omega
 refine iU j8 x10.elems hx19 ?_
 generalize hqx20:x10.elems.l[j8]=x20
 refine oV ?_
 refine Exists.elim (jv (i:=0) (l:=l13) (enc:=fu) hS15 rfl db) (fun r21 hh=>And.elim (fun hl22 hf23=>?_) hh)
 have hln25:=congrArg List.length hl22
 have hz24:∀ m,freeze true { H14 with aq:=[] } (m+2) v12=some (fE.av fu r21):=fun m=>hf23 [] _ (fun _=>rfl)
 refine kE (args:=[v12,iv x20]) (p:=[]) (r:=[]) (args':=[fE.av fu r21,iv x20]) (R:=NI r21 (x20)) rfl rfl rfl rfl rfl (fD (Sep.arg (i:=0) hS15 rfl) (fD rfl gJ)) rfl B2 (iR (by show gr (freeze true { H14 with aq:=[] } 8) [v12,iv x20] = _; simp only [FZ,hz24]) (fD (Sep.pL (i:=0) hS15 rfl) (fD rfl gJ))) (iR dN (fD rfl (fD rfl gJ))) (fun h=>t149 r21 (x20)  h) ?_
 rintro _ ⟨r27,hc26,rfl⟩
 cases r27
 refine az ?_
 refine wa [(1,.la 1 0),(3,v12),(4,iv (k2:Int)),(5,Row.av fu x10.elems),(6,iv (j8:Int))] H14 [(1,(fh.cells a0))] ?_ (Eq.trans (b:=[(1,.la 1 0),(3,fi 3 v12),(4,iv (k2:Int)),(5,Row.av fu x10.elems),(6,iv (j8:Int))]) rfl dt)
 refine a8 ?_
 have hx28:j8<x10.elems.l.length:=by omega
 refine iU j8 x10.elems hx28 ?_
 rw [hqx20]
 iterate 2 refine oV ?_
 refine gd rfl (ib (i:=0) [(x20)] hS15 rfl rfl rfl rfl rfl rfl rfl rfl rfl (fun _=>rfl) (.inl rfl) cS (fun _=>rfl)) ?_
 rintro v30 H31 hS32
 refine ab ?_
 refine wa [(1,.la 1 0),(3,v30),(4,iv (k2:Int)),(5,Row.av fu x10.elems),(6,iv (j8:Int))] H31 [(1,(fh.cells a0))] ?_ (Eq.trans (b:=[(1,.la 1 0),(3,fi 3 v30),(4,iv (k2:Int)),(5,Row.av fu x10.elems),(6,iv (j8:Int))]) rfl eC)
 refine aL ?_
 refine gy ((j8:Int)) (1) ?_
 refine ab ?_
 exact ⟨by omega,(v30),((l13++[(x20)])),H31,cL,hS32,(Eq.trans (b:=[(1,.la 1 0),(3,fi 3 v30),(4,iv (k2:Int)),(5,Row.av fu x10.elems),(6,iv ((j8:Int)+1))]) rfl eC),rfl⟩
 refine aZ ?_
 exact xA (.bool false) ⟨false,trivial,rfl⟩
 refine aF ?_
 refine wa [(1,.la 1 0),(3,v12),(4,iv (k2:Int)),(5,Row.av fu x10.elems)] H14 [(1,(fh.cells a0))] ?_ (Eq.trans (b:=[(1,.la 1 0),(3,fi 3 v12),(4,iv (k2:Int)),(5,Row.av fu x10.elems)]) rfl dt)
 refine ae ?_
 refine oC (t150 a0 x10.elems cG) ?_
 rintro _ ⟨r34,r35,hc33,rfl⟩
 cases r35
 iterate 4 refine oV ?_
 refine bP ?_
 refine au ?_
 exact xA (.bool false) ⟨false,trivial,rfl⟩
 iterate 4 refine oV ?_
 refine bP ?_
 refine ay ?_
 refine wa [(1,.la 1 0),(3,v12),(4,iv (k2:Int))] H14 [(1,(fh.cells a0))] ?_ (Eq.trans (b:=[(1,.la 1 0),(3,fi 3 v12),(4,iv (k2:Int))]) rfl dt)
 refine aL ?_
 refine gy ((k2:Int)) (1) ?_
 refine ab ?_
 exact ⟨by omega,(v12),(l13),H14,cM,hS15,(Eq.trans (b:=[(1,.la 1 0),(3,fi 3 v12),(4,iv ((k2:Int)+1))]) rfl dt),rfl⟩
 refine cF ?_
 exact xA (.bool true) ⟨true,trivial,rfl⟩
theorem Ro:FT 151=some Co:=by kernel_rfl
theorem Ml:aT 151=none:=by kernel_rfl
def ab2 (_a0:Int) (_a1:Int) (v:AV):Prop:=∃ r0:Int,(True)∧v=iv r0
theorem t151 (a0:Int) (a1:Int)  (h:ah):∃ v,fj cfg FT aT false 151 [iv a0,iv a1] h v h∧ab2 a0 a1 v:=by
 refine fS Ml Ro rfl rfl ?_
 refine aY ?_
 refine gl (a0) (0) (fun h1=>?_) (fun h1=>?_)
 refine bg ?_
 refine aP ?_
 refine aP ?_
 refine au ?_
 exact xA (iv 0) ⟨(0),trivial,rfl⟩
 iterate 2 refine oV ?_
 refine g9 (a0) (60) (fun h2=>?_) (fun h2=>?_)
 refine aP ?_
 refine aP ?_
 refine au ?_
 exact xA (iv 0) ⟨(0),trivial,rfl⟩
 iterate 3 refine oV ?_
 refine gl (a1) (1) (fun h3=>?_) (fun h3=>?_)
 refine aP ?_
 refine au ?_
 exact xA (iv 0) ⟨(0),trivial,rfl⟩
 iterate 3 refine oV ?_
 refine g9 (a1) (10) (fun h4=>?_) (fun h4=>?_)
 refine au ?_
 exact xA (iv 0) ⟨(0),trivial,rfl⟩
 refine ay ?_
 refine aU ?_
 refine aW ?_
 refine lY (a0) (a1) ?_
 refine aC ?_
 refine lD (fun m9 e h=>∃ n5:Int,∃ n6:Int,m9=(n5+10).toNat∧(-10≤n5)∧(n5≤60)∧proj [0,1,5] e=[(0,iv n5),(1,iv a1),(5,iv n6)]∧{ h with aq:=fU [0,1,5] h.aq } = { ah.empty with aq:=[] }) ?_ _ _ _ ⟨(a0 - a1),(0),rfl,cO,cO,rfl,rfl⟩
 rintro m9 e h ⟨n5,n6,hmm9,hi7,hi8,he,hh⟩
 refine gm he hh ?_
 clear he hh
 refine bh ?_
 refine g9 (n5) (0) (fun h10=>?_) (fun h10=>?_)
 refine aG ?_
 refine bC ?_
 refine fq rfl (fun _=>gY rfl rfl rfl (lQ .i64 (n6) (n5))) ?_
 refine ab ?_
 refine bC ?_
 refine lY (n5) (a1) ?_
 refine ab ?_
 refine ⟨_,?_,(n5 - a1),(IntKind.i64.wrap (n6+(n5))),rfl,cO,cO,rfl,rfl⟩
 omega
 refine aF ?_
 refine bG ?_
 exact xA (iv n6) ⟨(n6),trivial,rfl⟩
theorem Qw:FT 152=some Du:=by kernel_rfl
theorem MH:aT 152=none:=by kernel_rfl
def acv (_a0:fh) (_a1:Int) (v:AV):Prop:=∃ r0:Int,(True)∧v=iv r0
theorem t152 (a0:fh) (a1:Int)  (h:ah):∃ v,fj cfg FT aT false 152 [.agg (fh.cells a0),iv a1] h v h∧acv a0 a1 v:=by
 refine fS MH Qw rfl rfl ?_
 refine ai ?_
 refine ak ?_
 refine gl (a1) (0) (fun h1=>?_) (fun h1=>?_)
 refine bi ?_
 refine au ?_
 exact xA (iv 0) ⟨(0),trivial,rfl⟩
 iterate 4 refine oV ?_
 have hL2:=a0.elems.lk
 refine gG a0.elems ?_
 refine jg (a1) ((a0.elems.l.length:Int)) (fun h3=>?_) (fun h3=>?_)
 refine au ?_
 exact xA (iv 0) ⟨(0),trivial,rfl⟩
 refine ay ?_
 refine aB ?_
 have hx4:(a1).toNat<a0.elems.l.length:=by omega
 refine fq rfl (fun _=>gN (n:=a1) (r:=a0.elems) (enc:=gf.cells) rfl rfl rfl rfl rfl cO hx4 rfl) ?_
 generalize hqx5:a0.elems.l[(a1).toNat]=x5
 refine bk ?_
 exact xA (iv x5.len) ⟨(x5.len),trivial,rfl⟩
theorem XH:FT 72=some Gm:=by kernel_rfl
theorem Om:aT 72=none:=by kernel_rfl
def P72 (_a0:fh) (v:AV):Prop:=∃ r0:Bool,(True)∧v=.bool r0
theorem t72 (a0:fh)  (h:ah):∃ v,fj cfg FT aT false 72 [.agg (fh.cells a0)] h v h∧P72 a0 v:=by
 refine fS Om XH rfl rfl ?_
 refine ai ?_
 refine am ?_
 refine aK ?_
 iterate 8 refine rV ?_
 refine rC (t151 (a0.top) (a0.gE)) ?_
 rintro _ ⟨r2,hc1,rfl⟩
 refine ga rfl rfl (fun _=>gY rfl rfl rfl (lQ .i64 (a0.top) (r2))) ?_
 refine o4 (a0.gv) (IntKind.i64.wrap (a0.top+(r2))) (fun h3=>?_) (fun h3=>?_)
 refine rN ?_
 refine ac ?_
 exact xA (.bool false) ⟨false,trivial,rfl⟩
 refine bH ?_
 refine bc ?_
 have hNk4:=a0.signals.lk
 refine fC (a0.signals.l.length) (fun k4 e h=>proj [1,3] e=[(1,.la 1 0),(3,iv (k4:Int))]∧{ h with aq:=fU [1,3] h.aq } = { ah.empty with aq:=[(1,(fh.cells a0))] }) ?_ (k0:=0) cO ⟨rfl,rfl⟩
 rintro k4 e h hkk4 ⟨he,hh⟩
 refine gm he hh ?_
 clear he hh
 refine bb ?_
 have hL5:=a0.signals.lk
 refine gG a0.signals ?_
 refine gl ((k4:Int)) ((a0.signals.l.length:Int)) (fun h6=>?_) (fun h6=>?_)
 refine aG ?_
 refine aB ?_
 have hx7:k4<a0.signals.l.length:=by omega
 refine iU k4 a0.signals hx7 ?_
 generalize hqx8:a0.signals.l[k4]=x8
 refine bM ?_
 refine a6 ?_
 refine rC (t147 a0 (x8.at_.elem)) ?_
 rintro _ ⟨r10,hc9,rfl⟩
 refine wv (r10) (1) (fun h11=>?_) (fun h11=>?_)
 iterate 3 refine rV ?_
 refine rC (t152 a0 (x8.at_.elem)) ?_
 rintro _ ⟨r13,hc12,rfl⟩
 iterate 2 refine rV ?_
 refine o4 (r13) (a0.gv) (fun h14=>?_) (fun h14=>?_)
 refine aV ?_
 refine ac ?_
 exact xA (.bool false) ⟨false,trivial,rfl⟩
 refine bB ?_
 refine aL ?_
 refine gy ((k4:Int)) (1) ?_
 refine ab ?_
 exact ⟨by omega,rfl,rfl⟩
 refine co ?_
 refine bB ?_
 refine aL ?_
 refine gy ((k4:Int)) (1) ?_
 refine ab ?_
 exact ⟨by omega,rfl,rfl⟩
 refine aF ?_
 refine bc ?_
 have hNk15:=a0.elems.lk
 refine fC (a0.elems.l.length) (fun nu e h=>proj [1,5] e=[(1,.la 1 0),(5,iv (nu:Int))]∧{ h with aq:=fU [1,5] h.aq } = { ah.empty with aq:=[(1,(fh.cells a0))] }) ?_ (k0:=0) cO ⟨rfl,rfl⟩
 rintro nu e h hkk15 ⟨he,hh⟩
 refine gm he hh ?_
 clear he hh
 refine bb ?_
 have hL16:=a0.elems.lk
 refine gG a0.elems ?_
 refine gl ((nu:Int)) ((a0.elems.l.length:Int)) (fun h17=>?_) (fun h17=>?_)
 refine aG ?_
 refine bV ?_
 have hx18:nu<a0.elems.l.length:=by omega
 refine lO nu a0.elems hx18 ?_
 generalize hqx19:a0.elems.l[nu]=x19
 iterate 2 refine rV ?_
 refine ym (x19.kind) (4) (fun h20=>?_) (fun h20=>?_)
 iterate 4 refine rV ?_
 have hx21:nu<a0.elems.l.length:=by omega
 refine lO nu a0.elems hx21 ?_
 rw [hqx19]
 iterate 4 refine rV ?_
 refine o4 (x19.len) (a0.top) (fun h23=>?_) (fun h23=>?_)
 refine aV ?_
 refine ac ?_
 exact xA (.bool false) ⟨false,trivial,rfl⟩
 refine bB ?_
 refine aL ?_
 refine gy ((nu:Int)) (1) ?_
 refine ab ?_
 exact ⟨by omega,rfl,rfl⟩
 refine rV ?_
 iterate 9 refine rS ?_
 refine bB ?_
 refine aL ?_
 refine gy ((nu:Int)) (1) ?_
 refine ab ?_
 exact ⟨by omega,rfl,rfl⟩
 refine cF ?_
 exact xA (.bool true) ⟨true,trivial,rfl⟩
theorem XJ:FT 29=some IN:=by kernel_rfl
theorem Rs:aT 29=none:=by kernel_rfl
def P29 (_a0:fh) (v:AV):Prop:=∃ r0:Int,(True)∧v=iv r0
theorem t29 (a0:fh) (q1:jb a0) (h:ah):∃ v,fj cfg FT aT false 29 [.agg (fh.cells a0)] h v h∧P29 a0 v:=by
 refine fS Rs XJ rfl rfl ?_
 have q2:=q1.elems; have q3:=q1.signals; have q4:=q1.lines
 refine aQ ?_
 refine aW ?_
 have hL1:=a0.elems.lk
 refine gG a0.elems ?_
 refine g9 ((a0.elems.l.length:Int)) (40) (fun h2=>?_) (fun h2=>?_)
 refine bm ?_
 refine aE ?_
 refine bz ?_
 exact xA (iv 3) ⟨(3),trivial,rfl⟩
 iterate 3 refine oV ?_
 have hL3:=a0.signals.lk
 refine gG a0.signals ?_
 refine g9 ((a0.signals.l.length:Int)) (24) (fun h4=>?_) (fun h4=>?_)
 refine aE ?_
 refine bz ?_
 exact xA (iv 3) ⟨(3),trivial,rfl⟩
 iterate 4 refine oV ?_
 have hL5:=a0.lines.lk
 refine gG a0.lines ?_
 refine g9 ((a0.lines.l.length:Int)) (4) (fun h6=>?_) (fun h6=>?_)
 refine bz ?_
 exact xA (iv 3) ⟨(3),trivial,rfl⟩
 iterate 4 refine oV ?_
 have hL7:=a0.fQ.lk
 refine gG a0.fQ ?_
 refine g9 ((a0.fQ.l.length:Int)) (80) (fun h8=>?_) (fun h8=>?_)
 refine au ?_
 exact xA (iv 3) ⟨(3),trivial,rfl⟩
 refine ay ?_
 refine ai ?_
 refine oC (t66 a0 cG) ?_
 rintro _ ⟨r10,r11,r12,hc9,rfl⟩
 refine oV ?_
 refine aO ?_
 refine ba ?_
 refine ai ?_
 refine oC (t67 a0) ?_
 rintro _ ⟨r14,hc13,rfl⟩
 cases r14
 refine bd ?_
 exact xA (iv 1) ⟨(1),trivial,rfl⟩
 refine aw ?_
 refine cr ?_
 refine oC (t68 r10) ?_
 rintro _ ⟨r16,hc15,rfl⟩
 cases r16
 iterate 2 refine oV ?_
 refine oC (t68 r11) ?_
 rintro _ ⟨r18,hc17,rfl⟩
 cases r18
 iterate 3 refine oV ?_
 refine oC (t68 r12) ?_
 rintro _ ⟨r20,hc19,rfl⟩
 cases r20
 refine aw ?_
 refine cr ?_
 refine oC (t69 a0 cG) ?_
 rintro _ ⟨r22,hc21,rfl⟩
 cases r22
 refine bd ?_
 exact xA (iv 6) ⟨(6),trivial,rfl⟩
 refine aw ?_
 refine cr ?_
 refine oC (t70 a0) ?_
 rintro _ ⟨r24,hc23,rfl⟩
 cases r24
 refine bd ?_
 exact xA (iv 7) ⟨(7),trivial,rfl⟩
 refine aw ?_
 refine cr ?_
 refine oC (t71 a0 cG) ?_
 rintro _ ⟨r26,hc25,rfl⟩
 cases r26
 refine bd ?_
 exact xA (iv 8) ⟨(8),trivial,rfl⟩
 refine aw ?_
 refine cr ?_
 refine oC (t72 a0) ?_
 rintro _ ⟨r28,hc27,rfl⟩
 cases r28
 refine bd ?_
 exact xA (iv 9) ⟨(9),trivial,rfl⟩
 refine bA ?_
 refine bu ?_
 exact xA (iv 0) ⟨(0),trivial,rfl⟩
 refine bd ?_
 exact xA (iv 4) ⟨(4),trivial,rfl⟩
 refine aP ?_
 refine bd ?_
 exact xA (iv 4) ⟨(4),trivial,rfl⟩
 refine bg ?_
 refine aP ?_
 refine bd ?_
 exact xA (iv 4) ⟨(4),trivial,rfl⟩
theorem Wq:FT 12=some Iv:=by kernel_rfl
theorem QN:aT 12=none:=by kernel_rfl
def abZ (_a0:fh) (v:AV):Prop:=∃ r0:Bool,((r0=true→jb _a0))∧v=.bool r0
theorem QE (a0:fh)  (h:ah):∃ v,fj cfg FT aT false 12 [.agg (fh.cells a0)] h v h∧abZ a0 v:=by
 refine fS QN Wq rfl rfl ?_
 refine ai ?_
 refine bP ?_
 refine oC (t28 a0) ?_
 rintro _ ⟨r2,hc1,rfl⟩
 cases r2
 clear hc1
 refine bD ?_
 refine aS ?_
 exact xA (.bool false) ⟨false,eO,rfl⟩
 have hc1t:=hc1 rfl
 iterate 2 refine oV ?_
 refine oC (t29 a0 cG) ?_
 rintro _ ⟨r4,hc3,rfl⟩
 refine gA (r4) (0) (fun h5=>?_) (fun h5=>?_)
 refine aS ?_
 exact xA (.bool true) ⟨true,eO,rfl⟩
 refine aS ?_
 exact xA (.bool false) ⟨false,eO,rfl⟩
def P12 (_a0:fh) (v:AV):Prop:=∃ r0:Bool,(((r0=true→jb _a0))∧rs 12 [.agg (fh.cells _a0)]=.bool r0)∧v=.bool r0
theorem t12 (a0:fh)  (h:ah):∃ v,fj cfg FT aT false 12 [.agg (fh.cells a0)] h v h∧P12 a0 v:=by
 obtain ⟨v,hc,hP,hr⟩:=kg mQ (QE a0) h
 obtain ⟨r0,hp,rfl⟩:=hP
 exact ⟨_,hc,r0,⟨hp,hr⟩,rfl⟩
theorem Zk (a0:fh)  {V:AV} (hV:rs 12 [.agg (fh.cells a0)]=V) (h:ah):∃ v,fj cfg FT aT false 12 [.agg (fh.cells a0)] h v h∧v=V:=by
 obtain ⟨v,hc,hP,hr⟩:=kg mQ (QE a0) h
 exact ⟨v,hc,hr.symm.trans hV⟩
theorem aao:FT 5=some Pw:=by kernel_rfl
theorem WQ:aT 5=none:=by kernel_rfl
def P5 (_a0:fh) (v:AV):Prop:=∃ r0:gb,∃ r1:Bool,((r1=true→jb _a0∧r0.roads.l.length≤64∧(r0.fo = _a0.canon∧∃ n:fk,mW n _a0∧rs 24 [.agg (fh.cells _a0)]=.fz [.ip (fk.cells n) 0 false,iv 0])∧rs 13 [.agg (fh.cells _a0)]=.fz [.agg (gb.cells r0),iv 0]∧rs 12 [.agg (fh.cells _a0)]=.bool true))∧v=.fz [.agg (gb.cells r0),.bool r1]
theorem t5 (a0:fh)  (h:ah):∃ v,fj cfg FT aT false 5 [.agg (fh.cells a0)] h v h∧P5 a0 v:=by
 refine fS WQ aao rfl rfl ?_
 refine ae ?_
 refine ak ?_
 refine oC (t12 a0) ?_
 rintro _ ⟨r2,⟨hc1,hc1r⟩,rfl⟩
 have hFr:=hc1r
 cases r2
 clear hc1
 refine bp ?_
 exact xF (.fz [.agg [.sl [] .nil,.sl [] .nil,.sl [] .nil,.sl [] .nil,iv 0,iv 0,iv 0,iv 0,.bool false,.sl [] .nil],.bool false]) ⟨(⟨(⟨(⟨[],.nil,Nat.zero_le _,rfl,fun _=>rfl⟩:Row gf),(⟨[],.nil,Nat.zero_le _,rfl,fun _=>rfl⟩:Row gj),(⟨[],.nil,Nat.zero_le _,rfl,fun _=>rfl⟩:Row gg),(⟨[],.nil,Nat.zero_le _,rfl,fun _=>rfl⟩:Row fY),(0),(0),(0),(0),false⟩:fh),(⟨[],.nil,Nat.zero_le _,rfl,fun _=>rfl⟩:Row fP)⟩:gb),false,dI,rfl⟩
 have hc1t:=hc1 rfl
 refine ay ?_
 refine ai ?_
 refine oC (t13 a0 cG) ?_
 rintro _ ⟨r4,r5,⟨hc3,hc3r⟩,rfl⟩
 have hBd:=hc3; have hBr:=hc3r
 refine aO ?_
 refine ae ?_
 refine gA (r5) (0) (fun h6=>?_) (fun h6=>?_)
 refine aS ?_
 exact xF (.fz [.agg (gb.cells r4),.bool true]) ⟨r4,true,dI,rfl⟩
 refine aS ?_
 exact xF (.fz [.agg (gb.cells r4),.bool false]) ⟨r4,false,dI,rfl⟩
theorem aax:FT 6=some OQ:=by kernel_rfl
theorem VH:aT 6=none:=by kernel_rfl
def P6 (_a0:gp) (v:AV):Prop:=∃ r0:Bool,(True)∧v=.bool r0
theorem t6 (a0:gp)  (h:ah):∃ v,fj cfg FT aT false 6 [.agg (gp.cells a0)] h v h∧P6 a0 v:=by
 refine fS VH aax rfl rfl ?_
 refine aQ ?_
 refine aW ?_
 have hL1:=a0.fV.lk
 refine gG a0.fV ?_
 refine g9 ((a0.fV.l.length:Int)) (10) (fun h2=>?_) (fun h2=>?_)
 refine bm ?_
 refine au ?_
 exact xA (.bool false) ⟨false,trivial,rfl⟩
 iterate 3 refine oV ?_
 have hL3:=a0.runs.lk
 refine gG a0.runs ?_
 refine g9 ((a0.runs.l.length:Int)) (12) (fun h4=>?_) (fun h4=>?_)
 refine au ?_
 exact xA (.bool false) ⟨false,trivial,rfl⟩
 refine ay ?_
 refine aW ?_
 have hL5:=a0.runs.lk
 refine gG a0.runs ?_
 refine aC ?_
 have hNk6:=a0.runs.lk
 refine fC (a0.runs.l.length) (fun k6 e h=>proj [1,18,19,20] e=[(1,.la 1 0),(18,Row.av gK.cells a0.runs),(19,iv (a0.runs.l.length:Int)),(20,iv (k6:Int))]∧{ h with aq:=fU [1,18,19,20] h.aq } = { ah.empty with aq:=[(1,(gp.cells a0))] }) ?_ (k0:=0) cO ⟨rfl,rfl⟩
 rintro k6 e h hkk6 ⟨he,hh⟩
 refine gm he hh ?_
 clear he hh
 refine aa ?_
 refine gl ((k6:Int)) ((a0.runs.l.length:Int)) (fun h7=>?_) (fun h7=>?_)
 refine bI ?_
 have hx8:k6<a0.runs.l.length:=by omega
 refine iU k6 a0.runs hx8 ?_
 generalize hqx9:a0.runs.l[k6]=x9
 refine aX ?_
 refine ae ?_
 have hL10:=x9.gW.lk
 refine gG x9.gW ?_
 refine g9 ((x9.gW.l.length:Int)) (20) (fun h11=>?_) (fun h11=>?_)
 refine bm ?_
 refine au ?_
 exact xA (.bool false) ⟨false,trivial,rfl⟩
 iterate 4 refine oV ?_
 refine g9 ((x9.name.l.length:Int)) (100) (fun h12=>?_) (fun h12=>?_)
 refine au ?_
 exact xA (.bool false) ⟨false,trivial,rfl⟩
 refine bW ?_
 refine gy ((k6:Int)) (1) ?_
 refine ab ?_
 exact ⟨by omega,rfl,rfl⟩
 refine aj ?_
 refine aW ?_
 have hL13:=a0.fV.lk
 refine gG a0.fV ?_
 refine aC ?_
 have hNk14:=a0.fV.lk
 refine fC (a0.fV.l.length) (fun gh e h=>proj [36,37,38] e=[(36,Row.av fK.cells a0.fV),(37,iv (a0.fV.l.length:Int)),(38,iv (gh:Int))]∧{ h with aq:=fU [36,37,38] h.aq } = { ah.empty with aq:=[] }) ?_ (k0:=0) cO ⟨rfl,rfl⟩
 rintro gh e h hkk14 ⟨he,hh⟩
 refine gm he hh ?_
 clear he hh
 refine aa ?_
 refine gl ((gh:Int)) ((a0.fV.l.length:Int)) (fun h15=>?_) (fun h15=>?_)
 refine bI ?_
 have hx16:gh<a0.fV.l.length:=by omega
 refine iU gh a0.fV hx16 ?_
 generalize hqx17:a0.fV.l[gh]=x17
 refine aX ?_
 refine aB ?_
 refine g9 ((x17.name.l.length:Int)) (100) (fun h18=>?_) (fun h18=>?_)
 refine aZ ?_
 exact xA (.bool false) ⟨false,trivial,rfl⟩
 refine bN ?_
 refine gy ((gh:Int)) (1) ?_
 refine ab ?_
 exact ⟨by omega,rfl,rfl⟩
 refine aN ?_
 exact xA (.bool true) ⟨true,trivial,rfl⟩
theorem T4:FT 39=some HW:=by kernel_rfl
theorem RR:aT 39=none:=by kernel_rfl
theorem u39 {H:ah} (a0:fE fZ) (F:List gH) (hS:Sep H (F)) (q1:a0.l.length≤1000):∃ v H',fj cfg FT aT true 39 [fE.av fZ.cells a0] { H with aq:=[] } v H'∧(∃ ov:AV,∃ ol:List fZ,(ol=a0.l)∧Sep H' (.sl true true ov 4 (List.map fZ.cells ol)::F)∧v=ov):=by
 refine gB RR T4 rfl ?_
 refine aY ?_
 refine ik (b:=a0.isNil) rfl (fun _=>kT rfl rfl rfl rfl) (fun h1=>?_) (fun h1=>?_)
 refine aZ ?_
 have hS2:=Sep.iF hS 4
 have hS3:=Sep.pick hS2 [0] 1 cK cK
 exact ⟨(.sl [] .nil),rfl,(.sl [] .nil),([]:List fZ),d3,Sep.aq hS3 _,rfl⟩
 refine bE ?_
 have hS4:=Sep.mF hS 4
 refine gd rfl (ib (H:=H) (i:=0) (l:=([]:List fZ)) (enc:=fZ.cells) a0.l hS4 rfl rfl rfl rfl rfl rfl rfl rfl rfl (fun _=>rfl) (.inl rfl) cS (fun _=>rfl)) ?_
 rintro v5 H6 hS7
 refine af ?_
 have hS8:=Sep.pick hS7 [0] 1 cK cK
 exact ⟨v5,(iB (vs:=[v5]) rfl (fD (Sep.arg (i:=0) hS7 rfl) gJ)),v5,(([]:List fZ)++a0.l),d3,Sep.aq hS8 _,rfl⟩
theorem TR:FT 40=some GO:=by kernel_rfl
theorem Pb:aT 40=none:=by kernel_rfl
def P40 (_a0:fE Bool) (v:AV):Prop:=∃ r0:Row Bool,(r0.l = _a0.l)∧v=Row.av mw r0
theorem t40 (a0:fE Bool) (q1:a0.l.length≤1000) (h:ah):∃ v,fj cfg FT aT false 40 [fE.av mw a0] h v h∧P40 a0 v:=by
 refine fS Pb TR rfl rfl ?_
 refine aY ?_
 refine ik (b:=a0.isNil) rfl (fun _=>kT rfl rfl rfl rfl) (fun h1=>?_) (fun h1=>?_)
 refine aZ ?_
 exact xF (.sl [] .nil) ⟨(⟨[],.nil,Nat.zero_le _,rfl,fun _=>rfl⟩:Row Bool),dm,rfl⟩
 refine bE ?_
 have hS2:=Sep.mF gI 1
 refine gd rfl (ib (i:=0) (l:=([]:List Bool)) (enc:=mw) a0.l hS2 rfl rfl rfl rfl rfl rfl rfl rfl rfl (fun _=>rfl) (.inl rfl) cS (fun _=>rfl)) ?_
 rintro v3 H4 hS5
 refine af ?_
 obtain ⟨r6,hl7,hf8⟩:=gZ (H:=H4) (i:=0) (l:=(([]:List Bool)++a0.l)) (enc:=mw) hS5 rfl cH
 have hlq:=hl7; have hln10:=congrArg List.length hl7
 have hz9:∀ m,freeze false { H4 with aq:=[] } (m+2) v3=some (Row.av mw r6):=fun m=>hf8 _ _ (fun _=>rfl)
 exact ⟨v3,(iB (vs:=[v3]) rfl (fD (Sep.arg (i:=0) hS5 rfl) gJ)),Row.av mw r6,(show freeze false { H4 with aq:=[] } 8 v3=some (Row.av mw r6) by simp only [FZ,hz9]),r6,dm,rfl⟩
theorem SM:FT 18=some Hs:=by kernel_rfl
theorem Rz:aT 18=none:=by kernel_rfl
def P18 (c:gb) (lv:Row fZ) (ke:Int) (nn:fk) (sp:Row Int) (v:AV):Prop:=∃ r0:Row fZ,(r0.l.length=lv.l.length∧∀ x∈r0.l,x.seen.l.length≤1000)∧v=Row.av fZ.cells r0
theorem t18 (c:gb) (lv:Row fZ) (ke:Int) (nn:fk) (sp:Row Int) (q1:lv.l.length≤64) (q2:sp.l.length≤60) (q3:∀ x∈lv.l,x.seen.l.length≤1000) (h:ah):∃ v,fj cfg FT aT false 18 [kK c lv ke nn sp] h v h∧P18 c lv ke nn sp v:=by
 refine fS Rz SM rfl rfl ?_
 refine aU ?_
 refine be ?_
 refine gC (H:=ah.empty) (args:=[Row.av fZ.cells lv]) (p:=[]) (r:=[]) rfl rfl rfl rfl rfl rfl rfl (u39 (Row.j6 lv) ([]) gI cG) ?_
 rintro ov5 H2 ⟨_,ol6,hc4,hS3,rfl⟩
 have hqF:ol6.length=(Row.j6 lv).l.length:=by rw [hc4]
 simp only [Row.j6] at hqF
 have hOl:=hc4
 refine ak ?_
 refine fq rfl (fun _=>jT (i:=0) hS3 rfl rfl rfl rfl rfl rfl rfl) ?_
 refine aC ?_
 refine fC (ol6.length) (fun k7 e h=>∃ v8:AV,∃ l9:List fZ,∃ H10:ah,(l9.length=lv.l.length)∧(∀ x∈l9,x.seen.l.length≤1000)∧Sep H10 (.sl true true v8 4 (List.map fZ.cells l9)::[])∧proj [3,11,12] e=[(3,v8),(11,iv (ol6.length:Int)),(12,iv (k7:Int))]∧{ h with aq:=fU [3,11,12] h.aq } = { H10 with aq:=[] }) ?_ (k0:=0) cO ⟨(ov5),(ol6),H2,(by (rw [hOl]; rfl)),(by (rw [hOl]; exact q3)),hS3,(Eq.trans (b:=[(3,fi 3 ov5),(11,iv (ol6.length:Int)),(12,iv 0)]) rfl eF),rfl⟩
 rintro k7 e h hkk7 ⟨v8,l9,H10,hL,hE,hS11,he,hh⟩
 refine gm he hh ?_
 clear he hh
 refine aa ?_
 refine gl ((k7:Int)) ((ol6.length:Int)) (fun h12=>?_) (fun h12=>?_)
 refine aM ?_
 refine wa [(3,v8),(11,iv (ol6.length:Int)),(12,iv (k7:Int))] H10 [] ?_ (Eq.trans (b:=[(3,fi 3 v8),(11,iv (ol6.length:Int)),(12,iv (k7:Int))]) rfl dB)
 refine ba ?_
 refine aQ ?_
 refine cC ?_
 have hx13:k7<l9.length:=by first | omega | (simp<;>omega) | (simp_all; omega)
 obtain ⟨x14,hqx14⟩:∃ x,l9[k7]=x:=⟨_,rfl⟩
 have hinx14:x14∈l9:=by rw [← hqx14]; exact List.getElem_mem _
 have hsx14:=hE _ hinx14
 refine kz rfl (ji (i:=0) (m:=k7) (cs:=fZ.cells x14) hS11 rfl rfl rfl rfl rfl rfl rfl (iq hx13 hqx14)) ?_
 rintro a15 ⟨ha16,hea17⟩
 refine fq rfl (fun _=>EA.w4 hea17 rfl rfl rfl ha16) ?_
 refine fq rfl (fun _=>ko (i:=0) (m:=k7) (o:=3) (r:=Row.av mw x14.seen) (cs:=fZ.cells x14) hS11 rfl (iq hx13 hqx14) hea17 rfl rfl rfl) ?_
 refine oC (t40 (Row.j6 x14.seen) cG) ?_
 rintro _ ⟨r19,hc18,rfl⟩
 have hCb:=congrArg List.length hc18; try simp only [Row.j6] at hCb
 have hx20:k7<l9.length:=by first | omega | (simp<;>omega) | (simp_all; omega)
 refine kz rfl (ji (i:=0) (m:=k7) (cs:=fZ.cells x14) hS11 rfl rfl rfl rfl rfl rfl rfl (iq hx20 hqx14)) ?_
 rintro a21 ⟨ha22,hea23⟩
 refine fq rfl (fun _=>EA.w4 hea23 rfl rfl rfl ha22) ?_
 refine gd rfl (od (i:=0) (m:=k7) (o:=3) x14 (⟨(x14.state),(x14.front),(x14.off),r19⟩:fZ) hS11 rfl hx20 hqx14 hea23 rfl rfl rfl rfl rfl rfl) ?_
 rintro _ H24 ⟨rfl,hS25⟩
 refine oN ?_
 refine wa [(3,v8),(11,iv (ol6.length:Int)),(12,iv (k7:Int))] H24 [] ?_ (Eq.trans (b:=[(3,fi 3 v8),(11,iv (ol6.length:Int)),(12,iv (k7:Int))]) rfl dA)
 refine qg ?_
 refine gy ((k7:Int)) (1) ?_
 refine ab ?_
 exact ⟨by omega,(v8),((l9.set k7 (⟨(x14.state),(x14.front),(x14.off),r19⟩:fZ))),H24,d4,eT,hS25,(Eq.trans (b:=[(3,fi 3 v8),(11,iv (ol6.length:Int)),(12,iv ((k7:Int)+1))]) rfl dA),rfl⟩
 refine aj ?_
 refine wa [(3,v8)] H10 [] ?_ (Eq.trans (b:=[(3,fi 3 v8)]) rfl dB)
 refine bG ?_
 obtain ⟨r26,hl27,hf28⟩:=gZ (H:=H10) (i:=0) (l:=l9) (enc:=fZ.cells) hS11 rfl cH
 have hlq:=hl27; have hln30:=congrArg List.length hl27
 have hz29:∀ m,freeze false { H10 with aq:=[] } (m+2) v8=some (Row.av fZ.cells r26):=fun m=>hf28 _ _ (fun _=>by simp only [fZ.cells,gr,jC,ju,jK,jH,j1])
 exact ⟨v8,(iB (vs:=[v8]) rfl (fD (Sep.arg (i:=0) hS11 rfl) gJ)),Row.av fZ.cells r26,(show freeze false { H10 with aq:=[] } 8 v8=some (Row.av fZ.cells r26) by simp only [FZ,hz29]),r26,(by first | exact ⟨by simp_all,by simp_all⟩ | (simp_all; done)),rfl⟩
theorem M2:aT 200=some mG:=by rfl
def ZK (v:AV):Prop:=(True∧v=.fm (gn iK pK []) false)
theorem t200 (h:ah):∃ v,fj cfg FT aT false 200 [.fm (gn iK pK []) false] h v h∧ZK v:=by
 refine ⟨_,⟨1,fun k hk=>?_⟩,trivial,rfl⟩
 cases k with
 | zero=>omega
 | succ k=>simp only [jt,M2]; rfl
theorem LB:aT 201=some mG:=by rfl
def acK (v:AV):Prop:=(True∧v=.fm (gn iK pK []) false)
theorem t201 (h:ah):∃ v,fj cfg FT aT false 201 [.fm (gn iK pK []) false] h v h∧acK v:=by
 refine ⟨_,⟨1,fun k hk=>?_⟩,trivial,rfl⟩
 cases k with
 | zero=>omega
 | succ k=>simp only [jt,LB]; rfl
theorem NK:FT 169=some Ey:=by kernel_rfl
theorem MY:aT 169=none:=by kernel_rfl
def abG (e:Int) (v:AV):Prop:=(∃ e0:Int,(True)∧v=jX e0)
theorem t169 (e:Int)  (h:ah):∃ v,fj cfg FT aT false 169 [jX e] h v h∧abG e v:=by
 refine fS MY NK rfl rfl ?_
 refine aU ?_
 refine aK ?_
 iterate 20 refine rV ?_
 refine rC (t200) ?_
 rintro _ (⟨hc1,rfl⟩)
 refine rC (t200) ?_
 rintro _ (⟨hc2,rfl⟩)
 refine rC (t201) ?_
 rintro _ (⟨hc3,rfl⟩)
 refine rC (t201) ?_
 rintro _ (⟨hc4,rfl⟩)
 refine rV ?_
 refine gS (H:=ah.empty) rfl rfl (iz (cs:=[iv e,.fm (gn iK pK []) false,.fm (gn iK pK []) false,.fm (gn iK pK []) false,.fm (gn iK pK []) false]) gI rfl rfl rfl rfl rfl) ?_
 rintro _ H6 ⟨b5,rfl,hS7⟩
 refine aV ?_
 refine qr ?_
 have hz8:∀ ls m,freeze false { H6 with aq:=ls } (m+4) (.ptr b5 0 0 0)=some (jX e):=fun ls m=>iS (i:=0) hS7 rfl _ _ dN
 have hff9:freeze false { H6 with aq:=[] } 8 (.ptr b5 0 0 0)=some (jX e):=by simp only [FZ,hz8]
 refine ⟨(.ptr b5 0 0 0),rfl,jX e,hff9,⟨(e),trivial,rfl⟩⟩
theorem T8:FT 93=some Hk:=by kernel_rfl
theorem QA:aT 93=none:=by kernel_rfl
def P93 (c:gb) (lv:Row fZ) (ke:Int) (nn:fk) (sp:Row Int) (v:AV):Prop:=(∃ e0:Int,(True)∧v=jX e0)
theorem t93 (c:gb) (lv:Row fZ) (ke:Int) (nn:fk) (sp:Row Int)  (h:ah):∃ v,fj cfg FT aT false 93 [kK c lv ke nn sp] h v h∧P93 c lv ke nn sp v:=by
 refine fS QA T8 rfl rfl ?_
 refine aU ?_
 refine be ?_
 refine oC (t169 (ke)) ?_
 rintro _ (⟨r2,hc1,rfl⟩)
 refine af ?_
 refine xF (jX r2) ⟨(r2),trivial,rfl⟩
theorem UC (n:fk) (k:Nat) (h:ah):jt cfg FT aT (k+12) false 172 [.ip [.ip n.cells 0 false,.fm [] false] 0 false] h=some (.ip [.ip n.cells 0 false,.fm [] false] 0 false,h):=by kernel_rfl
def Zf (_nt:fk) (v:AV):Prop:=(∃ n0:fk,(True)∧v=jW n0)
theorem t172 (n:fk) (h:ah):∃ v,fj cfg FT aT false 172 [jW n] h v h∧Zf n v :=
 ⟨_,⟨12,fun k hk=>by obtain ⟨j,rfl⟩:=Nat.exists_eq_add_of_le' hk; exact UC n j h⟩,n,trivial,rfl⟩
theorem SS:FT 98=some Ig:=by kernel_rfl
theorem Ns:aT 98=none:=by kernel_rfl
def P98 (c:gb) (lv:Row fZ) (ke:Int) (nn:fk) (sp:Row Int) (v:AV):Prop:=(∃ n0:fk,(True)∧v=jW n0)
theorem t98 (c:gb) (lv:Row fZ) (ke:Int) (nn:fk) (sp:Row Int)  (h:ah):∃ v,fj cfg FT aT false 98 [kK c lv ke nn sp] h v h∧P98 c lv ke nn sp v:=by
 refine fS Ns SS rfl rfl ?_
 refine aU ?_
 refine be ?_
 refine oC (t172 nn) ?_
 rintro _ (⟨r2,hc1,rfl⟩)
 refine af ?_
 refine xF (jW r2) ⟨r2,trivial,rfl⟩
theorem Ug:FT 95=some Ck:=by kernel_rfl
theorem QJ:aT 95=none:=by kernel_rfl
def P95 (_a0:fE Int) (v:AV):Prop:=∃ r0:Row Int,(r0.l = _a0.l)∧v=Row.av fu r0
theorem t95 (a0:fE Int) (q1:a0.l.length≤1000) (h:ah):∃ v,fj cfg FT aT false 95 [fE.av fu a0] h v h∧P95 a0 v:=by
 refine fS QJ Ug rfl rfl ?_
 refine aY ?_
 refine ik (b:=a0.isNil) rfl (fun _=>kT rfl rfl rfl rfl) (fun h1=>?_) (fun h1=>?_)
 refine aZ ?_
 exact xF (.sl [] .nil) ⟨(⟨[],.nil,Nat.zero_le _,rfl,fun _=>rfl⟩:Row Int),dm,rfl⟩
 refine bE ?_
 have hS2:=Sep.mF gI 1
 refine gd rfl (ib (i:=0) (l:=([]:List Int)) (enc:=fu) a0.l hS2 rfl rfl rfl rfl rfl rfl rfl rfl rfl (fun _=>rfl) (.inl rfl) cS (fun _=>rfl)) ?_
 rintro v3 H4 hS5
 refine af ?_
 obtain ⟨r6,hl7,hf8⟩:=gZ (H:=H4) (i:=0) (l:=(([]:List Int)++a0.l)) (enc:=fu) hS5 rfl cH
 have hlq:=hl7; have hln10:=congrArg List.length hl7
 have hz9:∀ m,freeze false { H4 with aq:=[] } (m+2) v3=some (Row.av fu r6):=fun m=>hf8 _ _ (fun _=>rfl)
 exact ⟨v3,(iB (vs:=[v3]) rfl (fD (Sep.arg (i:=0) hS5 rfl) gJ)),Row.av fu r6,(show freeze false { H4 with aq:=[] } 8 v3=some (Row.av fu r6) by simp only [FZ,hz9]),r6,dm,rfl⟩
theorem Sy:FT 99=some IL:=by kernel_rfl
theorem RG:aT 99=none:=by kernel_rfl
def P99 (c:gb) (lv:Row fZ) (ke:Int) (nn:fk) (sp:Row Int) (v:AV):Prop:=∃ r0:Row Int,(r0.l.length≤60)∧v=Row.av fu r0
theorem t99 (c:gb) (lv:Row fZ) (ke:Int) (nn:fk) (sp:Row Int) (q1:lv.l.length≤64) (q2:sp.l.length≤60) (q3:∀ x∈lv.l,x.seen.l.length≤1000) (h:ah):∃ v,fj cfg FT aT false 99 [kK c lv ke nn sp] h v h∧P99 c lv ke nn sp v:=by
 refine fS RG Sy rfl rfl ?_
 refine aU ?_
 refine be ?_
 refine oC (t95 (Row.j6 sp) cG) ?_
 rintro _ ⟨r2,hc1,rfl⟩
 have hC115:=congrArg List.length hc1; try simp only [Row.j6] at hC115
 refine af ?_
 exact xF (Row.av fu r2) ⟨r2,(by first | omega | (simp_all; omega)),rfl⟩
theorem S6:FT 38=some Iz:=by kernel_rfl
theorem RS:aT 38=none:=by kernel_rfl
def P38 (c:gb) (lv:Row fZ) (ke:Int) (nn:fk) (sp:Row Int) (v:AV):Prop:=(∃ cx:gb,∃ lvx:Row fZ,∃ kex:Int,∃ nnx:fk,∃ spx:Row Int,(lvx.l.length=lv.l.length∧spx.l.length≤60∧∀ x∈lvx.l,x.seen.l.length≤1000)∧v=kK cx lvx kex nnx spx)
theorem t38 (c:gb) (lv:Row fZ) (ke:Int) (nn:fk) (sp:Row Int) (q1:lv.l.length≤64) (q2:sp.l.length≤60) (q3:∀ x∈lv.l,x.seen.l.length≤1000) (h:ah):∃ v,fj cfg FT aT false 38 [kK c lv ke nn sp] h v h∧P38 c lv ke nn sp v:=by
 refine fS RS S6 rfl rfl ?_
 refine aU ?_
 refine bR ?_
 refine rC (t18 c lv (ke) nn sp cG cG cG) ?_
 rintro _ ⟨r2,hc1,rfl⟩
 have hLv:=hc1
 iterate 3 refine rV ?_
 refine rC (t93 c lv (ke) nn sp) ?_
 rintro _ (⟨r4,hc3,rfl⟩)
 refine rC (t98 c lv (ke) nn sp) ?_
 rintro _ (⟨r6,hc5,rfl⟩)
 refine rC (t99 c lv (ke) nn sp cG cG cG) ?_
 rintro _ ⟨r8,hc7,rfl⟩
 refine rV ?_
 refine gS (H:=ah.empty) rfl rfl (iz (cs:=[Row.av gf.cells c.fo.elems,Row.av gj.cells c.fo.fQ,Row.av gg.cells c.fo.signals,Row.av fY.cells c.fo.lines,iv c.fo.top,iv c.fo.gE,iv c.fo.gv,iv c.fo.gz,.bool c.fo.gO,Row.av fP.cells c.roads,Row.av fZ.cells r2,jX r4,jW r6,Row.av fu r8]) gI rfl rfl rfl rfl rfl) ?_
 rintro _ H10 ⟨b9,rfl,hS11⟩
 refine aV ?_
 refine qr ?_
 have hz12:∀ ls m,freeze false { H10 with aq:=ls } (m+4) (.ptr b9 0 0 0)=some (kK c r2 r4 r6 r8):=fun ls m=>iS (i:=0) hS11 rfl _ _ dN
 have hff13:freeze false { H10 with aq:=[] } 8 (.ptr b9 0 0 0)=some (kK c r2 r4 r6 r8):=by simp only [FZ,hz12]
 refine ⟨(.ptr b9 0 0 0),rfl,kK c r2 r4 r6 r8,hff13,⟨c,r2,(r4),r6,r8,(by first | exact ⟨hLv.1,by assumption,hLv.2⟩ | (simp_all; done)),rfl⟩⟩
theorem Sq:FT 17=some Hp:=by kernel_rfl
theorem Pg:aT 17=none:=by kernel_rfl
def P17 (wn:fk) (c:gb) (lv:Row fZ) (ke:Int) (nn:fk) (sp:Row Int) (fd:AV) (ws:Row fK) (wb:Row fJ) (wl:Row Int) (v:AV):Prop:=(∃ cx:gb,∃ lvx:Row fZ,∃ kex:Int,∃ nnx:fk,∃ spx:Row Int,(lvx.l.length=lv.l.length∧spx.l.length≤60∧∀ x∈lvx.l,x.seen.l.length≤1000)∧v=kK cx lvx kex nnx spx)
theorem t17 (wn:fk) (c:gb) (lv:Row fZ) (ke:Int) (nn:fk) (sp:Row Int) (fd:AV) (ws:Row fK) (wb:Row fJ) (wl:Row Int) (q1:lv.l.length≤64) (q2:sp.l.length≤60) (q3:∀ x∈lv.l,x.seen.l.length≤1000) (q4:wb.l.length≤64) (q5:∀ x∈wb.l,x.gT.l.length≤1000) (h:ah):∃ v,fj cfg FT aT false 17 [nE wn c lv ke nn sp fd ws wb wl] h v h∧P17 wn c lv ke nn sp fd ws wb wl v:=by
 refine fS Pg Sq rfl rfl ?_
 refine aU ?_
 refine be ?_
 refine oC (t38 c lv (ke) nn sp cG cG cG) ?_
 rintro _ (⟨r2,r3,r4,r5,r6,hc1,rfl⟩)
 refine af ?_
 refine xF (kK r2 r3 r4 r5 r6) ⟨r2,r3,(r4),r5,r6,(by first | assumption | (simp_all; done)),rfl⟩
theorem No:FT 167=some DZ:=by kernel_rfl
theorem Ls:aT 167=none:=by kernel_rfl
theorem aaG {H:ah} (a0:fE fJ) (F:List gH) (hS:Sep H (F)) (q1:a0.l.length≤1000):∃ v H',fj cfg FT aT true 167 [fE.av fJ.cells a0] { H with aq:=[] } v H'∧(∃ ov:AV,∃ ol:List fJ,(ol=a0.l)∧Sep H' (.sl true true ov 5 (List.map fJ.cells ol)::F)∧v=ov):=by
 refine gB Ls No rfl ?_
 refine aY ?_
 refine ik (b:=a0.isNil) rfl (fun _=>kT rfl rfl rfl rfl) (fun h1=>?_) (fun h1=>?_)
 refine aZ ?_
 have hS2:=Sep.iF hS 5
 have hS3:=Sep.pick hS2 [0] 1 cK cK
 exact ⟨(.sl [] .nil),rfl,(.sl [] .nil),([]:List fJ),d3,Sep.aq hS3 _,rfl⟩
 refine bE ?_
 have hS4:=Sep.mF hS 5
 refine gd rfl (ib (H:=H) (i:=0) (l:=([]:List fJ)) (enc:=fJ.cells) a0.l hS4 rfl rfl rfl rfl rfl rfl rfl rfl rfl (fun _=>rfl) (.inl rfl) cS (fun _=>rfl)) ?_
 rintro v5 H6 hS7
 refine af ?_
 have hS8:=Sep.pick hS7 [0] 1 cK cK
 exact ⟨v5,(iB (vs:=[v5]) rfl (fD (Sep.arg (i:=0) hS7 rfl) gJ)),v5,(([]:List fJ)++a0.l),d3,Sep.aq hS8 _,rfl⟩
theorem Qo:FT 168=some CD:=by kernel_rfl
theorem Nl:aT 168=none:=by kernel_rfl
def Zv (_a0:fE bY) (v:AV):Prop:=∃ r0:Row bY,(r0.l = _a0.l)∧v=Row.av bY.cells r0
theorem t168 (a0:fE bY) (q1:a0.l.length≤1000) (h:ah):∃ v,fj cfg FT aT false 168 [fE.av bY.cells a0] h v h∧Zv a0 v:=by
 refine fS Nl Qo rfl rfl ?_
 refine aY ?_
 refine ik (b:=a0.isNil) rfl (fun _=>kT rfl rfl rfl rfl) (fun h1=>?_) (fun h1=>?_)
 refine aZ ?_
 exact xF (.sl [] .nil) ⟨(⟨[],.nil,Nat.zero_le _,rfl,fun _=>rfl⟩:Row bY),dm,rfl⟩
 refine bE ?_
 have hS2:=Sep.mF gI 2
 refine gd rfl (ib (i:=0) (l:=([]:List bY)) (enc:=bY.cells) a0.l hS2 rfl rfl rfl rfl rfl rfl rfl rfl rfl (fun _=>rfl) (.inl rfl) cS (fun _=>rfl)) ?_
 rintro v3 H4 hS5
 refine af ?_
 obtain ⟨r6,hl7,hf8⟩:=gZ (H:=H4) (i:=0) (l:=(([]:List bY)++a0.l)) (enc:=bY.cells) hS5 rfl cH
 have hlq:=hl7; have hln10:=congrArg List.length hl7
 have hz9:∀ m,freeze false { H4 with aq:=[] } (m+2) v3=some (Row.av bY.cells r6):=fun m=>hf8 _ _ (fun _=>rfl)
 exact ⟨v3,(iB (vs:=[v3]) rfl (fD (Sep.arg (i:=0) hS5 rfl) gJ)),Row.av bY.cells r6,(show freeze false { H4 with aq:=[] } 8 v3=some (Row.av bY.cells r6) by simp only [FZ,hz9]),r6,dm,rfl⟩
theorem RZ:FT 91=some Gk:=by kernel_rfl
theorem Rr:aT 91=none:=by kernel_rfl
def P91 (_a0:Row fJ) (v:AV):Prop:=∃ r0:Row fJ,(r0.l.length = _a0.l.length)∧v=Row.av fJ.cells r0
theorem t91 (a0:Row fJ) (q1:a0.l.length≤64) (q3:∀ x∈a0.l,x.gT.l.length≤1000) (h:ah):∃ v,fj cfg FT aT false 91 [Row.av fJ.cells a0] h v h∧P91 a0 v:=by
 refine fS Rr RZ rfl rfl ?_
 refine aa ?_
 refine bP ?_
 refine gC (H:=ah.empty) (args:=[Row.av fJ.cells a0]) (p:=[]) (r:=[]) rfl rfl rfl rfl rfl rfl rfl (aaG (Row.j6 a0) ([]) gI cG) ?_
 rintro ov5 H2 ⟨_,ol6,hc4,hS3,rfl⟩
 have hqF:ol6.length=(Row.j6 a0).l.length:=by rw [hc4]
 simp only [Row.j6] at hqF
 have hOl:=hc4
 refine ak ?_
 refine fq rfl (fun _=>jT (i:=0) hS3 rfl rfl rfl rfl rfl rfl rfl) ?_
 refine aC ?_
 refine fC (ol6.length) (fun k7 e h=>∃ v8:AV,∃ l9:List fJ,∃ H10:ah,(l9.length=a0.l.length)∧(∀ x∈l9,x.gT.l.length≤1000)∧Sep H10 (.sl true true v8 5 (List.map fJ.cells l9)::[])∧proj [3,8,9] e=[(3,v8),(8,iv (ol6.length:Int)),(9,iv (k7:Int))]∧{ h with aq:=fU [3,8,9] h.aq } = { H10 with aq:=[] }) ?_ (k0:=0) cO ⟨(ov5),(ol6),H2,(by (rw [hOl]; rfl)),(by (rw [hOl]; exact q3)),hS3,(Eq.trans (b:=[(3,fi 3 ov5),(8,iv (ol6.length:Int)),(9,iv 0)]) rfl eF),rfl⟩
 rintro k7 e h hkk7 ⟨v8,l9,H10,hL,hE,hS11,he,hh⟩
 refine gm he hh ?_
 clear he hh
 refine aa ?_
 refine gl ((k7:Int)) ((ol6.length:Int)) (fun h12=>?_) (fun h12=>?_)
 refine aM ?_
 refine wa [(3,v8),(8,iv (ol6.length:Int)),(9,iv (k7:Int))] H10 [] ?_ (Eq.trans (b:=[(3,fi 3 v8),(8,iv (ol6.length:Int)),(9,iv (k7:Int))]) rfl dB)
 refine ba ?_
 refine aQ ?_
 refine cC ?_
 have hx13:k7<l9.length:=by first | omega | (simp<;>omega) | (simp_all; omega)
 obtain ⟨x14,hqx14⟩:∃ x,l9[k7]=x:=⟨_,rfl⟩
 have hinx14:x14∈l9:=by rw [← hqx14]; exact List.getElem_mem _
 have hsx14:=hE _ hinx14
 refine kz rfl (ji (i:=0) (m:=k7) (cs:=fJ.cells x14) hS11 rfl rfl rfl rfl rfl rfl rfl (iq hx13 hqx14)) ?_
 rintro a15 ⟨ha16,hea17⟩
 refine fq rfl (fun _=>EA.w4 hea17 rfl rfl rfl ha16) ?_
 refine fq rfl (fun _=>ko (i:=0) (m:=k7) (o:=1) (r:=Row.av bY.cells x14.gT) (cs:=fJ.cells x14) hS11 rfl (iq hx13 hqx14) hea17 rfl rfl rfl) ?_
 refine oC (t168 (Row.j6 x14.gT) cG) ?_
 rintro _ ⟨r19,hc18,rfl⟩
 have hCb:=congrArg List.length hc18; try simp only [Row.j6] at hCb
 have hx20:k7<l9.length:=by first | omega | (simp<;>omega) | (simp_all; omega)
 refine kz rfl (ji (i:=0) (m:=k7) (cs:=fJ.cells x14) hS11 rfl rfl rfl rfl rfl rfl rfl (iq hx20 hqx14)) ?_
 rintro a21 ⟨ha22,hea23⟩
 refine fq rfl (fun _=>EA.w4 hea23 rfl rfl rfl ha22) ?_
 refine gd rfl (od (i:=0) (m:=k7) (o:=1) x14 (⟨(x14.mode),r19,(x14.left),(x14.rT),(x14.v)⟩:fJ) hS11 rfl hx20 hqx14 hea23 rfl rfl rfl rfl rfl rfl) ?_
 rintro _ H24 ⟨rfl,hS25⟩
 refine oN ?_
 refine wa [(3,v8),(8,iv (ol6.length:Int)),(9,iv (k7:Int))] H24 [] ?_ (Eq.trans (b:=[(3,fi 3 v8),(8,iv (ol6.length:Int)),(9,iv (k7:Int))]) rfl dA)
 refine qg ?_
 refine gy ((k7:Int)) (1) ?_
 refine ab ?_
 exact ⟨by omega,(v8),((l9.set k7 (⟨(x14.mode),r19,(x14.left),(x14.rT),(x14.v)⟩:fJ))),H24,d4,eT,hS25,(Eq.trans (b:=[(3,fi 3 v8),(8,iv (ol6.length:Int)),(9,iv ((k7:Int)+1))]) rfl dA),rfl⟩
 refine aj ?_
 refine wa [(3,v8)] H10 [] ?_ (Eq.trans (b:=[(3,fi 3 v8)]) rfl dB)
 refine bG ?_
 obtain ⟨r26,hl27,hf28⟩:=gZ (H:=H10) (i:=0) (l:=l9) (enc:=fJ.cells) hS11 rfl cH
 have hlq:=hl27; have hln30:=congrArg List.length hl27
 have hz29:∀ m,freeze false { H10 with aq:=[] } (m+2) v8=some (Row.av fJ.cells r26):=fun m=>hf28 _ _ (fun _=>by simp only [fJ.cells,gr,jC,ju,jK,jH,j1])
 exact ⟨v8,(iB (vs:=[v8]) rfl (fD (Sep.arg (i:=0) hS11 rfl) gJ)),Row.av fJ.cells r26,(show freeze false { H10 with aq:=[] } 8 v8=some (Row.av fJ.cells r26) by simp only [FZ,hz29]),r26,(by first | (simp_all; done) | omega),rfl⟩
theorem Sa:FT 35=some GF:=by kernel_rfl
theorem Q5:aT 35=none:=by kernel_rfl
def P35 (wn:fk) (c:gb) (lv:Row fZ) (ke:Int) (nn:fk) (sp:Row Int) (fd:AV) (ws:Row fK) (wb:Row fJ) (wl:Row Int) (v:AV):Prop:=∃ r0:Row fJ,(r0.l.length=wb.l.length)∧v=Row.av fJ.cells r0
theorem t35 (wn:fk) (c:gb) (lv:Row fZ) (ke:Int) (nn:fk) (sp:Row Int) (fd:AV) (ws:Row fK) (wb:Row fJ) (wl:Row Int) (q1:lv.l.length≤64) (q2:sp.l.length≤60) (q3:∀ x∈lv.l,x.seen.l.length≤1000) (q4:wb.l.length≤64) (q5:∀ x∈wb.l,x.gT.l.length≤1000) (h:ah):∃ v,fj cfg FT aT false 35 [nE wn c lv ke nn sp fd ws wb wl] h v h∧P35 wn c lv ke nn sp fd ws wb wl v:=by
 refine fS Q5 Sa rfl rfl ?_
 refine aU ?_
 refine be ?_
 refine oC (t91 wb cG cG) ?_
 rintro _ ⟨r2,hc1,rfl⟩
 refine af ?_
 exact xF (Row.av fJ.cells r2) ⟨r2,(by first | assumption | (simp_all; done)),rfl⟩
theorem VL:FT 15=some Ho:=by kernel_rfl
theorem N8:aT 15=none:=by kernel_rfl
theorem u15 {H:ah} (ps:List ic) (yb:Nat) (n:fk) (c2:gb) (d:gp) (wn:fk) (c:gb) (lv:Row fZ) (ke:Int) (nn:fk) (sp:Row Int) (fd:AV) (ws:Row fK) (wb:Row fJ) (wl:Row Int) (va:AV) (yl:List jD) (F:List gH) (hP:Sep H (.obj (.ptr yb 0 0 0) (uh n c2 d (nE wn c lv ke nn sp fd ws wb wl) va)::.sl true false va 1 (List.map jD.cells yl)::(gQ ps++F))) (hps:ps.map ic.ptr=yl) (q1:lv.l.length≤64) (q2:sp.l.length≤60) (q3:∀ x∈lv.l,x.seen.l.length≤1000) (q4:wb.l.length≤64) (q5:∀ x∈wb.l,x.gT.l.length≤1000) (q9:yl.length≤64) (q8:wb.l.length=yl.length) (hz:∀ p∈ps,p.le 0):∃ v H',fj cfg FT aT true 15 [(.ptr yb 0 0 0)] { H with aq:=[] } v H'∧(∃ ps':List ic,ps'.map ic.ptr=yl∧(∀ p∈ps',p.le 1)∧Sep H' (.obj (.ptr yb 0 0 0) (uh n c2 d (nE wn c lv ke nn sp fd ws wb wl) va)::.sl true false va 1 (List.map jD.cells yl)::(gQ ps'++F))∧v=.fz []):=by
 refine gB N8 VL rfl ?_
 have hS:=Sep.yY hP
 refine ai ?_
 refine lP 5 hS ?_
 refine iN 5 hS ?_
 refine ix 5 hS (nE wn c lv ke nn sp fd ws wb wl) ?_
 refine oC (t17 wn c lv (ke) nn sp fd ws wb wl cG cG cG cG cG) ?_
 rintro _ (⟨r2,r3,r4,r5,r6,hc1,rfl⟩)
 have hBx1:=hc1.1; have hBx2:=hc1.2.1; have hBx3:=hc1.2.2
 refine bP ?_
 refine oC (t18 r2 r3 (r4) r5 r6 cG cG cG) ?_
 rintro _ ⟨r8,hc7,rfl⟩
 have hLv:=hc7
 refine bP ?_
 refine lP 5 hS ?_
 refine iN 5 hS ?_
 refine ix 5 hS (nE wn c lv ke nn sp fd ws wb wl) ?_
 refine oC (t35 wn c lv (ke) nn sp fd ws wb wl cG cG cG cG cG) ?_
 rintro _ ⟨r10,hc9,rfl⟩
 have hBo:=hc9
 have hL11:=r10.lk
 refine gG r10 ?_
 refine aC ?_
 have hNk12:=r10.lk
 refine fC (r10.l.length) (fun je e h=>∃ ps2:List ic,∃ H21:ah,(ps2.map ic.ptr=yl)∧(∀ (i:Nat) (h:i<ps2.length),(ps2[i]).le 1∧(je≤i→(ps2[i]).le 0))∧Sep H21 (.obj (.ptr yb 0 0 0) (uh n c2 d (nE wn c lv ke nn sp fd ws wb wl) va)::.sl true false va 1 (List.map jD.cells yl)::(gQ ps2++F))∧proj [0,2,3,21,22,23] e=[(0,(.ptr yb 0 0 0)),(2,kK r2 r3 r4 r5 r6),(3,Row.av fZ.cells r8),(21,Row.av fJ.cells r10),(22,iv (r10.l.length:Int)),(23,iv (je:Int))]∧{ h with aq:=fU [0,2,3,21,22,23] h.aq } = { H21 with aq:=[] }) ?_ (k0:=0) cO ⟨ps,H,hps,(fun i h=>⟨(hz _ (List.getElem_mem _)).mono,fun _=>hz _ (List.getElem_mem _)⟩),hP,rfl,rfl⟩
 rintro je e h hkk12 ⟨ps2,H21,hps2,hPi,hP2,he,hh⟩
 refine gm he hh ?_
 clear he hh
 refine aa ?_
 refine gl ((je:Int)) ((r10.l.length:Int)) (fun h23=>?_) (fun h23=>?_)
 have hkp:je<ps2.length:=by have:=congrArg List.length hps2; simp at this; omega
 obtain ⟨⟨xb,run,lg,dn,v13,l14,v15,l16,v17,l18,v19,l20⟩,hqp⟩:∃ x,ps2[je]=x:=⟨_,rfl⟩
 have hS22:Sep H21 (.obj (.ptr xb 0 0 0) [iv run,iv 0,iv (-1),Row.av iZ.cells lg,v13,v15,v17,v19,iv dn]::.sl true true v13 5 (List.map fJ.cells l14)::.sl true true v15 1 (List.map fu l16)::.sl true true v17 1 (List.map (g6 fu) l18)::.sl true true v19 1 (List.map (g6 fu) l20)::.obj (.ptr yb 0 0 0) (uh n c2 d (nE wn c lv ke nn sp fd ws wb wl) va)::.sl true false va 1 (List.map jD.cells yl)::(gQ (ps2.take je)++gQ (ps2.drop (je+1))++F)):=gQ.focus hP2 hkp hqp
 have hle:=(hPi _ hkp).2 (Nat.le_refl _)
 rw [hqp] at hle
 simp only [ic.le] at hle
 refine bU ?_
 have hx24:je<r10.l.length:=by omega
 refine iU je r10 hx24 ?_
 generalize hqx25:r10.l[je]=x25
 refine bM ?_
 refine ai ?_
 refine lP 5 hS22 ?_
 refine iN 5 hS22 ?_
 refine ix 5 hS22 va ?_
 refine oV ?_
 have hx26:je<yl.length:=by first | omega | (simp<;>omega) | (simp_all; omega)
 obtain ⟨x27,hqx27⟩:∃ x,yl[je]=x:=⟨_,rfl⟩
 refine kz rfl (ji (H:=H21) (i:=6) (m:=je) (cs:=jD.cells x27) hS22 rfl rfl rfl rfl rfl rfl rfl (iq hx26 hqx27)) ?_
 rintro a28 ⟨ha29,hea30⟩
 refine fq rfl (fun _=>ko (H:=H21) (i:=6) (m:=je) (o:=0) (r:=.ptr x27.b 0 0 0) (cs:=jD.cells x27) hS22 rfl (iq hx26 hqx27) hea30 rfl rfl ha29) ?_
 have hpx:x27.b=xb:=Al hps2 hqp hqx27
 rw [hpx]
 refine oV ?_
 refine bP ?_
 refine ak ?_
 refine lP 0 hS22 ?_
 refine iN 0 hS22 ?_
 refine ix 0 hS22 (iv (-1)) ?_
 refine bX ?_
 refine ay ?_
 refine a6 ?_
 refine kM 0 hS22 ?_
 iterate 2 refine kj 0 hS22 ?_
 refine lR 0 hS22 v13 ?_
 refine rV ?_
 refine ga rfl rfl (fun _=>vx (xs:=[(fJ.cells x25)]) rfl rfl rfl rfl (BV (fD rfl (fD (jw _) (fD rfl (fD rfl (fD rfl gJ))))) rfl)) ?_
 refine gS rfl rfl (ib (H:=H21) (i:=1) [x25] hS22 rfl rfl rfl rfl rfl rfl rfl rfl rfl (fun _=>rfl) (.inl rfl) cS (fun _=>rfl)) ?_
 rintro v31 H32 hS33
 refine kM 0 hS33 ?_
 iterate 2 refine kj 0 hS33 ?_
 refine gS rfl rfl (iG (H:=H32) (i:=0) (o:=4) (r:=v31) hS33 rfl rfl rfl rfl (jq rfl rfl (Sep.cell (i:=1) hS33 rfl)) (fD (Sep.cell (i:=1) hS33 rfl) gJ) rfl) ?_
 rintro _ H34 ⟨rfl,hS35⟩
 refine rN ?_
 refine ae ?_
 refine lP 0 hS35 ?_
 iterate 2 refine iN 0 hS35 ?_
 refine ix 0 hS35 v15 ?_
 iterate 2 refine oV ?_
 refine gd rfl (ib (H:=H34) (i:=2) [(-1)] hS35 rfl rfl rfl rfl rfl rfl rfl rfl rfl (fun _=>rfl) (.inl rfl) cS (fun _=>rfl)) ?_
 rintro v36 H37 hS38
 refine lP 0 hS38 ?_
 iterate 2 refine iN 0 hS38 ?_
 refine gd rfl (iG (H:=H37) (i:=0) (o:=5) (r:=v36) hS38 rfl rfl rfl rfl (jq rfl rfl (Sep.cell (i:=2) hS38 rfl)) (fD (Sep.cell (i:=2) hS38 rfl) gJ) rfl) ?_
 rintro _ H39 ⟨rfl,hS40⟩
 refine oN ?_
 refine ae ?_
 refine lP 0 hS40 ?_
 iterate 2 refine iN 0 hS40 ?_
 refine ix 0 hS40 v17 ?_
 iterate 2 refine oV ?_
 refine gd rfl (ib (H:=H39) (i:=3) [(⟨[],.nil,Nat.zero_le _,rfl,fun _=>rfl⟩:Row Int)] hS40 rfl rfl rfl rfl rfl rfl rfl rfl rfl (fun _=>rfl) (.inl rfl) cS (fun _=>rfl)) ?_
 rintro v41 H42 hS43
 refine lP 0 hS43 ?_
 iterate 2 refine iN 0 hS43 ?_
 refine gd rfl (iG (H:=H42) (i:=0) (o:=6) (r:=v41) hS43 rfl rfl rfl rfl (jq rfl rfl (Sep.cell (i:=3) hS43 rfl)) (fD (Sep.cell (i:=3) hS43 rfl) gJ) rfl) ?_
 rintro _ H44 ⟨rfl,hS45⟩
 refine oN ?_
 refine bC ?_
 refine lP 0 hS45 ?_
 iterate 2 refine iN 0 hS45 ?_
 refine ix 0 hS45 v19 ?_
 iterate 2 refine oV ?_
 refine gd rfl (ib (H:=H44) (i:=4) [(⟨[],.nil,Nat.zero_le _,rfl,fun _=>rfl⟩:Row Int)] hS45 rfl rfl rfl rfl rfl rfl rfl rfl rfl (fun _=>rfl) (.inl rfl) cS (fun _=>rfl)) ?_
 rintro v46 H47 hS48
 refine lP 0 hS48 ?_
 iterate 2 refine iN 0 hS48 ?_
 refine gd rfl (iG (H:=H47) (i:=0) (o:=7) (r:=v46) hS48 rfl rfl rfl rfl (jq rfl rfl (Sep.cell (i:=4) hS48 rfl)) (fD (Sep.cell (i:=4) hS48 rfl) gJ) rfl) ?_
 rintro _ H49 ⟨rfl,hS50⟩
 refine bO ?_
 refine gy ((je:Int)) (1) ?_
 refine ab ?_
 exact ⟨by omega,ps2.set je ⟨xb,run,lg,dn,(v31),((l14++[x25])),(v36),((l16++[(-1)])),(v41),((l18++[(⟨[],.nil,Nat.zero_le _,rfl,fun _=>rfl⟩:Row Int)])),(v46),((l20++[(⟨[],.nil,Nat.zero_le _,rfl,fun _=>rfl⟩:Row Int)]))⟩,H49,mM hps2 hqp rfl,GG hPi hkp (by simp only [ic.le,List.length_append,List.length_cons,List.length_nil]; omega),gQ.close (y:=⟨xb,run,lg,dn,(v31),((l14++[x25])),(v36),((l16++[(-1)])),(v41),((l18++[(⟨[],.nil,Nat.zero_le _,rfl,fun _=>rfl⟩:Row Int)])),(v46),((l20++[(⟨[],.nil,Nat.zero_le _,rfl,fun _=>rfl⟩:Row Int)]))⟩) hS50 hkp,rfl,rfl⟩
 have hS22:=Sep.yY hP2
 refine aj ?_
 exact ⟨.fz [],rfl,ps2,hps2,(fun p hp=>by obtain ⟨i,hi,rfl⟩:=List.mem_iff_getElem.mp hp; exact (hPi i hi).1),Sep.aq hP2 _,rfl⟩
theorem V1:FT 37=some Ht:=by kernel_rfl
theorem Q0:aT 37=none:=by kernel_rfl
def P37 (wn:fk) (c:gb) (lv:Row fZ) (ke:Int) (nn:fk) (sp:Row Int) (fd:AV) (ws:Row fK) (wb:Row fJ) (wl:Row Int) (v:AV):Prop:=∃ r0:Int,(r0=0)∧v=iv r0
theorem t37 (wn:fk) (c:gb) (lv:Row fZ) (ke:Int) (nn:fk) (sp:Row Int) (fd:AV) (ws:Row fK) (wb:Row fJ) (wl:Row Int)  (h:ah):∃ v,fj cfg FT aT false 37 [nE wn c lv ke nn sp fd ws wb wl] h v h∧P37 wn c lv ke nn sp fd ws wb wl v:=by
 refine fS Q0 V1 rfl rfl ?_
 refine cm ?_
 refine bk ?_
 exact xA (iv 0) ⟨(0),eR,rfl⟩
end Go.Sx
