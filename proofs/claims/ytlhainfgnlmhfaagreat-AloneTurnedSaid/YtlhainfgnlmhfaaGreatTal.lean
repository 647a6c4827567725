/- Proves what some functions of the program answer, by walking through them. -/
import Derived.Test.YtlhainfgnlmhfaaGreatTaj
import Derived.Test.YtlhainfgnlmhfaaGreatTak
set_option linter.all false
namespace Go.Sx
open Go Go.Proofs
def P4 (v:AV):Prop:=∃ r0:Bool,r0=true∧v=.bool r0
theorem t4 (h:bY):∃ v,eH cfg eG.get ei false 4 [] h v h∧P4 v:=by
 refine ⟨.bool true,⟨1,fun k hk=>?_⟩,true,rfl,rfl⟩
 obtain ⟨k,rfl⟩:∃ k',k=k'+1:=⟨k - 1,by omega⟩
 rfl
end Go.Sx
set_option maxRecDepth 100000
set_option maxHeartbeats 0
namespace Go.Sx
open Go Go.Proofs
theorem Sj:eG.get 49=some CJ:=by kernel_rfl
theorem Jy:ei 49=none:=by kernel_rfl
def WI (_a0:eb) (v:AV):Prop:=∃ r0:Bool,((r0=true→iY _a0))∧v=.bool r0
theorem t49 (a0:eb)  (h:bY):∃ v,eH cfg eG.get ei false 49 [.agg (eb.cells a0)] h v h∧WI a0 v:=by
 refine eW Jy Sj rfl rfl ?_
 refine aj ?_
 refine bX ?_
 have hL1:=a0.elems.lk
 refine fA a0.elems ?_
 refine fW ((a0.elems.l.length:Int)) (60) (fun h2=>?_) (fun h2=>?_)
 refine bk ?_
 refine aJ ?_
 refine bH ?_
 exact xA (.bool false) ⟨false,cO,rfl⟩
 iterate 3 refine oV ?_
 have hL3:=a0.eT.lk
 refine fA a0.eT ?_
 refine fW ((a0.eT.l.length:Int)) (120) (fun h4=>?_) (fun h4=>?_)
 refine aJ ?_
 refine bH ?_
 exact xA (.bool false) ⟨false,cO,rfl⟩
 iterate 4 refine oV ?_
 have hL5:=a0.signals.lk
 refine fA a0.signals ?_
 refine fW ((a0.signals.l.length:Int)) (60) (fun h6=>?_) (fun h6=>?_)
 refine bH ?_
 exact xA (.bool false) ⟨false,cO,rfl⟩
 iterate 4 refine oV ?_
 have hL7:=a0.lines.lk
 refine fA a0.lines ?_
 refine fW ((a0.lines.l.length:Int)) (20) (fun h8=>?_) (fun h8=>?_)
 refine ai ?_
 exact xA (.bool false) ⟨false,cO,rfl⟩
 refine aw ?_
 refine w0 [(1,.la 1 0)] [(1,(eb.cells a0))] ?_
 refine aZ ?_
 have hNk9:=a0.lines.lk
 refine eN (a0.lines.l.length) (fun k9 e h=>(∀ (i:Nat) (h:i<a0.lines.l.length),i<k9→(a0.lines.l[i]).elems.l.length≤60)∧proj [1,3] e=[(1,.la 1 0),(3,iv (k9:Int))]∧{ h with dO:=eV [1,3] h.dO } = { bY.empty with dO:=[(1,(eb.cells a0))] }) ?_ (k0:=0) cB ⟨dM,rfl,rfl⟩
 rintro k9 e h hkk9 ⟨hI,he,hh⟩
 refine ff he hh ?_
 clear he hh
 refine aB ?_
 have hL10:=a0.lines.lk
 refine fA a0.lines ?_
 refine fg ((k9:Int)) ((a0.lines.l.length:Int)) (fun h11=>?_) (fun h11=>?_)
 refine aX ?_
 refine w0 [(1,.la 1 0),(3,iv (k9:Int))] [(1,(eb.cells a0))] ?_
 refine bT ?_
 have hx12:k9<a0.lines.l.length:=by omega
 refine gL k9 a0.lines hx12 ?_
 generalize hqx13:a0.lines.l[k9]=x13
 iterate 2 refine oV ?_
 have hL14:=x13.elems.lk
 refine fA x13.elems ?_
 refine fW ((x13.elems.l.length:Int)) (60) (fun h15=>?_) (fun h15=>?_)
 refine oV ?_
 iterate 8 refine oS ?_
 refine ai ?_
 exact xA (.bool false) ⟨false,cO,rfl⟩
 iterate 4 refine oV ?_
 have hx16:k9<a0.lines.l.length:=by omega
 refine gL k9 a0.lines hx16 ?_
 rw [hqx13]
 iterate 3 refine oV ?_
 refine fW ((x13.name.l.length:Int)) (100) (fun h18=>?_) (fun h18=>?_)
 refine ai ?_
 exact xA (.bool false) ⟨false,cO,rfl⟩
 refine aw ?_
 refine w0 [(1,.la 1 0),(3,iv (k9:Int))] [(1,(eb.cells a0))] ?_
 refine aM ?_
 refine fu ((k9:Int)) (1) ?_
 refine ab ?_
 exact ⟨by omega,(by (intro i h h2; rcases Nat.lt_succ_iff_lt_or_eq.mp h2 with h3 | h3; exact hI i h h3; subst h3; simp_all; try omega)),rfl,rfl⟩
 refine aE ?_
 refine w0 [(1,.la 1 0)] [(1,(eb.cells a0))] ?_
 refine aZ ?_
 have hNk19:=a0.elems.lk
 refine eN (a0.elems.l.length) (fun k19 e h=>proj [1,4] e=[(1,.la 1 0),(4,iv (k19:Int))]∧{ h with dO:=eV [1,4] h.dO } = { bY.empty with dO:=[(1,(eb.cells a0))] }) ?_ (k0:=0) cB ⟨rfl,rfl⟩
 rintro k19 e h hkk19 ⟨he,hh⟩
 refine ff he hh ?_
 clear he hh
 refine aB ?_
 have hL20:=a0.elems.lk
 refine fA a0.elems ?_
 refine fg ((k19:Int)) ((a0.elems.l.length:Int)) (fun h21=>?_) (fun h21=>?_)
 refine aX ?_
 refine w0 [(1,.la 1 0),(4,iv (k19:Int))] [(1,(eb.cells a0))] ?_
 refine bT ?_
 have hx22:k19<a0.elems.l.length:=by omega
 refine gL k19 a0.elems hx22 ?_
 generalize hqx23:a0.elems.l[k19]=x23
 iterate 3 refine oV ?_
 refine fW ((x23.name.l.length:Int)) (100) (fun h24=>?_) (fun h24=>?_)
 refine be ?_
 exact xA (.bool false) ⟨false,cO,rfl⟩
 refine az ?_
 refine w0 [(1,.la 1 0),(4,iv (k19:Int))] [(1,(eb.cells a0))] ?_
 refine aM ?_
 refine fu ((k19:Int)) (1) ?_
 refine ab ?_
 exact ⟨by omega,rfl,rfl⟩
 refine aE ?_
 refine w0 [(1,.la 1 0)] [(1,(eb.cells a0))] ?_
 refine aZ ?_
 have hNk25:=a0.signals.lk
 refine eN (a0.signals.l.length) (fun k25 e h=>proj [1,5] e=[(1,.la 1 0),(5,iv (k25:Int))]∧{ h with dO:=eV [1,5] h.dO } = { bY.empty with dO:=[(1,(eb.cells a0))] }) ?_ (k0:=0) cB ⟨rfl,rfl⟩
 rintro k25 e h hkk25 ⟨he,hh⟩
 refine ff he hh ?_
 clear he hh
 refine aB ?_
 have hL26:=a0.signals.lk
 refine fA a0.signals ?_
 refine fg ((k25:Int)) ((a0.signals.l.length:Int)) (fun h27=>?_) (fun h27=>?_)
 refine aX ?_
 refine w0 [(1,.la 1 0),(5,iv (k25:Int))] [(1,(eb.cells a0))] ?_
 refine bT ?_
 have hx28:k25<a0.signals.l.length:=by omega
 refine gL k25 a0.signals hx28 ?_
 generalize hqx29:a0.signals.l[k25]=x29
 iterate 3 refine oV ?_
 refine fW ((x29.name.l.length:Int)) (100) (fun h30=>?_) (fun h30=>?_)
 refine be ?_
 exact xA (.bool false) ⟨false,cO,rfl⟩
 refine az ?_
 refine w0 [(1,.la 1 0),(5,iv (k25:Int))] [(1,(eb.cells a0))] ?_
 refine aM ?_
 refine fu ((k25:Int)) (1) ?_
 refine ab ?_
 exact ⟨by omega,rfl,rfl⟩
 refine aE ?_
 refine w0 [] [] ?_
 refine a6 ?_
 exact xA (.bool true) ⟨true,cO,rfl⟩
theorem PT:eG.get 82=some Dh:=by kernel_rfl
theorem J2:ei 82=none:=by kernel_rfl
def WY (_a0:eb) (v:AV):Prop:=∃ r0:Row jd,∃ r1:Row jd,∃ r2:Row jd,(True)∧v=.eP [Row.av gS r0,Row.av gS r1,Row.av gS r2]
theorem t82 (a0:eb) (q1:iY a0) (h:bY):∃ v,eH cfg eG.get ei false 82 [.agg (eb.cells a0)] h v h∧WY a0 v:=by
 refine eW J2 PT rfl rfl ?_
 have q2:=q1.elems; have q3:=q1.signals; have q4:=q1.lines
 refine aa ?_
 refine bF ?_
 refine bm ?_
 refine aZ ?_
 have hS1:=Sep.iF gg 1
 have hNk2:=a0.elems.lk
 refine eN (a0.elems.l.length) (fun k2 e h=>∃ v3:AV,∃ l4:List jd,∃ H5:bY,(l4.length≤0+k2)∧Sep H5 (.sl true true v3 1 (List.map gS l4)::[])∧proj [1,5,6,7,8] e=[(1,.la 1 0),(5,v3),(6,.sl [] .nil),(7,.sl [] .nil),(8,iv (k2:Int))]∧{ h with dO:=eV [1,5,6,7,8] h.dO } = { H5 with dO:=[(1,(eb.cells a0))] }) ?_ (k0:=0) cB ⟨((.sl [] .nil)),(([]:List jd)),bY.empty,c8,hS1,rfl,rfl⟩
 rintro k2 e h hkk2 ⟨v3,l4,H5,hl7,hS6,he,hh⟩
 refine ff he hh ?_
 clear he hh
 refine aB ?_
 have hL8:=a0.elems.lk
 refine fA a0.elems ?_
 refine fg ((k2:Int)) ((a0.elems.l.length:Int)) (fun h9=>?_) (fun h9=>?_)
 refine aX ?_
 refine wa [(1,.la 1 0),(5,v3),(6,.sl [] .nil),(7,.sl [] .nil),(8,iv (k2:Int))] H5 [(1,(eb.cells a0))] ?_ (Eq.trans (b:=[(1,.la 1 0),(5,eB 5 v3),(6,.sl [] .nil),(7,.sl [] .nil),(8,iv (k2:Int))]) rfl dL)
 refine aA ?_
 refine aY ?_
 refine oV ?_
 have hx10:k2<a0.elems.l.length:=by omega
 refine gL k2 a0.elems hx10 ?_
 generalize hqx11:a0.elems.l[k2]=x11
 iterate 3 refine oV ?_
 refine e7 (H:=H5) rfl (fX (H:=H5) (i:=0) (l:=l4) (enc:=gS) [x11.name] hS6 rfl rfl rfl rfl rfl rfl rfl rfl rfl (fun _=>rfl) (.inl rfl) cF (fun _=>rfl)) ?_
 rintro v12 H13 hS14
 refine ab ?_
 refine wa [(1,.la 1 0),(5,v12),(6,.sl [] .nil),(7,.sl [] .nil),(8,iv (k2:Int))] H13 [(1,(eb.cells a0))] ?_ (Eq.trans (b:=[(1,.la 1 0),(5,eB 5 v12),(6,.sl [] .nil),(7,.sl [] .nil),(8,iv (k2:Int))]) rfl dG)
 refine aM ?_
 refine fu ((k2:Int)) (1) ?_
 refine ab ?_
 exact ⟨by omega,(v12),((l4++[x11.name])),H13,cA,hS14,(Eq.trans (b:=[(1,.la 1 0),(5,eB 5 v12),(6,.sl [] .nil),(7,.sl [] .nil),(8,iv ((k2:Int)+1))]) rfl dG),rfl⟩
 refine aE ?_
 refine wa [(1,.la 1 0),(5,v3),(6,.sl [] .nil),(7,.sl [] .nil)] H5 [(1,(eb.cells a0))] ?_ (Eq.trans (b:=[(1,.la 1 0),(5,eB 5 v3),(6,.sl [] .nil),(7,.sl [] .nil)]) rfl dL)
 refine aZ ?_
 have hS15:=Sep.iF hS6 1
 have hNk16:=a0.signals.lk
 refine eN (a0.signals.l.length) (fun k16 e h=>∃ v17:AV,∃ l18:List jd,∃ H19:bY,(l18.length≤0+k16)∧Sep H19 (.sl true true v17 1 (List.map gS l18)::.sl true true v3 1 (List.map gS l4)::[])∧proj [1,5,6,7,9] e=[(1,.la 1 0),(5,v3),(6,v17),(7,.sl [] .nil),(9,iv (k16:Int))]∧{ h with dO:=eV [1,5,6,7,9] h.dO } = { H19 with dO:=[(1,(eb.cells a0))] }) ?_ (k0:=0) cB ⟨((.sl [] .nil)),(([]:List jd)),H5,c8,hS15,(Eq.trans (b:=[(1,.la 1 0),(5,eB 5 v3),(6,(.sl [] .nil)),(7,.sl [] .nil),(9,iv 0)]) rfl (by first | (rw [(show eB 5 v3=v3 from Sep.fh (i:=1) hS15 rfl 5)]; done) | (rw [(show eB 5 v3=v3 from Sep.fh (i:=1) hS15 rfl 5)]; rfl))),rfl⟩
 rintro k16 e h hkk16 ⟨v17,l18,H19,hl21,hS20,he,hh⟩
 refine ff he hh ?_
 clear he hh
 refine aB ?_
 have hL22:=a0.signals.lk
 refine fA a0.signals ?_
 refine fg ((k16:Int)) ((a0.signals.l.length:Int)) (fun h23=>?_) (fun h23=>?_)
 refine aX ?_
 refine wa [(1,.la 1 0),(5,v3),(6,v17),(7,.sl [] .nil),(9,iv (k16:Int))] H19 [(1,(eb.cells a0))] ?_ (Eq.trans (b:=[(1,.la 1 0),(5,eB 5 v3),(6,eB 6 v17),(7,.sl [] .nil),(9,iv (k16:Int))]) rfl dr)
 refine aA ?_
 refine aY ?_
 refine oV ?_
 have hx24:k16<a0.signals.l.length:=by omega
 refine gL k16 a0.signals hx24 ?_
 generalize hqx25:a0.signals.l[k16]=x25
 iterate 3 refine oV ?_
 refine e7 (H:=H19) rfl (fX (H:=H19) (i:=0) (l:=l18) (enc:=gS) [x25.name] hS20 rfl rfl rfl rfl rfl rfl rfl rfl rfl (fun _=>rfl) (.inl rfl) cF (fun _=>rfl)) ?_
 rintro v26 H27 hS28
 refine ab ?_
 refine wa [(1,.la 1 0),(5,v3),(6,v26),(7,.sl [] .nil),(9,iv (k16:Int))] H27 [(1,(eb.cells a0))] ?_ (Eq.trans (b:=[(1,.la 1 0),(5,eB 5 v3),(6,eB 6 v26),(7,.sl [] .nil),(9,iv (k16:Int))]) rfl dq)
 refine aM ?_
 refine fu ((k16:Int)) (1) ?_
 refine ab ?_
 exact ⟨by omega,(v26),((l18++[x25.name])),H27,cA,hS28,(Eq.trans (b:=[(1,.la 1 0),(5,eB 5 v3),(6,eB 6 v26),(7,.sl [] .nil),(9,iv ((k16:Int)+1))]) rfl dq),rfl⟩
 refine aE ?_
 refine wa [(1,.la 1 0),(5,v3),(6,v17),(7,.sl [] .nil)] H19 [(1,(eb.cells a0))] ?_ (Eq.trans (b:=[(1,.la 1 0),(5,eB 5 v3),(6,eB 6 v17),(7,.sl [] .nil)]) rfl dr)
 refine aZ ?_
 have hS29:=Sep.iF hS20 1
 have hNk30:=a0.lines.lk
 refine eN (a0.lines.l.length) (fun k30 e h=>∃ v31:AV,∃ l32:List jd,∃ H33:bY,(l32.length≤0+k30)∧Sep H33 (.sl true true v31 1 (List.map gS l32)::.sl true true v17 1 (List.map gS l18)::.sl true true v3 1 (List.map gS l4)::[])∧proj [1,5,6,7,10] e=[(1,.la 1 0),(5,v3),(6,v17),(7,v31),(10,iv (k30:Int))]∧{ h with dO:=eV [1,5,6,7,10] h.dO } = { H33 with dO:=[(1,(eb.cells a0))] }) ?_ (k0:=0) cB ⟨((.sl [] .nil)),(([]:List jd)),H19,c8,hS29,(Eq.trans (b:=[(1,.la 1 0),(5,eB 5 v3),(6,eB 6 v17),(7,(.sl [] .nil)),(10,iv 0)]) rfl (by first | (rw [(show eB 5 v3=v3 from Sep.fh (i:=2) hS29 rfl 5),(show eB 6 v17=v17 from Sep.fh (i:=1) hS29 rfl 6)]; done) | (rw [(show eB 5 v3=v3 from Sep.fh (i:=2) hS29 rfl 5),(show eB 6 v17=v17 from Sep.fh (i:=1) hS29 rfl 6)]; rfl))),rfl⟩
 rintro k30 e h hkk30 ⟨v31,l32,H33,hl35,hS34,he,hh⟩
 refine ff he hh ?_
 clear he hh
 refine aB ?_
 have hL36:=a0.lines.lk
 refine fA a0.lines ?_
 refine fg ((k30:Int)) ((a0.lines.l.length:Int)) (fun h37=>?_) (fun h37=>?_)
 refine aX ?_
 refine wa [(1,.la 1 0),(5,v3),(6,v17),(7,v31),(10,iv (k30:Int))] H33 [(1,(eb.cells a0))] ?_ (Eq.trans (b:=[(1,.la 1 0),(5,eB 5 v3),(6,eB 6 v17),(7,eB 7 v31),(10,iv (k30:Int))]) rfl dc)
 refine aA ?_
 refine aY ?_
 refine oV ?_
 have hx38:k30<a0.lines.l.length:=by omega
 refine gL k30 a0.lines hx38 ?_
 generalize hqx39:a0.lines.l[k30]=x39
 iterate 3 refine oV ?_
 refine e7 (H:=H33) rfl (fX (H:=H33) (i:=0) (l:=l32) (enc:=gS) [x39.name] hS34 rfl rfl rfl rfl rfl rfl rfl rfl rfl (fun _=>rfl) (.inl rfl) cF (fun _=>rfl)) ?_
 rintro v40 H41 hS42
 refine ab ?_
 refine wa [(1,.la 1 0),(5,v3),(6,v17),(7,v40),(10,iv (k30:Int))] H41 [(1,(eb.cells a0))] ?_ (Eq.trans (b:=[(1,.la 1 0),(5,eB 5 v3),(6,eB 6 v17),(7,eB 7 v40),(10,iv (k30:Int))]) rfl db)
 refine aM ?_
 refine fu ((k30:Int)) (1) ?_
 refine ab ?_
 exact ⟨by omega,(v40),((l32++[x39.name])),H41,cA,hS42,(Eq.trans (b:=[(1,.la 1 0),(5,eB 5 v3),(6,eB 6 v17),(7,eB 7 v40),(10,iv ((k30:Int)+1))]) rfl db),rfl⟩
 refine aE ?_
 refine wa [(5,v3),(6,v17),(7,v31)] H33 [] ?_ (Eq.trans (b:=[(5,eB 5 v3),(6,eB 6 v17),(7,eB 7 v31)]) rfl dc)
 refine ae ?_
 refine bb ?_
 obtain ⟨r43,hl44,hf45⟩:=gQ (H:=H33) (i:=2) (l:=l4) (enc:=gS) hS34 rfl cz
 have hlq:=hl44; have hln47:=congrArg List.length hl44
 have hz46:∀ m,freeze false { H33 with dO:=[] } (m+2) v3=some (Row.av gS r43):=fun m=>hf45 _ _ (fun _=>rfl)
 obtain ⟨r48,hl49,hf50⟩:=gQ (H:=H33) (i:=1) (l:=l18) (enc:=gS) hS34 rfl cz
 have hlq:=hl49; have hln52:=congrArg List.length hl49
 have hz51:∀ m,freeze false { H33 with dO:=[] } (m+2) v17=some (Row.av gS r48):=fun m=>hf50 _ _ (fun _=>rfl)
 obtain ⟨r53,hl54,hf55⟩:=gQ (H:=H33) (i:=0) (l:=l32) (enc:=gS) hS34 rfl cz
 have hlq:=hl54; have hln57:=congrArg List.length hl54
 have hz56:∀ m,freeze false { H33 with dO:=[] } (m+2) v31=some (Row.av gS r53):=fun m=>hf55 _ _ (fun _=>rfl)
 exact ⟨.eP [v3,v17,v31],(ia (vs:=[v3,v17,v31]) rfl (eJ (Sep.arg (i:=2) hS34 rfl) (eJ (Sep.arg (i:=1) hS34 rfl) (eJ (Sep.arg (i:=0) hS34 rfl) fG)))),.eP [Row.av gS r43,Row.av gS r48,Row.av gS r53],(show freeze false { H33 with dO:=[] } 8 (.eP [v3,v17,v31])=some (.eP [Row.av gS r43,Row.av gS r48,Row.av gS r53]) by simp only [FZ,hz46,hz51,hz56]),r43,r48,r53,trivial,rfl⟩
theorem N7:eG.get 42=some Dn:=by kernel_rfl
theorem KA:ei 42=none:=by kernel_rfl
def WV (_a0:Int) (v:AV):Prop:=∃ r0:Int,(((_a0=1→r0=2)∧(_a0=2→r0=3)∧(_a0=3→r0=4)∧(_a0=4→r0=1)∧0≤r0∧r0≤4))∧v=iv r0
theorem t42 (a0:Int)  (h:bY):∃ v,eH cfg eG.get ei false 42 [iv a0] h v h∧WV a0 v:=by
 refine eW KA N7 rfl rfl ?_
 refine aO ?_
 refine bP ?_
 refine fj (a0) (1) (fun h1=>?_) (fun h1=>?_)
 refine ai ?_
 exact xA (iv 2) ⟨(2),cB,rfl⟩
 refine aS ?_
 refine fj (a0) (2) (fun h2=>?_) (fun h2=>?_)
 refine ai ?_
 exact xA (iv 3) ⟨(3),cB,rfl⟩
 refine aS ?_
 refine fj (a0) (3) (fun h3=>?_) (fun h3=>?_)
 refine ai ?_
 exact xA (iv 4) ⟨(4),cB,rfl⟩
 refine aS ?_
 refine fj (a0) (4) (fun h4=>?_) (fun h4=>?_)
 refine ai ?_
 exact xA (iv 1) ⟨(1),cB,rfl⟩
 refine aw ?_
 refine w0 [] [] ?_
 refine a6 ?_
 exact xA (iv 0) ⟨(0),cB,rfl⟩
theorem QM:eG.get 74=some CX:=by kernel_rfl
theorem Ls:ei 74=none:=by kernel_rfl
def VV (_a0:jd) (v:AV):Prop:=∃ r0:Bool,(True)∧v=.bool r0
theorem t74 (a0:jd)  (h:bY):∃ v,eH cfg eG.get ei false 74 [.str (a0.l)] h v h∧VV a0 v:=by
 refine eW Ls QM rfl rfl ?_
 refine aQ ?_
 refine aZ ?_
 have hNk1:=a0.lk
 refine eN (a0.l.length) (fun k1 e h=>proj [0,3] e=[(0,.str (a0.l)),(3,iv (k1:Int))]∧{ h with dO:=eV [0,3] h.dO } = { bY.empty with dO:=[] }) ?_ (k0:=0) cB ⟨rfl,rfl⟩
 rintro k1 e h hkk1 ⟨he,hh⟩
 refine ff he hh ?_
 clear he hh
 refine aB ?_
 refine fg ((k1:Int)) ((a0.l.length:Int)) (fun h2=>?_) (fun h2=>?_)
 refine aX ?_
 refine w0 [(0,.str (a0.l)),(3,iv (k1:Int))] [] ?_
 refine aA ?_
 refine ae ?_
 have hx3:k1<a0.l.length:=by omega
 refine eg rfl (fun _=>qR (n:=k1) (s:=a0.l) rfl rfl rfl rfl hx3) ?_
 generalize hqc4:a0.l[k1]=c4
 refine ce ?_
 refine gV ((c4.toNat:Int)) (97) (fun h5=>?_) (fun h5=>?_)
 iterate 2 refine oV ?_
 refine o3 ((c4.toNat:Int)) (122) (fun h6=>?_) (fun h6=>?_)
 refine aK ?_
 refine oS ?_
 refine ah ?_
 refine aF ?_
 iterate 10 refine oS ?_
 refine aw ?_
 refine w0 [(0,.str (a0.l)),(3,iv (k1:Int))] [] ?_
 refine aM ?_
 refine fu ((k1:Int)) (1) ?_
 refine ab ?_
 exact ⟨by omega,rfl,rfl⟩
 iterate 3 refine oV ?_
 refine gV ((c4.toNat:Int)) (65) (fun h7=>?_) (fun h7=>?_)
 iterate 2 refine oV ?_
 refine o3 ((c4.toNat:Int)) (90) (fun h8=>?_) (fun h8=>?_)
 refine cg ?_
 refine ba ?_
 iterate 8 refine oS ?_
 refine aw ?_
 refine w0 [(0,.str (a0.l)),(3,iv (k1:Int))] [] ?_
 refine aM ?_
 refine fu ((k1:Int)) (1) ?_
 refine ab ?_
 exact ⟨by omega,rfl,rfl⟩
 refine aW ?_
 refine aG ?_
 refine fj ((k1:Int)) (0) (fun h9=>?_) (fun h9=>?_)
 refine ba ?_
 refine aL ?_
 refine a8 ?_
 exact xA (.bool false) ⟨false,trivial,rfl⟩
 iterate 2 refine oV ?_
 refine fg ((c4.toNat:Int)) (48) (fun h10=>?_) (fun h10=>?_)
 refine aL ?_
 refine a8 ?_
 exact xA (.bool false) ⟨false,trivial,rfl⟩
 iterate 3 refine oV ?_
 refine fW ((c4.toNat:Int)) (57) (fun h11=>?_) (fun h11=>?_)
 refine a8 ?_
 exact xA (.bool false) ⟨false,trivial,rfl⟩
 refine bv ?_
 refine w0 [(0,.str (a0.l)),(3,iv (k1:Int))] [] ?_
 refine aM ?_
 refine fu ((k1:Int)) (1) ?_
 refine ab ?_
 exact ⟨by omega,rfl,rfl⟩
 refine ba ?_
 refine aW ?_
 refine aG ?_
 refine fj ((k1:Int)) (0) (fun h12=>?_) (fun h12=>?_)
 refine ba ?_
 refine aL ?_
 refine a8 ?_
 exact xA (.bool false) ⟨false,trivial,rfl⟩
 iterate 2 refine oV ?_
 refine fg ((c4.toNat:Int)) (48) (fun h13=>?_) (fun h13=>?_)
 refine aL ?_
 refine a8 ?_
 exact xA (.bool false) ⟨false,trivial,rfl⟩
 iterate 3 refine oV ?_
 refine fW ((c4.toNat:Int)) (57) (fun h14=>?_) (fun h14=>?_)
 refine a8 ?_
 exact xA (.bool false) ⟨false,trivial,rfl⟩
 refine bv ?_
 refine w0 [(0,.str (a0.l)),(3,iv (k1:Int))] [] ?_
 refine aM ?_
 refine fu ((k1:Int)) (1) ?_
 refine ab ?_
 exact ⟨by omega,rfl,rfl⟩
 refine ba ?_
 iterate 3 refine oV ?_
 refine gV ((c4.toNat:Int)) (65) (fun h15=>?_) (fun h15=>?_)
 iterate 2 refine oV ?_
 refine o3 ((c4.toNat:Int)) (90) (fun h16=>?_) (fun h16=>?_)
 refine cg ?_
 refine ba ?_
 iterate 8 refine oS ?_
 refine aw ?_
 refine w0 [(0,.str (a0.l)),(3,iv (k1:Int))] [] ?_
 refine aM ?_
 refine fu ((k1:Int)) (1) ?_
 refine ab ?_
 exact ⟨by omega,rfl,rfl⟩
 refine aW ?_
 refine aG ?_
 refine fj ((k1:Int)) (0) (fun h17=>?_) (fun h17=>?_)
 refine ba ?_
 refine aL ?_
 refine a8 ?_
 exact xA (.bool false) ⟨false,trivial,rfl⟩
 iterate 2 refine oV ?_
 refine fg ((c4.toNat:Int)) (48) (fun h18=>?_) (fun h18=>?_)
 refine aL ?_
 refine a8 ?_
 exact xA (.bool false) ⟨false,trivial,rfl⟩
 iterate 3 refine oV ?_
 refine fW ((c4.toNat:Int)) (57) (fun h19=>?_) (fun h19=>?_)
 refine a8 ?_
 exact xA (.bool false) ⟨false,trivial,rfl⟩
 refine bv ?_
 refine w0 [(0,.str (a0.l)),(3,iv (k1:Int))] [] ?_
 refine aM ?_
 refine fu ((k1:Int)) (1) ?_
 refine ab ?_
 exact ⟨by omega,rfl,rfl⟩
 refine ba ?_
 refine aW ?_
 refine aG ?_
 refine fj ((k1:Int)) (0) (fun h20=>?_) (fun h20=>?_)
 refine ba ?_
 refine aL ?_
 refine a8 ?_
 exact xA (.bool false) ⟨false,trivial,rfl⟩
 iterate 2 refine oV ?_
 refine fg ((c4.toNat:Int)) (48) (fun h21=>?_) (fun h21=>?_)
 refine aL ?_
 refine a8 ?_
 exact xA (.bool false) ⟨false,trivial,rfl⟩
 iterate 3 refine oV ?_
 refine fW ((c4.toNat:Int)) (57) (fun h22=>?_) (fun h22=>?_)
 refine a8 ?_
 exact xA (.bool false) ⟨false,trivial,rfl⟩
 refine bv ?_
 refine w0 [(0,.str (a0.l)),(3,iv (k1:Int))] [] ?_
 refine aM ?_
 refine fu ((k1:Int)) (1) ?_
 refine ab ?_
 exact ⟨by omega,rfl,rfl⟩
 refine aE ?_
 refine w0 [(0,.str (a0.l))] [] ?_
 refine ae ?_
 refine gV ((a0.l.length:Int)) (1) (fun h23=>?_) (fun h23=>?_)
 iterate 3 refine oV ?_
 refine o3 ((a0.l.length:Int)) (8) (fun h24=>?_) (fun h24=>?_)
 refine aV ?_
 exact xA (.bool true) ⟨true,trivial,rfl⟩
 refine aV ?_
 exact xA (.bool false) ⟨false,trivial,rfl⟩
 refine bB ?_
 refine aV ?_
 exact xA (.bool false) ⟨false,trivial,rfl⟩
theorem KR:eG.get 140=some zH:=by kernel_rfl
theorem ID:ei 140=none:=by kernel_rfl
def UN (_a0:Int) (_a1:Int) (_a2:Int) (v:AV):Prop:=∃ r0:Bool,(True)∧v=.bool r0
theorem t140 (a0:Int) (a1:Int) (a2:Int)  (h:bY):∃ v,eH cfg eG.get ei false 140 [iv a0,iv a1,iv a2] h v h∧UN a0 a1 a2 v:=by
 refine eW ID KR rfl rfl ?_
 refine aQ ?_
 refine ae ?_
 refine gV (a0) (a1) (fun h1=>?_) (fun h1=>?_)
 iterate 3 refine oV ?_
 refine o3 (a0) (a2) (fun h2=>?_) (fun h2=>?_)
 refine aV ?_
 exact xA (.bool true) ⟨true,trivial,rfl⟩
 refine aV ?_
 exact xA (.bool false) ⟨false,trivial,rfl⟩
 refine bB ?_
 refine aV ?_
 exact xA (.bool false) ⟨false,trivial,rfl⟩
theorem Nl:eG.get 83=some B9:=by kernel_rfl
theorem JW:ei 83=none:=by kernel_rfl
def WU (_a0:eb) (v:AV):Prop:=∃ r0:Bool,(True)∧v=.bool r0
theorem t83 (a0:eb)  (h:bY):∃ v,eH cfg eG.get ei false 83 [.agg (eb.cells a0)] h v h∧WU a0 v:=by
 refine eW JW Nl rfl rfl ?_
 refine aj ?_
 refine bX ?_
 refine oC (t140 (a0.top) (1) (60)) ?_
 rintro _ ⟨r2,hc1,rfl⟩
 cases r2
 refine aJ ?_
 refine aJ ?_
 refine aJ ?_
 refine bH ?_
 exact xA (.bool false) ⟨false,trivial,rfl⟩
 iterate 4 refine oV ?_
 refine oC (t140 (a0.gd) (1) (10)) ?_
 rintro _ ⟨r4,hc3,rfl⟩
 cases r4
 refine oV ?_
 refine aJ ?_
 refine aJ ?_
 refine bH ?_
 exact xA (.bool false) ⟨false,trivial,rfl⟩
 iterate 5 refine oV ?_
 refine oC (t140 (a0.fQ) (1) (4000)) ?_
 rintro _ ⟨r6,hc5,rfl⟩
 cases r6
 refine oV ?_
 refine aJ ?_
 refine bH ?_
 exact xA (.bool false) ⟨false,trivial,rfl⟩
 iterate 5 refine oV ?_
 refine oC (t140 (a0.ga) (1) (20)) ?_
 rintro _ ⟨r8,hc7,rfl⟩
 cases r8
 refine oV ?_
 refine bH ?_
 exact xA (.bool false) ⟨false,trivial,rfl⟩
 iterate 5 refine oV ?_
 have hL9:=a0.elems.lk
 refine fA a0.elems ?_
 refine fj ((a0.elems.l.length:Int)) (0) (fun h10=>?_) (fun h10=>?_)
 refine ai ?_
 exact xA (.bool false) ⟨false,trivial,rfl⟩
 refine aw ?_
 refine w0 [(1,.la 1 0)] [(1,(eb.cells a0))] ?_
 refine aZ ?_
 have hNk11:=a0.elems.lk
 refine eN (a0.elems.l.length) (fun k11 e h=>proj [1,3] e=[(1,.la 1 0),(3,iv (k11:Int))]∧{ h with dO:=eV [1,3] h.dO } = { bY.empty with dO:=[(1,(eb.cells a0))] }) ?_ (k0:=0) cB ⟨rfl,rfl⟩
 rintro k11 e h hkk11 ⟨he,hh⟩
 refine ff he hh ?_
 clear he hh
 refine aB ?_
 have hL12:=a0.elems.lk
 refine fA a0.elems ?_
 refine fg ((k11:Int)) ((a0.elems.l.length:Int)) (fun h13=>?_) (fun h13=>?_)
 refine aX ?_
 refine w0 [(1,.la 1 0),(3,iv (k11:Int))] [(1,(eb.cells a0))] ?_
 refine bT ?_
 have hx14:k11<a0.elems.l.length:=by omega
 refine gL k11 a0.elems hx14 ?_
 generalize hqx15:a0.elems.l[k11]=x15
 refine cg ?_
 refine oC (t74 x15.name) ?_
 rintro _ ⟨r17,hc16,rfl⟩
 cases r17
 refine aJ ?_
 refine bU ?_
 refine bC ?_
 refine ai ?_
 exact xA (.bool false) ⟨false,trivial,rfl⟩
 iterate 4 refine oV ?_
 refine oC (t42 (x15.kind)) ?_
 rintro _ ⟨r19,hc18,rfl⟩
 refine fj (r19) (0) (fun h20=>?_) (fun h20=>?_)
 refine bU ?_
 refine bC ?_
 refine ai ?_
 exact xA (.bool false) ⟨false,trivial,rfl⟩
 iterate 4 refine oV ?_
 refine fj (x15.kind) (4) (fun h21=>?_) (fun h21=>?_)
 iterate 3 refine oV ?_
 refine gK (x15.len) (0) (fun h22=>?_) (fun h22=>?_)
 refine oV ?_
 refine bC ?_
 refine ai ?_
 exact xA (.bool false) ⟨false,trivial,rfl⟩
 iterate 5 refine oV ?_
 refine gK (x15.kind) (4) (fun h23=>?_) (fun h23=>?_)
 iterate 3 refine oV ?_
 refine oC (t140 (x15.len) (1) (4000)) ?_
 rintro _ ⟨r25,hc24,rfl⟩
 cases r25
 refine oV ?_
 refine a8 ?_
 exact xA (.bool false) ⟨false,trivial,rfl⟩
 refine oV ?_
 refine bv ?_
 refine w0 [(1,.la 1 0),(3,iv (k11:Int))] [(1,(eb.cells a0))] ?_
 refine aM ?_
 refine fu ((k11:Int)) (1) ?_
 refine ab ?_
 exact ⟨by omega,rfl,rfl⟩
 refine bk ?_
 refine bv ?_
 refine w0 [(1,.la 1 0),(3,iv (k11:Int))] [(1,(eb.cells a0))] ?_
 refine aM ?_
 refine fu ((k11:Int)) (1) ?_
 refine ab ?_
 exact ⟨by omega,rfl,rfl⟩
 refine bB ?_
 iterate 5 refine oV ?_
 refine gK (x15.kind) (4) (fun h26=>?_) (fun h26=>?_)
 iterate 3 refine oV ?_
 refine oC (t140 (x15.len) (1) (4000)) ?_
 rintro _ ⟨r28,hc27,rfl⟩
 cases r28
 refine oV ?_
 refine a8 ?_
 exact xA (.bool false) ⟨false,trivial,rfl⟩
 refine oV ?_
 refine bv ?_
 refine w0 [(1,.la 1 0),(3,iv (k11:Int))] [(1,(eb.cells a0))] ?_
 refine aM ?_
 refine fu ((k11:Int)) (1) ?_
 refine ab ?_
 exact ⟨by omega,rfl,rfl⟩
 refine bk ?_
 refine bv ?_
 refine w0 [(1,.la 1 0),(3,iv (k11:Int))] [(1,(eb.cells a0))] ?_
 refine aM ?_
 refine fu ((k11:Int)) (1) ?_
 refine ab ?_
 exact ⟨by omega,rfl,rfl⟩
 refine aE ?_
 refine w0 [(1,.la 1 0)] [(1,(eb.cells a0))] ?_
 refine aZ ?_
 have hNk29:=a0.signals.lk
 refine eN (a0.signals.l.length) (fun k29 e h=>proj [1,5] e=[(1,.la 1 0),(5,iv (k29:Int))]∧{ h with dO:=eV [1,5] h.dO } = { bY.empty with dO:=[(1,(eb.cells a0))] }) ?_ (k0:=0) cB ⟨rfl,rfl⟩
 rintro k29 e h hkk29 ⟨he,hh⟩
 refine ff he hh ?_
 clear he hh
 refine aB ?_
 have hL30:=a0.signals.lk
 refine fA a0.signals ?_
 refine fg ((k29:Int)) ((a0.signals.l.length:Int)) (fun h31=>?_) (fun h31=>?_)
 refine aX ?_
 refine w0 [(1,.la 1 0),(5,iv (k29:Int))] [(1,(eb.cells a0))] ?_
 refine bT ?_
 have hx32:k29<a0.signals.l.length:=by omega
 refine gL k29 a0.signals hx32 ?_
 generalize hqx33:a0.signals.l[k29]=x33
 iterate 2 refine oV ?_
 refine oC (t74 x33.name) ?_
 rintro _ ⟨r35,hc34,rfl⟩
 cases r35
 refine ai ?_
 exact xA (.bool false) ⟨false,trivial,rfl⟩
 refine aw ?_
 refine w0 [(1,.la 1 0),(5,iv (k29:Int))] [(1,(eb.cells a0))] ?_
 refine aM ?_
 refine fu ((k29:Int)) (1) ?_
 refine ab ?_
 exact ⟨by omega,rfl,rfl⟩
 refine aE ?_
 refine w0 [(1,.la 1 0)] [(1,(eb.cells a0))] ?_
 refine aZ ?_
 have hNk36:=a0.lines.lk
 refine eN (a0.lines.l.length) (fun k36 e h=>proj [1,6] e=[(1,.la 1 0),(6,iv (k36:Int))]∧{ h with dO:=eV [1,6] h.dO } = { bY.empty with dO:=[(1,(eb.cells a0))] }) ?_ (k0:=0) cB ⟨rfl,rfl⟩
 rintro k36 e h hkk36 ⟨he,hh⟩
 refine ff he hh ?_
 clear he hh
 refine aB ?_
 have hL37:=a0.lines.lk
 refine fA a0.lines ?_
 refine fg ((k36:Int)) ((a0.lines.l.length:Int)) (fun h38=>?_) (fun h38=>?_)
 refine aX ?_
 refine w0 [(1,.la 1 0),(6,iv (k36:Int))] [(1,(eb.cells a0))] ?_
 refine bT ?_
 have hx39:k36<a0.lines.l.length:=by omega
 refine gL k36 a0.lines hx39 ?_
 generalize hqx40:a0.lines.l[k36]=x40
 iterate 2 refine oV ?_
 refine oC (t74 x40.name) ?_
 rintro _ ⟨r42,hc41,rfl⟩
 cases r42
 refine ai ?_
 exact xA (.bool false) ⟨false,trivial,rfl⟩
 refine aw ?_
 refine w0 [(1,.la 1 0),(6,iv (k36:Int))] [(1,(eb.cells a0))] ?_
 refine aM ?_
 refine fu ((k36:Int)) (1) ?_
 refine ab ?_
 exact ⟨by omega,rfl,rfl⟩
 refine aE ?_
 refine w0 [] [] ?_
 refine a6 ?_
 exact xA (.bool true) ⟨true,trivial,rfl⟩
theorem Nn:eG.get 84=some BM:=by kernel_rfl
theorem JS:ei 84=none:=by kernel_rfl
def VZ (_a0:Row jd) (v:AV):Prop:=∃ r0:Bool,(True)∧v=.bool r0
theorem t84 (a0:Row jd)  (h:bY):∃ v,eH cfg eG.get ei false 84 [Row.av gS a0] h v h∧VZ a0 v:=by
 refine eW JS Nn rfl rfl ?_
 refine aQ ?_
 refine aZ ?_
 have hNk1:=a0.lk
 refine eN (a0.l.length) (fun k1 e h=>proj [0,3] e=[(0,Row.av gS a0),(3,iv (k1:Int))]∧{ h with dO:=eV [0,3] h.dO } = { bY.empty with dO:=[] }) ?_ (k0:=0) cB ⟨rfl,rfl⟩
 rintro k1 e h hkk1 ⟨he,hh⟩
 refine ff he hh ?_
 clear he hh
 refine aI ?_
 have hL2:=a0.lk
 refine fA a0 ?_
 refine fg ((k1:Int)) ((a0.l.length:Int)) (fun h3=>?_) (fun h3=>?_)
 refine aX ?_
 refine w0 [(0,Row.av gS a0),(3,iv (k1:Int))] [] ?_
 refine bg ?_
 refine aP ?_
 refine eN (k1) (fun k4 e h=>proj [0,3,4] e=[(0,Row.av gS a0),(3,iv (k1:Int)),(4,iv (k4:Int))]∧{ h with dO:=eV [0,3,4] h.dO } = { bY.empty with dO:=[] }) ?_ (k0:=0) cB ⟨rfl,rfl⟩
 rintro k4 e h hkk4 ⟨he,hh⟩
 refine ff he hh ?_
 clear he hh
 refine aI ?_
 refine fg ((k4:Int)) ((k1:Int)) (fun h5=>?_) (fun h5=>?_)
 refine aX ?_
 refine w0 [(0,Row.av gS a0),(3,iv (k1:Int)),(4,iv (k4:Int))] [] ?_
 refine aA ?_
 refine bi ?_
 have hx6:k1<a0.l.length:=by omega
 refine jE k1 a0 hx6 ?_
 generalize hqx7:a0.l[k1]=x7
 iterate 3 refine rV ?_
 have hx8:k4<a0.l.length:=by omega
 refine jE k4 a0 hx8 ?_
 generalize hqx9:a0.l[k4]=x9
 refine rV ?_
 refine jC rfl rfl (fun _=>rI rfl rfl) (fun h10=>?_) (fun h10=>?_)
 refine rN ?_
 refine ac ?_
 exact xA (.bool true) ⟨true,trivial,rfl⟩
 refine bV ?_
 refine w0 [(0,Row.av gS a0),(3,iv (k1:Int)),(4,iv (k4:Int))] [] ?_
 refine aM ?_
 refine fu ((k4:Int)) (1) ?_
 refine ab ?_
 exact ⟨by omega,rfl,rfl⟩
 refine aE ?_
 refine w0 [(0,Row.av gS a0),(3,iv (k1:Int))] [] ?_
 refine aM ?_
 refine fu ((k1:Int)) (1) ?_
 refine ab ?_
 exact ⟨by omega,rfl,rfl⟩
 refine aE ?_
 refine w0 [] [] ?_
 refine a6 ?_
 exact xA (.bool false) ⟨false,trivial,rfl⟩
theorem Sa:eG.get 18=some Db:=by kernel_rfl
theorem K7:ei 18=none:=by kernel_rfl
def Wo (_a0:eb) (_a1:ed) (v:AV):Prop:=∃ r0:ed,∃ r1:Bool,(((r1=true→gJ _a0.eT.l _a1=some r0)∧(r1=false→gJ _a0.eT.l _a1=none)))∧v=.eP [.agg (ed.cells r0),.bool r1]
theorem t18 (a0:eb) (a1:ed)  (h:bY):∃ v,eH cfg eG.get ei false 18 [.agg (eb.cells a0),.agg (ed.cells a1)] h v h∧Wo a0 a1 v:=by
 refine eW K7 Sa rfl rfl ?_
 refine aa ?_
 refine bF ?_
 refine aZ ?_
 have hNk1:=a0.eT.lk
 refine eN (a0.eT.l.length) (fun k1 e h=>(gJ (a0.eT.l.drop k1) a1=gJ a0.eT.l a1)∧proj [2,3,4,6] e=[(2,.la 2 0),(3,.la 3 0),(4,.la 4 0),(6,iv (k1:Int))]∧{ h with dO:=eV [2,3,4,6] h.dO } = { bY.empty with dO:=[(2,(eb.cells a0)),(3,(ed.cells a1)),(4,[iv 0,iv 0])] }) ?_ (k0:=0) cB ⟨(by rfl),rfl,rfl⟩
 rintro k1 e h hkk1 ⟨hI,he,hh⟩
 refine ff he hh ?_
 clear he hh
 refine aB ?_
 have hL2:=a0.eT.lk
 refine fA a0.eT ?_
 refine fg ((k1:Int)) ((a0.eT.l.length:Int)) (fun h3=>?_) (fun h3=>?_)
 refine aX ?_
 refine w0 [(2,.la 2 0),(3,.la 3 0),(4,.la 4 0),(4,.la 4 0),(6,iv (k1:Int))] [(2,(eb.cells a0)),(3,(ed.cells a1)),(4,[iv 0,iv 0]),(4,[iv 0,iv 0])] ?_
 refine aA ?_
 refine qs ?_
 refine bO ?_
 have hx4:k1<a0.eT.l.length:=by omega
 refine jE k1 a0.eT hx4 ?_
 generalize hqx5:a0.eT.l[k1]=x5
 iterate 3 refine rV ?_
 refine jC rfl rfl (fun _=>mO rfl rfl rfl (fun _ _=>rfl)) (fun h6=>?_) (fun h6=>?_)
 refine rN ?_
 refine qT ?_
 refine aF ?_
 have hx7:k1<a0.eT.l.length:=by omega
 refine gL k1 a0.eT hx7 ?_
 rw [hqx5]
 refine bb ?_
 exact xF (.eP [.agg (ed.cells x5.b),.bool true]) ⟨x5.b,true,dj,rfl⟩
 refine bV ?_
 refine w0 [(2,.la 2 0),(3,.la 3 0),(4,.la 4 0),(4,.la 4 0),(6,iv (k1:Int))] [(2,(eb.cells a0)),(3,(ed.cells a1)),(4,[iv 0,iv 0]),(4,[iv 0,iv 0])] ?_
 refine bO ?_
 have hx9:k1<a0.eT.l.length:=by omega
 refine jE k1 a0.eT hx9 ?_
 rw [hqx5]
 iterate 3 refine rV ?_
 refine jC rfl rfl (fun _=>mO rfl rfl rfl (fun _ _=>rfl)) (fun h11=>?_) (fun h11=>?_)
 refine rN ?_
 refine qT ?_
 refine aF ?_
 have hx12:k1<a0.eT.l.length:=by omega
 refine gL k1 a0.eT hx12 ?_
 rw [hqx5]
 refine bb ?_
 exact xF (.eP [.agg (ed.cells x5.a),.bool true]) ⟨x5.a,true,dj,rfl⟩
 refine bV ?_
 refine w0 [(2,.la 2 0),(3,.la 3 0),(4,.la 4 0),(6,iv (k1:Int))] [(2,(eb.cells a0)),(3,(ed.cells a1)),(4,[iv 0,iv 0])] ?_
 refine aM ?_
 refine fu ((k1:Int)) (1) ?_
 refine ab ?_
 exact ⟨by omega,(by (exact (A4 cC cC cC cC).trans hI)),rfl,rfl⟩
 refine aE ?_
 refine w0 [(4,.la 4 0),(4,.la 4 0)] [(4,[iv 0,iv 0]),(4,[iv 0,iv 0])] ?_
 refine a7 ?_
 exact xF (.eP [.agg [iv 0,iv 0],.bool false]) ⟨(⟨(0),(0)⟩:ed),false,dj,rfl⟩
theorem M3:eG.get 41=some CD:=by kernel_rfl
theorem IU:ei 41=none:=by kernel_rfl
def Wc (_a0:eb) (_a1:Int) (v:AV):Prop:=∃ r0:Int,(r0=jG _a0 _a1)∧v=iv r0
theorem t41 (a0:eb) (a1:Int)  (h:bY):∃ v,eH cfg eG.get ei false 41 [.agg (eb.cells a0),iv a1] h v h∧Wc a0 a1 v:=by
 refine eW IU M3 rfl rfl ?_
 refine aU ?_
 refine ak ?_
 refine fg (a1) (0) (fun h1=>?_) (fun h1=>?_)
 refine bf ?_
 refine ai ?_
 exact xA (iv 0) ⟨(0),di,rfl⟩
 iterate 4 refine oV ?_
 have hL2:=a0.elems.lk
 refine fA a0.elems ?_
 refine gV (a1) ((a0.elems.l.length:Int)) (fun h3=>?_) (fun h3=>?_)
 refine ai ?_
 exact xA (iv 0) ⟨(0),di,rfl⟩
 refine aw ?_
 refine w0 [(1,iv a1),(2,.la 2 0)] [(2,(eb.cells a0))] ?_
 refine aF ?_
 have hx4:(a1).toNat<a0.elems.l.length:=by omega
 refine eg rfl (fun _=>fE (n:=a1) (r:=a0.elems) (enc:=e8.cells) rfl rfl rfl rfl rfl cB hx4 rfl) ?_
 generalize hqx5:a0.elems.l[(a1).toNat]=x5
 refine bz ?_
 exact xA (iv x5.kind) ⟨(x5.kind),di,rfl⟩
theorem L7:eG.get 79=some C9:=by kernel_rfl
theorem LM:ei 79=none:=by kernel_rfl
def WL (_a0:eb) (_a1:ed) (v:AV):Prop:=∃ r0:Bool,((r0=true→0≤_a1.elem∧_a1.elem<(_a0.elems.l.length:Int)∧0≤_a1.en∧_a1.en<4))∧v=.bool r0
theorem t79 (a0:eb) (a1:ed)  (h:bY):∃ v,eH cfg eG.get ei false 79 [.agg (eb.cells a0),.agg (ed.cells a1)] h v h∧WL a0 a1 v:=by
 refine eW LM L7 rfl rfl ?_
 refine bm ?_
 refine bi ?_
 refine jR (a1.elem) (0) (fun h1=>?_) (fun h1=>?_)
 iterate 5 refine rV ?_
 have hL2:=a0.elems.lk
 refine GH a0.elems ?_
 refine j8 (a1.elem) ((a0.elems.l.length:Int)) (fun h3=>?_) (fun h3=>?_)
 iterate 4 refine rV ?_
 refine jR (a1.en) (0) (fun h4=>?_) (fun h4=>?_)
 iterate 8 refine rV ?_
 have hx5:(a1.elem).toNat<a0.elems.l.length:=by omega
 refine eI rfl rfl (fun _=>fE (n:=a1.elem) (r:=a0.elems) (enc:=e8.cells) rfl rfl rfl rfl rfl cB hx5 rfl) ?_
 generalize hqx6:a0.elems.l[(a1.elem).toNat]=x6
 iterate 2 refine rV ?_
 refine rC (t42 (x6.kind)) ?_
 rintro _ ⟨r8,hc7,rfl⟩
 refine j8 (a1.en) (r8) (fun h9=>?_) (fun h9=>?_)
 refine aH ?_
 exact xA (.bool true) ⟨true,cQ,rfl⟩
 refine aH ?_
 exact xA (.bool false) ⟨false,cQ,rfl⟩
 refine bp ?_
 iterate 5 refine rS ?_
 refine aH ?_
 exact xA (.bool false) ⟨false,cQ,rfl⟩
 refine aD ?_
 iterate 11 refine rS ?_
 refine aH ?_
 exact xA (.bool false) ⟨false,cQ,rfl⟩
 refine ck ?_
 refine aD ?_
 iterate 11 refine rS ?_
 refine aH ?_
 exact xA (.bool false) ⟨false,cQ,rfl⟩
theorem NN:eG.get 85=some DC:=by kernel_rfl
theorem Ke:ei 85=none:=by kernel_rfl
def Xq (_a0:eb) (v:AV):Prop:=∃ r0:Bool,(True)∧v=.bool r0
theorem t85 (a0:eb) (q1:iY a0) (h:bY):∃ v,eH cfg eG.get ei false 85 [.agg (eb.cells a0)] h v h∧Xq a0 v:=by
 refine eW Ke NN rfl rfl ?_
 have q2:=q1.elems; have q3:=q1.eT
 refine aU ?_
 refine aQ ?_
 refine aZ ?_
 have hS1:=Sep.iF gg 2
 have hNk2:=a0.eT.lk
 refine eN (a0.eT.l.length) (fun k2 e h=>∃ v3:AV,∃ l4:List ed,∃ H5:bY,(l4.length≤0+2*k2)∧Sep H5 (.sl true true v3 2 (List.map ed.cells l4)::[])∧proj [1,3,4] e=[(1,.la 1 0),(3,v3),(4,iv (k2:Int))]∧{ h with dO:=eV [1,3,4] h.dO } = { H5 with dO:=[(1,(eb.cells a0))] }) ?_ (k0:=0) cB ⟨((.sl [] .nil)),(([]:List ed)),bY.empty,c8,hS1,rfl,rfl⟩
 rintro k2 e h hkk2 ⟨v3,l4,H5,hl7,hS6,he,hh⟩
 refine ff he hh ?_
 clear he hh
 refine aB ?_
 have hL8:=a0.eT.lk
 refine fA a0.eT ?_
 refine fg ((k2:Int)) ((a0.eT.l.length:Int)) (fun h9=>?_) (fun h9=>?_)
 refine aX ?_
 refine wa [(1,.la 1 0),(3,v3),(4,iv (k2:Int))] H5 [(1,(eb.cells a0))] ?_ (Eq.trans (b:=[(1,.la 1 0),(3,eB 3 v3),(4,iv (k2:Int))]) rfl cI)
 refine aA ?_
 refine qd ?_
 iterate 4 refine rV ?_
 have hx10:k2<a0.eT.l.length:=by omega
 refine jE k2 a0.eT hx10 ?_
 generalize hqx11:a0.eT.l[k2]=x11
 iterate 5 refine rV ?_
 have hx12:k2<a0.eT.l.length:=by omega
 refine jE k2 a0.eT hx12 ?_
 rw [hqx11]
 iterate 3 refine rV ?_
 refine iA (H:=H5) rfl rfl (fX (H:=H5) (i:=0) (l:=l4) (enc:=ed.cells) [x11.a,x11.b] hS6 rfl rfl rfl rfl rfl rfl rfl rfl rfl (fun _=>rfl) (.inl rfl) cF (fun _=>rfl)) ?_
 rintro v14 H15 hS16
 refine aR ?_
 refine wa [(1,.la 1 0),(3,v14),(4,iv (k2:Int))] H15 [(1,(eb.cells a0))] ?_ (Eq.trans (b:=[(1,.la 1 0),(3,eB 3 v14),(4,iv (k2:Int))]) rfl dJ)
 refine aM ?_
 refine fu ((k2:Int)) (1) ?_
 refine ab ?_
 exact ⟨by omega,(v14),((l4++[x11.a,x11.b])),H15,cA,hS16,(Eq.trans (b:=[(1,.la 1 0),(3,eB 3 v14),(4,iv ((k2:Int)+1))]) rfl dJ),rfl⟩
 refine aE ?_
 refine wa [(1,.la 1 0),(3,v3)] H5 [(1,(eb.cells a0))] ?_ (Eq.trans (b:=[(1,.la 1 0),(3,eB 3 v3)]) rfl cI)
 refine aZ ?_
 refine eN (l4.length) (fun k17 e h=>proj [1,3,5] e=[(1,.la 1 0),(3,v3),(5,iv (k17:Int))]∧{ h with dO:=eV [1,3,5] h.dO } = { H5 with dO:=[(1,(eb.cells a0))] }) ?_ (k0:=0) cB ⟨(Eq.trans (b:=[(1,.la 1 0),(3,eB 3 v3),(5,iv 0)]) rfl cI),rfl⟩
 rintro k17 e h hkk17 ⟨he,hh⟩
 refine ff he hh ?_
 clear he hh
 refine aI ?_
 refine eg rfl (fun _=>jb (H:=H5) (i:=0) (l:=l4) (enc:=ed.cells) hS6 rfl rfl rfl rfl rfl rfl rfl) ?_
 refine fg ((k17:Int)) ((l4.length:Int)) (fun h18=>?_) (fun h18=>?_)
 refine aX ?_
 refine wa [(1,.la 1 0),(3,v3),(5,iv (k17:Int))] H5 [(1,(eb.cells a0))] ?_ (Eq.trans (b:=[(1,.la 1 0),(3,eB 3 v3),(5,iv (k17:Int))]) rfl cI)
 refine aA ?_
 refine qs ?_
 refine bO ?_
 have hx19:k17<l4.length:=by first | omega | (simp<;>omega) | (simp_all; omega)
 obtain ⟨x20,hqx20⟩:∃ x,l4[k17]=x:=⟨_,rfl⟩
 refine ki rfl rfl (je (H:=H5) (i:=0) (m:=k17) (cs:=ed.cells x20) hS6 rfl rfl rfl rfl rfl rfl rfl (g9 hx19 hqx20)) ?_
 rintro a21 ⟨ha22,hea23⟩
 refine eI rfl rfl (fun _=>kB (H:=H5) (i:=0) (m:=k17) (o:=0) (r:=.agg (ed.cells x20)) (cs:=ed.cells x20) hS6 rfl (g9 hx19 hqx20) hea23 rfl rfl ha22) ?_
 refine rC (t79 a0 x20) ?_
 rintro _ ⟨r25,hc24,rfl⟩
 cases r25
 clear hc24
 refine aR ?_
 refine ac ?_
 exact xA (.bool false) ⟨false,trivial,rfl⟩
 have hc24t:=hc24 rfl
 refine bu ?_
 refine wa [(1,.la 1 0),(3,v3),(5,iv (k17:Int))] H5 [(1,(eb.cells a0))] ?_ (Eq.trans (b:=[(1,.la 1 0),(3,eB 3 v3),(5,iv (k17:Int))]) rfl cI)
 refine aa ?_
 refine aP ?_
 refine eN (k17) (fun k26 e h=>proj [1,3,5,6] e=[(1,.la 1 0),(3,v3),(5,iv (k17:Int)),(6,iv (k26:Int))]∧{ h with dO:=eV [1,3,5,6] h.dO } = { H5 with dO:=[(1,(eb.cells a0))] }) ?_ (k0:=0) cB ⟨(Eq.trans (b:=[(1,.la 1 0),(3,eB 3 v3),(5,iv (k17:Int)),(6,iv 0)]) rfl cI),rfl⟩
 rintro k26 e h hkk26 ⟨he,hh⟩
 refine ff he hh ?_
 clear he hh
 refine aI ?_
 refine fg ((k26:Int)) ((k17:Int)) (fun h27=>?_) (fun h27=>?_)
 refine aX ?_
 refine wa [(1,.la 1 0),(3,v3),(5,iv (k17:Int)),(6,iv (k26:Int))] H5 [(1,(eb.cells a0))] ?_ (Eq.trans (b:=[(1,.la 1 0),(3,eB 3 v3),(5,iv (k17:Int)),(6,iv (k26:Int))]) rfl cI)
 refine aA ?_
 refine bi ?_
 have hx28:k26<l4.length:=by first | omega | (simp<;>omega) | (simp_all; omega)
 obtain ⟨x29,hqx29⟩:∃ x,l4[k26]=x:=⟨_,rfl⟩
 refine ki rfl rfl (je (H:=H5) (i:=0) (m:=k26) (cs:=ed.cells x29) hS6 rfl rfl rfl rfl rfl rfl rfl (g9 hx28 hqx29)) ?_
 rintro a30 ⟨ha31,hea32⟩
 refine eI rfl rfl (fun _=>kB (H:=H5) (i:=0) (m:=k26) (o:=0) (r:=.agg (ed.cells x29)) (cs:=ed.cells x29) hS6 rfl (g9 hx28 hqx29) hea32 rfl rfl ha31) ?_
 iterate 2 refine rV ?_
 have hx33:k17<l4.length:=by first | omega | (simp<;>omega) | (simp_all; omega)
 refine ki rfl rfl (je (H:=H5) (i:=0) (m:=k17) (cs:=ed.cells x20) hS6 rfl rfl rfl rfl rfl rfl rfl (g9 hx33 hqx20)) ?_
 rintro a34 ⟨ha35,hea36⟩
 refine eI rfl rfl (fun _=>kB (H:=H5) (i:=0) (m:=k17) (o:=0) (r:=.agg (ed.cells x20)) (cs:=ed.cells x20) hS6 rfl (g9 hx33 hqx20) hea36 rfl rfl ha35) ?_
 refine jC rfl rfl (fun _=>mO rfl rfl rfl (fun _ _=>rfl)) (fun h37=>?_) (fun h37=>?_)
 refine rN ?_
 refine ac ?_
 exact xA (.bool false) ⟨false,trivial,rfl⟩
 refine bV ?_
 refine wa [(1,.la 1 0),(3,v3),(5,iv (k17:Int)),(6,iv (k26:Int))] H5 [(1,(eb.cells a0))] ?_ (Eq.trans (b:=[(1,.la 1 0),(3,eB 3 v3),(5,iv (k17:Int)),(6,iv (k26:Int))]) rfl cI)
 refine aM ?_
 refine fu ((k26:Int)) (1) ?_
 refine ab ?_
 exact ⟨by omega,(Eq.trans (b:=[(1,.la 1 0),(3,eB 3 v3),(5,iv (k17:Int)),(6,iv ((k26:Int)+1))]) rfl cI),rfl⟩
 refine aE ?_
 refine wa [(1,.la 1 0),(3,v3),(5,iv (k17:Int))] H5 [(1,(eb.cells a0))] ?_ (Eq.trans (b:=[(1,.la 1 0),(3,eB 3 v3),(5,iv (k17:Int))]) rfl cI)
 refine aM ?_
 refine fu ((k17:Int)) (1) ?_
 refine ab ?_
 exact ⟨by omega,(Eq.trans (b:=[(1,.la 1 0),(3,eB 3 v3),(5,iv ((k17:Int)+1))]) rfl cI),rfl⟩
 refine aE ?_
 refine wa [(1,.la 1 0)] H5 [(1,(eb.cells a0))] ?_
 refine aZ ?_
 have hNk38:=a0.elems.lk
 refine eN (a0.elems.l.length) (fun k38 e h=>proj [1,7] e=[(1,.la 1 0),(7,iv (k38:Int))]∧{ h with dO:=eV [1,7] h.dO } = { H5 with dO:=[(1,(eb.cells a0))] }) ?_ (k0:=0) cB ⟨rfl,rfl⟩
 rintro k38 e h hkk38 ⟨he,hh⟩
 refine ff he hh ?_
 clear he hh
 refine aB ?_
 have hL39:=a0.elems.lk
 refine fA a0.elems ?_
 refine fg ((k38:Int)) ((a0.elems.l.length:Int)) (fun h40=>?_) (fun h40=>?_)
 refine aX ?_
 refine wa [(1,.la 1 0),(7,iv (k38:Int))] H5 [(1,(eb.cells a0))] ?_
 refine bT ?_
 have hx41:k38<a0.elems.l.length:=by omega
 refine gL k38 a0.elems hx41 ?_
 generalize hqx42:a0.elems.l[k38]=x42
 iterate 2 refine oV ?_
 refine fj (x42.kind) (4) (fun h43=>?_) (fun h43=>?_)
 refine ay ?_
 refine aF ?_
 refine oC (t18 a0 (⟨((k38:Int)),(0)⟩:ed)) ?_
 rintro _ ⟨r45,r46,hc44,rfl⟩
 have hN:=hc44
 cases r46
 refine ca ?_
 refine b5 ?_
 exact xA (.bool false) ⟨false,trivial,rfl⟩
 refine bN ?_
 iterate 6 refine oV ?_
 refine oC (t41 a0 (r45.elem)) ?_
 rintro _ ⟨r48,hc47,rfl⟩
 refine fj (r48) (4) (fun h49=>?_) (fun h49=>?_)
 refine ai ?_
 exact xA (.bool false) ⟨false,trivial,rfl⟩
 refine aw ?_
 refine wa [(1,.la 1 0),(7,iv (k38:Int))] H5 [(1,(eb.cells a0))] ?_
 refine aM ?_
 refine fu ((k38:Int)) (1) ?_
 refine ab ?_
 exact ⟨by omega,rfl,rfl⟩
 refine az ?_
 refine wa [(1,.la 1 0),(7,iv (k38:Int))] H5 [(1,(eb.cells a0))] ?_
 refine aM ?_
 refine fu ((k38:Int)) (1) ?_
 refine ab ?_
 exact ⟨by omega,rfl,rfl⟩
 refine aE ?_
 refine wa [] H5 [] ?_
 refine a6 ?_
 exact xA (.bool true) ⟨true,trivial,rfl⟩
theorem P0:eG.get 23=some CL:=by kernel_rfl
theorem Lv:ei 23=none:=by kernel_rfl
def WC (_a0:eb) (_a1:ed) (v:AV):Prop:=∃ r0:Int,(r0=(ig _a0.signals.l _a1).getD (-1))∧v=iv r0
theorem t23 (a0:eb) (a1:ed)  (h:bY):∃ v,eH cfg eG.get ei false 23 [.agg (eb.cells a0),.agg (ed.cells a1)] h v h∧WC a0 a1 v:=by
 refine eW Lv P0 rfl rfl ?_
 refine bm ?_
 refine aZ ?_
 have hNk1:=a0.signals.lk
 refine eN (a0.signals.l.length) (fun k1 e h=>(gw a1 k1 (a0.signals.l.drop k1)=ig a0.signals.l a1)∧proj [2,3,5] e=[(2,.la 2 0),(3,.la 3 0),(5,iv (k1:Int))]∧{ h with dO:=eV [2,3,5] h.dO } = { bY.empty with dO:=[(2,(eb.cells a0)),(3,(ed.cells a1))] }) ?_ (k0:=0) cB ⟨(by rfl),rfl,rfl⟩
 rintro k1 e h hkk1 ⟨hI,he,hh⟩
 refine ff he hh ?_
 clear he hh
 refine aB ?_
 have hL2:=a0.signals.lk
 refine fA a0.signals ?_
 refine fg ((k1:Int)) ((a0.signals.l.length:Int)) (fun h3=>?_) (fun h3=>?_)
 refine aX ?_
 refine w0 [(2,.la 2 0),(3,.la 3 0),(5,iv (k1:Int))] [(2,(eb.cells a0)),(3,(ed.cells a1))] ?_
 refine aA ?_
 refine bO ?_
 have hx4:k1<a0.signals.l.length:=by omega
 refine jE k1 a0.signals hx4 ?_
 generalize hqx5:a0.signals.l[k1]=x5
 iterate 3 refine rV ?_
 refine jC rfl rfl (fun _=>mO rfl rfl rfl (fun _ _=>rfl)) (fun h6=>?_) (fun h6=>?_)
 refine rN ?_
 refine qT ?_
 refine a9 ?_
 exact xA (iv (k1:Int)) ⟨((k1:Int)),dV,rfl⟩
 refine bV ?_
 refine w0 [(2,.la 2 0),(3,.la 3 0),(5,iv (k1:Int))] [(2,(eb.cells a0)),(3,(ed.cells a1))] ?_
 refine aM ?_
 refine fu ((k1:Int)) (1) ?_
 refine ab ?_
 exact ⟨by omega,(by (exact (uG cC cC cC).trans hI)),rfl,rfl⟩
 refine aE ?_
 refine w0 [] [] ?_
 refine a6 ?_
 exact xA (iv (-1)) ⟨(-1),dV,rfl⟩
theorem N5:eG.get 86=some Cy:=by kernel_rfl
theorem Kc:ei 86=none:=by kernel_rfl
def WT (_a0:eb) (v:AV):Prop:=∃ r0:Bool,(True)∧v=.bool r0
theorem t86 (a0:eb)  (h:bY):∃ v,eH cfg eG.get ei false 86 [.agg (eb.cells a0)] h v h∧WT a0 v:=by
 refine eW Kc N5 rfl rfl ?_
 refine aU ?_
 refine aZ ?_
 have hNk1:=a0.signals.lk
 refine eN (a0.signals.l.length) (fun k1 e h=>proj [1,3] e=[(1,.la 1 0),(3,iv (k1:Int))]∧{ h with dO:=eV [1,3] h.dO } = { bY.empty with dO:=[(1,(eb.cells a0))] }) ?_ (k0:=0) cB ⟨rfl,rfl⟩
 rintro k1 e h hkk1 ⟨he,hh⟩
 refine ff he hh ?_
 clear he hh
 refine aB ?_
 have hL2:=a0.signals.lk
 refine fA a0.signals ?_
 refine fg ((k1:Int)) ((a0.signals.l.length:Int)) (fun h3=>?_) (fun h3=>?_)
 refine aX ?_
 refine w0 [(1,.la 1 0),(3,iv (k1:Int))] [(1,(eb.cells a0))] ?_
 refine bT ?_
 have hx4:k1<a0.signals.l.length:=by omega
 refine gL k1 a0.signals hx4 ?_
 generalize hqx5:a0.signals.l[k1]=x5
 refine bF ?_
 refine aF ?_
 refine oC (t41 a0 (x5.at_.elem)) ?_
 rintro _ ⟨r7,hc6,rfl⟩
 refine bX ?_
 refine oC (t79 a0 x5.at_) ?_
 rintro _ ⟨r9,hc8,rfl⟩
 cases r9
 clear hc8
 refine aK ?_
 refine oS ?_
 refine ai ?_
 exact xA (.bool false) ⟨false,trivial,rfl⟩
 have hc8t:=hc8 rfl
 iterate 3 refine oV ?_
 refine gK (r7) (1) (fun h10=>?_) (fun h10=>?_)
 iterate 2 refine oV ?_
 refine gK (r7) (4) (fun h11=>?_) (fun h11=>?_)
 refine a8 ?_
 exact xA (.bool false) ⟨false,trivial,rfl⟩
 refine bv ?_
 refine w0 [(1,.la 1 0),(3,iv (k1:Int)),(4,.la 4 0)] [(1,(eb.cells a0)),(4,(ed.cells x5.at_))] ?_
 refine ae ?_
 refine oC (t18 a0 x5.at_) ?_
 rintro _ ⟨r13,r14,hc12,rfl⟩
 have hN:=hc12
 cases r14
 refine ca ?_
 refine aK ?_
 refine b5 ?_
 exact xA (.bool false) ⟨false,trivial,rfl⟩
 refine bN ?_
 iterate 6 refine oV ?_
 refine oC (t41 a0 (r13.elem)) ?_
 rintro _ ⟨r16,hc15,rfl⟩
 refine fj (r16) (4) (fun h17=>?_) (fun h17=>?_)
 refine b5 ?_
 exact xA (.bool false) ⟨false,trivial,rfl⟩
 iterate 4 refine oV ?_
 refine oC (t23 a0 x5.at_) ?_
 rintro _ ⟨r19,hc18,rfl⟩
 have hR:=hc18
 refine oV ?_
 refine gK (r19) ((k1:Int)) (fun h20=>?_) (fun h20=>?_)
 refine ai ?_
 exact xA (.bool false) ⟨false,trivial,rfl⟩
 refine aw ?_
 refine w0 [(1,.la 1 0),(3,iv (k1:Int))] [(1,(eb.cells a0))] ?_
 refine aM ?_
 refine fu ((k1:Int)) (1) ?_
 refine ab ?_
 exact ⟨by omega,rfl,rfl⟩
 refine ba ?_
 refine bv ?_
 refine w0 [(1,.la 1 0),(3,iv (k1:Int)),(4,.la 4 0)] [(1,(eb.cells a0)),(4,(ed.cells x5.at_))] ?_
 refine ae ?_
 refine oC (t18 a0 x5.at_) ?_
 rintro _ ⟨r22,r23,hc21,rfl⟩
 have hN:=hc21
 cases r23
 refine ca ?_
 refine aK ?_
 refine b5 ?_
 exact xA (.bool false) ⟨false,trivial,rfl⟩
 refine bN ?_
 iterate 6 refine oV ?_
 refine oC (t41 a0 (r22.elem)) ?_
 rintro _ ⟨r25,hc24,rfl⟩
 refine fj (r25) (4) (fun h26=>?_) (fun h26=>?_)
 refine b5 ?_
 exact xA (.bool false) ⟨false,trivial,rfl⟩
 iterate 4 refine oV ?_
 refine oC (t23 a0 x5.at_) ?_
 rintro _ ⟨r28,hc27,rfl⟩
 have hR:=hc27
 refine oV ?_
 refine gK (r28) ((k1:Int)) (fun h29=>?_) (fun h29=>?_)
 refine ai ?_
 exact xA (.bool false) ⟨false,trivial,rfl⟩
 refine aw ?_
 refine w0 [(1,.la 1 0),(3,iv (k1:Int))] [(1,(eb.cells a0))] ?_
 refine aM ?_
 refine fu ((k1:Int)) (1) ?_
 refine ab ?_
 exact ⟨by omega,rfl,rfl⟩
 refine aE ?_
 refine w0 [(1,.la 1 0)] [(1,(eb.cells a0))] ?_
 refine aZ ?_
 have hNk30:=a0.elems.lk
 refine eN (a0.elems.l.length) (fun k30 e h=>proj [1,8] e=[(1,.la 1 0),(8,iv (k30:Int))]∧{ h with dO:=eV [1,8] h.dO } = { bY.empty with dO:=[(1,(eb.cells a0))] }) ?_ (k0:=0) cB ⟨rfl,rfl⟩
 rintro k30 e h hkk30 ⟨he,hh⟩
 refine ff he hh ?_
 clear he hh
 refine aB ?_
 have hL31:=a0.elems.lk
 refine fA a0.elems ?_
 refine fg ((k30:Int)) ((a0.elems.l.length:Int)) (fun h32=>?_) (fun h32=>?_)
 refine aX ?_
 refine w0 [(1,.la 1 0),(8,iv (k30:Int))] [(1,(eb.cells a0))] ?_
 refine bT ?_
 have hx33:k30<a0.elems.l.length:=by omega
 refine gL k30 a0.elems hx33 ?_
 generalize hqx34:a0.elems.l[k30]=x34
 iterate 2 refine oV ?_
 refine fj (x34.kind) (4) (fun h35=>?_) (fun h35=>?_)
 iterate 4 refine oV ?_
 refine oC (t23 a0 (⟨((k30:Int)),(0)⟩:ed)) ?_
 rintro _ ⟨r37,hc36,rfl⟩
 have hR:=hc36
 refine fg (r37) (0) (fun h38=>?_) (fun h38=>?_)
 refine ai ?_
 exact xA (.bool false) ⟨false,trivial,rfl⟩
 refine aw ?_
 refine w0 [(1,.la 1 0),(8,iv (k30:Int))] [(1,(eb.cells a0))] ?_
 refine aM ?_
 refine fu ((k30:Int)) (1) ?_
 refine ab ?_
 exact ⟨by omega,rfl,rfl⟩
 refine bf ?_
 refine aw ?_
 refine w0 [(1,.la 1 0),(8,iv (k30:Int))] [(1,(eb.cells a0))] ?_
 refine aM ?_
 refine fu ((k30:Int)) (1) ?_
 refine ab ?_
 exact ⟨by omega,rfl,rfl⟩
 refine aE ?_
 refine w0 [] [] ?_
 refine a6 ?_
 exact xA (.bool true) ⟨true,trivial,rfl⟩
theorem NL:eG.get 39=some Cs:=by kernel_rfl
theorem tC:ei 39=none:=by kernel_rfl
def EK (_a0:eR Int) (_a1:Int) (v:AV):Prop:=∃ r0:Bool,(True)∧v=.bool r0
theorem t39 (a0:eR Int) (a1:Int)  (h:bY):∃ v,eH cfg eG.get ei false 39 [eR.av eu a0,iv a1] h v h∧EK a0 a1 v:=by
 refine eW tC NL rfl rfl ?_
 refine aQ ?_
 refine aZ ?_
 have hNk1:=a0.lk
 refine eN (a0.l.length) (fun k1 e h=>proj [0,1,5] e=[(0,eR.av eu a0),(1,iv a1),(5,iv (k1:Int))]∧{ h with dO:=eV [0,1,5] h.dO } = { bY.empty with dO:=[] }) ?_ (k0:=0) cB ⟨rfl,rfl⟩
 rintro k1 e h hkk1 ⟨he,hh⟩
 refine ff he hh ?_
 clear he hh
 refine aI ?_
 have hL2:=a0.lk
 refine eg rfl (fun _=>lG (r:=a0) (enc:=eu) rfl rfl rfl rfl rfl rfl) ?_
 refine fg ((k1:Int)) ((a0.l.length:Int)) (fun h3=>?_) (fun h3=>?_)
 refine aX ?_
 refine w0 [(0,eR.av eu a0),(1,iv a1),(5,iv (k1:Int))] [] ?_
 refine aA ?_
 refine ae ?_
 have hx4:k1<a0.l.length:=by omega
 refine eg rfl (fun _=>lS (n:=k1) (r:=a0) (enc:=eu) rfl rfl rfl rfl rfl hx4 rfl) ?_
 generalize hqx5:a0.l[k1]=x5
 iterate 2 refine oV ?_
 refine fj (x5) (a1) (fun h6=>?_) (fun h6=>?_)
 refine be ?_
 exact xA (.bool true) ⟨true,trivial,rfl⟩
 refine az ?_
 refine w0 [(0,eR.av eu a0),(1,iv a1),(5,iv (k1:Int))] [] ?_
 refine aM ?_
 refine fu ((k1:Int)) (1) ?_
 refine ab ?_
 exact ⟨by omega,rfl,rfl⟩
 refine aE ?_
 refine w0 [] [] ?_
 refine a6 ?_
 exact xA (.bool false) ⟨false,trivial,rfl⟩
theorem Ln:eG.get 141=some An:=by kernel_rfl
theorem Ib:ei 141=none:=by kernel_rfl
def Vk (_a0:eb) (_a1:Row Int) (v:AV):Prop:=∃ r0:Row Int,∃ r1:Bool,(True)∧v=.eP [Row.av eu r0,.bool r1]
theorem t141 (a0:eb) (a1:Row Int) (q1:a1.l.length≤1000) (h:bY):∃ v,eH cfg eG.get ei false 141 [.agg (eb.cells a0),Row.av eu a1] h v h∧Vk a0 a1 v:=by
 refine eW Ib Ln rfl rfl ?_
 refine bm ?_
 refine ak ?_
 have hL1:=a1.lk
 refine fA a1 ?_
 refine fj ((a1.l.length:Int)) (0) (fun h2=>?_) (fun h2=>?_)
 refine bW ?_
 exact xF (.eP [.sl [] .nil,.bool false]) ⟨(⟨[],.nil,Nat.zero_le _,rfl,fun _=>rfl⟩:Row Int),false,trivial,rfl⟩
 refine az ?_
 refine w0 [(1,Row.av eu a1),(2,.la 2 0)] [(2,(eb.cells a0))] ?_
 refine aZ ?_
 have hNk3:=a1.lk
 refine eN (a1.l.length) (fun k3 e h=>proj [1,2,6] e=[(1,Row.av eu a1),(2,.la 2 0),(6,iv (k3:Int))]∧{ h with dO:=eV [1,2,6] h.dO } = { bY.empty with dO:=[(2,(eb.cells a0))] }) ?_ (k0:=0) cB ⟨rfl,rfl⟩
 rintro k3 e h hkk3 ⟨he,hh⟩
 refine ff he hh ?_
 clear he hh
 refine aI ?_
 have hL4:=a1.lk
 refine fA a1 ?_
 refine fg ((k3:Int)) ((a1.l.length:Int)) (fun h5=>?_) (fun h5=>?_)
 refine aX ?_
 refine w0 [(1,Row.av eu a1),(2,.la 2 0),(6,iv (k3:Int))] [(2,(eb.cells a0))] ?_
 refine aA ?_
 refine bO ?_
 have hx6:k3<a1.l.length:=by omega
 refine jE k3 a1 hx6 ?_
 generalize hqx7:a1.l[k3]=x7
 refine rV ?_
 refine rC (t41 a0 (x7)) ?_
 rintro _ ⟨r9,hc8,rfl⟩
 refine sO (r9) (1) (fun h10=>?_) (fun h10=>?_)
 refine rN ?_
 refine qT ?_
 refine a9 ?_
 exact xF (.eP [.sl [] .nil,.bool false]) ⟨(⟨[],.nil,Nat.zero_le _,rfl,fun _=>rfl⟩:Row Int),false,trivial,rfl⟩
 refine bV ?_
 refine w0 [(1,Row.av eu a1),(2,.la 2 0),(6,iv (k3:Int))] [(2,(eb.cells a0))] ?_
 refine aM ?_
 refine fu ((k3:Int)) (1) ?_
 refine ab ?_
 exact ⟨by omega,rfl,rfl⟩
 refine aE ?_
 refine w0 [(1,Row.av eu a1),(2,.la 2 0)] [(2,(eb.cells a0))] ?_
 refine ak ?_
 have hL11:=a1.lk
 refine fA a1 ?_
 refine fj ((a1.l.length:Int)) (1) (fun h12=>?_) (fun h12=>?_)
 refine ay ?_
 refine a7 ?_
 exact xF (.eP [.sl [[iv 0]] (.exact 1),.bool true]) ⟨(⟨[(0)],.exact 1,Nat.le_of_ble_eq_true rfl,rfl,capXn⟩:Row Int),true,trivial,rfl⟩
 refine az ?_
 refine w0 [(1,Row.av eu a1),(2,.la 2 0)] [(2,(eb.cells a0))] ?_
 refine aQ ?_
 refine aZ ?_
 refine iC (fun m17 e h=>∃ n13:Int,∃ n14:Int,m17=(n14+1).toNat∧(-1≤n14)∧(n14≤1)∧proj [1,2,7,8] e=[(1,Row.av eu a1),(2,.la 2 0),(7,iv n13),(8,iv n14)]∧{ h with dO:=eV [1,2,7,8] h.dO } = { bY.empty with dO:=[(2,(eb.cells a0))] }) ?_ _ _ _ ⟨(-1),(1),rfl,cB,cB,rfl,rfl⟩
 rintro m17 e h ⟨n13,n14,hmm17,hi15,hi16,he,hh⟩
 refine ff he hh ?_
 clear he hh
 refine ak ?_
 refine gV (n14) (0) (fun h18=>?_) (fun h18=>?_)
 refine aX ?_
 refine w0 [(1,Row.av eu a1),(2,.la 2 0),(7,iv n13),(8,iv n14)] [(2,(eb.cells a0))] ?_
 refine aA ?_
 refine bi ?_
 have hx19:0<a1.l.length:=by omega
 refine jE 0 a1 hx19 ?_
 generalize hqx20:a1.l[0]=x20
 iterate 3 refine rV ?_
 refine rC (t18 a0 (⟨(x20),(n14)⟩:ed)) ?_
 rintro _ ⟨r22,r23,hc21,rfl⟩
 have hN:=hc21
 cases r23
 refine bc ?_
 refine aN ?_
 refine bp ?_
 refine bu ?_
 refine w0 [(1,Row.av eu a1),(2,.la 2 0),(7,iv n13),(8,iv n14)] [(2,(eb.cells a0))] ?_
 refine aM ?_
 refine g7 (n14) (1) ?_
 refine ab ?_
 refine ⟨_,?_,(n13),(n14 - 1),rfl,cB,cB,rfl,rfl⟩
 omega
 refine bc ?_
 refine bZ ?_
 have hx24:1<a1.l.length:=by omega
 refine jE 1 a1 hx24 ?_
 generalize hqx25:a1.l[1]=x25
 refine rV ?_
 refine kJ (r22.elem) (x25) (fun h26=>?_) (fun h26=>?_)
 refine bG ?_
 refine qg ?_
 refine ah ?_
 refine w0 [(1,Row.av eu a1),(2,.la 2 0),(7,iv n14),(8,iv n14)] [(2,(eb.cells a0))] ?_
 refine aM ?_
 refine g7 (n14) (1) ?_
 refine ab ?_
 refine ⟨_,?_,(n14),(n14 - 1),rfl,cB,cB,rfl,rfl⟩
 omega
 refine bu ?_
 refine w0 [(1,Row.av eu a1),(2,.la 2 0),(7,iv n13),(8,iv n14)] [(2,(eb.cells a0))] ?_
 refine aM ?_
 refine g7 (n14) (1) ?_
 refine ab ?_
 refine ⟨_,?_,(n13),(n14 - 1),rfl,cB,cB,rfl,rfl⟩
 omega
 refine aE ?_
 refine w0 [(1,Row.av eu a1),(2,.la 2 0),(7,iv n13)] [(2,(eb.cells a0))] ?_
 refine ak ?_
 refine fg (n13) (0) (fun h27=>?_) (fun h27=>?_)
 refine bW ?_
 exact xF (.eP [.sl [] .nil,.bool false]) ⟨(⟨[],.nil,Nat.zero_le _,rfl,fun _=>rfl⟩:Row Int),false,trivial,rfl⟩
 refine az ?_
 refine w0 [(1,Row.av eu a1),(2,.la 2 0),(7,iv n13)] [(2,(eb.cells a0))] ?_
 refine aj ?_
 refine eg rfl (fun _=>fD rfl rfl rfl (gD .i64 (1) (n13))) ?_
 refine ah ?_
 refine aZ ?_
 have hS28:=Sep.PB gg 1 (List.map eu [(IntKind.i64.wrap (1 - (n13)))]) (by intro x hx; obtain ⟨y,_,rfl⟩:=List.mem_map.mp hx; rfl) (k:=1) rfl
 have hNk29:=a1.lk
 refine eN (a1.l.length) (fun k29 e h=>∃ v30:AV,∃ l31:List Int,∃ n32:Int,∃ H33:bY,(1≤k29)∧(l31.length≤1+k29)∧Sep H33 (.sl false true v30 1 (List.map eu l31)::[])∧proj [1,2,7,11,12] e=[(1,Row.av eu a1),(2,.la 2 0),(7,iv n32),(11,v30),(12,iv (k29:Int))]∧{ h with dO:=eV [1,2,7,11,12] h.dO } = { H33 with dO:=[(2,(eb.cells a0))] }) ?_ (k0:=1) cB ⟨((.sl (List.map eu [(IntKind.i64.wrap (1 - (n13)))]) (.exact 1))),([(IntKind.i64.wrap (1 - (n13)))]),(n13),bY.empty,cB,c8,hS28,rfl,rfl⟩
 rintro k29 e h hkk29 ⟨v30,l31,n32,H33,hw35,hl36,hS34,he,hh⟩
 refine ff he hh ?_
 clear he hh
 refine aI ?_
 have hL37:=a1.lk
 refine fA a1 ?_
 refine fg ((k29:Int)) ((a1.l.length:Int)) (fun h38=>?_) (fun h38=>?_)
 refine aX ?_
 refine wa [(1,Row.av eu a1),(2,.la 2 0),(7,iv n32),(11,v30),(12,iv (k29:Int))] H33 [(2,(eb.cells a0))] ?_ (Eq.trans (b:=[(1,Row.av eu a1),(2,.la 2 0),(7,iv n32),(11,eB 11 v30),(12,iv (k29:Int))]) rfl dl)
 refine aA ?_
 refine bO ?_
 refine JV ((k29:Int)) (1) ?_
 have hx39:((k29:Int) - 1).toNat<a1.l.length:=by omega
 refine eI rfl rfl (fun _=>fE (n:=(k29:Int) - 1) (r:=a1) (enc:=eu) rfl rfl rfl rfl rfl cB hx39 rfl) ?_
 generalize hqx40:a1.l[((k29:Int) - 1).toNat]=x40
 iterate 3 refine rV ?_
 refine rC (t18 a0 (⟨(x40),(n32)⟩:ed)) ?_
 rintro _ ⟨r42,r43,hc41,rfl⟩
 have hN:=hc41
 cases r43
 refine bc ?_
 refine qs ?_
 refine bO ?_
 iterate 7 refine rS ?_
 refine bG ?_
 refine a9 ?_
 exact xF (.eP [.sl [] .nil,.bool false]) ⟨(⟨[],.nil,Nat.zero_le _,rfl,fun _=>rfl⟩:Row Int),false,trivial,rfl⟩
 refine bc ?_
 refine qs ?_
 refine aN ?_
 iterate 7 refine rV ?_
 have hx44:k29<a1.l.length:=by omega
 refine jE k29 a1 hx44 ?_
 generalize hqx45:a1.l[k29]=x45
 refine rV ?_
 refine sO (r42.elem) (x45) (fun h46=>?_) (fun h46=>?_)
 refine bG ?_
 refine a9 ?_
 exact xF (.eP [.sl [] .nil,.bool false]) ⟨(⟨[],.nil,Nat.zero_le _,rfl,fun _=>rfl⟩:Row Int),false,trivial,rfl⟩
 refine bu ?_
 refine wa [(1,Row.av eu a1),(2,.la 2 0),(11,v30),(12,iv (k29:Int)),(13,.la 13 0)] H33 [(2,(eb.cells a0)),(13,(ed.cells r42))] ?_ (Eq.trans (b:=[(1,Row.av eu a1),(2,.la 2 0),(11,eB 11 v30),(12,iv (k29:Int)),(13,.la 13 0)]) rfl dl)
 refine aG ?_
 refine e7 (H:=H33) rfl (fX (H:=H33) (i:=0) (l:=l31) (enc:=eu) [(r42.en)] hS34 rfl rfl rfl rfl rfl rfl rfl rfl rfl (fun _=>rfl) (.inl rfl) cF (fun _=>rfl)) ?_
 rintro v47 H48 hS49
 refine ab ?_
 refine br ?_
 refine eg rfl (fun _=>fD rfl rfl rfl (gD .i64 (1) (r42.en))) ?_
 refine ab ?_
 refine wa [(1,Row.av eu a1),(2,.la 2 0),(7,iv (IntKind.i64.wrap (1 - (r42.en)))),(11,v47),(12,iv (k29:Int))] H48 [(2,(eb.cells a0))] ?_ (Eq.trans (b:=[(1,Row.av eu a1),(2,.la 2 0),(7,iv (IntKind.i64.wrap (1 - (r42.en)))),(11,eB 11 v47),(12,iv (k29:Int))]) rfl dy)
 refine aM ?_
 refine fu ((k29:Int)) (1) ?_
 refine ab ?_
 exact ⟨by omega,(v47),((l31++[(r42.en)])),(IntKind.i64.wrap (1 - (r42.en))),H48,cB,cA,hS49,(Eq.trans (b:=[(1,Row.av eu a1),(2,.la 2 0),(7,iv (IntKind.i64.wrap (1 - (r42.en)))),(11,eB 11 v47),(12,iv ((k29:Int)+1))]) rfl dy),rfl⟩
 refine aE ?_
 refine wa [(11,v30)] H33 [] ?_ (Eq.trans (b:=[(11,eB 11 v30)]) rfl dl)
 refine a7 ?_
 obtain ⟨r50,hl51,hf52⟩:=gQ (H:=H33) (i:=0) (l:=l31) (enc:=eu) hS34 rfl cz
 have hlq:=hl51; have hln54:=congrArg List.length hl51
 have hz53:∀ m,freeze false { H33 with dO:=[] } (m+2) v30=some (Row.av eu r50):=fun m=>hf52 _ _ (fun _=>rfl)
 exact ⟨.eP [v30,.bool true],(ia (vs:=[v30,.bool true]) rfl (eJ (Sep.arg (i:=0) hS34 rfl) (eJ rfl fG))),.eP [Row.av eu r50,.bool true],(show freeze false { H33 with dO:=[] } 8 (.eP [v30,.bool true])=some (.eP [Row.av eu r50,.bool true]) by simp only [FZ,hz53]),r50,true,trivial,rfl⟩
theorem OB:eG.get 87=some B0:=by kernel_rfl
theorem Kn:ei 87=none:=by kernel_rfl
def WO (_a0:eb) (v:AV):Prop:=∃ r0:Bool,(True)∧v=.bool r0
theorem t87 (a0:eb) (q1:iY a0) (h:bY):∃ v,eH cfg eG.get ei false 87 [.agg (eb.cells a0)] h v h∧WO a0 v:=by
 refine eW Kn OB rfl rfl ?_
 have q2:=q1.lines
 refine aU ?_
 refine aQ ?_
 refine aZ ?_
 have hS1:=Sep.iF gg 1
 have hNk2:=a0.lines.lk
 refine eN (a0.lines.l.length) (fun k2 e h=>∃ v3:AV,∃ l4:List Int,∃ H5:bY,(l4.length≤60*k2)∧Sep H5 (.sl true true v3 1 (List.map eu l4)::[])∧proj [1,3,4] e=[(1,.la 1 0),(3,v3),(4,iv (k2:Int))]∧{ h with dO:=eV [1,3,4] h.dO } = { H5 with dO:=[(1,(eb.cells a0))] }) ?_ (k0:=0) cB ⟨((.sl [] .nil)),(([]:List Int)),bY.empty,dv,hS1,rfl,rfl⟩
 rintro k2 e h hkk2 ⟨v3,l4,H5,hI,hS6,he,hh⟩
 refine ff he hh ?_
 clear he hh
 refine aB ?_
 have hL7:=a0.lines.lk
 refine fA a0.lines ?_
 refine fg ((k2:Int)) ((a0.lines.l.length:Int)) (fun h8=>?_) (fun h8=>?_)
 refine aX ?_
 refine wa [(1,.la 1 0),(3,v3),(4,iv (k2:Int))] H5 [(1,(eb.cells a0))] ?_ (Eq.trans (b:=[(1,.la 1 0),(3,eB 3 v3),(4,iv (k2:Int))]) rfl cI)
 refine bT ?_
 have hx9:k2<a0.lines.l.length:=by omega
 refine gL k2 a0.lines hx9 ?_
 generalize hqx10:a0.lines.l[k2]=x10
 have hinx10:x10∈a0.lines.l:=by rw [← hqx10]; exact List.getElem_mem _
 have hsx10:=q1.line x10 hinx10
 refine aW ?_
 refine aZ ?_
 have hNk11:=x10.elems.lk
 refine eN (x10.elems.l.length) (fun k11 e h=>∃ v12:AV,∃ l13:List Int,∃ H14:bY,(l13.length≤l4.length+k11)∧Sep H14 (.sl true true v12 1 (List.map eu l13)::[])∧proj [1,3,4,5,6] e=[(1,.la 1 0),(3,v12),(4,iv (k2:Int)),(5,Row.av eu x10.elems),(6,iv (k11:Int))]∧{ h with dO:=eV [1,3,4,5,6] h.dO } = { H14 with dO:=[(1,(eb.cells a0))] }) ?_ (k0:=0) cB ⟨(v3),(l4),H5,c8,hS6,(Eq.trans (b:=[(1,.la 1 0),(3,eB 3 v3),(4,iv (k2:Int)),(5,Row.av eu x10.elems),(6,iv 0)]) rfl cI),rfl⟩
 rintro k11 e h hkk11 ⟨v12,l13,H14,hl16,hS15,he,hh⟩
 refine ff he hh ?_
 clear he hh
 refine aI ?_
 have hL17:=x10.elems.lk
 refine fA x10.elems ?_
 refine fg ((k11:Int)) ((x10.elems.l.length:Int)) (fun h18=>?_) (fun h18=>?_)
 refine aX ?_
 refine wa [(1,.la 1 0),(3,v12),(4,iv (k2:Int)),(5,Row.av eu x10.elems),(6,iv (k11:Int))] H14 [(1,(eb.cells a0))] ?_ (Eq.trans (b:=[(1,.la 1 0),(3,eB 3 v12),(4,iv (k2:Int)),(5,Row.av eu x10.elems),(6,iv (k11:Int))]) rfl c6)
 refine aA ?_
 refine aB ?_
 have hx19:k11<x10.elems.l.length:=by omega
 refine gL k11 x10.elems hx19 ?_
 generalize hqx20:x10.elems.l[k11]=x20
 refine oV ?_
 refine Exists.elim (gx (H:=H14) (i:=0) (l:=l13) (enc:=eu) hS15 rfl cP) (fun r21 hh=>And.elim (fun hl22 hf23=>?_) hh)
 have hln25:=congrArg List.length hl22
 have hz24:∀ m,freeze true { H14 with dO:=[] } (m+2) v12=some (eR.av eu r21):=fun m=>hf23 [] _ (fun _=>rfl)
 refine ib (args:=[v12,iv x20]) (p:=[]) (r:=[]) (args':=[eR.av eu r21,iv x20]) (R:=EK r21 (x20)) rfl rfl rfl rfl rfl (eJ (Sep.arg (i:=0) hS15 rfl) (eJ rfl fG)) rfl tC (gb (by show fx (freeze true { H14 with dO:=[] } 8) [v12,iv x20] = _; simp only [FZ,hz24]) (eJ (Sep.lF (i:=0) hS15 rfl) (eJ rfl fG))) (gb dt (eJ rfl (eJ rfl fG))) (fun h=>t39 r21 (x20)  h) ?_
 rintro _ ⟨r27,hc26,rfl⟩
 cases r27
 refine az ?_
 refine wa [(1,.la 1 0),(3,v12),(4,iv (k2:Int)),(5,Row.av eu x10.elems),(6,iv (k11:Int))] H14 [(1,(eb.cells a0))] ?_ (Eq.trans (b:=[(1,.la 1 0),(3,eB 3 v12),(4,iv (k2:Int)),(5,Row.av eu x10.elems),(6,iv (k11:Int))]) rfl c6)
 refine aY ?_
 have hx28:k11<x10.elems.l.length:=by omega
 refine gL k11 x10.elems hx28 ?_
 rw [hqx20]
 iterate 2 refine oV ?_
 refine e7 (H:=H14) rfl (fX (H:=H14) (i:=0) (l:=l13) (enc:=eu) [(x20)] hS15 rfl rfl rfl rfl rfl rfl rfl rfl rfl (fun _=>rfl) (.inl rfl) cF (fun _=>rfl)) ?_
 rintro v30 H31 hS32
 refine ab ?_
 refine wa [(1,.la 1 0),(3,v30),(4,iv (k2:Int)),(5,Row.av eu x10.elems),(6,iv (k11:Int))] H31 [(1,(eb.cells a0))] ?_ (Eq.trans (b:=[(1,.la 1 0),(3,eB 3 v30),(4,iv (k2:Int)),(5,Row.av eu x10.elems),(6,iv (k11:Int))]) rfl dI)
 refine aM ?_
 refine fu ((k11:Int)) (1) ?_
 refine ab ?_
 exact ⟨by omega,(v30),((l13++[(x20)])),H31,cA,hS32,(Eq.trans (b:=[(1,.la 1 0),(3,eB 3 v30),(4,iv (k2:Int)),(5,Row.av eu x10.elems),(6,iv ((k11:Int)+1))]) rfl dI),rfl⟩
 refine be ?_
 exact xA (.bool false) ⟨false,trivial,rfl⟩
 refine aE ?_
 refine wa [(1,.la 1 0),(3,v12),(4,iv (k2:Int)),(5,Row.av eu x10.elems)] H14 [(1,(eb.cells a0))] ?_ (Eq.trans (b:=[(1,.la 1 0),(3,eB 3 v12),(4,iv (k2:Int)),(5,Row.av eu x10.elems)]) rfl c6)
 refine ae ?_
 refine oC (t141 a0 x10.elems cq) ?_
 rintro _ ⟨r34,r35,hc33,rfl⟩
 cases r35
 refine bl ?_
 refine aa ?_
 refine a8 ?_
 exact xA (.bool false) ⟨false,trivial,rfl⟩
 refine bl ?_
 refine aa ?_
 refine bv ?_
 refine wa [(1,.la 1 0),(3,v12),(4,iv (k2:Int))] H14 [(1,(eb.cells a0))] ?_ (Eq.trans (b:=[(1,.la 1 0),(3,eB 3 v12),(4,iv (k2:Int))]) rfl c6)
 refine aM ?_
 refine fu ((k2:Int)) (1) ?_
 refine ab ?_
 exact ⟨by omega,(v12),(l13),H14,cw,hS15,(Eq.trans (b:=[(1,.la 1 0),(3,eB 3 v12),(4,iv ((k2:Int)+1))]) rfl c6),rfl⟩
 refine aE ?_
 refine wa [] H5 [] ?_
 refine a6 ?_
 exact xA (.bool true) ⟨true,trivial,rfl⟩
theorem QI:eG.get 17=some Cc:=by kernel_rfl
theorem Jm:ei 17=none:=by kernel_rfl
def Xl (_a0:eb) (_a1:Int) (v:AV):Prop:=∃ r0:Int,(True)∧v=iv r0
theorem t17 (a0:eb) (a1:Int)  (h:bY):∃ v,eH cfg eG.get ei false 17 [.agg (eb.cells a0),iv a1] h v h∧Xl a0 a1 v:=by
 refine eW Jm QI rfl rfl ?_
 refine aU ?_
 refine ak ?_
 refine fg (a1) (0) (fun h1=>?_) (fun h1=>?_)
 refine bf ?_
 refine ai ?_
 exact xA (iv 0) ⟨(0),trivial,rfl⟩
 iterate 4 refine oV ?_
 have hL2:=a0.elems.lk
 refine fA a0.elems ?_
 refine gV (a1) ((a0.elems.l.length:Int)) (fun h3=>?_) (fun h3=>?_)
 refine ai ?_
 exact xA (iv 0) ⟨(0),trivial,rfl⟩
 refine aw ?_
 refine w0 [(1,iv a1),(2,.la 2 0)] [(2,(eb.cells a0))] ?_
 refine aF ?_
 have hx4:(a1).toNat<a0.elems.l.length:=by omega
 refine eg rfl (fun _=>fE (n:=a1) (r:=a0.elems) (enc:=e8.cells) rfl rfl rfl rfl rfl cB hx4 rfl) ?_
 generalize hqx5:a0.elems.l[(a1).toNat]=x5
 refine bz ?_
 exact xA (iv x5.len) ⟨(x5.len),trivial,rfl⟩
theorem Lk:eG.get 142=some Ag:=by kernel_rfl
theorem Hq:ei 142=none:=by kernel_rfl
def Tp (_a0:Int) (_a1:Int) (v:AV):Prop:=∃ r0:Int,(True)∧v=iv r0
theorem t142 (a0:Int) (a1:Int)  (h:bY):∃ v,eH cfg eG.get ei false 142 [iv a0,iv a1] h v h∧Tp a0 a1 v:=by
 refine eW Hq Lk rfl rfl ?_
 refine aO ?_
 refine fg (a0) (0) (fun h1=>?_) (fun h1=>?_)
 refine ba ?_
 refine aL ?_
 refine aL ?_
 refine ai ?_
 exact xA (iv 0) ⟨(0),trivial,rfl⟩
 iterate 2 refine oV ?_
 refine fW (a0) (60) (fun h2=>?_) (fun h2=>?_)
 refine aL ?_
 refine aL ?_
 refine ai ?_
 exact xA (iv 0) ⟨(0),trivial,rfl⟩
 iterate 3 refine oV ?_
 refine fg (a1) (1) (fun h3=>?_) (fun h3=>?_)
 refine aL ?_
 refine ai ?_
 exact xA (iv 0) ⟨(0),trivial,rfl⟩
 iterate 3 refine oV ?_
 refine fW (a1) (10) (fun h4=>?_) (fun h4=>?_)
 refine ai ?_
 exact xA (iv 0) ⟨(0),trivial,rfl⟩
 refine aw ?_
 refine w0 [(0,iv a0),(1,iv a1)] [] ?_
 refine aa ?_
 refine bX ?_
 refine g7 (a0) (a1) ?_
 refine aP ?_
 refine iC (fun m9 e h=>∃ n5:Int,∃ n6:Int,m9=(n5+10).toNat∧(-10≤n5)∧(n5≤60)∧proj [0,1,5] e=[(0,iv n5),(1,iv a1),(5,iv n6)]∧{ h with dO:=eV [0,1,5] h.dO } = { bY.empty with dO:=[] }) ?_ _ _ _ ⟨(a0 - a1),(0),rfl,cB,cB,rfl,rfl⟩
 rintro m9 e h ⟨n5,n6,hmm9,hi7,hi8,he,hh⟩
 refine ff he hh ?_
 clear he hh
 refine ak ?_
 refine fW (n5) (0) (fun h10=>?_) (fun h10=>?_)
 refine aX ?_
 refine w0 [(0,iv n5),(1,iv a1),(5,iv n6)] [] ?_
 refine aA ?_
 refine br ?_
 refine eg rfl (fun _=>fD rfl rfl rfl (mZ .i64 (n6) (n5))) ?_
 refine ab ?_
 refine w0 [(0,iv n5),(1,iv a1),(5,iv (IntKind.i64.wrap (n6+(n5))))] [] ?_
 refine br ?_
 refine g7 (n5) (a1) ?_
 refine ab ?_
 refine ⟨_,?_,(n5 - a1),(IntKind.i64.wrap (n6+(n5))),rfl,cB,cB,rfl,rfl⟩
 omega
 refine aE ?_
 refine w0 [(5,iv n6)] [] ?_
 refine a9 ?_
 exact xA (iv n6) ⟨(n6),trivial,rfl⟩
theorem Oe:eG.get 88=some CG:=by kernel_rfl
theorem LF:ei 88=none:=by kernel_rfl
def Xp (_a0:eb) (v:AV):Prop:=∃ r0:Bool,(True)∧v=.bool r0
theorem t88 (a0:eb)  (h:bY):∃ v,eH cfg eG.get ei false 88 [.agg (eb.cells a0)] h v h∧Xp a0 v:=by
 refine eW LF Oe rfl rfl ?_
 refine aU ?_
 refine qs ?_
 refine aN ?_
 iterate 8 refine rV ?_
 refine rC (t142 (a0.top) (a0.gd)) ?_
 rintro _ ⟨r2,hc1,rfl⟩
 refine eI rfl rfl (fun _=>fD rfl rfl rfl (mZ .i64 (a0.top) (r2))) ?_
 refine j8 (a0.fQ) (IntKind.i64.wrap (a0.top+(r2))) (fun h3=>?_) (fun h3=>?_)
 refine rN ?_
 refine ac ?_
 exact xA (.bool false) ⟨false,trivial,rfl⟩
 refine bV ?_
 refine w0 [(1,.la 1 0)] [(1,(eb.cells a0))] ?_
 refine aZ ?_
 have hNk4:=a0.signals.lk
 refine eN (a0.signals.l.length) (fun k4 e h=>proj [1,3] e=[(1,.la 1 0),(3,iv (k4:Int))]∧{ h with dO:=eV [1,3] h.dO } = { bY.empty with dO:=[(1,(eb.cells a0))] }) ?_ (k0:=0) cB ⟨rfl,rfl⟩
 rintro k4 e h hkk4 ⟨he,hh⟩
 refine ff he hh ?_
 clear he hh
 refine aB ?_
 have hL5:=a0.signals.lk
 refine fA a0.signals ?_
 refine fg ((k4:Int)) ((a0.signals.l.length:Int)) (fun h6=>?_) (fun h6=>?_)
 refine aX ?_
 refine w0 [(1,.la 1 0),(3,iv (k4:Int))] [(1,(eb.cells a0))] ?_
 refine bT ?_
 have hx7:k4<a0.signals.l.length:=by omega
 refine gL k4 a0.signals hx7 ?_
 generalize hqx8:a0.signals.l[k4]=x8
 refine bF ?_
 refine bi ?_
 refine rC (t41 a0 (x8.at_.elem)) ?_
 rintro _ ⟨r10,hc9,rfl⟩
 refine kJ (r10) (1) (fun h11=>?_) (fun h11=>?_)
 iterate 3 refine rV ?_
 refine rC (t17 a0 (x8.at_.elem)) ?_
 rintro _ ⟨r13,hc12,rfl⟩
 iterate 2 refine rV ?_
 refine j8 (r13) (a0.fQ) (fun h14=>?_) (fun h14=>?_)
 refine aR ?_
 refine ac ?_
 exact xA (.bool false) ⟨false,trivial,rfl⟩
 refine bu ?_
 refine w0 [(1,.la 1 0),(3,iv (k4:Int))] [(1,(eb.cells a0))] ?_
 refine aM ?_
 refine fu ((k4:Int)) (1) ?_
 refine ab ?_
 exact ⟨by omega,rfl,rfl⟩
 refine ck ?_
 refine bu ?_
 refine w0 [(1,.la 1 0),(3,iv (k4:Int))] [(1,(eb.cells a0))] ?_
 refine aM ?_
 refine fu ((k4:Int)) (1) ?_
 refine ab ?_
 exact ⟨by omega,rfl,rfl⟩
 refine aE ?_
 refine w0 [(1,.la 1 0)] [(1,(eb.cells a0))] ?_
 refine aZ ?_
 have hNk15:=a0.elems.lk
 refine eN (a0.elems.l.length) (fun k15 e h=>proj [1,5] e=[(1,.la 1 0),(5,iv (k15:Int))]∧{ h with dO:=eV [1,5] h.dO } = { bY.empty with dO:=[(1,(eb.cells a0))] }) ?_ (k0:=0) cB ⟨rfl,rfl⟩
 rintro k15 e h hkk15 ⟨he,hh⟩
 refine ff he hh ?_
 clear he hh
 refine aB ?_
 have hL16:=a0.elems.lk
 refine fA a0.elems ?_
 refine fg ((k15:Int)) ((a0.elems.l.length:Int)) (fun h17=>?_) (fun h17=>?_)
 refine aX ?_
 refine w0 [(1,.la 1 0),(5,iv (k15:Int))] [(1,(eb.cells a0))] ?_
 refine aA ?_
 refine bO ?_
 have hx18:k15<a0.elems.l.length:=by omega
 refine jE k15 a0.elems hx18 ?_
 generalize hqx19:a0.elems.l[k15]=x19
 iterate 2 refine rV ?_
 refine sO (x19.kind) (4) (fun h20=>?_) (fun h20=>?_)
 iterate 4 refine rV ?_
 have hx21:k15<a0.elems.l.length:=by omega
 refine jE k15 a0.elems hx21 ?_
 rw [hqx19]
 iterate 4 refine rV ?_
 refine j8 (x19.len) (a0.top) (fun h23=>?_) (fun h23=>?_)
 refine aR ?_
 refine ac ?_
 exact xA (.bool false) ⟨false,trivial,rfl⟩
 refine bu ?_
 refine w0 [(1,.la 1 0),(5,iv (k15:Int))] [(1,(eb.cells a0))] ?_
 refine aM ?_
 refine fu ((k15:Int)) (1) ?_
 refine ab ?_
 exact ⟨by omega,rfl,rfl⟩
 refine rV ?_
 iterate 9 refine rS ?_
 refine bu ?_
 refine w0 [(1,.la 1 0),(5,iv (k15:Int))] [(1,(eb.cells a0))] ?_
 refine aM ?_
 refine fu ((k15:Int)) (1) ?_
 refine ab ?_
 exact ⟨by omega,rfl,rfl⟩
 refine aE ?_
 refine w0 [] [] ?_
 refine a6 ?_
 exact xA (.bool true) ⟨true,trivial,rfl⟩
theorem N9:eG.get 50=some DD:=by kernel_rfl
theorem Ja:ei 50=none:=by kernel_rfl
def V2 (_a0:eb) (v:AV):Prop:=∃ r0:Int,(True)∧v=iv r0
theorem t50 (a0:eb) (q1:iY a0) (h:bY):∃ v,eH cfg eG.get ei false 50 [.agg (eb.cells a0)] h v h∧V2 a0 v:=by
 refine eW Ja N9 rfl rfl ?_
 have q2:=q1.elems; have q3:=q1.signals; have q4:=q1.lines
 refine aj ?_
 refine bX ?_
 have hL1:=a0.elems.lk
 refine fA a0.elems ?_
 refine fW ((a0.elems.l.length:Int)) (40) (fun h2=>?_) (fun h2=>?_)
 refine bk ?_
 refine aJ ?_
 refine bH ?_
 exact xA (iv 3) ⟨(3),trivial,rfl⟩
 iterate 3 refine oV ?_
 have hL3:=a0.signals.lk
 refine fA a0.signals ?_
 refine fW ((a0.signals.l.length:Int)) (24) (fun h4=>?_) (fun h4=>?_)
 refine aJ ?_
 refine bH ?_
 exact xA (iv 3) ⟨(3),trivial,rfl⟩
 iterate 4 refine oV ?_
 have hL5:=a0.lines.lk
 refine fA a0.lines ?_
 refine fW ((a0.lines.l.length:Int)) (4) (fun h6=>?_) (fun h6=>?_)
 refine bH ?_
 exact xA (iv 3) ⟨(3),trivial,rfl⟩
 iterate 4 refine oV ?_
 have hL7:=a0.eT.lk
 refine fA a0.eT ?_
 refine fW ((a0.eT.l.length:Int)) (80) (fun h8=>?_) (fun h8=>?_)
 refine ai ?_
 exact xA (iv 3) ⟨(3),trivial,rfl⟩
 refine aw ?_
 refine w0 [(1,.la 1 0)] [(1,(eb.cells a0))] ?_
 refine aj ?_
 refine oC (t82 a0 cq) ?_
 rintro _ ⟨r10,r11,r12,hc9,rfl⟩
 refine oV ?_
 refine au ?_
 refine bE ?_
 refine oC (t83 a0) ?_
 rintro _ ⟨r14,hc13,rfl⟩
 cases r14
 refine a8 ?_
 exact xA (iv 1) ⟨(1),trivial,rfl⟩
 refine cm ?_
 refine oC (t84 r10) ?_
 rintro _ ⟨r16,hc15,rfl⟩
 cases r16
 iterate 2 refine oV ?_
 refine oC (t84 r11) ?_
 rintro _ ⟨r18,hc17,rfl⟩
 cases r18
 iterate 3 refine oV ?_
 refine oC (t84 r12) ?_
 rintro _ ⟨r20,hc19,rfl⟩
 cases r20
 refine cm ?_
 refine oC (t85 a0 cq) ?_
 rintro _ ⟨r22,hc21,rfl⟩
 cases r22
 refine a8 ?_
 exact xA (iv 6) ⟨(6),trivial,rfl⟩
 refine cm ?_
 refine oC (t86 a0) ?_
 rintro _ ⟨r24,hc23,rfl⟩
 cases r24
 refine a8 ?_
 exact xA (iv 7) ⟨(7),trivial,rfl⟩
 refine cm ?_
 refine oC (t87 a0 cq) ?_
 rintro _ ⟨r26,hc25,rfl⟩
 cases r26
 refine a8 ?_
 exact xA (iv 8) ⟨(8),trivial,rfl⟩
 refine cm ?_
 refine oC (t88 a0) ?_
 rintro _ ⟨r28,hc27,rfl⟩
 cases r28
 refine a8 ?_
 exact xA (iv 9) ⟨(9),trivial,rfl⟩
 refine bv ?_
 refine w0 [] [] ?_
 refine a6 ?_
 exact xA (iv 0) ⟨(0),trivial,rfl⟩
 refine a8 ?_
 exact xA (iv 4) ⟨(4),trivial,rfl⟩
 refine aL ?_
 refine a8 ?_
 exact xA (iv 4) ⟨(4),trivial,rfl⟩
 refine ba ?_
 refine aL ?_
 refine a8 ?_
 exact xA (iv 4) ⟨(4),trivial,rfl⟩
theorem Rm:eG.get 24=some Ca:=by kernel_rfl
theorem LN:ei 24=none:=by kernel_rfl
def V8 (_a0:eb) (v:AV):Prop:=∃ r0:Bool,((r0=true→iY _a0))∧v=.bool r0
theorem t24 (a0:eb)  (h:bY):∃ v,eH cfg eG.get ei false 24 [.agg (eb.cells a0)] h v h∧V8 a0 v:=by
 refine eW LN Rm rfl rfl ?_
 refine aj ?_
 refine ce ?_
 refine oC (t49 a0) ?_
 rintro _ ⟨r2,hc1,rfl⟩
 cases r2
 clear hc1
 refine bB ?_
 refine aV ?_
 exact xA (.bool false) ⟨false,dT,rfl⟩
 have hc1t:=hc1 rfl
 iterate 2 refine oV ?_
 refine oC (t50 a0 cq) ?_
 rintro _ ⟨r4,hc3,rfl⟩
 refine fj (r4) (0) (fun h5=>?_) (fun h5=>?_)
 refine aV ?_
 exact xA (.bool true) ⟨true,dT,rfl⟩
 refine aV ?_
 exact xA (.bool false) ⟨false,dT,rfl⟩
theorem LC:eG.get 219=some zr:=by kernel_rfl
theorem Iu:ei 219=none:=by kernel_rfl
def Tu (_a0:Int) (v:AV):Prop:=∃ r0:Bool,(True)∧v=.bool r0
theorem t219 (a0:Int)  (h:bY):∃ v,eH cfg eG.get ei false 219 [.int .u8 (a0)] h v h∧Tu a0 v:=by
 refine eW Iu LC rfl rfl ?_
 refine aa ?_
 refine ce ?_
 refine gV (a0) (97) (fun h1=>?_) (fun h1=>?_)
 iterate 2 refine oV ?_
 refine o3 (a0) (122) (fun h2=>?_) (fun h2=>?_)
 refine aK ?_
 refine oS ?_
 refine aV ?_
 exact xA (.bool true) ⟨true,trivial,rfl⟩
 iterate 3 refine oV ?_
 refine gV (a0) (65) (fun h3=>?_) (fun h3=>?_)
 iterate 2 refine oV ?_
 refine o3 (a0) (90) (fun h4=>?_) (fun h4=>?_)
 refine bz ?_
 exact xA (.bool true) ⟨true,trivial,rfl⟩
 refine bz ?_
 exact xA (.bool false) ⟨false,trivial,rfl⟩
 refine ba ?_
 refine bz ?_
 exact xA (.bool false) ⟨false,trivial,rfl⟩
 refine ba ?_
 iterate 3 refine oV ?_
 refine gV (a0) (65) (fun h5=>?_) (fun h5=>?_)
 iterate 2 refine oV ?_
 refine o3 (a0) (90) (fun h6=>?_) (fun h6=>?_)
 refine bz ?_
 exact xA (.bool true) ⟨true,trivial,rfl⟩
 refine bz ?_
 exact xA (.bool false) ⟨false,trivial,rfl⟩
 refine ba ?_
 refine bz ?_
 exact xA (.bool false) ⟨false,trivial,rfl⟩
theorem Jr:eG.get 180=some z9:=by kernel_rfl
theorem HO:ei 180=none:=by kernel_rfl
def TE (_a0:jd) (v:AV):Prop:=∃ r0:Bool,(True)∧v=.bool r0
theorem t180 (a0:jd)  (h:bY):∃ v,eH cfg eG.get ei false 180 [.str (a0.l)] h v h∧TE a0 v:=by
 refine eW HO Jr rfl rfl ?_
 refine aO ?_
 refine jA rfl (fun _=>rI rfl rfl) (fun h2=>?_) (fun h2=>?_)
 refine bB ?_
 refine bH ?_
 exact xA (.bool false) ⟨false,trivial,rfl⟩
 have hp1:0<a0.l.length:=List.length_pos_iff.mpr h2
 iterate 3 refine oV ?_
 refine fW ((a0.l.length:Int)) (8) (fun h3=>?_) (fun h3=>?_)
 refine bH ?_
 exact xA (.bool false) ⟨false,trivial,rfl⟩
 iterate 3 refine oV ?_
 have hx4:0<a0.l.length:=by omega
 refine eg rfl (fun _=>qR (n:=0) (s:=a0.l) rfl rfl rfl rfl hx4) ?_
 generalize hqc5:a0.l[0]=c5
 refine oC (t219 ((c5.toNat:Int))) ?_
 rintro _ ⟨r7,hc6,rfl⟩
 cases r7
 refine a8 ?_
 exact xA (.bool false) ⟨false,trivial,rfl⟩
 refine bv ?_
 refine w0 [(0,.str (a0.l))] [] ?_
 refine aZ ?_
 have hNk8:=a0.lk
 refine eN (a0.l.length) (fun k8 e h=>(1≤k8)∧proj [0,3] e=[(0,.str (a0.l)),(3,iv (k8:Int))]∧{ h with dO:=eV [0,3] h.dO } = { bY.empty with dO:=[] }) ?_ (k0:=1) cB ⟨cB,rfl,rfl⟩
 rintro k8 e h hkk8 ⟨hw9,he,hh⟩
 refine ff he hh ?_
 clear he hh
 refine aB ?_
 refine fg ((k8:Int)) ((a0.l.length:Int)) (fun h10=>?_) (fun h10=>?_)
 refine aX ?_
 refine w0 [(0,.str (a0.l)),(3,iv (k8:Int))] [] ?_
 refine aA ?_
 refine ae ?_
 have hx11:k8<a0.l.length:=by omega
 refine eg rfl (fun _=>qR (n:=k8) (s:=a0.l) rfl rfl rfl rfl hx11) ?_
 generalize hqc12:a0.l[k8]=c12
 refine oC (t219 ((c12.toNat:Int))) ?_
 rintro _ ⟨r14,hc13,rfl⟩
 cases r14
 iterate 4 refine oV ?_
 have hx15:k8<a0.l.length:=by omega
 refine eg rfl (fun _=>qR (n:=k8) (s:=a0.l) rfl rfl rfl rfl hx15) ?_
 generalize hqc16:a0.l[k8]=c16
 refine fg ((c16.toNat:Int)) (48) (fun h17=>?_) (fun h17=>?_)
 refine bk ?_
 refine a8 ?_
 exact xA (.bool false) ⟨false,trivial,rfl⟩
 iterate 3 refine oV ?_
 have hx18:k8<a0.l.length:=by omega
 refine eg rfl (fun _=>qR (n:=k8) (s:=a0.l) rfl rfl rfl rfl hx18) ?_
 generalize hqc19:a0.l[k8]=c19
 refine fW ((c19.toNat:Int)) (57) (fun h20=>?_) (fun h20=>?_)
 refine a8 ?_
 exact xA (.bool false) ⟨false,trivial,rfl⟩
 refine bv ?_
 refine w0 [(0,.str (a0.l)),(3,iv (k8:Int))] [] ?_
 refine aM ?_
 refine fu ((k8:Int)) (1) ?_
 refine ab ?_
 exact ⟨by omega,cB,rfl,rfl⟩
 refine bC ?_
 refine oS ?_
 refine aw ?_
 refine w0 [(0,.str (a0.l)),(3,iv (k8:Int))] [] ?_
 refine aM ?_
 refine fu ((k8:Int)) (1) ?_
 refine ab ?_
 exact ⟨by omega,cB,rfl,rfl⟩
 refine aE ?_
 refine w0 [] [] ?_
 refine a6 ?_
 exact xA (.bool true) ⟨true,trivial,rfl⟩
theorem Jv:eG.get 204=some yR:=by kernel_rfl
theorem Hr:ei 204=none:=by kernel_rfl
def Tn (_a0:Int) (v:AV):Prop:=∃ r0:Int,(((_a0=1→r0=2)∧(_a0=2→r0=3)∧(_a0=3→r0=4)∧(_a0=4→r0=1)∧0≤r0∧r0≤4))∧v=iv r0
theorem t204 (a0:Int)  (h:bY):∃ v,eH cfg eG.get ei false 204 [iv a0] h v h∧Tn a0 v:=by
 refine eW Hr Jv rfl rfl ?_
 refine aO ?_
 refine bP ?_
 refine fj (a0) (1) (fun h1=>?_) (fun h1=>?_)
 refine ai ?_
 exact xA (iv 2) ⟨(2),cB,rfl⟩
 refine aS ?_
 refine fj (a0) (2) (fun h2=>?_) (fun h2=>?_)
 refine ai ?_
 exact xA (iv 3) ⟨(3),cB,rfl⟩
 refine aS ?_
 refine fj (a0) (3) (fun h3=>?_) (fun h3=>?_)
 refine ai ?_
 exact xA (iv 4) ⟨(4),cB,rfl⟩
 refine aS ?_
 refine fj (a0) (4) (fun h4=>?_) (fun h4=>?_)
 refine ai ?_
 exact xA (iv 1) ⟨(1),cB,rfl⟩
 refine aw ?_
 refine w0 [] [] ?_
 refine a6 ?_
 exact xA (iv 0) ⟨(0),cB,rfl⟩
theorem JN:eG.get 143=some zt:=by kernel_rfl
theorem Iw:ei 143=none:=by kernel_rfl
def UR (_a0:eb) (v:AV):Prop:=∃ r0:Bool,(True)∧v=.bool r0
theorem t143 (a0:eb)  (h:bY):∃ v,eH cfg eG.get ei false 143 [.agg (eb.cells a0)] h v h∧UR a0 v:=by
 refine eW Iw JN rfl rfl ?_
 refine aU ?_
 refine oo ?_
 refine aI ?_
 refine fg (a0.top) (1) (fun h1=>?_) (fun h1=>?_)
 refine bB ?_
 refine aq ?_
 iterate 3 refine oS ?_
 refine bI ?_
 refine bI ?_
 refine bH ?_
 exact xA (.bool false) ⟨false,trivial,rfl⟩
 iterate 3 refine oV ?_
 refine fW (a0.top) (60) (fun h2=>?_) (fun h2=>?_)
 refine aq ?_
 iterate 3 refine oS ?_
 refine bI ?_
 refine bI ?_
 refine bH ?_
 exact xA (.bool false) ⟨false,trivial,rfl⟩
 iterate 4 refine oV ?_
 refine fg (a0.gd) (1) (fun h3=>?_) (fun h3=>?_)
 refine aq ?_
 iterate 3 refine oS ?_
 refine bI ?_
 refine bH ?_
 exact xA (.bool false) ⟨false,trivial,rfl⟩
 iterate 4 refine oV ?_
 refine fW (a0.gd) (10) (fun h4=>?_) (fun h4=>?_)
 refine aq ?_
 iterate 3 refine oS ?_
 refine bH ?_
 exact xA (.bool false) ⟨false,trivial,rfl⟩
 iterate 4 refine oV ?_
 refine fg (a0.fQ) (1) (fun h5=>?_) (fun h5=>?_)
 refine ap ?_
 iterate 3 refine oS ?_
 refine bH ?_
 exact xA (.bool false) ⟨false,trivial,rfl⟩
 iterate 4 refine oV ?_
 refine fW (a0.fQ) (4000) (fun h6=>?_) (fun h6=>?_)
 refine bI ?_
 refine bI ?_
 refine bH ?_
 exact xA (.bool false) ⟨false,trivial,rfl⟩
 iterate 4 refine oV ?_
 refine fg (a0.ga) (1) (fun h7=>?_) (fun h7=>?_)
 refine bI ?_
 refine bH ?_
 exact xA (.bool false) ⟨false,trivial,rfl⟩
 iterate 4 refine oV ?_
 refine fW (a0.ga) (20) (fun h8=>?_) (fun h8=>?_)
 refine bH ?_
 exact xA (.bool false) ⟨false,trivial,rfl⟩
 iterate 4 refine oV ?_
 have hL9:=a0.elems.lk
 refine fA a0.elems ?_
 refine fj ((a0.elems.l.length:Int)) (0) (fun h10=>?_) (fun h10=>?_)
 refine ai ?_
 exact xA (.bool false) ⟨false,trivial,rfl⟩
 refine aw ?_
 refine w0 [(1,.la 1 0)] [(1,(eb.cells a0))] ?_
 refine qq ?_
 refine ql ?_
 refine aI ?_
 have hL11:=a0.elems.lk
 refine fA a0.elems ?_
 refine aP ?_
 have hNk12:=a0.elems.lk
 refine eN (a0.elems.l.length) (fun k12 e h=>proj [1,54,55,56] e=[(1,.la 1 0),(54,Row.av e8.cells a0.elems),(55,iv (a0.elems.l.length:Int)),(56,iv (k12:Int))]∧{ h with dO:=eV [1,54,55,56] h.dO } = { bY.empty with dO:=[(1,(eb.cells a0))] }) ?_ (k0:=0) cB ⟨rfl,rfl⟩
 rintro k12 e h hkk12 ⟨he,hh⟩
 refine ff he hh ?_
 clear he hh
 refine aa ?_
 refine fg ((k12:Int)) ((a0.elems.l.length:Int)) (fun h13=>?_) (fun h13=>?_)
 refine ao ?_
 refine w0 [(1,.la 1 0),(54,Row.av e8.cells a0.elems),(55,iv (a0.elems.l.length:Int)),(56,iv (k12:Int))] [(1,(eb.cells a0))] ?_
 refine bg ?_
 have hx14:k12<a0.elems.l.length:=by omega
 refine gL k12 a0.elems hx14 ?_
 generalize hqx15:a0.elems.l[k12]=x15
 refine aW ?_
 refine qb ?_
 refine ae ?_
 refine oC (t180 x15.name) ?_
 rintro _ ⟨r17,hc16,rfl⟩
 cases r17
 refine aJ ?_
 refine a8 ?_
 exact xA (.bool false) ⟨false,trivial,rfl⟩
 iterate 4 refine oV ?_
 refine oC (t204 (x15.kind)) ?_
 rintro _ ⟨r19,hc18,rfl⟩
 refine fj (r19) (0) (fun h20=>?_) (fun h20=>?_)
 refine a8 ?_
 exact xA (.bool false) ⟨false,trivial,rfl⟩
 refine cm ?_
 refine oV ?_
 refine fj (x15.kind) (4) (fun h21=>?_) (fun h21=>?_)
 refine aC ?_
 refine aI ?_
 refine gK (x15.len) (0) (fun h22=>?_) (fun h22=>?_)
 refine be ?_
 exact xA (.bool false) ⟨false,trivial,rfl⟩
 refine az ?_
 refine w0 [(1,.la 1 0),(54,Row.av e8.cells a0.elems),(55,iv (a0.elems.l.length:Int)),(56,iv (k12:Int))] [(1,(eb.cells a0))] ?_
 refine qe ?_
 refine w0 [(1,.la 1 0),(54,Row.av e8.cells a0.elems),(55,iv (a0.elems.l.length:Int)),(56,iv (k12:Int))] [(1,(eb.cells a0))] ?_
 refine qg ?_
 refine fu ((k12:Int)) (1) ?_
 refine ab ?_
 exact ⟨by omega,rfl,rfl⟩
 refine aS ?_
 iterate 2 refine oV ?_
 refine fg (x15.len) (1) (fun h23=>?_) (fun h23=>?_)
 refine bB ?_
 refine a8 ?_
 exact xA (.bool false) ⟨false,trivial,rfl⟩
 iterate 3 refine oV ?_
 refine fW (x15.len) (4000) (fun h24=>?_) (fun h24=>?_)
 refine a8 ?_
 exact xA (.bool false) ⟨false,trivial,rfl⟩
 refine bv ?_
 refine w0 [(1,.la 1 0),(54,Row.av e8.cells a0.elems),(55,iv (a0.elems.l.length:Int)),(56,iv (k12:Int))] [(1,(eb.cells a0))] ?_
 refine qg ?_
 refine fu ((k12:Int)) (1) ?_
 refine ab ?_
 exact ⟨by omega,rfl,rfl⟩
 refine am ?_
 refine w0 [(1,.la 1 0)] [(1,(eb.cells a0))] ?_
 refine aI ?_
 have hL25:=a0.signals.lk
 refine fA a0.signals ?_
 refine aP ?_
 have hNk26:=a0.signals.lk
 refine eN (a0.signals.l.length) (fun k26 e h=>proj [1,89,90,91] e=[(1,.la 1 0),(89,Row.av fe.cells a0.signals),(90,iv (a0.signals.l.length:Int)),(91,iv (k26:Int))]∧{ h with dO:=eV [1,89,90,91] h.dO } = { bY.empty with dO:=[(1,(eb.cells a0))] }) ?_ (k0:=0) cB ⟨rfl,rfl⟩
 rintro k26 e h hkk26 ⟨he,hh⟩
 refine ff he hh ?_
 clear he hh
 refine aa ?_
 refine fg ((k26:Int)) ((a0.signals.l.length:Int)) (fun h27=>?_) (fun h27=>?_)
 refine ao ?_
 refine w0 [(1,.la 1 0),(89,Row.av fe.cells a0.signals),(90,iv (a0.signals.l.length:Int)),(91,iv (k26:Int))] [(1,(eb.cells a0))] ?_
 refine bg ?_
 have hx28:k26<a0.signals.l.length:=by omega
 refine gL k26 a0.signals hx28 ?_
 generalize hqx29:a0.signals.l[k26]=x29
 refine cg ?_
 refine oC (t180 x29.name) ?_
 rintro _ ⟨r31,hc30,rfl⟩
 cases r31
 refine ai ?_
 exact xA (.bool false) ⟨false,trivial,rfl⟩
 refine aw ?_
 refine w0 [(1,.la 1 0),(89,Row.av fe.cells a0.signals),(90,iv (a0.signals.l.length:Int)),(91,iv (k26:Int))] [(1,(eb.cells a0))] ?_
 refine qg ?_
 refine fu ((k26:Int)) (1) ?_
 refine ab ?_
 exact ⟨by omega,rfl,rfl⟩
 refine am ?_
 refine w0 [(1,.la 1 0)] [(1,(eb.cells a0))] ?_
 refine aI ?_
 have hL32:=a0.lines.lk
 refine fA a0.lines ?_
 refine aP ?_
 have hNk33:=a0.lines.lk
 refine eN (a0.lines.l.length) (fun k33 e h=>proj [101,102,103] e=[(101,Row.av eZ.cells a0.lines),(102,iv (a0.lines.l.length:Int)),(103,iv (k33:Int))]∧{ h with dO:=eV [101,102,103] h.dO } = { bY.empty with dO:=[] }) ?_ (k0:=0) cB ⟨rfl,rfl⟩
 rintro k33 e h hkk33 ⟨he,hh⟩
 refine ff he hh ?_
 clear he hh
 refine aa ?_
 refine fg ((k33:Int)) ((a0.lines.l.length:Int)) (fun h34=>?_) (fun h34=>?_)
 refine ao ?_
 refine w0 [(101,Row.av eZ.cells a0.lines),(102,iv (a0.lines.l.length:Int)),(103,iv (k33:Int))] [] ?_
 refine bg ?_
 have hx35:k33<a0.lines.l.length:=by omega
 refine gL k33 a0.lines hx35 ?_
 generalize hqx36:a0.lines.l[k33]=x36
 refine cg ?_
 refine oC (t180 x36.name) ?_
 rintro _ ⟨r38,hc37,rfl⟩
 cases r38
 refine ai ?_
 exact xA (.bool false) ⟨false,trivial,rfl⟩
 refine aw ?_
 refine w0 [(101,Row.av eZ.cells a0.lines),(102,iv (a0.lines.l.length:Int)),(103,iv (k33:Int))] [] ?_
 refine qg ?_
 refine fu ((k33:Int)) (1) ?_
 refine ab ?_
 exact ⟨by omega,rfl,rfl⟩
 refine am ?_
 refine w0 [] [] ?_
 refine a6 ?_
 exact xA (.bool true) ⟨true,trivial,rfl⟩
theorem JI:eG.get 145=some zS:=by kernel_rfl
theorem HB:ei 145=none:=by kernel_rfl
theorem DH {H:bY} (b:Nat) (pp:eb) (i:Int) (F:List gn) (hS:Sep H (.obj (.ptr b 0 0 0) (eb.cells pp)::F)) (q1:0≤i) (q2:i<(pp.elems.l.length:Int)):∃ v H',eH cfg eG.get ei true 145 [iv i,(.ptr b 0 0 0)] { H with dO:=[] } v H'∧(∃ r0:jd,(True)∧Sep H' (.obj (.ptr b 0 0 0) (eb.cells pp)::F)∧v=.str (r0.l)):=by
 refine gF HB JI rfl ?_
 refine aQ ?_
 refine aa ?_
 refine eg rfl (fun _=>fq (H:=H) (i:=0) hS rfl rfl rfl rfl rfl) ?_
 refine eg rfl (fun _=>eU (H:=H) (i:=0) (o:=0) (r:=Row.av e8.cells pp.elems) hS rfl rfl rfl rfl) ?_
 refine oV ?_
 have hx1:(i).toNat<pp.elems.l.length:=by omega
 refine eg rfl (fun _=>fE (n:=i) (r:=pp.elems) (enc:=e8.cells) rfl rfl rfl rfl rfl cB hx1 rfl) ?_
 generalize hqx2:pp.elems.l[(i).toNat]=x2
 refine bz ?_
 have hS3:Sep H (.obj (.ptr b 0 0 0) (eb.cells pp)::F):=Sep.pick hS [0] 1 cG cG
 exact ⟨.str (x2.name.l),rfl,x2.name,trivial,Sep.dO hS3 _,rfl⟩
theorem JY:eG.get 146=some zR:=by kernel_rfl
theorem HR:ei 146=none:=by kernel_rfl
theorem CW {H:bY} (b:Nat) (pp:eb) (i:Int) (F:List gn) (hS:Sep H (.obj (.ptr b 0 0 0) (eb.cells pp)::F)) (q1:0≤i) (q2:i<(pp.signals.l.length:Int)):∃ v H',eH cfg eG.get ei true 146 [iv i,(.ptr b 0 0 0)] { H with dO:=[] } v H'∧(∃ r0:jd,(True)∧Sep H' (.obj (.ptr b 0 0 0) (eb.cells pp)::F)∧v=.str (r0.l)):=by
 refine gF HR JY rfl ?_
 refine aQ ?_
 refine aa ?_
 refine eg rfl (fun _=>fq (H:=H) (i:=0) hS rfl rfl rfl rfl rfl) ?_
 refine eg rfl (fun _=>eU (H:=H) (i:=0) (o:=2) (r:=Row.av fe.cells pp.signals) hS rfl rfl rfl rfl) ?_
 refine oV ?_
 have hx1:(i).toNat<pp.signals.l.length:=by omega
 refine eg rfl (fun _=>fE (n:=i) (r:=pp.signals) (enc:=fe.cells) rfl rfl rfl rfl rfl cB hx1 rfl) ?_
 generalize hqx2:pp.signals.l[(i).toNat]=x2
 refine bz ?_
 have hS3:Sep H (.obj (.ptr b 0 0 0) (eb.cells pp)::F):=Sep.pick hS [0] 1 cG cG
 exact ⟨.str (x2.name.l),rfl,x2.name,trivial,Sep.dO hS3 _,rfl⟩
theorem Ld:eG.get 147=some y3:=by kernel_rfl
theorem HP:ei 147=none:=by kernel_rfl
theorem Dz {H:bY} (b:Nat) (pp:eb) (i:Int) (F:List gn) (hS:Sep H (.obj (.ptr b 0 0 0) (eb.cells pp)::F)) (q1:0≤i) (q2:i<(pp.lines.l.length:Int)):∃ v H',eH cfg eG.get ei true 147 [iv i,(.ptr b 0 0 0)] { H with dO:=[] } v H'∧(∃ r0:jd,(True)∧Sep H' (.obj (.ptr b 0 0 0) (eb.cells pp)::F)∧v=.str (r0.l)):=by
 refine gF HP Ld rfl ?_
 refine aQ ?_
 refine aa ?_
 refine eg rfl (fun _=>fq (H:=H) (i:=0) hS rfl rfl rfl rfl rfl) ?_
 refine eg rfl (fun _=>eU (H:=H) (i:=0) (o:=3) (r:=Row.av eZ.cells pp.lines) hS rfl rfl rfl rfl) ?_
 refine oV ?_
 have hx1:(i).toNat<pp.lines.l.length:=by omega
 refine eg rfl (fun _=>fE (n:=i) (r:=pp.lines) (enc:=eZ.cells) rfl rfl rfl rfl rfl cB hx1 rfl) ?_
 generalize hqx2:pp.lines.l[(i).toNat]=x2
 refine bz ?_
 have hS3:Sep H (.obj (.ptr b 0 0 0) (eb.cells pp)::F):=Sep.pick hS [0] 1 cG cG
 exact ⟨.str (x2.name.l),rfl,x2.name,trivial,Sep.dO hS3 _,rfl⟩
theorem xf:eG.get 144=some zk:=by kernel_rfl
theorem uI:ei 144=none:=by kernel_rfl
theorem BI {H:bY} (n:Int) (b:Nat) (pp:eb) (F:List gn) (hS:Sep H (.obj (.ptr b 0 0 0) (eb.cells pp)::F)) (q2:n≤(pp.elems.l.length:Int)):∃ v H',eH cfg eG.get ei true 144 [iv n,.fz 145 [] [(.ptr b 0 0 0)]] { H with dO:=[] } v H'∧(∃ r0:Bool,(True)∧Sep H' (.obj (.ptr b 0 0 0) (eb.cells pp)::F)∧v=.bool r0):=by
 refine gF uI xf rfl ?_
 have hqb:=pp.elems.ok
 simp only [lO] at hqb
 refine aQ ?_
 refine aa ?_
 refine e7 (H:=H) rfl (ic hS) ?_
 rintro _ H2 ⟨b1,rfl,hS3⟩
 refine ab ?_
 refine ak ?_
 refine aP ?_
 refine eN ((n).toNat) (fun k4 e h=>∃ l5:List (List UInt8×Bool),∃ H6:bY,Sep H6 (.map (.hm b1) (eM sK bK l5)::.obj (.ptr b 0 0 0) (eb.cells pp)::F)∧proj [1,5,8,9] e=[(1,.fz 145 [] [(.ptr b 0 0 0)]),(5,(.hm b1)),(8,iv n),(9,iv (k4:Int))]∧{ h with dO:=eV [1,5,8,9] h.dO } = { H6 with dO:=[] }) ?_ (k0:=0) cB ⟨([]),H2,hS3,rfl,rfl⟩
 rintro k4 e h hkk4 ⟨l5,H6,hS7,he,hh⟩
 refine ff he hh ?_
 clear he hh
 refine aa ?_
 refine fg ((k4:Int)) (n) (fun h8=>?_) (fun h8=>?_)
 refine ao ?_
 refine wa [(1,.fz 145 [] [(.ptr b 0 0 0)]),(5,(.hm b1)),(8,iv n),(9,iv (k4:Int))] H6 [] ?_
 refine bS ?_
 refine aB ?_
 have hS9:Sep H6 (.obj (.ptr b 0 0 0) (eb.cells pp)::.map (.hm b1) (eM sK bK l5)::F):=Sep.pick hS7 [1,0] 2 cG cG
 refine fU (H:=H6) (args:=[iv (k4:Int)]) (p:=[]) (r:=[(.ptr b 0 0 0)]) rfl rfl rfl rfl rfl rfl rfl (DH b pp ((k4:Int)) (.map (.hm b1) (eM sK bK l5)::F) hS9 cq cq) ?_
 rintro _ H10 ⟨r13,hc12,hS11,rfl⟩
 refine ix (H:=H10) (i:=1) (ek:=sK) (ev:=bK) (l:=l5) r13.l rfl rfl hS11 rfl rfl rfl rfl rfl rfl rfl rfl kW (fun y14 h15=>?_) (fun h16=>?_)
 cases y14
 refine az ?_
 refine wa [(1,.fz 145 [] [(.ptr b 0 0 0)]),(5,(.hm b1)),(6,iv (k4:Int)),(8,iv n),(9,iv (k4:Int))] H10 [] ?_
 refine aY ?_
 have hS17:Sep H10 (.obj (.ptr b 0 0 0) (eb.cells pp)::.map (.hm b1) (eM sK bK l5)::F):=Sep.pick hS11 [0,1] 2 cG cG
 refine fU (H:=H10) (args:=[iv (k4:Int)]) (p:=[]) (r:=[(.ptr b 0 0 0)]) rfl rfl rfl rfl rfl rfl rfl (DH b pp ((k4:Int)) (.map (.hm b1) (eM sK bK l5)::F) hS17 cq cq) ?_
 rintro _ H18 ⟨r21,hc20,hS19,rfl⟩
 refine e7 (H:=H18) rfl (iR (H:=H18) (i:=1) (ek:=sK) (ev:=bK) (l:=l5) r21.l true hS19 rfl rfl rfl rfl rfl rfl kW) ?_
 rintro _ H22 ⟨rfl,hS23⟩
 refine oN ?_
 refine wa [(1,.fz 145 [] [(.ptr b 0 0 0)]),(5,(.hm b1)),(8,iv n),(9,iv (k4:Int))] H22 [] ?_
 refine qg ?_
 refine fu ((k4:Int)) (1) ?_
 refine ab ?_
 have hS24:Sep H22 (.map (.hm b1) (eM sK bK (put r21.l true l5))::.obj (.ptr b 0 0 0) (eb.cells pp)::F):=Sep.pick hS23 [1,0] 2 cG cG
 exact ⟨by omega,((put r21.l true l5)),H22,hS24,rfl,rfl⟩
 refine be ?_
 have hS25:Sep H10 (.obj (.ptr b 0 0 0) (eb.cells pp)::F):=Sep.pick hS11 [0] 2 cG cG
 exact ⟨.bool true,rfl,true,trivial,Sep.dO hS25 _,rfl⟩
 refine az ?_
 refine wa [(1,.fz 145 [] [(.ptr b 0 0 0)]),(5,(.hm b1)),(6,iv (k4:Int)),(8,iv n),(9,iv (k4:Int))] H10 [] ?_
 refine aY ?_
 have hS26:Sep H10 (.obj (.ptr b 0 0 0) (eb.cells pp)::.map (.hm b1) (eM sK bK l5)::F):=Sep.pick hS11 [0,1] 2 cG cG
 refine fU (H:=H10) (args:=[iv (k4:Int)]) (p:=[]) (r:=[(.ptr b 0 0 0)]) rfl rfl rfl rfl rfl rfl rfl (DH b pp ((k4:Int)) (.map (.hm b1) (eM sK bK l5)::F) hS26 cq cq) ?_
 rintro _ H27 ⟨r30,hc29,hS28,rfl⟩
 refine e7 (H:=H27) rfl (iR (H:=H27) (i:=1) (ek:=sK) (ev:=bK) (l:=l5) r30.l true hS28 rfl rfl rfl rfl rfl rfl kW) ?_
 rintro _ H31 ⟨rfl,hS32⟩
 refine oN ?_
 refine wa [(1,.fz 145 [] [(.ptr b 0 0 0)]),(5,(.hm b1)),(8,iv n),(9,iv (k4:Int))] H31 [] ?_
 refine qg ?_
 refine fu ((k4:Int)) (1) ?_
 refine ab ?_
 have hS33:Sep H31 (.map (.hm b1) (eM sK bK (put r30.l true l5))::.obj (.ptr b 0 0 0) (eb.cells pp)::F):=Sep.pick hS32 [1,0] 2 cG cG
 exact ⟨by omega,((put r30.l true l5)),H31,hS33,rfl,rfl⟩
 refine am ?_
 refine wa [] H6 [] ?_
 refine a6 ?_
 have hS34:Sep H6 (.obj (.ptr b 0 0 0) (eb.cells pp)::F):=Sep.pick hS7 [1] 2 cG cG
 exact ⟨.bool false,rfl,false,trivial,Sep.dO hS34 _,rfl⟩
theorem BS {H:bY} (n:Int) (b:Nat) (pp:eb) (F:List gn) (hS:Sep H (.obj (.ptr b 0 0 0) (eb.cells pp)::F)) (q2:n≤(pp.signals.l.length:Int)):∃ v H',eH cfg eG.get ei true 144 [iv n,.fz 146 [] [(.ptr b 0 0 0)]] { H with dO:=[] } v H'∧(∃ r0:Bool,(True)∧Sep H' (.obj (.ptr b 0 0 0) (eb.cells pp)::F)∧v=.bool r0):=by
 refine gF uI xf rfl ?_
 have hqb:=pp.signals.ok
 simp only [lO] at hqb
 refine aQ ?_
 refine aa ?_
 refine e7 (H:=H) rfl (ic hS) ?_
 rintro _ H2 ⟨b1,rfl,hS3⟩
 refine ab ?_
 refine ak ?_
 refine aP ?_
 refine eN ((n).toNat) (fun k4 e h=>∃ l5:List (List UInt8×Bool),∃ H6:bY,Sep H6 (.map (.hm b1) (eM sK bK l5)::.obj (.ptr b 0 0 0) (eb.cells pp)::F)∧proj [1,5,8,9] e=[(1,.fz 146 [] [(.ptr b 0 0 0)]),(5,(.hm b1)),(8,iv n),(9,iv (k4:Int))]∧{ h with dO:=eV [1,5,8,9] h.dO } = { H6 with dO:=[] }) ?_ (k0:=0) cB ⟨([]),H2,hS3,rfl,rfl⟩
 rintro k4 e h hkk4 ⟨l5,H6,hS7,he,hh⟩
 refine ff he hh ?_
 clear he hh
 refine aa ?_
 refine fg ((k4:Int)) (n) (fun h8=>?_) (fun h8=>?_)
 refine ao ?_
 refine wa [(1,.fz 146 [] [(.ptr b 0 0 0)]),(5,(.hm b1)),(8,iv n),(9,iv (k4:Int))] H6 [] ?_
 refine bS ?_
 refine aB ?_
 have hS9:Sep H6 (.obj (.ptr b 0 0 0) (eb.cells pp)::.map (.hm b1) (eM sK bK l5)::F):=Sep.pick hS7 [1,0] 2 cG cG
 refine fU (H:=H6) (args:=[iv (k4:Int)]) (p:=[]) (r:=[(.ptr b 0 0 0)]) rfl rfl rfl rfl rfl rfl rfl (CW b pp ((k4:Int)) (.map (.hm b1) (eM sK bK l5)::F) hS9 cq cq) ?_
 rintro _ H10 ⟨r13,hc12,hS11,rfl⟩
 refine ix (H:=H10) (i:=1) (ek:=sK) (ev:=bK) (l:=l5) r13.l rfl rfl hS11 rfl rfl rfl rfl rfl rfl rfl rfl kW (fun y14 h15=>?_) (fun h16=>?_)
 cases y14
 refine az ?_
 refine wa [(1,.fz 146 [] [(.ptr b 0 0 0)]),(5,(.hm b1)),(6,iv (k4:Int)),(8,iv n),(9,iv (k4:Int))] H10 [] ?_
 refine aY ?_
 have hS17:Sep H10 (.obj (.ptr b 0 0 0) (eb.cells pp)::.map (.hm b1) (eM sK bK l5)::F):=Sep.pick hS11 [0,1] 2 cG cG
 refine fU (H:=H10) (args:=[iv (k4:Int)]) (p:=[]) (r:=[(.ptr b 0 0 0)]) rfl rfl rfl rfl rfl rfl rfl (CW b pp ((k4:Int)) (.map (.hm b1) (eM sK bK l5)::F) hS17 cq cq) ?_
 rintro _ H18 ⟨r21,hc20,hS19,rfl⟩
 refine e7 (H:=H18) rfl (iR (H:=H18) (i:=1) (ek:=sK) (ev:=bK) (l:=l5) r21.l true hS19 rfl rfl rfl rfl rfl rfl kW) ?_
 rintro _ H22 ⟨rfl,hS23⟩
 refine oN ?_
 refine wa [(1,.fz 146 [] [(.ptr b 0 0 0)]),(5,(.hm b1)),(8,iv n),(9,iv (k4:Int))] H22 [] ?_
 refine qg ?_
 refine fu ((k4:Int)) (1) ?_
 refine ab ?_
 have hS24:Sep H22 (.map (.hm b1) (eM sK bK (put r21.l true l5))::.obj (.ptr b 0 0 0) (eb.cells pp)::F):=Sep.pick hS23 [1,0] 2 cG cG
 exact ⟨by omega,((put r21.l true l5)),H22,hS24,rfl,rfl⟩
 refine be ?_
 have hS25:Sep H10 (.obj (.ptr b 0 0 0) (eb.cells pp)::F):=Sep.pick hS11 [0] 2 cG cG
 exact ⟨.bool true,rfl,true,trivial,Sep.dO hS25 _,rfl⟩
 refine az ?_
 refine wa [(1,.fz 146 [] [(.ptr b 0 0 0)]),(5,(.hm b1)),(6,iv (k4:Int)),(8,iv n),(9,iv (k4:Int))] H10 [] ?_
 refine aY ?_
 have hS26:Sep H10 (.obj (.ptr b 0 0 0) (eb.cells pp)::.map (.hm b1) (eM sK bK l5)::F):=Sep.pick hS11 [0,1] 2 cG cG
 refine fU (H:=H10) (args:=[iv (k4:Int)]) (p:=[]) (r:=[(.ptr b 0 0 0)]) rfl rfl rfl rfl rfl rfl rfl (CW b pp ((k4:Int)) (.map (.hm b1) (eM sK bK l5)::F) hS26 cq cq) ?_
 rintro _ H27 ⟨r30,hc29,hS28,rfl⟩
 refine e7 (H:=H27) rfl (iR (H:=H27) (i:=1) (ek:=sK) (ev:=bK) (l:=l5) r30.l true hS28 rfl rfl rfl rfl rfl rfl kW) ?_
 rintro _ H31 ⟨rfl,hS32⟩
 refine oN ?_
 refine wa [(1,.fz 146 [] [(.ptr b 0 0 0)]),(5,(.hm b1)),(8,iv n),(9,iv (k4:Int))] H31 [] ?_
 refine qg ?_
 refine fu ((k4:Int)) (1) ?_
 refine ab ?_
 have hS33:Sep H31 (.map (.hm b1) (eM sK bK (put r30.l true l5))::.obj (.ptr b 0 0 0) (eb.cells pp)::F):=Sep.pick hS32 [1,0] 2 cG cG
 exact ⟨by omega,((put r30.l true l5)),H31,hS33,rfl,rfl⟩
 refine am ?_
 refine wa [] H6 [] ?_
 refine a6 ?_
 have hS34:Sep H6 (.obj (.ptr b 0 0 0) (eb.cells pp)::F):=Sep.pick hS7 [1] 2 cG cG
 exact ⟨.bool false,rfl,false,trivial,Sep.dO hS34 _,rfl⟩
theorem B7 {H:bY} (n:Int) (b:Nat) (pp:eb) (F:List gn) (hS:Sep H (.obj (.ptr b 0 0 0) (eb.cells pp)::F)) (q2:n≤(pp.lines.l.length:Int)):∃ v H',eH cfg eG.get ei true 144 [iv n,.fz 147 [] [(.ptr b 0 0 0)]] { H with dO:=[] } v H'∧(∃ r0:Bool,(True)∧Sep H' (.obj (.ptr b 0 0 0) (eb.cells pp)::F)∧v=.bool r0):=by
 refine gF uI xf rfl ?_
 have hqb:=pp.lines.ok
 simp only [lO] at hqb
 refine aQ ?_
 refine aa ?_
 refine e7 (H:=H) rfl (ic hS) ?_
 rintro _ H2 ⟨b1,rfl,hS3⟩
 refine ab ?_
 refine ak ?_
 refine aP ?_
 refine eN ((n).toNat) (fun k4 e h=>∃ l5:List (List UInt8×Bool),∃ H6:bY,Sep H6 (.map (.hm b1) (eM sK bK l5)::.obj (.ptr b 0 0 0) (eb.cells pp)::F)∧proj [1,5,8,9] e=[(1,.fz 147 [] [(.ptr b 0 0 0)]),(5,(.hm b1)),(8,iv n),(9,iv (k4:Int))]∧{ h with dO:=eV [1,5,8,9] h.dO } = { H6 with dO:=[] }) ?_ (k0:=0) cB ⟨([]),H2,hS3,rfl,rfl⟩
 rintro k4 e h hkk4 ⟨l5,H6,hS7,he,hh⟩
 refine ff he hh ?_
 clear he hh
 refine aa ?_
 refine fg ((k4:Int)) (n) (fun h8=>?_) (fun h8=>?_)
 refine ao ?_
 refine wa [(1,.fz 147 [] [(.ptr b 0 0 0)]),(5,(.hm b1)),(8,iv n),(9,iv (k4:Int))] H6 [] ?_
 refine bS ?_
 refine aB ?_
 have hS9:Sep H6 (.obj (.ptr b 0 0 0) (eb.cells pp)::.map (.hm b1) (eM sK bK l5)::F):=Sep.pick hS7 [1,0] 2 cG cG
 refine fU (H:=H6) (args:=[iv (k4:Int)]) (p:=[]) (r:=[(.ptr b 0 0 0)]) rfl rfl rfl rfl rfl rfl rfl (Dz b pp ((k4:Int)) (.map (.hm b1) (eM sK bK l5)::F) hS9 cq cq) ?_
 rintro _ H10 ⟨r13,hc12,hS11,rfl⟩
 refine ix (H:=H10) (i:=1) (ek:=sK) (ev:=bK) (l:=l5) r13.l rfl rfl hS11 rfl rfl rfl rfl rfl rfl rfl rfl kW (fun y14 h15=>?_) (fun h16=>?_)
 cases y14
 refine az ?_
 refine wa [(1,.fz 147 [] [(.ptr b 0 0 0)]),(5,(.hm b1)),(6,iv (k4:Int)),(8,iv n),(9,iv (k4:Int))] H10 [] ?_
 refine aY ?_
 have hS17:Sep H10 (.obj (.ptr b 0 0 0) (eb.cells pp)::.map (.hm b1) (eM sK bK l5)::F):=Sep.pick hS11 [0,1] 2 cG cG
 refine fU (H:=H10) (args:=[iv (k4:Int)]) (p:=[]) (r:=[(.ptr b 0 0 0)]) rfl rfl rfl rfl rfl rfl rfl (Dz b pp ((k4:Int)) (.map (.hm b1) (eM sK bK l5)::F) hS17 cq cq) ?_
 rintro _ H18 ⟨r21,hc20,hS19,rfl⟩
 refine e7 (H:=H18) rfl (iR (H:=H18) (i:=1) (ek:=sK) (ev:=bK) (l:=l5) r21.l true hS19 rfl rfl rfl rfl rfl rfl kW) ?_
 rintro _ H22 ⟨rfl,hS23⟩
 refine oN ?_
 refine wa [(1,.fz 147 [] [(.ptr b 0 0 0)]),(5,(.hm b1)),(8,iv n),(9,iv (k4:Int))] H22 [] ?_
 refine qg ?_
 refine fu ((k4:Int)) (1) ?_
 refine ab ?_
 have hS24:Sep H22 (.map (.hm b1) (eM sK bK (put r21.l true l5))::.obj (.ptr b 0 0 0) (eb.cells pp)::F):=Sep.pick hS23 [1,0] 2 cG cG
 exact ⟨by omega,((put r21.l true l5)),H22,hS24,rfl,rfl⟩
 refine be ?_
 have hS25:Sep H10 (.obj (.ptr b 0 0 0) (eb.cells pp)::F):=Sep.pick hS11 [0] 2 cG cG
 exact ⟨.bool true,rfl,true,trivial,Sep.dO hS25 _,rfl⟩
 refine az ?_
 refine wa [(1,.fz 147 [] [(.ptr b 0 0 0)]),(5,(.hm b1)),(6,iv (k4:Int)),(8,iv n),(9,iv (k4:Int))] H10 [] ?_
 refine aY ?_
 have hS26:Sep H10 (.obj (.ptr b 0 0 0) (eb.cells pp)::.map (.hm b1) (eM sK bK l5)::F):=Sep.pick hS11 [0,1] 2 cG cG
 refine fU (H:=H10) (args:=[iv (k4:Int)]) (p:=[]) (r:=[(.ptr b 0 0 0)]) rfl rfl rfl rfl rfl rfl rfl (Dz b pp ((k4:Int)) (.map (.hm b1) (eM sK bK l5)::F) hS26 cq cq) ?_
 rintro _ H27 ⟨r30,hc29,hS28,rfl⟩
 refine e7 (H:=H27) rfl (iR (H:=H27) (i:=1) (ek:=sK) (ev:=bK) (l:=l5) r30.l true hS28 rfl rfl rfl rfl rfl rfl kW) ?_
 rintro _ H31 ⟨rfl,hS32⟩
 refine oN ?_
 refine wa [(1,.fz 147 [] [(.ptr b 0 0 0)]),(5,(.hm b1)),(8,iv n),(9,iv (k4:Int))] H31 [] ?_
 refine qg ?_
 refine fu ((k4:Int)) (1) ?_
 refine ab ?_
 have hS33:Sep H31 (.map (.hm b1) (eM sK bK (put r30.l true l5))::.obj (.ptr b 0 0 0) (eb.cells pp)::F):=Sep.pick hS32 [1,0] 2 cG cG
 exact ⟨by omega,((put r30.l true l5)),H31,hS33,rfl,rfl⟩
 refine am ?_
 refine wa [] H6 [] ?_
 refine a6 ?_
 have hS34:Sep H6 (.obj (.ptr b 0 0 0) (eb.cells pp)::F):=Sep.pick hS7 [1] 2 cG cG
 exact ⟨.bool false,rfl,false,trivial,Sep.dO hS34 _,rfl⟩
theorem IT:eG.get 205=some zh:=by kernel_rfl
theorem HW:ei 205=none:=by kernel_rfl
def VN (_a0:eb) (_a1:ed) (v:AV):Prop:=∃ r0:Bool,((r0=true→0≤_a1.elem∧_a1.elem<(_a0.elems.l.length:Int)∧0≤_a1.en∧_a1.en<4))∧v=.bool r0
theorem t205 (a0:eb) (a1:ed)  (h:bY):∃ v,eH cfg eG.get ei false 205 [.agg (eb.cells a0),.agg (ed.cells a1)] h v h∧VN a0 a1 v:=by
 refine eW HW IT rfl rfl ?_
 refine bm ?_
 refine bi ?_
 refine jR (a1.elem) (0) (fun h1=>?_) (fun h1=>?_)
 iterate 5 refine rV ?_
 have hL2:=a0.elems.lk
 refine GH a0.elems ?_
 refine j8 (a1.elem) ((a0.elems.l.length:Int)) (fun h3=>?_) (fun h3=>?_)
 iterate 4 refine rV ?_
 refine jR (a1.en) (0) (fun h4=>?_) (fun h4=>?_)
 iterate 8 refine rV ?_
 have hx5:(a1.elem).toNat<a0.elems.l.length:=by omega
 refine eI rfl rfl (fun _=>fE (n:=a1.elem) (r:=a0.elems) (enc:=e8.cells) rfl rfl rfl rfl rfl cB hx5 rfl) ?_
 generalize hqx6:a0.elems.l[(a1.elem).toNat]=x6
 iterate 2 refine rV ?_
 refine rC (t204 (x6.kind)) ?_
 rintro _ ⟨r8,hc7,rfl⟩
 refine j8 (a1.en) (r8) (fun h9=>?_) (fun h9=>?_)
 refine aH ?_
 exact xA (.bool true) ⟨true,cQ,rfl⟩
 refine aH ?_
 exact xA (.bool false) ⟨false,cQ,rfl⟩
 refine bp ?_
 iterate 5 refine rS ?_
 refine aH ?_
 exact xA (.bool false) ⟨false,cQ,rfl⟩
 refine aD ?_
 iterate 11 refine rS ?_
 refine aH ?_
 exact xA (.bool false) ⟨false,cQ,rfl⟩
 refine ck ?_
 refine aD ?_
 iterate 11 refine rS ?_
 refine aH ?_
 exact xA (.bool false) ⟨false,cQ,rfl⟩
theorem Jh:eG.get 148=some yX:=by kernel_rfl
theorem Hu:ei 148=none:=by kernel_rfl
def Um (_a0:eb) (v:AV):Prop:=(∃ r0:List (ed×ed),((∀ y∈(r0:List (ed×ed)),0≤y.2.elem∧y.2.elem<(_a0.elems.l.length:Int))∧rY _a0.eT.l)∧v=.eP [.fm (eM pK pK r0) false,.bool true])∨((True)∧v=.eP [.fZ,.bool false])
theorem t148 (a0:eb)  (h:bY):∃ v,eH cfg eG.get ei false 148 [.agg (eb.cells a0)] h v h∧Um a0 v:=by
 refine eW Hu Jh rfl rfl ?_
 refine bm ?_
 refine aa ?_
 refine e7 (H:=bY.empty) rfl (ic gg) ?_
 rintro _ H2 ⟨b1,rfl,hS3⟩
 refine bX ?_
 have hL4:=a0.eT.lk
 refine fA a0.eT ?_
 refine aP ?_
 have hNk5:=a0.eT.lk
 refine eN (a0.eT.l.length) (fun k5 e h=>∃ l6:List (ed×ed),∃ H7:bY,((∀ y∈(l6:List (ed×ed)),0≤y.2.elem∧y.2.elem<(a0.elems.l.length:Int)))∧(∀ x:ed,look x l6=gJ (a0.eT.l.take k5) x)∧(∀ (i:Nat) (h:i<a0.eT.l.length),i<k5→gJ (a0.eT.l.take i) (a0.eT.l[i]).a=none∧gJ (a0.eT.l.take i) (a0.eT.l[i]).b=none∧(a0.eT.l[i]).a≠(a0.eT.l[i]).b)∧Sep H7 (.map (.hm b1) (eM pK pK l6)::[])∧proj [1,4,17,18,19] e=[(1,.la 1 0),(4,(.hm b1)),(17,Row.av fo.cells a0.eT),(18,iv (a0.eT.l.length:Int)),(19,iv (k5:Int))]∧{ h with dO:=eV [1,4,17,18,19] h.dO } = { H7 with dO:=[(1,(eb.cells a0))] }) ?_ (k0:=0) cB ⟨([]),H2,dv,(by (intro x; rfl)),dM,hS3,rfl,rfl⟩
 rintro k5 e h hkk5 ⟨l6,H7,hV,hD,hJ,hS8,he,hh⟩
 refine ff he hh ?_
 clear he hh
 refine aa ?_
 refine fg ((k5:Int)) ((a0.eT.l.length:Int)) (fun h9=>?_) (fun h9=>?_)
 refine ao ?_
 refine wa [(1,.la 1 0),(4,(.hm b1)),(17,Row.av fo.cells a0.eT),(18,iv (a0.eT.l.length:Int)),(19,iv (k5:Int))] H7 [(1,(eb.cells a0))] ?_
 refine bg ?_
 have hx10:k5<a0.eT.l.length:=by omega
 refine gL k5 a0.eT hx10 ?_
 generalize hqx11:a0.eT.l[k5]=x11
 refine aW ?_
 refine aF ?_
 refine ix (H:=H7) (i:=0) (ek:=pK) (ev:=pK) (l:=l6) x11.a rfl rfl hS8 rfl rfl rfl rfl rfl rfl rfl rfl gB (fun y12 h13=>?_) (fun h14=>?_)
 have hvy12:0≤y12.elem∧y12.elem<(a0.elems.l.length:Int):=hV _ (jt h13)
 refine au ?_
 refine aF ?_
 refine ix (H:=H7) (i:=0) (ek:=pK) (ev:=pK) (l:=l6) x11.b rfl rfl hS8 rfl rfl rfl rfl rfl rfl rfl rfl gB (fun y15 h16=>?_) (fun h17=>?_)
 have hvy15:0≤y15.elem∧y15.elem<(a0.elems.l.length:Int):=hV _ (jt h16)
 refine au ?_
 refine aI ?_
 refine oS ?_
 refine aK ?_
 refine aK ?_
 refine aK ?_
 refine bQ ?_
 refine xF (.eP [.fZ,.bool false]) (.inr (⟨trivial,rfl⟩))
 refine au ?_
 refine aI ?_
 refine oS ?_
 refine aK ?_
 refine aK ?_
 refine aK ?_
 refine bQ ?_
 refine xF (.eP [.fZ,.bool false]) (.inr (⟨trivial,rfl⟩))
 refine au ?_
 refine aF ?_
 refine ix (H:=H7) (i:=0) (ek:=pK) (ev:=pK) (l:=l6) x11.b rfl rfl hS8 rfl rfl rfl rfl rfl rfl rfl rfl gB (fun y18 h19=>?_) (fun h20=>?_)
 have hvy18:0≤y18.elem∧y18.elem<(a0.elems.l.length:Int):=hV _ (jt h19)
 refine au ?_
 refine aB ?_
 refine aK ?_
 refine aK ?_
 refine aK ?_
 refine bQ ?_
 refine xF (.eP [.fZ,.bool false]) (.inr (⟨trivial,rfl⟩))
 refine bD ?_
 iterate 8 refine oV ?_
 refine jA rfl (fun _=>mO rfl rfl rfl (fun _ _=>rfl)) (fun h21=>?_) (fun h21=>?_)
 refine aK ?_
 refine aK ?_
 refine bQ ?_
 refine xF (.eP [.fZ,.bool false]) (.inr (⟨trivial,rfl⟩))
 iterate 5 refine oV ?_
 refine oC (t205 a0 x11.a) ?_
 rintro _ ⟨r23,hc22,rfl⟩
 cases r23
 clear hc22
 refine oV ?_
 refine aK ?_
 refine bQ ?_
 refine xF (.eP [.fZ,.bool false]) (.inr (⟨trivial,rfl⟩))
 have hc22t:=hc22 rfl
 iterate 6 refine oV ?_
 refine oC (t205 a0 x11.b) ?_
 rintro _ ⟨r25,hc24,rfl⟩
 cases r25
 clear hc24
 refine oV ?_
 refine bQ ?_
 refine xF (.eP [.fZ,.bool false]) (.inr (⟨trivial,rfl⟩))
 have hc24t:=hc24 rfl
 refine bv ?_
 refine wa [(1,.la 1 0),(4,(.hm b1)),(6,.la 6 0),(17,Row.av fo.cells a0.eT),(18,iv (a0.eT.l.length:Int)),(19,iv (k5:Int))] H7 [(1,(eb.cells a0)),(6,(fo.cells x11))] ?_
 refine qd ?_
 iterate 10 refine rV ?_
 refine nv (H:=H7) rfl rfl (iR (H:=H7) (i:=0) (ek:=pK) (ev:=pK) (l:=l6) x11.a x11.b hS8 rfl rfl rfl rfl rfl rfl gB) ?_
 rintro _ H26 ⟨rfl,hS27⟩
 refine ⟨fun call=>(wM (jc rfl rfl rfl rfl rfl dp) (sR (jc rfl rfl rfl rfl rfl dp))),?_⟩
 refine iA (H:=H26) rfl rfl (iR (H:=H26) (i:=0) (ek:=pK) (ev:=pK) (l:=(put x11.a x11.b l6)) x11.b x11.a hS27 rfl rfl rfl rfl rfl rfl gB) ?_
 rintro _ H28 ⟨rfl,hS29⟩
 refine rN ?_
 refine wa [(1,.la 1 0),(4,(.hm b1)),(17,Row.av fo.cells a0.eT),(18,iv (a0.eT.l.length:Int)),(19,iv (k5:Int))] H28 [(1,(eb.cells a0))] ?_
 refine qg ?_
 refine fu ((k5:Int)) (1) ?_
 refine ab ?_
 exact ⟨by omega,((put x11.b x11.a (put x11.a x11.b l6))),H28,(by exact pI (P:=fun y:ed=>0≤y.elem∧y.elem<(a0.elems.l.length:Int)) (pI (P:=fun y:ed=>0≤y.elem∧y.elem<(a0.elems.l.length:Int)) hV cB) cB),(by exact sr cC cC hD cC cC cC),(by exact xm cC cC hD hJ cC cC cC),hS29,rfl,rfl⟩
 refine am ?_
 refine wa [(1,.la 1 0),(4,(.hm b1))] H7 [(1,(eb.cells a0))] ?_
 refine aI ?_
 have hL30:=a0.elems.lk
 refine fA a0.elems ?_
 refine aP ?_
 have hNk31:=a0.elems.lk
 refine eN (a0.elems.l.length) (fun k31 e h=>proj [1,4,74,75,76] e=[(1,.la 1 0),(4,(.hm b1)),(74,Row.av e8.cells a0.elems),(75,iv (a0.elems.l.length:Int)),(76,iv (k31:Int))]∧{ h with dO:=eV [1,4,74,75,76] h.dO } = { H7 with dO:=[(1,(eb.cells a0))] }) ?_ (k0:=0) cB ⟨rfl,rfl⟩
 rintro k31 e h hkk31 ⟨he,hh⟩
 refine ff he hh ?_
 clear he hh
 refine aa ?_
 refine fg ((k31:Int)) ((a0.elems.l.length:Int)) (fun h32=>?_) (fun h32=>?_)
 refine ao ?_
 refine wa [(1,.la 1 0),(4,(.hm b1)),(74,Row.av e8.cells a0.elems),(75,iv (a0.elems.l.length:Int)),(76,iv (k31:Int))] H7 [(1,(eb.cells a0))] ?_
 refine bE ?_
 have hx33:k31<a0.elems.l.length:=by omega
 refine gL k31 a0.elems hx33 ?_
 generalize hqx34:a0.elems.l[k31]=x34
 refine bF ?_
 refine aI ?_
 refine gK (x34.kind) (4) (fun h35=>?_) (fun h35=>?_)
 refine ay ?_
 refine qe ?_
 refine wa [(1,.la 1 0),(4,(.hm b1)),(74,Row.av e8.cells a0.elems),(75,iv (a0.elems.l.length:Int)),(76,iv (k31:Int))] H7 [(1,(eb.cells a0))] ?_
 refine qg ?_
 refine fu ((k31:Int)) (1) ?_
 refine ab ?_
 exact ⟨by omega,rfl,rfl⟩
 refine az ?_
 refine wa [(1,.la 1 0),(4,(.hm b1)),(11,iv (k31:Int)),(74,Row.av e8.cells a0.elems),(75,iv (a0.elems.l.length:Int)),(76,iv (k31:Int))] H7 [(1,(eb.cells a0))] ?_
 refine aF ?_
 refine ix (H:=H7) (i:=0) (ek:=pK) (ev:=pK) (l:=l6) ((⟨((k31:Int)),(0)⟩:ed)) rfl rfl hS8 rfl rfl rfl rfl rfl rfl rfl rfl gB (fun y36 h37=>?_) (fun h38=>?_)
 have hvy36:0≤y36.elem∧y36.elem<(a0.elems.l.length:Int):=hV _ (jt h37)
 refine bN ?_
 iterate 7 refine oV ?_
 have hx39:(y36.elem).toNat<a0.elems.l.length:=by omega
 refine eg rfl (fun _=>fE (n:=y36.elem) (r:=a0.elems) (enc:=e8.cells) rfl rfl rfl rfl rfl cB hx39 rfl) ?_
 generalize hqx40:a0.elems.l[(y36.elem).toNat]=x40
 iterate 2 refine oV ?_
 refine fj (x40.kind) (4) (fun h41=>?_) (fun h41=>?_)
 refine bQ ?_
 refine xF (.eP [.fZ,.bool false]) (.inr (⟨trivial,rfl⟩))
 refine aw ?_
 refine wa [(1,.la 1 0),(4,(.hm b1)),(74,Row.av e8.cells a0.elems),(75,iv (a0.elems.l.length:Int)),(76,iv (k31:Int))] H7 [(1,(eb.cells a0))] ?_
 refine qg ?_
 refine fu ((k31:Int)) (1) ?_
 refine ab ?_
 exact ⟨by omega,rfl,rfl⟩
 refine ca ?_
 refine bU ?_
 refine bQ ?_
 refine xF (.eP [.fZ,.bool false]) (.inr (⟨trivial,rfl⟩))
 refine am ?_
 refine wa [(4,(.hm b1))] H7 [] ?_
 refine a7 ?_
 have hz42:∀ m,freeze false { H7 with dO:=[] } (m+3) (.hm b1)=some (.fm (eM pK pK l6) false):=fun m=>nF (i:=0) hS8 rfl _ _ (pg fun _=>rfl)
 refine ⟨.eP [(.hm b1),.bool true],rfl,.eP [.fm (eM pK pK l6) false,.bool true],(show freeze false { H7 with dO:=[] } 8 (.eP [(.hm b1),.bool true])=some (.eP [.fm (eM pK pK l6) false,.bool true]) by simp only [FZ,hz42]),.inl ⟨l6,(by exact ⟨hV,fun i h=>hJ i h cB⟩),rfl⟩⟩
end Go.Sx
