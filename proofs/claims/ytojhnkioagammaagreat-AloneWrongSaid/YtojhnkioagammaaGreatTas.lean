/- Proves what some functions of the program answer, by walking through them. -/
import Derived.Test.YtojhnkioagammaaGreatTal
import Derived.Test.YtojhnkioagammaaGreatTao
import Derived.Test.YtojhnkioagammaaGreatTap
import Derived.Test.YtojhnkioagammaaGreatTaq
import Derived.Test.YtojhnkioagammaaGreatTar
set_option linter.all false
set_option maxRecDepth 100000
set_option maxHeartbeats 0
namespace Go.Sx
open Go Go.Proofs
theorem T9:FT 14=some Il:=by kernel_rfl
theorem Ps:aT 14=none:=by kernel_rfl
theorem u14 {H:ah} (a0:gb) (a1:gp) (a2:Row Int) (F:List gH) (hS:Sep H F) (q1:jb a0.fo) (q2:a0.roads.l.length≤64) (q3:rs 13 [.agg (fh.cells a0.fo)]=.fz [.agg (gb.cells a0),iv 0]):∃ v H',fj cfg FT aT true 14 [.agg (gb.cells a0),.agg (gp.cells a1),Row.av fu a2] { H with aq:=[] } v H' ∧
  ((∃ e:Int,(e≠0∧(rs 8 [.agg (gb.cells a0),.agg (gp.cells a1)]=iv e∨(rs 8 [.agg (gb.cells a0),.agg (gp.cells a1)]=iv 0∧e=1∧¬ jB a1.runs.l.length a2.l a2.l.length)))∧Sep H' F∧v=.fz [.ia,iv e]) ∨
   (∃ yb:Nat,∃ n:fk,∃ wn:fk,∃ c:gb,∃ lv:Row fZ,∃ ke:Int,∃ nn:fk,∃ sp:Row Int,∃ fd:AV,∃ ws:Row fK,∃ wb:Row fJ,∃ wl:Row Int,∃ va:AV,∃ yl:List jD,∃ ps:List ic,(rs 8 [.agg (gb.cells a0),.agg (gp.cells a1)]=iv 0∧jB a1.runs.l.length a2.l a2.l.length∧yl.length=a2.l.length∧lv.l.length≤64∧sp.l.length≤60∧(∀ x∈lv.l,x.seen.l.length≤1000)∧wb.l.length≤64∧(∀ x∈wb.l,x.gT.l.length≤1000)∧yl.length≤64∧wb.l.length=yl.length∧(∀ p∈ps,p.le 0))∧ps.map ic.ptr=yl∧Sep H' (.obj (.ptr yb 0 0 0) (uh n a0 a1 (nE wn c lv ke nn sp fd ws wb wl) va)::.sl true false va 1 (yl.map jD.cells)::(gQ ps++F))∧v=.fz [.ptr yb 0 0 0,iv 0])):=by
 refine gB Ps T9 rfl ?_
 refine aa ?_
 refine bM ?_
 refine aW ?_
 refine oC (t8 a0 a1 cG cG) ?_
 rintro _ ⟨r2,⟨hc1,hc1r⟩,rfl⟩
 have hCk:=hc1; have hCr:=hc1r
 refine bP ?_
 refine iJ (r2) (0) (fun h3=>?_) (fun h3=>?_)
 refine aA ?_
 refine aD ?_
 exact ⟨.fz [.ia,iv r2],rfl,.inl ⟨r2,du,Sep.aq hS _,rfl⟩⟩
 refine cz ?_
 have hL4:=a2.lk
 refine gG a2 ?_
 refine aC ?_
 have hNk5:=a2.lk
 refine fC (a2.l.length) (fun k5 e h=>(jB a1.runs.l.length a2.l k5)∧proj [2,3,4,25,26,27] e=[(2,Row.av fu a2),(3,.la 3 0),(4,.la 4 0),(25,Row.av fu a2),(26,iv (a2.l.length:Int)),(27,iv (k5:Int))]∧{ h with aq:=fU [2,3,4,25,26,27] h.aq } = { H with aq:=[(3,(gb.cells a0)),(4,(gp.cells a1))] }) ?_ (k0:=0) cO ⟨(by exact jB.zero _ _),rfl,rfl⟩
 rintro k5 e h hkk5 ⟨hAs,he,hh⟩
 refine gm he hh ?_
 clear he hh
 refine aa ?_
 refine gl ((k5:Int)) ((a2.l.length:Int)) (fun h6=>?_) (fun h6=>?_)
 refine bU ?_
 have hx7:k5<a2.l.length:=by omega
 refine iU k5 a2 hx7 ?_
 generalize hqx8:a2.l[k5]=x8
 have hinx8:x8∈a2.l:=by rw [← hqx8]; exact List.getElem_mem _
 first | (have hR1:=hR0; have hR0:=hqx8) | have hR0:=hqx8
 try (have hRb:=jB.at_ hAf hR0)
 refine aX ?_
 refine ai ?_
 refine gl (x8) (0) (fun h9=>?_) (fun h9=>?_)
 refine bi ?_
 refine aP ?_
 refine cb ?_
 refine aH ?_
 exact ⟨.fz [.ia,iv 1],rfl,.inl ⟨1,du,Sep.aq hS _,rfl⟩⟩
 iterate 4 refine oV ?_
 have hL10:=a1.runs.lk
 refine gG a1.runs ?_
 refine jg (x8) ((a1.runs.l.length:Int)) (fun h11=>?_) (fun h11=>?_)
 refine aP ?_
 refine cb ?_
 refine aH ?_
 exact ⟨.fz [.ia,iv 1],rfl,.inl ⟨1,du,Sep.aq hS _,rfl⟩⟩
 iterate 3 refine oV ?_
 refine g9 ((k5:Int)) (0) (fun h12=>?_) (fun h12=>?_)
 iterate 4 refine oV ?_
 refine lY ((k5:Int)) (1) ?_
 have hx13:((k5:Int) - 1).toNat<a2.l.length:=by omega
 refine fq rfl (fun _=>gN (n:=(k5:Int) - 1) (r:=a2) (enc:=fu) rfl rfl rfl rfl rfl cO hx13 rfl) ?_
 generalize hqx14:a2.l[((k5:Int) - 1).toNat]=x14
 have hinx14:x14∈a2.l:=by rw [← hqx14]; exact List.getElem_mem _
 first | (have hR1:=hR0; have hR0:=hqx14) | have hR0:=hqx14
 try (have hRb:=jB.at_ hAf hR0)
 refine oV ?_
 refine o5 (x8) (x14) (fun h15=>?_) (fun h15=>?_)
 refine oV ?_
 refine cu ?_
 exact ⟨.fz [.ia,iv 1],rfl,.inl ⟨1,du,Sep.aq hS _,rfl⟩⟩
 refine oV ?_
 refine bW ?_
 refine gy ((k5:Int)) (1) ?_
 refine ab ?_
 exact ⟨by omega,eL,rfl,rfl⟩
 refine bS ?_
 refine oS ?_
 refine oV ?_
 refine bW ?_
 refine gy ((k5:Int)) (1) ?_
 refine ab ?_
 exact ⟨by omega,eL,rfl,rfl⟩
 refine aj ?_
 refine ae ?_
 obtain ⟨hCd,nx,hnk,hnx,hCs,hCl⟩:=hCk cO
 have hAf:=jB.full hAs cO
 have hAl:=hAf.len; have hC8:=hCd.2.2.2
 refine oC (Ew a0.fo cG hnx) ?_
 rintro _ rfl
 refine bj ?_
 refine ay ?_
 refine be ?_
 refine gd (H:=H) rfl (iz (cs:=(uh nx a0 a1 .ia (.sl [] .nil))) hS rfl rfl rfl rfl rfl) ?_
 rintro _ H18 ⟨b17,rfl,hS19⟩
 refine ab ?_
 refine aY ?_
 have hL20:=a2.lk
 refine gG a2 ?_
 refine aC ?_
 have hS21:=Sep.iF hS19 5
 have hS22:=Sep.iF hS21 1
 have hNk23:=a2.lk
 refine fC (a2.l.length) (fun hO e h=>∃ v24:AV,∃ l25:List jD,∃ v26:AV,∃ l27:List fX,∃ ps2:List ic,∃ H28:ah,(l27=(a2.l.take hO).map (fun r=>iM nx.p a1 r.toNat))∧(l25.length=hO)∧(ps2.map ic.ptr=l25)∧(∀ p∈ps2,p.le 0)∧Sep H28 (.sl true true v24 1 (List.map jD.cells l25)::.sl true true v26 5 (List.map fX.cells l27)::.obj (.ptr b17 0 0 0) (uh nx a0 a1 .ia v24)::(gQ ps2++F))∧proj [3,4,11,13,14,69,70,71] e=[(3,.la 3 0),(4,.la 4 0),(11,.ip (fk.cells nx) 0 false),(13,(.ptr b17 0 0 0)),(14,v26),(69,Row.av fu a2),(70,iv (a2.l.length:Int)),(71,iv (hO:Int))]∧{ h with aq:=fU [3,4,11,13,14,69,70,71] h.aq } = { H28 with aq:=[(3,(gb.cells a0)),(4,(gp.cells a1))] }) ?_ (k0:=0) cO ⟨((.sl [] .nil)),(([]:List jD)),((.sl [] .nil)),(([]:List fX)),[],H18,eR,eR,rfl,(by intro p hp; cases hp),hS22,rfl,rfl⟩
 rintro hO e h hkk23 ⟨v24,l25,v26,l27,ps2,H28,hTt,hTl,hps2,hle2,hS29,he,hh⟩
 refine gm he hh ?_
 clear he hh
 have hTk:=congrArg List.length hTt; rw [List.length_map,List.length_take] at hTk
 refine aa ?_
 refine gl ((hO:Int)) ((a2.l.length:Int)) (fun h30=>?_) (fun h30=>?_)
 refine aM ?_
 refine wa [(3,.la 3 0),(4,.la 4 0),(11,.ip (fk.cells nx) 0 false),(13,(.ptr b17 0 0 0)),(14,v26),(69,Row.av fu a2),(70,iv (a2.l.length:Int)),(71,iv (hO:Int))] H28 [(3,(gb.cells a0)),(4,(gp.cells a1))] ?_ (Eq.trans (b:=[(3,.la 3 0),(4,.la 4 0),(11,.ip (fk.cells nx) 0 false),(13,(.ptr b17 0 0 0)),(14,fi 14 v26),(69,Row.av fu a2),(70,iv (a2.l.length:Int)),(71,iv (hO:Int))]) rfl ed)
 refine bZ ?_
 have hx31:hO<a2.l.length:=by omega
 refine iU hO a2 hx31 ?_
 generalize hqx32:a2.l[hO]=x32
 have hinx32:x32∈a2.l:=by rw [← hqx32]; exact List.getElem_mem _
 first | (have hR1:=hR0; have hR0:=hqx32) | have hR0:=hqx32
 try (have hRb:=jB.at_ hAf hR0)
 refine aw ?_
 refine aB ?_
 refine oC (t33 nx a1 (x32)) ?_
 rintro _ ⟨r34,r35,hc33,rfl⟩
 have hTr:=hc33
 cases r35
 refine aO ?_
 refine aB ?_
 refine wM 1 [r34] hS29 fun v36 H37 hS38=>?_
 refine ab ?_
 refine bT ?_
 refine kM 2 hS38 ?_
 refine kj 2 hS38 ?_
 refine lR 2 hS38 v24 ?_
 iterate 4 refine rV ?_
 have hx39:(x32).toNat<a1.runs.l.length:=by omega
 refine ga rfl rfl (fun _=>gN (n:=x32) (r:=a1.runs) (enc:=gK.cells) rfl rfl rfl rfl rfl cO hx39 rfl) ?_
 generalize hqx40:a1.runs.l[(x32).toNat]=x40
 iterate 4 refine rV ?_
 refine gS (H:=H37) rfl rfl (iz (cs:=[iv x32,iv 0,iv (-1),Row.av iZ.cells x40.gW,.sl [] .nil,.sl [] .nil,.sl [] .nil,.sl [] .nil,iv (-1)]) hS38 rfl rfl rfl rfl rfl) ?_
 rintro _ H42 ⟨b41,rfl,hS43⟩
 refine gS (H:=H42) rfl rfl (BG (c:=(.ptr b41 0 0 0)) hS43 rfl rfl rfl rfl rfl) ?_
 rintro _ H45 ⟨b44,rfl,hS46⟩
 refine gS (H:=H45) rfl rfl (ib (H:=H45) (i:=2) (l:=l25) (enc:=jD.cells) [⟨b41⟩] hS46 rfl rfl rfl rfl rfl rfl rfl rfl (xN (i:=0) hS46 rfl) (fun _=>rfl) (.inl rfl) cS (fun _=>rfl)) ?_
 rintro v47 H48 hS49
 refine kM 4 hS49 ?_
 refine kj 4 hS49 ?_
 refine gS (H:=H48) rfl rfl (iG (H:=H48) (i:=4) (o:=15) (r:=v47) hS49 rfl rfl rfl rfl (jq rfl rfl (Sep.cell (i:=2) hS49 rfl)) (fD (Sep.cell (i:=2) hS49 rfl) gJ) rfl) ?_
 rintro _ H50 ⟨rfl,hS51⟩
 refine rN ?_
 refine wa [(3,.la 3 0),(4,.la 4 0),(11,.ip (fk.cells nx) 0 false),(13,(.ptr b17 0 0 0)),(14,v36),(69,Row.av fu a2),(70,iv (a2.l.length:Int)),(71,iv (hO:Int))] H50 [(3,(gb.cells a0)),(4,(gp.cells a1))] ?_ (Eq.trans (b:=[(3,.la 3 0),(4,.la 4 0),(11,.ip (fk.cells nx) 0 false),(13,(.ptr b17 0 0 0)),(14,fi 14 v36),(69,Row.av fu a2),(70,iv (a2.l.length:Int)),(71,iv (hO:Int))]) rfl (by first | (rw [(show fi 14 v36=v36 from Sep.fT (i:=3) hS51 rfl 14)]; done) | (rw [(show fi 14 v36=v36 from Sep.fT (i:=3) hS51 rfl 14)]; rfl)))
 refine qg ?_
 refine gy ((hO:Int)) (1) ?_
 refine ab ?_
 have hS52:=gQ.snoc (Sep.tl hS51)
 exact ⟨by omega,(v47),((l25++[⟨b41⟩])),(v36),((l27++[r34])),ps2++[_],H50,(by exact zt hTt hR0 (hTr cO cO)),d4,AL hps2 rfl,BR hle2 fe,hS52,(Eq.trans (b:=[(3,.la 3 0),(4,.la 4 0),(11,.ip (fk.cells nx) 0 false),(13,(.ptr b17 0 0 0)),(14,fi 14 v36),(69,Row.av fu a2),(70,iv (a2.l.length:Int)),(71,iv ((hO:Int)+1))]) rfl (by first | (rw [(show fi 14 v36=v36 from Sep.fT (i:=1) hS52 rfl 14)]; done) | (rw [(show fi 14 v36=v36 from Sep.fT (i:=1) hS52 rfl 14)]; rfl))),rfl⟩
 refine aO ?_
 refine aB ?_
 refine wM 1 [r34] hS29 fun v53 H54 hS55=>?_
 refine ab ?_
 refine bT ?_
 refine kM 2 hS55 ?_
 refine kj 2 hS55 ?_
 refine lR 2 hS55 v24 ?_
 iterate 4 refine rV ?_
 have hx56:(x32).toNat<a1.runs.l.length:=by omega
 refine ga rfl rfl (fun _=>gN (n:=x32) (r:=a1.runs) (enc:=gK.cells) rfl rfl rfl rfl rfl cO hx56 rfl) ?_
 generalize hqx57:a1.runs.l[(x32).toNat]=x57
 iterate 4 refine rV ?_
 refine gS (H:=H54) rfl rfl (iz (cs:=[iv x32,iv 0,iv (-1),Row.av iZ.cells x57.gW,.sl [] .nil,.sl [] .nil,.sl [] .nil,.sl [] .nil,iv (-1)]) hS55 rfl rfl rfl rfl rfl) ?_
 rintro _ H59 ⟨b58,rfl,hS60⟩
 refine gS (H:=H59) rfl rfl (BG (c:=(.ptr b58 0 0 0)) hS60 rfl rfl rfl rfl rfl) ?_
 rintro _ H62 ⟨b61,rfl,hS63⟩
 refine gS (H:=H62) rfl rfl (ib (H:=H62) (i:=2) (l:=l25) (enc:=jD.cells) [⟨b58⟩] hS63 rfl rfl rfl rfl rfl rfl rfl rfl (xN (i:=0) hS63 rfl) (fun _=>rfl) (.inl rfl) cS (fun _=>rfl)) ?_
 rintro v64 H65 hS66
 refine kM 4 hS66 ?_
 refine kj 4 hS66 ?_
 refine gS (H:=H65) rfl rfl (iG (H:=H65) (i:=4) (o:=15) (r:=v64) hS66 rfl rfl rfl rfl (jq rfl rfl (Sep.cell (i:=2) hS66 rfl)) (fD (Sep.cell (i:=2) hS66 rfl) gJ) rfl) ?_
 rintro _ H67 ⟨rfl,hS68⟩
 refine rN ?_
 refine wa [(3,.la 3 0),(4,.la 4 0),(11,.ip (fk.cells nx) 0 false),(13,(.ptr b17 0 0 0)),(14,v53),(69,Row.av fu a2),(70,iv (a2.l.length:Int)),(71,iv (hO:Int))] H67 [(3,(gb.cells a0)),(4,(gp.cells a1))] ?_ (Eq.trans (b:=[(3,.la 3 0),(4,.la 4 0),(11,.ip (fk.cells nx) 0 false),(13,(.ptr b17 0 0 0)),(14,fi 14 v53),(69,Row.av fu a2),(70,iv (a2.l.length:Int)),(71,iv (hO:Int))]) rfl (by first | (rw [(show fi 14 v53=v53 from Sep.fT (i:=3) hS68 rfl 14)]; done) | (rw [(show fi 14 v53=v53 from Sep.fT (i:=3) hS68 rfl 14)]; rfl)))
 refine qg ?_
 refine gy ((hO:Int)) (1) ?_
 refine ab ?_
 have hS69:=gQ.snoc (Sep.tl hS68)
 exact ⟨by omega,(v64),((l25++[⟨b58⟩])),(v53),((l27++[r34])),ps2++[_],H67,(by exact zt hTt hR0 (hTr cO cO)),d4,AL hps2 rfl,BR hle2 fe,hS69,(Eq.trans (b:=[(3,.la 3 0),(4,.la 4 0),(11,.ip (fk.cells nx) 0 false),(13,(.ptr b17 0 0 0)),(14,fi 14 v53),(69,Row.av fu a2),(70,iv (a2.l.length:Int)),(71,iv ((hO:Int)+1))]) rfl (by first | (rw [(show fi 14 v53=v53 from Sep.fT (i:=1) hS69 rfl 14)]; done) | (rw [(show fi 14 v53=v53 from Sep.fT (i:=1) hS69 rfl 14)]; rfl))),rfl⟩
 refine aj ?_
 refine wa [(3,.la 3 0),(4,.la 4 0),(13,(.ptr b17 0 0 0)),(14,v26)] H28 [(3,(gb.cells a0)),(4,(gp.cells a1))] ?_ (Eq.trans (b:=[(3,.la 3 0),(4,.la 4 0),(13,(.ptr b17 0 0 0)),(14,fi 14 v26)]) rfl ed)
 refine be ?_
 refine oV ?_
 refine Exists.elim (jv (H:=H28) (i:=1) (l:=l27) (enc:=fX.cells) hS29 rfl db) (fun r70 hh=>And.elim (fun hl71 hf72=>?_) hh)
 have hln74:=congrArg List.length hl71
 have hz73:∀ m,freeze true { H28 with aq:=[] } (m+2) v26=some (fE.av fX.cells r70):=fun m=>hf72 [] _ (fun _=>by simp only [fX.cells,gr,jC,ju,jK,jH,j1])
 have hTf:r70.l=a2.l.map (fun r=>iM nx.p a1 r.toNat):=by rw [hl71,hTt,List.take_of_length_le cO]
 have hTn:r70.l.length=a2.l.length:=by rw [hTf,List.length_map]
 obtain ⟨hp3a,hp3b,hp3c,hp6,hp7,hp8⟩:=Fx hnk hAf hTf hCd hCs hCl
 have hp5:=hCd.1
 have hp3:=Exists.intro (p:=fun nx:fk=>mW nx a0.fo∧rs 24 [.agg (fh.cells a0.fo)]=.fz [.ip (fk.cells nx) 0 false,iv 0]∧(∀ (i:Nat) (x:fX) (y:fK),r70.l[i]?=some x→a1.fV.l[x.fV.toNat]?=some y→∃ b:fJ,b.gT.l=[x.at_]∧rs 59 [.ip (fk.cells nx) 0 false,iv y.len,.agg (fX.cells x)]=.fz [.agg (fJ.cells b),iv 0])∧(∀ i j:Nat,i<j→j<r70.l.length→∀ x∈LT r70.l nx.p i,x∉LT r70.l nx.p j)∧(∀ i:Nat,∀ x∈LT r70.l nx.p i,0≤x∧x<(nx.p.elems.l.length:Int))) nx ⟨hnk,hnx,hp3a,hp3b,hp3c⟩
 refine kE (args:=[.agg (gb.cells a0),Row.av fK.cells a1.fV,v26]) (p:=[]) (r:=[]) (args':=[.agg (gb.cells a0),Row.av fK.cells a1.fV,fE.av fX.cells r70]) (R:=YE a0 a1.fV r70) rfl rfl rfl rfl rfl (fD rfl (fD rfl (fD (Sep.arg (i:=1) hS29 rfl) gJ))) rfl EU (iR (by show gr (freeze true { H28 with aq:=[] } 8) [.agg (gb.cells a0),Row.av fK.cells a1.fV,v26] = _; simp only [FZ,hz73]) (fD rfl (fD rfl (fD (Sep.pL (i:=1) hS29 rfl) gJ)))) (iR dN (fD rfl (fD rfl (fD rfl gJ)))) (fun h=>t34 a0 a1.fV r70 q1 q3 hp3 q2 hp5 hp6 hp7 hp8 h) ?_
 rintro _ (⟨r76,r77,r78,r79,r80,r81,r82,r83,r84,r85,hc75,rfl⟩)
 have hWn:=hc75
 iterate 3 refine oV ?_
 refine lP 2 hS29 ?_
 refine iN 2 hS29 ?_
 refine yq 2 hS29 (nE r76 r77 r78 r79 r80 r81 r82 r83 r84 r85) fun H86 hS87=>?_
 refine bP ?_
 refine bk ?_
 have hS88:=Sep.ni (i:=0) hS87 rfl
 have hS89:=Sep.pick hS88 [2,0] 3 cK cK
 obtain ⟨hw1,hw2,hw3,hw4,hw5⟩:=hWn
 exact ⟨.fz [(.ptr b17 0 0 0),iv 0],rfl,.inr ⟨b17,nx,r76,r77,r78,(r79),r80,r81,r82,r83,r84,r85,v24,l25,ps2,⟨by rw [hCr]; exact congrArg (AV.int .i64) cO,hAf,by omega,by omega,hw2,hw3,by omega,hw5,by omega,by omega,hle2⟩,hps2,Sep.aq hS89 _,rfl⟩⟩
theorem ZN:FT 7=some Qr:=by kernel_rfl
theorem VG:aT 7=none:=by kernel_rfl
def P7 (_a0:gb) (_a1:gp) (_a2:Row Int) (v:AV):Prop:=∃ r0:Row kF,∃ r1:Int,(((r1≠0∧r0.l.length=0∧(rs 8 [.agg (gb.cells _a0),.agg (gp.cells _a1)]=iv r1∨(rs 8 [.agg (gb.cells _a0),.agg (gp.cells _a1)]=iv 0∧r1=1∧¬ jB _a1.runs.l.length _a2.l _a2.l.length)))∨(r1=0∧r0.l.length = _a2.l.length∧rs 8 [.agg (gb.cells _a0),.agg (gp.cells _a1)]=iv 0∧jB _a1.runs.l.length _a2.l _a2.l.length)))∧v=.fz [Row.av kF.cells r0,iv r1]
theorem t7 (a0:gb) (a1:gp) (a2:Row Int) (q1:jb a0.fo) (q2:a0.roads.l.length≤64) (q3:rs 13 [.agg (fh.cells a0.fo)]=.fz [.agg (gb.cells a0),iv 0]) (h:ah):∃ v,fj cfg FT aT false 7 [.agg (gb.cells a0),.agg (gp.cells a1),Row.av fu a2,iv 0] h v h∧P7 a0 a1 a2 v:=by
 refine fS VG ZN rfl rfl ?_
 refine aa ?_
 refine bM ?_
 refine aB ?_
 refine gC (H:=ah.empty) (args:=[.agg (gb.cells a0),.agg (gp.cells a1),Row.av fu a2]) (p:=[]) (r:=[]) rfl rfl rfl rfl rfl rfl rfl (u14 a0 a1 a2 [] gI q1 q2 q3) ?_
 rintro _ H1 (⟨e1,hE,hS1,rfl⟩ | ⟨yb,n,wn,c,lv,ke,nn,sp,fd,ws,wb,wl,va,yl,ps1,hG,hps1,hS1,rfl⟩)
 have hE0:=hE.1
 refine bj ?_
 refine iJ (e1) (0) (fun h1=>?_) (fun h1=>?_)
 refine aA ?_
 refine aD ?_
 exact xF (.fz [.sl [] .nil,iv e1]) ⟨(⟨[],.nil,Nat.zero_le _,rfl,fun _=>rfl⟩:Row kF),(e1),eS,rfl⟩
 refine az ?_
 refine ai ?_
 exfalso; omega
 obtain ⟨hG1,hG2,hG3,hG4,hG5,hG6,hG7,hG8,hG9,hGa,hle1⟩:=hG
 refine bj ?_
 refine ay ?_
 refine ai ?_
 refine gC (H:=H1) (args:=[(.ptr yb 0 0 0)]) (p:=[]) (r:=[]) rfl rfl rfl rfl rfl rfl rfl (u15 ps1 yb n a0 a1 wn c lv ke nn sp fd ws wb wl va yl [] hS1 hps1 hG4 hG5 hG6 hG7 hG8 hG9 hGa hle1) ?_
 rintro _ H2 ⟨ps2,hps2,hle2,hS2,rfl⟩
 refine oN ?_
 refine bb ?_
 refine aC ?_
 refine fC (0) (fun k2 e h=>proj [10,37,38] e=[(10,(.ptr yb 0 0 0)),(37,iv 0),(38,iv (k2:Int))]∧{ h with aq:=fU [10,37,38] h.aq } = { H2 with aq:=[] }) ?_ (k0:=0) cO ⟨rfl,rfl⟩
 rintro k2 e h hkk2 ⟨he,hh⟩
 refine gm he hh ?_
 clear he hh
 refine aa ?_
 refine gl ((k2:Int)) (0) (fun h3=>?_) (fun h3=>?_)
 exfalso; omega
 refine aj ?_
 refine ae ?_
 refine lP 0 hS2 ?_
 refine iN 0 hS2 ?_
 refine ix 0 hS2 (nE wn c lv ke nn sp fd ws wb wl) ?_
 refine oC (t17 wn c lv (ke) nn sp fd ws wb wl cG cG cG cG cG) ?_
 rintro _ (⟨r5,r6,r7,r8,r9,hc4,rfl⟩)
 have hBx1:=hc4.1; have hBx2:=hc4.2.1; have hBx3:=hc4.2.2
 refine oC (t18 r5 r6 (r7) r8 r9 cG cG cG) ?_
 rintro _ ⟨r11,hc10,rfl⟩
 have hLv:=hc10
 refine gC (H:=H2) (args:=[(.ptr yb 0 0 0),Row.av fZ.cells r11]) (p:=[]) (r:=[]) rfl rfl rfl rfl rfl rfl rfl (u16 ps2 yb n a0 a1 wn c lv ke nn sp fd ws wb wl va yl r11 [] hS2 hps2 hG9 hle2) ?_
 rintro _ H3 ⟨r3,ps3,hps3,hle3,hS3,rfl⟩
 have hln3:=congrArg List.length hps3; rw [List.length_map] at hln3
 refine oN ?_
 refine aY ?_
 refine lP 0 hS3 ?_
 refine iN 0 hS3 ?_
 refine ix 0 hS3 va ?_
 refine fq rfl (fun _=>jT (H:=H3) (i:=1) hS3 rfl rfl rfl rfl rfl rfl rfl) ?_
 refine aC ?_
 have hS12:=Sep.iF hS3 5
 have hS13:=Sep.pick hS12 [0,2] 3 cK cK
 refine fC (yl.length) (fun gh e h=>∃ v15:AV,∃ l16:List jL,∃ H17:ah,(l16.map jL.cells=(ps3.take gh).map ic.uV)∧(l16.length=gh)∧Sep H17 (.sl true true v15 5 (List.map jL.cells l16)::.sl true false va 1 (List.map jD.cells yl)::(gQ ps3++[]))∧proj [20,112,113,114] e=[(20,v15),(112,va),(113,iv (yl.length:Int)),(114,iv (gh:Int))]∧{ h with aq:=fU [20,112,113,114] h.aq } = { H17 with aq:=[] }) ?_ (k0:=0) cO ⟨((.sl [] .nil)),(([]:List jL)),H3,eR,eR,hS13,(Eq.trans (b:=[(20,(.sl [] .nil)),(112,fi 112 va),(113,iv (yl.length:Int)),(114,iv 0)]) rfl (by first | (rw [(show fi 112 va=va from Sep.fT (i:=1) hS13 rfl 112)]; done) | (rw [(show fi 112 va=va from Sep.fT (i:=1) hS13 rfl 112)]; rfl))),rfl⟩
 rintro gh e h hkk14 ⟨v15,l16,H17,hTc,hTl,hS18,he,hh⟩
 refine gm he hh ?_
 clear he hh
 refine aa ?_
 refine gl ((gh:Int)) ((yl.length:Int)) (fun h19=>?_) (fun h19=>?_)
 refine aM ?_
 refine wa [(20,v15),(112,va),(113,iv (yl.length:Int)),(114,iv (gh:Int))] H17 [] ?_ (Eq.trans (b:=[(20,fi 20 v15),(112,fi 112 va),(113,iv (yl.length:Int)),(114,iv (gh:Int))]) rfl (by first | (rw [(show fi 20 v15=v15 from Sep.fT (i:=0) hS18 rfl 20),(show fi 112 va=va from Sep.fT (i:=1) hS18 rfl 112)]; done) | (rw [(show fi 20 v15=v15 from Sep.fT (i:=0) hS18 rfl 20),(show fi 112 va=va from Sep.fT (i:=1) hS18 rfl 112)]; rfl)))
 refine bZ ?_
 have hx20:gh<yl.length:=by first | omega | (simp<;>omega) | (simp_all; omega)
 obtain ⟨x21,hqx21⟩:∃ x,yl[gh]=x:=⟨_,rfl⟩
 refine kz rfl (ji (H:=H17) (i:=1) (m:=gh) (cs:=jD.cells x21) hS18 rfl rfl rfl rfl rfl rfl rfl (iq hx20 hqx21)) ?_
 rintro a22 ⟨ha23,hea24⟩
 refine fq rfl (fun _=>ko (H:=H17) (i:=1) (m:=gh) (o:=0) (r:=.ptr x21.b 0 0 0) (cs:=jD.cells x21) hS18 rfl (iq hx20 hqx21) hea24 rfl rfl ha23) ?_
 have hkp:gh<ps3.length:=by omega
 obtain ⟨⟨xb,run,lg,dn,tb,lb,tr,lr,ts,ls,tz,lz⟩,hqp⟩:∃ x,ps3[gh]=x:=⟨_,rfl⟩
 have hS25:Sep H17 (.obj (.ptr xb 0 0 0) [iv run,iv 0,iv (-1),Row.av iZ.cells lg,tb,tr,ts,tz,iv dn]::.sl true true tb 5 (List.map fJ.cells lb)::.sl true true tr 1 (List.map fu lr)::.sl true true ts 1 (List.map (g6 fu) ls)::.sl true true tz 1 (List.map (g6 fu) lz)::.sl true true v15 5 (List.map jL.cells l16)::.sl true false va 1 (List.map jD.cells yl)::(gQ (ps3.take gh)++gQ (ps3.drop (gh+1))++[])):=gQ.focus hS18 hkp hqp
 have hpx:x21.b=xb:=Al hps3 hqp hqx21
 rw [hpx]
 refine ab ?_
 refine bC ?_
 refine lP 0 hS25 ?_
 refine iN 0 hS25 ?_
 refine ix 0 hS25 (.agg [tb,tr,ts,tz,iv dn]) ?_
 refine gd rfl (Mc (cs:=[tb,tr,ts,tz,iv dn]) hS25 rfl rfl (Yn rfl rfl (fD (Sep.cell (i:=1) hS25 rfl) (fD (Sep.cell (i:=2) hS25 rfl) (fD (Sep.cell (i:=3) hS25 rfl) (fD (Sep.cell (i:=4) hS25 rfl) (fD rfl gJ)))))) rfl rfl) ?_
 rintro v26 H27 hS28
 refine gd rfl (ib (H:=H27) (i:=6) [(⟨[tb,tr,ts,tz,iv dn],rfl,(fD (Sep.cell (i:=1) hS25 rfl) (fD (Sep.cell (i:=2) hS25 rfl) (fD (Sep.cell (i:=3) hS25 rfl) (fD (Sep.cell (i:=4) hS25 rfl) (fD rfl gJ)))))⟩:jL)] hS28 rfl rfl rfl rfl rfl rfl rfl rfl (xN (i:=0) hS28 rfl) (fun y=>y.ok) (.inl rfl) (by simp only [nv,List.length_cons,List.length_nil]; omega) (fun y=>y.len)) ?_
 rintro v29 H30 hS31
 have hS32:Sep H30 (.obj (.ptr xb 0 0 0) [iv run,iv 0,iv (-1),Row.av iZ.cells lg,tb,tr,ts,tz,iv dn]::.sl true true tb 5 (List.map fJ.cells lb)::.sl true true tr 1 (List.map fu lr)::.sl true true ts 1 (List.map (g6 fu) ls)::.sl true true tz 1 (List.map (g6 fu) lz)::.sl true true v29 5 (List.map jL.cells ((l16++[(⟨[tb,tr,ts,tz,iv dn],rfl,(fD (Sep.cell (i:=1) hS25 rfl) (fD (Sep.cell (i:=2) hS25 rfl) (fD (Sep.cell (i:=3) hS25 rfl) (fD (Sep.cell (i:=4) hS25 rfl) (fD rfl gJ)))))⟩:jL)])))::.sl true false va 1 (List.map jD.cells yl)::(gQ (ps3.take gh)++gQ (ps3.drop (gh+1))++[])):=Sep.tl hS31
 have hS33:Sep H30 (.sl true true v29 5 (List.map jL.cells ((l16++[(⟨[tb,tr,ts,tz,iv dn],rfl,(fD (Sep.cell (i:=1) hS25 rfl) (fD (Sep.cell (i:=2) hS25 rfl) (fD (Sep.cell (i:=3) hS25 rfl) (fD (Sep.cell (i:=4) hS25 rfl) (fD rfl gJ)))))⟩:jL)])))::.sl true false va 1 (List.map jD.cells yl)::(gQ ps3++[])):=gQ.MK (k:=gh) (x:=⟨xb,run,lg,dn,tb,lb,tr,lr,ts,ls,tz,lz⟩) hS32 hkp hqp
 refine ab ?_
 refine wa [(20,v29),(112,va),(113,iv (yl.length:Int)),(114,iv (gh:Int))] H30 [] ?_ (Eq.trans (b:=[(20,fi 20 v29),(112,fi 112 va),(113,iv (yl.length:Int)),(114,iv (gh:Int))]) rfl dQ)
 refine qg ?_
 refine gy ((gh:Int)) (1) ?_
 refine ab ?_
 exact ⟨by omega,(v29),((l16++[(⟨[tb,tr,ts,tz,iv dn],rfl,(fD (Sep.cell (i:=1) hS25 rfl) (fD (Sep.cell (i:=2) hS25 rfl) (fD (Sep.cell (i:=3) hS25 rfl) (fD (Sep.cell (i:=4) hS25 rfl) (fD rfl gJ)))))⟩:jL)])),H30,(by exact HY hTc hqp rfl),d4,hS33,(Eq.trans (b:=[(20,fi 20 v29),(112,fi 112 va),(113,iv (yl.length:Int)),(114,iv ((gh:Int)+1))]) rfl dQ),rfl⟩
 refine aj ?_
 refine wa [(20,v15)] H17 [] ?_ (Eq.trans (b:=[(20,fi 20 v15)]) rfl (by first | (rw [(show fi 20 v15=v15 from Sep.fT (i:=0) hS18 rfl 20)]; done) | (rw [(show fi 20 v15=v15 from Sep.fT (i:=0) hS18 rfl 20)]; rfl)))
 refine aD ?_
 have hTf:l16.map jL.cells=ps3.map ic.uV:=by rw [hTc,List.take_of_length_le cO]
 obtain ⟨rr,hrr,hff⟩:=Nh hS18 hTf hle3 cO
 have hz:∀ m,freeze false { H17 with aq:=[] } (m+4) v15=some (Row.av kF.cells rr):=fun m=>hff _ m
 exact ⟨.fz [v15,iv 0],(iB (vs:=[v15,iv 0]) rfl (fD (Sep.arg (i:=0) hS18 rfl) (fD rfl gJ))),.fz [Row.av kF.cells rr,iv 0],(show freeze false { H17 with aq:=[] } 8 (.fz [v15,iv 0])=some (.fz [Row.av kF.cells rr,iv 0]) by simp only [FZ,hz]),rr,0,eS,rfl⟩
def P9n (_a0:fh) (nx:fk) (v:AV):Prop:=((True)∧v=.ip (fk.cells nx) 0 false)
theorem t9n (a0:fh) (nx:fk) (q0:jb a0) (h12:rs 12 [.agg (fh.cells a0)]=.bool true) (h24:rs 24 [.agg (fh.cells a0)]=.fz [.ip (fk.cells nx) 0 false,iv 0]) (h:ah):∃ v,fj cfg FT aT false 9 [.agg (fh.cells a0)] h v h∧P9n a0 nx v:=by
 refine fS Wo aaM rfl rfl ?_
 refine ai ?_
 refine ak ?_
 refine oC (Zk a0  h12) ?_
 rintro _ rfl
 refine ay ?_
 refine ai ?_
 refine oC (Ew a0 cG h24) ?_
 rintro _ rfl
 refine bj ?_
 refine ay ?_
 refine bG ?_
 refine xF (.ip (fk.cells nx) 0 false) ⟨trivial,rfl⟩
theorem Yt (a0:fh) {nx:fk} (H:jb a0∧rs 12 [.agg (fh.cells a0)]=.bool true∧rs 24 [.agg (fh.cells a0)]=.fz [.ip (fk.cells nx) 0 false,iv 0]) (h:ah):∃ v,fj cfg FT aT false 9 [.agg (fh.cells a0)] h v h∧v=.ip (fk.cells nx) 0 false:=by
 obtain ⟨v,hc,hP⟩:=t9n a0 nx H.1 H.2.1 H.2.2 h
 exact ⟨v,hc,hP.2⟩
theorem YZ:FT 3=some Rw:=by kernel_rfl
theorem Vo:aT 3=none:=by kernel_rfl
def P3 (_a0:fh) (_a1:gp) (_a2:Row Int) (v:AV):Prop:=∃ r0:Bool,(r0=true)∧v=.bool r0
theorem t3 (a0:fh) (a1:gp) (a2:Row Int) (qc:a0.canon=a0) (h:ah):∃ v,fj cfg FT aT false 3 [.agg (fh.cells a0),.agg (gp.cells a1),Row.av fu a2] h v h∧P3 a0 a1 a2 v:=by
 refine fS Vo YZ rfl rfl ?_
 refine bJ ?_
 refine ck ?_
 refine oC (t4) ?_
 rintro _ ⟨r2,hc1,rfl⟩
 have h4:=hc1
 cases r2
 refine au ?_
 exact xA (.bool false) ⟨false,da,rfl⟩
 refine ay ?_
 refine ai ?_
 refine oC (t5 a0) ?_
 rintro _ ⟨r4,r5,hc3,rfl⟩
 have h5:=hc3
 cases r5
 clear hc3
 refine oV ?_
 refine bj ?_
 refine cA ?_
 refine cA ?_
 refine au ?_
 exact xA (.bool true) ⟨true,da,rfl⟩
 have hc3t:=hc3 rfl
 refine cy ?_
 iterate 4 refine oV ?_
 have hL6:=a2.lk
 refine gG a2 ?_
 refine g9 ((a2.l.length:Int)) (20) (fun h7=>?_) (fun h7=>?_)
 refine cA ?_
 refine au ?_
 exact xA (.bool true) ⟨true,da,rfl⟩
 iterate 3 refine oV ?_
 refine oC (t6 a1) ?_
 rintro _ ⟨r9,hc8,rfl⟩
 cases r9
 refine bd ?_
 exact xA (.bool true) ⟨true,da,rfl⟩
 refine bA ?_
 refine aB ?_
 obtain ⟨hF,hRd,⟨hPl,nm,hnk,hnr⟩,hBd,hFr⟩:=h5 (by first | rfl | assumption)
 have hPc:r4.fo=a0:=hPl.trans qc
 have hq1:jb r4.fo:=by rw [hPc]; exact hF
 have hq3:rs 13 [.agg (fh.cells r4.fo)]=.fz [.agg (gb.cells r4),iv 0]:=by rw [hPc]; exact hBd
 have hM:=And.intro hF (And.intro hFr hnr)
 refine oC (t7 r4 a1 a2 cG cG cG) ?_
 rintro _ ⟨r11,r12,hc10,rfl⟩
 have hRun:=hc10
 refine oV ?_
 refine bM ?_
 refine ae ?_
 refine oC (t8 r4 a1 cG cG) ?_
 rintro _ ⟨r14,⟨hc13,hc13r⟩,rfl⟩
 have hCk:=hc13; have hCr:=hc13r
 refine ak ?_
 have hL15:=a2.lk
 refine gG a2 ?_
 refine aC ?_
 have hNk16:=a2.lk
 refine fC (a2.l.length) (fun im e h=>∃ n17:Int,(nc (rs 8 [.agg (gb.cells r4),.agg (gp.cells a1)]) a1.runs.l.length a2.l im n17)∧proj [2,3,4,9,10,11,43,44,45] e=[(2,Row.av fu a2),(3,.la 3 0),(4,.la 4 0),(9,Row.av kF.cells r11),(10,iv r12),(11,iv n17),(43,Row.av fu a2),(44,iv (a2.l.length:Int)),(45,iv (im:Int))]∧{ h with aq:=fU [2,3,4,9,10,11,43,44,45] h.aq } = { ah.empty with aq:=[(3,(fh.cells a0)),(4,(gp.cells a1))] }) ?_ (k0:=0) cO ⟨(r14),(by exact nc.zero hCr),rfl,rfl⟩
 rintro im e h hkk16 ⟨n17,hLE,he,hh⟩
 refine gm he hh ?_
 clear he hh
 refine aa ?_
 refine gl ((im:Int)) ((a2.l.length:Int)) (fun h18=>?_) (fun h18=>?_)
 refine bU ?_
 have hx19:im<a2.l.length:=by omega
 refine iU im a2 hx19 ?_
 generalize hqx20:a2.l[im]=x20
 have hinx20:x20∈a2.l:=by rw [← hqx20]; exact List.getElem_mem _
 first | (have hR1:=hR0; have hR0:=hqx20) | have hR0:=hqx20
 refine aX ?_
 refine ai ?_
 refine gA (n17) (0) (fun h21=>?_) (fun h21=>?_)
 iterate 2 refine oV ?_
 refine gl (x20) (0) (fun h22=>?_) (fun h22=>?_)
 refine bi ?_
 refine aP ?_
 refine cb ?_
 refine a7 ?_
 refine aL ?_
 refine bO ?_
 refine gy ((im:Int)) (1) ?_
 refine ab ?_
 exact ⟨by omega,(1),c6,rfl,rfl⟩
 iterate 4 refine oV ?_
 have hL23:=a1.runs.lk
 refine gG a1.runs ?_
 refine jg (x20) ((a1.runs.l.length:Int)) (fun h24=>?_) (fun h24=>?_)
 refine aP ?_
 refine cb ?_
 refine a7 ?_
 refine aL ?_
 refine bO ?_
 refine gy ((im:Int)) (1) ?_
 refine ab ?_
 exact ⟨by omega,(1),c6,rfl,rfl⟩
 iterate 3 refine oV ?_
 refine g9 ((im:Int)) (0) (fun h25=>?_) (fun h25=>?_)
 iterate 4 refine oV ?_
 refine lY ((im:Int)) (1) ?_
 have hx26:((im:Int) - 1).toNat<a2.l.length:=by omega
 refine fq rfl (fun _=>gN (n:=(im:Int) - 1) (r:=a2) (enc:=fu) rfl rfl rfl rfl rfl cO hx26 rfl) ?_
 generalize hqx27:a2.l[((im:Int) - 1).toNat]=x27
 have hinx27:x27∈a2.l:=by rw [← hqx27]; exact List.getElem_mem _
 first | (have hR1:=hR0; have hR0:=hqx27) | have hR0:=hqx27
 refine oV ?_
 refine o5 (x20) (x27) (fun h28=>?_) (fun h28=>?_)
 refine aX ?_
 refine qT ?_
 refine aL ?_
 refine bO ?_
 refine gy ((im:Int)) (1) ?_
 refine ab ?_
 exact ⟨by omega,(1),c6,rfl,rfl⟩
 iterate 2 refine oV ?_
 refine bW ?_
 refine gy ((im:Int)) (1) ?_
 refine ab ?_
 exact ⟨by omega,(n17),c6,rfl,rfl⟩
 refine bS ?_
 refine oS ?_
 iterate 2 refine oV ?_
 refine bW ?_
 refine gy ((im:Int)) (1) ?_
 refine ab ?_
 exact ⟨by omega,(n17),c6,rfl,rfl⟩
 refine oV ?_
 iterate 22 refine oS ?_
 refine bW ?_
 refine gy ((im:Int)) (1) ?_
 refine ab ?_
 exact ⟨by omega,(n17),c6,rfl,rfl⟩
 refine aj ?_
 refine ae ?_
 refine gA (r12) (n17) (fun h29=>?_) (fun h29=>?_)
 iterate 2 refine oV ?_
 refine gA (r12) (0) (fun h30=>?_) (fun h30=>?_)
 refine bD ?_
 iterate 4 refine oV ?_
 refine iJ (r12) (0) (fun h31=>?_) (fun h31=>?_)
 refine bg ?_
 iterate 8 refine oS ?_
 refine bk ?_
 exact xA (.bool true) ⟨true,da,rfl⟩
 iterate 2 refine oV ?_
 have hL32:=r11.lk
 refine gG r11 ?_
 refine oV ?_
 have hL33:=a2.lk
 refine gG a2 ?_
 refine gA ((r11.l.length:Int)) ((a2.l.length:Int)) (fun h34=>?_) (fun h34=>?_)
 iterate 2 refine oV ?_
 refine oC (Yt a0  hM) ?_
 rintro _ rfl
 refine oV ?_
 refine bo ?_
 exact xA (.bool true) ⟨true,da,rfl⟩
 refine bD ?_
 refine bo ?_
 exact xA (.bool false) ⟨false,da,rfl⟩
 iterate 2 refine oV ?_
 have hL36:=r11.lk
 refine gG r11 ?_
 refine gA ((r11.l.length:Int)) (0) (fun h37=>?_) (fun h37=>?_)
 iterate 4 refine oV ?_
 refine iJ (r12) (0) (fun h38=>?_) (fun h38=>?_)
 refine bg ?_
 iterate 8 refine oS ?_
 refine bk ?_
 exact xA (.bool true) ⟨true,da,rfl⟩
 iterate 2 refine oV ?_
 have hL39:=r11.lk
 refine gG r11 ?_
 refine oV ?_
 have hL40:=a2.lk
 refine gG a2 ?_
 refine gA ((r11.l.length:Int)) ((a2.l.length:Int)) (fun h41=>?_) (fun h41=>?_)
 iterate 2 refine oV ?_
 refine oC (Yt a0  hM) ?_
 rintro _ rfl
 refine oV ?_
 refine bo ?_
 exact xA (.bool true) ⟨true,da,rfl⟩
 refine bD ?_
 refine bo ?_
 exact xA (.bool false) ⟨false,da,rfl⟩
 refine oV ?_
 refine cB ?_
 refine cb ?_
 refine af ?_
 exact xA (.bool false) ⟨false,da,rfl⟩
 refine bS ?_
 refine oS ?_
 refine cB ?_
 refine cb ?_
 refine af ?_
 exact xA (.bool false) ⟨false,da,rfl⟩
end Go.Sx
