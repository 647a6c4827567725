/- Proves what some functions of the program answer, by walking through them. -/
import Derived.Test.YtojhnkioagammaaGreatTai
import Derived.Test.YtojhnkioagammaaGreatTak
import Derived.Test.YtojhnkioagammaaGreatTal
import Derived.Test.YtojhnkioagammaaGreatTam
import Derived.Test.YtojhnkioagammaaGreatTan
set_option linter.all false
set_option maxRecDepth 100000
set_option maxHeartbeats 0
namespace Go.Sx
open Go Go.Proofs
theorem UA:FT 90=some FY:=by kernel_rfl
theorem PG:aT 90=none:=by kernel_rfl
theorem P1 {H:ah} (bw:Nat) (n:fk) (bx:AV) (fd:AV) (vs:AV) (sl:List fK) (vb:AV) (bl:List fJ) (lm:AV) (i1:AV) (i2:AV) (i3:AV) (i4:AV) (i5:AV) (i6:AV) (i7:AV) (tr:fE fX) (F:List gH) (hS:Sep H (.obj (.ptr bw 0 0 0) [.ip (fk.cells n) 0 false,bx,fd,vs,vb,lm,i1,i2,i3,i4,i5,i6,i7]::.sl true false vs 5 (List.map fK.cells sl)::.sl true true vb 5 (List.map fJ.cells bl)::F)) (q1:bl=[]) (q2:sl.length=tr.l.length) (q3:∀ (i:Nat) (x:fX) (y:fK),tr.l[i]?=some x→sl[i]?=some y→∃ b:fJ,b.gT.l=[x.at_]∧rs 59 [.ip (fk.cells n) 0 false,iv y.len,.agg (fX.cells x)]=.fz [.agg (fJ.cells b),iv 0]) (q4:∀ i j:Nat,i<j→j<tr.l.length→∀ x∈LT tr.l n.p i,x∉LT tr.l n.p j) (q5:n.p.elems.l.length≤40) (q6:∀ i:Nat,∀ x∈LT tr.l n.p i,0≤x∧x<(n.p.elems.l.length:Int)) (q7:tr.l.length≤8):∃ v H',fj cfg FT aT true 90 [(.ptr bw 0 0 0),fE.av fX.cells tr] { H with aq:=[] } v H'∧(∃ r0:Int,∃ vbo:AV,∃ blo:List fJ,(r0=0∧blo.length=tr.l.length∧∀ x∈blo,x.gT.l.length≤1000)∧Sep H' (.obj (.ptr bw 0 0 0) [.ip (fk.cells n) 0 false,bx,fd,vs,vbo,lm,i1,i2,i3,i4,i5,i6,i7]::.sl true false vs 5 (List.map fK.cells sl)::.sl true true vbo 5 (List.map fJ.cells blo)::F)∧v=iv r0):=by
 refine gB PG UA rfl ?_
 refine aY ?_
 have hL1:=tr.lk
 refine fq rfl (fun _=>jn (r:=tr) (enc:=fX.cells) rfl rfl rfl rfl rfl rfl) ?_
 refine aC ?_
 have hNk2:=tr.lk
 refine fC (tr.l.length) (fun k2 e h=>∃ v3:AV,∃ l4:List fJ,∃ H5:ah,(l4.length=k2)∧(∀ (i:Nat) (h:i<(l4).length) (h2:i<tr.l.length),((l4)[i]).gT.l=[(tr.l[i]).at_])∧Sep H5 (.obj (.ptr bw 0 0 0) [.ip (fk.cells n) 0 false,bx,fd,vs,v3,lm,i1,i2,i3,i4,i5,i6,i7]::.sl true false vs 5 (List.map fK.cells sl)::.sl true true v3 5 (List.map fJ.cells l4)::F)∧proj [0,14,15,16] e=[(0,(.ptr bw 0 0 0)),(14,fE.av fX.cells tr),(15,iv (tr.l.length:Int)),(16,iv (k2:Int))]∧{ h with aq:=fU [0,14,15,16] h.aq } = { H5 with aq:=[] }) ?_ (k0:=0) cO ⟨(vb),(bl),H,(by (rw [q1]; rfl)),(by (subst q1; intro i h; simp at h)),hS,rfl,rfl⟩
 rintro k2 e h hkk2 ⟨v3,l4,H5,hB,hT,hS6,he,hh⟩
 refine gm he hh ?_
 clear he hh
 refine aa ?_
 refine gl ((k2:Int)) ((tr.l.length:Int)) (fun h7=>?_) (fun h7=>?_)
 refine bU ?_
 have hx8:k2<tr.l.length:=by omega
 refine fq rfl (fun _=>jM (n:=k2) (r:=tr) (enc:=fX.cells) rfl rfl rfl rfl rfl hx8 rfl) ?_
 generalize hqx9:tr.l[k2]=x9
 refine bM ?_
 refine cf ?_
 refine kM 0 hS6 ?_
 refine kj 0 hS6 ?_
 refine lR 0 hS6 (.ip (fk.cells n) 0 false) ?_
 refine rV ?_
 refine kM 0 hS6 ?_
 refine kj 0 hS6 ?_
 refine lR 0 hS6 vs ?_
 refine rV ?_
 have hx10:k2<sl.length:=by first | omega | (simp<;>omega) | (simp_all; omega)
 obtain ⟨x11,hqx11⟩:∃ x,sl[k2]=x:=⟨_,rfl⟩
 refine me rfl rfl (ji (H:=H5) (i:=1) (m:=k2) (cs:=fK.cells x11) hS6 rfl rfl rfl rfl rfl rfl rfl (iq hx10 hqx11)) ?_
 rintro a12 ⟨ha13,hea14⟩
 refine ga rfl rfl (fun _=>EA.w4 hea14 rfl rfl rfl ha13) ?_
 refine ga rfl rfl (fun _=>ko (H:=H5) (i:=1) (m:=k2) (o:=1) (r:=iv x11.len) (cs:=fK.cells x11) hS6 rfl (iq hx10 hqx11) hea14 rfl rfl rfl) ?_
 refine rV ?_
 obtain ⟨b16,hb17,hb18⟩:=q3 _ x9 x11 (List.getElem?_eq_some_iff.mpr ⟨_,hqx9⟩) (List.getElem?_eq_some_iff.mpr ⟨_,hqx11⟩)
 have hBt:=hb17
 refine rC (Zo n (x11.len) x9  hb18) ?_
 rintro _ rfl
 refine br ?_
 refine ck ?_
 refine bA ?_
 refine bT ?_
 refine kM 0 hS6 ?_
 refine kj 0 hS6 ?_
 refine lR 0 hS6 v3 ?_
 refine rV ?_
 refine ga rfl rfl (fun _=>vx (xs:=[(fJ.cells b16)]) rfl rfl rfl rfl (BV (fD rfl (fD (jw _) (fD rfl (fD rfl (fD rfl gJ))))) rfl)) ?_
 refine gS rfl rfl (ib (H:=H5) (i:=2) [b16] hS6 rfl rfl rfl rfl rfl rfl rfl rfl rfl (fun _=>rfl) (.inl rfl) cS (fun _=>rfl)) ?_
 rintro v19 H20 hS21
 refine kM 0 hS21 ?_
 refine kj 0 hS21 ?_
 refine gS rfl rfl (iG (H:=H20) (i:=0) (o:=4) (r:=v19) hS21 rfl rfl rfl rfl (jq rfl rfl (Sep.cell (i:=2) hS21 rfl)) (fD (Sep.cell (i:=2) hS21 rfl) gJ) rfl) ?_
 rintro _ H22 ⟨rfl,hS23⟩
 refine cg ?_
 refine gy ((k2:Int)) (1) ?_
 refine ab ?_
 exact ⟨by omega,(v19),((l4++[b16])),H22,d4,(by exact TH hT hB cP cP hBt),hS23,rfl,rfl⟩
 refine aj ?_
 refine ai ?_
 refine lP 0 hS6 ?_
 refine iN 0 hS6 ?_
 refine ix 0 hS6 (.ip (fk.cells n) 0 false) ?_
 refine oC (t111 n) ?_
 rintro _ ⟨r25,hc24,rfl⟩
 have hk26:(((r25).toNat:Nat):Int)=r25:=Int.toNat_of_nonneg cL
 have hk27:(((r25).toNat:Nat):Int)=r25:=Int.toNat_of_nonneg cL
 refine gd rfl (tn (H:=H5) (m:=(r25).toNat) hS6 rfl (congrArg (AV.int .i64) hk26.symm) (congrArg (AV.int .i64) hk27.symm) rfl rfl cL cK) ?_
 rintro v28 H29 hS30
 have hS32:=Sep.Dl (enc:=mw) (z:=false) hS30 rfl
 refine ak ?_
 refine lP 1 hS32 ?_
 refine iN 1 hS32 ?_
 refine ix 1 hS32 v3 ?_
 refine fq rfl (fun _=>jT (H:=H29) (i:=3) hS32 rfl rfl rfl rfl rfl rfl rfl) ?_
 refine aC ?_
 refine fC (l4.length) (fun kB e h=>∃ v34:AV,∃ l35:List Bool,∃ H36:ah,(l35.length=n.p.elems.l.length)∧(Mt (LT tr.l n.p) kB [] l35)∧Sep H36 (.sl true true v34 1 (List.map mw l35)::.obj (.ptr bw 0 0 0) [.ip (fk.cells n) 0 false,bx,fd,vs,v3,lm,i1,i2,i3,i4,i5,i6,i7]::.sl true false vs 5 (List.map fK.cells sl)::.sl true true v3 5 (List.map fJ.cells l4)::F)∧proj [0,9,61,62,63] e=[(0,(.ptr bw 0 0 0)),(9,v34),(61,v3),(62,iv (l4.length:Int)),(63,iv (kB:Int))]∧{ h with aq:=fU [0,9,61,62,63] h.aq } = { H36 with aq:=[] }) ?_ (k0:=0) cO ⟨(v28),((List.replicate ((r25).toNat) false)),H29,d4,(by exact Mt.zero _ _),hS32,(Eq.trans (b:=[(0,(.ptr bw 0 0 0)),(9,fi 9 v28),(61,fi 61 v3),(62,iv (l4.length:Int)),(63,iv 0)]) rfl (by first | (rw [(show fi 9 v28=v28 from Sep.fT (i:=0) hS32 rfl 9),(show fi 61 v3=v3 from Sep.fT (i:=3) hS32 rfl 61)]; done) | (rw [(show fi 9 v28=v28 from Sep.fT (i:=0) hS32 rfl 9),(show fi 61 v3=v3 from Sep.fT (i:=3) hS32 rfl 61)]; rfl))),rfl⟩
 rintro kB e h hkk33 ⟨v34,l35,H36,hM1,hM,hS37,he,hh⟩
 refine gm he hh ?_
 clear he hh
 refine aa ?_
 refine gl ((kB:Int)) ((l4.length:Int)) (fun h38=>?_) (fun h38=>?_)
 refine aM ?_
 refine wa [(0,(.ptr bw 0 0 0)),(9,v34),(61,v3),(62,iv (l4.length:Int)),(63,iv (kB:Int))] H36 [] ?_ (Eq.trans (b:=[(0,(.ptr bw 0 0 0)),(9,fi 9 v34),(61,fi 61 v3),(62,iv (l4.length:Int)),(63,iv (kB:Int))]) rfl dS)
 refine bZ ?_
 have hx39:kB<l4.length:=by first | omega | (simp<;>omega) | (simp_all; omega)
 obtain ⟨x40,hqx40⟩:∃ x,l4[kB]=x:=⟨_,rfl⟩
 have hinx40:x40∈l4:=by rw [← hqx40]; exact List.getElem_mem _
 have hsx40:=NS hT hqx40 cO
 refine kz rfl (ji (H:=H36) (i:=3) (m:=kB) (cs:=fJ.cells x40) hS37 rfl rfl rfl rfl rfl rfl rfl (iq hx39 hqx40)) ?_
 rintro a41 ⟨ha42,hea43⟩
 refine fq rfl (fun _=>ko (H:=H36) (i:=3) (m:=kB) (o:=0) (r:=.agg (fJ.cells x40)) (cs:=fJ.cells x40) hS37 rfl (iq hx39 hqx40) hea43 rfl rfl ha42) ?_
 refine aw ?_
 refine cf ?_
 refine kM 1 hS37 ?_
 refine kj 1 hS37 ?_
 refine lR 1 hS37 (.ip (fk.cells n) 0 false) ?_
 refine rV ?_
 refine rC (t60 n x40 cG) ?_
 rintro _ ⟨r45,hc44,rfl⟩
 have hLie:=hc44
 have hL46:=r45.lk
 refine yG r45 ?_
 refine aV ?_
 refine qb ?_
 have hNk47:=r45.lk
 refine fC (r45.l.length) (fun mX e h=>∃ v48:AV,∃ l49:List Bool,∃ H50:ah,(l49.length=n.p.elems.l.length)∧(Mt (LT tr.l n.p) kB (r45.l.take mX) l49)∧Sep H50 (.sl true true v48 1 (List.map mw l49)::.obj (.ptr bw 0 0 0) [.ip (fk.cells n) 0 false,bx,fd,vs,v3,lm,i1,i2,i3,i4,i5,i6,i7]::.sl true false vs 5 (List.map fK.cells sl)::.sl true true v3 5 (List.map fJ.cells l4)::F)∧proj [0,9,61,62,63,72,73,74] e=[(0,(.ptr bw 0 0 0)),(9,v48),(61,v3),(62,iv (l4.length:Int)),(63,iv (kB:Int)),(72,Row.av fu r45),(73,iv (r45.l.length:Int)),(74,iv (mX:Int))]∧{ h with aq:=fU [0,9,61,62,63,72,73,74] h.aq } = { H50 with aq:=[] }) ?_ (k0:=0) cO ⟨(v34),(l35),H36,cO,(by exact hM),hS37,(Eq.trans (b:=[(0,(.ptr bw 0 0 0)),(9,fi 9 v34),(61,fi 61 v3),(62,iv (l4.length:Int)),(63,iv (kB:Int)),(72,Row.av fu r45),(73,iv (r45.l.length:Int)),(74,iv 0)]) rfl dS),rfl⟩
 rintro mX e h hkk47 ⟨v48,l49,H50,hM1,hM2,hS51,he,hh⟩
 refine gm he hh ?_
 clear he hh
 refine aa ?_
 refine gl ((mX:Int)) ((r45.l.length:Int)) (fun h52=>?_) (fun h52=>?_)
 refine aM ?_
 refine wa [(0,(.ptr bw 0 0 0)),(9,v48),(61,v3),(62,iv (l4.length:Int)),(63,iv (kB:Int)),(72,Row.av fu r45),(73,iv (r45.l.length:Int)),(74,iv (mX:Int))] H50 [] ?_ (Eq.trans (b:=[(0,(.ptr bw 0 0 0)),(9,fi 9 v48),(61,fi 61 v3),(62,iv (l4.length:Int)),(63,iv (kB:Int)),(72,Row.av fu r45),(73,iv (r45.l.length:Int)),(74,iv (mX:Int))]) rfl di)
 refine bZ ?_
 have hx53:mX<r45.l.length:=by omega
 refine iU mX r45 hx53 ?_
 generalize hqx54:r45.l[mX]=x54
 have hinx54:x54∈r45.l:=by rw [← hqx54]; exact List.getElem_mem _
 have hLk:=Kr hT cP cO hLie; have hsx54:=q6 _ x54 (hLk▸hinx54)
 refine aw ?_
 refine aW ?_
 have hk55:(((x54).toNat:Nat):Int)=x54:=Int.toNat_of_nonneg cL
 have hx56:(x54).toNat<l49.length:=by first | omega | (simp<;>omega) | (simp_all; omega)
 obtain ⟨x57,hqx57⟩:∃ x,l49[(x54).toNat]=x:=⟨_,rfl⟩
 refine kz rfl (ji (H:=H50) (i:=0) (m:=(x54).toNat) (cs:=mw x57) hS51 rfl rfl rfl rfl rfl rfl (congrArg (AV.int .i64) hk55.symm) (iq hx56 hqx57)) ?_
 rintro a58 ⟨ha59,hea60⟩
 refine ik (b:=x57) rfl (fun _=>ko (H:=H50) (i:=0) (m:=(x54).toNat) (o:=0) (r:=.bool x57) (cs:=mw x57) hS51 rfl (iq hx56 hqx57) hea60 rfl rfl ha59) (fun h61=>?_) (fun h61=>?_)
 refine aZ ?_
 have hS62:=Sep.pick hS51 [1,2,3] 4 cK cK
 exact ⟨iv 18,rfl,(18),v3,l4,d9,Sep.aq hS62 _,rfl⟩
 refine az ?_
 refine wa [(0,(.ptr bw 0 0 0)),(9,v48),(13,iv x54),(61,v3),(62,iv (l4.length:Int)),(63,iv (kB:Int)),(72,Row.av fu r45),(73,iv (r45.l.length:Int)),(74,iv (mX:Int))] H50 [] ?_ (Eq.trans (b:=[(0,(.ptr bw 0 0 0)),(9,fi 9 v48),(13,iv x54),(61,fi 61 v3),(62,iv (l4.length:Int)),(63,iv (kB:Int)),(72,Row.av fu r45),(73,iv (r45.l.length:Int)),(74,iv (mX:Int))]) rfl di)
 refine bC ?_
 have hk63:(((x54).toNat:Nat):Int)=x54:=Int.toNat_of_nonneg cL
 have hx64:(x54).toNat<l49.length:=by first | omega | (simp<;>omega) | (simp_all; omega)
 refine kz rfl (ji (H:=H50) (i:=0) (m:=(x54).toNat) (cs:=mw x57) hS51 rfl rfl rfl rfl rfl rfl (congrArg (AV.int .i64) hk63.symm) (iq hx64 hqx57)) ?_
 rintro a65 ⟨ha66,hea67⟩
 refine gd rfl (od (H:=H50) (i:=0) (m:=(x54).toNat) (o:=0) x57 true hS51 rfl hx64 hqx57 hea67 rfl ha66 rfl rfl rfl rfl) ?_
 rintro _ H68 ⟨rfl,hS69⟩
 refine oN ?_
 refine wa [(0,(.ptr bw 0 0 0)),(9,v48),(61,v3),(62,iv (l4.length:Int)),(63,iv (kB:Int)),(72,Row.av fu r45),(73,iv (r45.l.length:Int)),(74,iv (mX:Int))] H68 [] ?_ (Eq.trans (b:=[(0,(.ptr bw 0 0 0)),(9,fi 9 v48),(61,fi 61 v3),(62,iv (l4.length:Int)),(63,iv (kB:Int)),(72,Row.av fu r45),(73,iv (r45.l.length:Int)),(74,iv (mX:Int))]) rfl dR)
 refine qg ?_
 refine gy ((mX:Int)) (1) ?_
 refine ab ?_
 exact ⟨by omega,(v48),((l49.set ((x54).toNat) true)),H68,cM,(by exact Mt.set hM2 cP cP cO),hS69,(Eq.trans (b:=[(0,(.ptr bw 0 0 0)),(9,fi 9 v48),(61,fi 61 v3),(62,iv (l4.length:Int)),(63,iv (kB:Int)),(72,Row.av fu r45),(73,iv (r45.l.length:Int)),(74,iv ((mX:Int)+1))]) rfl dR),rfl⟩
 refine aj ?_
 refine wa [(0,(.ptr bw 0 0 0)),(9,v48),(61,v3),(62,iv (l4.length:Int)),(63,iv (kB:Int))] H50 [] ?_ (Eq.trans (b:=[(0,(.ptr bw 0 0 0)),(9,fi 9 v48),(61,fi 61 v3),(62,iv (l4.length:Int)),(63,iv (kB:Int))]) rfl di)
 refine qg ?_
 refine gy ((kB:Int)) (1) ?_
 refine ab ?_
 exact ⟨by omega,(v48),(l49),H50,cM,(by exact Mt.done hM2 cO (Kr hT cP cO hLie)),hS51,(Eq.trans (b:=[(0,(.ptr bw 0 0 0)),(9,fi 9 v48),(61,fi 61 v3),(62,iv (l4.length:Int)),(63,iv ((kB:Int)+1))]) rfl di),rfl⟩
 refine aN ?_
 have hS70:=Sep.pick hS37 [1,2,3] 4 cK cK
 exact ⟨iv 0,rfl,(0),v3,l4,d9,Sep.aq hS70 _,rfl⟩
theorem S7:FT 34=some GB:=by kernel_rfl
theorem EU:aT 34=none:=by kernel_rfl
def YE (_a0:gb) (_a1:Row fK) (_a2:fE fX) (v:AV):Prop:=(∃ wn:fk,∃ c:gb,∃ lv:Row fZ,∃ ke:Int,∃ nn:fk,∃ sp:Row Int,∃ fd:AV,∃ ws:Row fK,∃ wb:Row fJ,∃ wl:Row Int,(lv.l.length = _a0.roads.l.length∧sp.l.length≤60∧(∀ x∈lv.l,x.seen.l.length≤1000)∧wb.l.length = _a2.l.length∧∀ x∈wb.l,x.gT.l.length≤1000)∧v=.fz [nE wn c lv ke nn sp fd ws wb wl,iv 0])
theorem t34 (a0:gb) (a1:Row fK) (a2:fE fX) (p1:jb a0.fo) (p2:rs 13 [.agg (fh.cells a0.fo)]=.fz [.agg (gb.cells a0),iv 0]) (p3:∃ nx:fk,mW nx a0.fo∧rs 24 [.agg (fh.cells a0.fo)]=.fz [.ip (fk.cells nx) 0 false,iv 0]∧(∀ (i:Nat) (x:fX) (y:fK),a2.l[i]?=some x→a1.l[x.fV.toNat]?=some y→∃ b:fJ,b.gT.l=[x.at_]∧rs 59 [.ip (fk.cells nx) 0 false,iv y.len,.agg (fX.cells x)]=.fz [.agg (fJ.cells b),iv 0])∧(∀ i j:Nat,i<j→j<a2.l.length→∀ x∈LT a2.l nx.p i,x∉LT a2.l nx.p j)∧(∀ i:Nat,∀ x∈LT a2.l nx.p i,0≤x∧x<(nx.p.elems.l.length:Int))) (p4:a0.roads.l.length≤64) (p5:rs 52 [.agg (fh.cells a0.fo),Row.av fK.cells a1]=iv 0) (p6:∀ t∈a2.l,rs 121 [.str t.name.l]=.bool true∧0≤t.fV∧t.fV<(a1.l.length:Int)) (p7:∀ (i j:Nat) (h:j<a2.l.length) (hij:i<j),(a2.l[i]).name.l≠(a2.l[j]).name.l) (p8:a2.l.length≤8) (h:ah):∃ v,fj cfg FT aT false 34 [.agg (gb.cells a0),Row.av fK.cells a1,fE.av fX.cells a2] h v h∧YE a0 a1 a2 v:=by
 refine fS EU S7 rfl rfl ?_
 obtain ⟨nx,hnk,hnx,p3a,p3b,p3c⟩:=p3; have hPx:∃ nx:fk,mW nx a0.fo∧rs 24 [.agg (fh.cells a0.fo)]=.fz [.ip (fk.cells nx) 0 false,iv 0]:=⟨nx,hnk,hnx⟩; have hFw:=hnk.yA; have hFs:=hnk.yA.signals; have hF4:=hnk.e40
 refine ae ?_
 refine bP ?_
 refine oC (t87 a0 cG cG cG cG) ?_
 rintro _ (⟨r2,r3,r4,r5,r6,⟨hc1,hc1r⟩,rfl⟩)
 have hBx:=hc1
 refine bj ?_
 refine ay ?_
 refine bb ?_
 refine oC (aaB a0.fo a1  p5) ?_
 rintro _ rfl
 refine bP ?_
 refine ay ?_
 refine aW ?_
 refine oC (t88 a1 a2 cG cG cG) ?_
 rintro _ ⟨r9,hc8,rfl⟩
 have hNm:=hc8
 refine bP ?_
 refine iJ (r9) (0) (fun h10=>?_) (fun h10=>?_)
 refine aA ?_
 refine aD ?_
 exact False.elim cO
 refine bE ?_
 refine oC (Ew a0.fo cG hnx) ?_
 rintro _ rfl
 refine bj ?_
 refine ay ?_
 refine aB ?_
 refine oC (t89 nx cG) ?_
 rintro _ (⟨r13,hc12,rfl⟩)
 refine oV ?_
 refine oC (t73 nx) ?_
 rintro _ ⟨r15,hc14,rfl⟩
 have hC91:=hc14
 have hk16:(((r15).toNat:Nat):Int)=r15:=Int.toNat_of_nonneg cL
 have hk17:(((r15).toNat:Nat):Int)=r15:=Int.toNat_of_nonneg cL
 refine gd (H:=ah.empty) rfl (tn (m:=(r15).toNat) gI rfl (congrArg (AV.int .i64) hk16.symm) (congrArg (AV.int .i64) hk17.symm) rfl rfl cL cK) ?_
 rintro v18 H19 hS20
 have hS22:=Sep.Dl (enc:=fu) (z:=(0)) hS20 rfl
 rcases Sep.vD (i:=0) hS22 rfl with ⟨rfl,hx25⟩ | ⟨rfl,hx25⟩ | ⟨b23,g24,rfl⟩
 refine oV ?_
 refine gd (H:=H19) rfl (iz (cs:=[.ip (fk.cells nx) 0 false,kK r2 r3 r4 r5 r6,(.ip r13 0 false),.sl [] .nil,.sl [] .nil,(.sl [] .nil),.sl [] .nil,.sl [] .nil,.sl [] .nil,.sl [] .nil,.bool false,iv 0,.bool false]) hS22 rfl rfl rfl rfl rfl) ?_
 rintro _ H27 ⟨b26,rfl,hS28⟩
 refine ak ?_
 have hL29:=a2.lk
 refine fq rfl (fun _=>jn (r:=a2) (enc:=fX.cells) rfl rfl rfl rfl rfl rfl) ?_
 refine aC ?_
 have hS30:=Sep.iF hS28 5
 have hNk31:=a2.lk
 refine fC (a2.l.length) (fun ij e h=>∃ v32:AV,∃ l33:List fK,∃ H34:ah,(pa a2.l a1.l l33 ij)∧(l33.length=ij)∧Sep H34 (.sl true true v32 5 (List.map fK.cells l33)::.obj (.ptr b26 0 0 0) [.ip (fk.cells nx) 0 false,kK r2 r3 r4 r5 r6,(.ip r13 0 false),v32,.sl [] .nil,(.sl [] .nil),.sl [] .nil,.sl [] .nil,.sl [] .nil,.sl [] .nil,.bool false,iv 0,.bool false]::.sl true true (.sl [] .nil) 1 (List.map fu ((List.replicate ((r15).toNat) (0))))::[])∧proj [1,2,11,53,54,55] e=[(1,Row.av fK.cells a1),(2,fE.av fX.cells a2),(11,(.ptr b26 0 0 0)),(53,fE.av fX.cells a2),(54,iv (a2.l.length:Int)),(55,iv (ij:Int))]∧{ h with aq:=fU [1,2,11,53,54,55] h.aq } = { H34 with aq:=[] }) ?_ (k0:=0) cO ⟨((.sl [] .nil)),(([]:List fK)),H27,fg,eR,hS30,rfl,rfl⟩
 rintro ij e h hkk31 ⟨v32,l33,H34,hKd,hKl,hS35,he,hh⟩
 refine gm he hh ?_
 clear he hh
 refine aa ?_
 refine gl ((ij:Int)) ((a2.l.length:Int)) (fun h36=>?_) (fun h36=>?_)
 refine bI ?_
 have hx37:ij<a2.l.length:=by omega
 refine fq rfl (fun _=>jM (n:=ij) (r:=a2) (enc:=fX.cells) rfl rfl rfl rfl rfl hx37 rfl) ?_
 generalize hqx38:a2.l[ij]=x38
 have hinx38:x38∈a2.l:=by rw [← hqx38]; exact List.getElem_mem _
 have hsx38:=p6 x38 hinx38
 refine aX ?_
 refine bT ?_
 refine kM 1 hS35 ?_
 refine kj 1 hS35 ?_
 refine lR 1 hS35 v32 ?_
 iterate 3 refine rV ?_
 have hx39:(x38.fV).toNat<a1.l.length:=by omega
 refine ga rfl rfl (fun _=>gN (n:=x38.fV) (r:=a1) (enc:=fK.cells) rfl rfl rfl rfl rfl cO hx39 rfl) ?_
 generalize hqx40:a1.l[(x38.fV).toNat]=x40
 iterate 2 refine rV ?_
 refine QL 0 [x40] hS35 fun v41 H42 hS43=>?_
 refine kM 1 hS43 ?_
 refine kj 1 hS43 ?_
 refine gS (H:=H42) rfl rfl (iG (H:=H42) (i:=1) (o:=3) (r:=v41) hS43 rfl rfl rfl rfl (jq rfl rfl (Sep.cell (i:=0) hS43 rfl)) (fD (Sep.cell (i:=0) hS43 rfl) gJ) rfl) ?_
 rintro _ H44 ⟨rfl,hS45⟩
 refine cg ?_
 refine gy ((ij:Int)) (1) ?_
 refine ab ?_
 exact ⟨by omega,(v41),((l33++[x40])),H44,e8,d4,hS45,rfl,rfl⟩
 refine aj ?_
 refine aW ?_
 have hS46:=Sep.ni (i:=0) hS35 rfl
 have hS47:=Sep.iF hS46 5
 have hq3:=fun (i:Nat) (x:fX) (y:fK) (h1:a2.l[i]?=some x) (h2:(l33)[i]?=some y)=>p3a i x y h1 (hKd.2 i x y h1 h2)
 have hS48:=Sep.pick hS47 [2,1,0,3] 4 cK cK
 refine gC (H:=H34) (args:=[(.ptr b26 0 0 0),fE.av fX.cells a2]) (p:=[]) (r:=[]) rfl rfl rfl rfl rfl rfl rfl (P1 b26 nx ((kK r2 r3 r4 r5 r6)) (.ip r13 0 false) v32 l33 (.sl [] .nil) ([]:List fJ) (.sl [] .nil) (.sl [] .nil) (.sl [] .nil) (.sl [] .nil) (.sl [] .nil) (.bool false) (iv 0) (.bool false) a2 (.sl true true (.sl [] .nil) 1 (List.map fu ((List.replicate ((r15).toNat) (0))))::[]) hS48 cG cG cG cG cG cG cG) ?_
 rintro _ H49 ⟨r54,vbo52,blo53,hc51,hS50,rfl⟩
 have hWb:=hc51
 refine bP ?_
 refine iJ (r54) (0) (fun h55=>?_) (fun h55=>?_)
 refine aA ?_
 refine aD ?_
 exact False.elim cO
 refine bF ?_
 obtain ⟨r56,hl57,hf58⟩:=gZ (H:=H49) (i:=1) (l:=l33) (enc:=fK.cells) hS50 rfl cH
 have hlq:=hl57; have hln60:=congrArg List.length hl57
 have hz59:∀ ls m,freeze false { H49 with aq:=ls } (m+2) v32=some (Row.av fK.cells r56):=fun ls m=>hf58 _ _ (fun _=>rfl)
 obtain ⟨r61,hl62,hf63⟩:=gZ (H:=H49) (i:=2) (l:=blo53) (enc:=fJ.cells) hS50 rfl cH
 have hlq:=hl62; have hln65:=congrArg List.length hl62
 have hz64:∀ ls m,freeze false { H49 with aq:=ls } (m+2) vbo52=some (Row.av fJ.cells r61):=fun ls m=>hf63 _ _ (fun _=>by simp only [fJ.cells,gr,jC,ju,jK,jH,j1])
 have hz66:∀ ls m,freeze false { H49 with aq:=ls } (m+4) (.ptr b26 0 0 0)=some (.ip [.ip (fk.cells nx) 0 false,kK r2 r3 r4 r5 r6,(.ip r13 0 false),Row.av fK.cells r56,Row.av fJ.cells r61,(.sl [] .nil),.sl [] .nil,.sl [] .nil,.sl [] .nil,.sl [] .nil,.bool false,iv 0,.bool false] 0 false):=fun ls m=>iS (i:=0) hS50 rfl _ _ (by simp only [FZ,hz59,hz64])
 have hff67:freeze false { H49 with aq:=[] } 8 (.fz [(.ptr b26 0 0 0),iv 0])=some (.fz [.ip [.ip (fk.cells nx) 0 false,kK r2 r3 r4 r5 r6,(.ip r13 0 false),Row.av fK.cells r56,Row.av fJ.cells r61,(.sl [] .nil),.sl [] .nil,.sl [] .nil,.sl [] .nil,.sl [] .nil,.bool false,iv 0,.bool false] 0 false,iv 0]):=by simp only [FZ,hz59,hz64,hz66]
 refine ⟨.fz [(.ptr b26 0 0 0),iv 0],rfl,.fz [.ip [.ip (fk.cells nx) 0 false,kK r2 r3 r4 r5 r6,(.ip r13 0 false),Row.av fK.cells r56,Row.av fJ.cells r61,(.sl [] .nil),.sl [] .nil,.sl [] .nil,.sl [] .nil,.sl [] .nil,.bool false,iv 0,.bool false] 0 false,iv 0],hff67,⟨nx,r2,r3,(r4),r5,r6,(.ip r13 0 false),r56,r61,(⟨[],.nil,Nat.zero_le _,rfl,fun _=>rfl⟩:Row Int),eK,rfl⟩⟩
 refine oV ?_
 refine gd (H:=H19) rfl (iz (cs:=[.ip (fk.cells nx) 0 false,kK r2 r3 r4 r5 r6,(.ip r13 0 false),.sl [] .nil,.sl [] .nil,(.sl [] (.exact 0)),.sl [] .nil,.sl [] .nil,.sl [] .nil,.sl [] .nil,.bool false,iv 0,.bool false]) hS22 rfl rfl rfl rfl rfl) ?_
 rintro _ H69 ⟨b68,rfl,hS70⟩
 refine ak ?_
 have hL71:=a2.lk
 refine fq rfl (fun _=>jn (r:=a2) (enc:=fX.cells) rfl rfl rfl rfl rfl rfl) ?_
 refine aC ?_
 have hS72:=Sep.iF hS70 5
 have hNk73:=a2.lk
 refine fC (a2.l.length) (fun k73 e h=>∃ v74:AV,∃ l75:List fK,∃ H76:ah,(pa a2.l a1.l l75 k73)∧(l75.length=k73)∧Sep H76 (.sl true true v74 5 (List.map fK.cells l75)::.obj (.ptr b68 0 0 0) [.ip (fk.cells nx) 0 false,kK r2 r3 r4 r5 r6,(.ip r13 0 false),v74,.sl [] .nil,(.sl [] (.exact 0)),.sl [] .nil,.sl [] .nil,.sl [] .nil,.sl [] .nil,.bool false,iv 0,.bool false]::.sl true true (.sl [] (.exact 0)) 1 (List.map fu ((List.replicate ((r15).toNat) (0))))::[])∧proj [1,2,11,53,54,55] e=[(1,Row.av fK.cells a1),(2,fE.av fX.cells a2),(11,(.ptr b68 0 0 0)),(53,fE.av fX.cells a2),(54,iv (a2.l.length:Int)),(55,iv (k73:Int))]∧{ h with aq:=fU [1,2,11,53,54,55] h.aq } = { H76 with aq:=[] }) ?_ (k0:=0) cO ⟨((.sl [] .nil)),(([]:List fK)),H69,fg,eR,hS72,rfl,rfl⟩
 rintro k73 e h hkk73 ⟨v74,l75,H76,hKd,hKl,hS77,he,hh⟩
 refine gm he hh ?_
 clear he hh
 refine aa ?_
 refine gl ((k73:Int)) ((a2.l.length:Int)) (fun h78=>?_) (fun h78=>?_)
 refine bI ?_
 have hx79:k73<a2.l.length:=by omega
 refine fq rfl (fun _=>jM (n:=k73) (r:=a2) (enc:=fX.cells) rfl rfl rfl rfl rfl hx79 rfl) ?_
 generalize hqx80:a2.l[k73]=x80
 have hinx80:x80∈a2.l:=by rw [← hqx80]; exact List.getElem_mem _
 have hsx80:=p6 x80 hinx80
 refine aX ?_
 refine bT ?_
 refine kM 1 hS77 ?_
 refine kj 1 hS77 ?_
 refine lR 1 hS77 v74 ?_
 iterate 3 refine rV ?_
 have hx81:(x80.fV).toNat<a1.l.length:=by omega
 refine ga rfl rfl (fun _=>gN (n:=x80.fV) (r:=a1) (enc:=fK.cells) rfl rfl rfl rfl rfl cO hx81 rfl) ?_
 generalize hqx82:a1.l[(x80.fV).toNat]=x82
 iterate 2 refine rV ?_
 refine QL 0 [x82] hS77 fun v83 H84 hS85=>?_
 refine kM 1 hS85 ?_
 refine kj 1 hS85 ?_
 refine gS (H:=H84) rfl rfl (iG (H:=H84) (i:=1) (o:=3) (r:=v83) hS85 rfl rfl rfl rfl (jq rfl rfl (Sep.cell (i:=0) hS85 rfl)) (fD (Sep.cell (i:=0) hS85 rfl) gJ) rfl) ?_
 rintro _ H86 ⟨rfl,hS87⟩
 refine cg ?_
 refine gy ((k73:Int)) (1) ?_
 refine ab ?_
 exact ⟨by omega,(v83),((l75++[x82])),H86,e8,d4,hS87,rfl,rfl⟩
 refine aj ?_
 refine aW ?_
 have hS88:=Sep.ni (i:=0) hS77 rfl
 have hS89:=Sep.iF hS88 5
 have hq3:=fun (i:Nat) (x:fX) (y:fK) (h1:a2.l[i]?=some x) (h2:(l75)[i]?=some y)=>p3a i x y h1 (hKd.2 i x y h1 h2)
 have hS90:=Sep.pick hS89 [2,1,0,3] 4 cK cK
 refine gC (H:=H76) (args:=[(.ptr b68 0 0 0),fE.av fX.cells a2]) (p:=[]) (r:=[]) rfl rfl rfl rfl rfl rfl rfl (P1 b68 nx ((kK r2 r3 r4 r5 r6)) (.ip r13 0 false) v74 l75 (.sl [] .nil) ([]:List fJ) (.sl [] (.exact 0)) (.sl [] .nil) (.sl [] .nil) (.sl [] .nil) (.sl [] .nil) (.bool false) (iv 0) (.bool false) a2 (.sl true true (.sl [] (.exact 0)) 1 (List.map fu ((List.replicate ((r15).toNat) (0))))::[]) hS90 cG cG cG cG cG cG cG) ?_
 rintro _ H91 ⟨r96,vbo94,blo95,hc93,hS92,rfl⟩
 have hWb:=hc93
 refine bP ?_
 refine iJ (r96) (0) (fun h97=>?_) (fun h97=>?_)
 refine aA ?_
 refine aD ?_
 exact False.elim cO
 refine bF ?_
 obtain ⟨r98,hl99,hf100⟩:=gZ (H:=H91) (i:=1) (l:=l75) (enc:=fK.cells) hS92 rfl cH
 have hlq:=hl99; have hln102:=congrArg List.length hl99
 have hz101:∀ ls m,freeze false { H91 with aq:=ls } (m+2) v74=some (Row.av fK.cells r98):=fun ls m=>hf100 _ _ (fun _=>rfl)
 obtain ⟨r103,hl104,hf105⟩:=gZ (H:=H91) (i:=2) (l:=blo95) (enc:=fJ.cells) hS92 rfl cH
 have hlq:=hl104; have hln107:=congrArg List.length hl104
 have hz106:∀ ls m,freeze false { H91 with aq:=ls } (m+2) vbo94=some (Row.av fJ.cells r103):=fun ls m=>hf105 _ _ (fun _=>by simp only [fJ.cells,gr,jC,ju,jK,jH,j1])
 have hz108:∀ ls m,freeze false { H91 with aq:=ls } (m+4) (.ptr b68 0 0 0)=some (.ip [.ip (fk.cells nx) 0 false,kK r2 r3 r4 r5 r6,(.ip r13 0 false),Row.av fK.cells r98,Row.av fJ.cells r103,.sl [] (.exact 0),.sl [] .nil,.sl [] .nil,.sl [] .nil,.sl [] .nil,.bool false,iv 0,.bool false] 0 false):=fun ls m=>iS (i:=0) hS92 rfl _ _ (by simp only [FZ,hz101,hz106])
 have hff109:freeze false { H91 with aq:=[] } 8 (.fz [(.ptr b68 0 0 0),iv 0])=some (.fz [.ip [.ip (fk.cells nx) 0 false,kK r2 r3 r4 r5 r6,(.ip r13 0 false),Row.av fK.cells r98,Row.av fJ.cells r103,.sl [] (.exact 0),.sl [] .nil,.sl [] .nil,.sl [] .nil,.sl [] .nil,.bool false,iv 0,.bool false] 0 false,iv 0]):=by simp only [FZ,hz101,hz106,hz108]
 refine ⟨.fz [(.ptr b68 0 0 0),iv 0],rfl,.fz [.ip [.ip (fk.cells nx) 0 false,kK r2 r3 r4 r5 r6,(.ip r13 0 false),Row.av fK.cells r98,Row.av fJ.cells r103,.sl [] (.exact 0),.sl [] .nil,.sl [] .nil,.sl [] .nil,.sl [] .nil,.bool false,iv 0,.bool false] 0 false,iv 0],hff109,⟨nx,r2,r3,(r4),r5,r6,(.ip r13 0 false),r98,r103,(⟨[],.exact 0,Nat.le_of_ble_eq_true rfl,rfl,gU⟩:Row Int),eK,rfl⟩⟩
 refine oV ?_
 refine gd (H:=H19) rfl (iz (cs:=[.ip (fk.cells nx) 0 false,kK r2 r3 r4 r5 r6,(.ip r13 0 false),.sl [] .nil,.sl [] .nil,(.hs b23 g24 0 (List.map fu ((List.replicate ((r15).toNat) (0)))).length),.sl [] .nil,.sl [] .nil,.sl [] .nil,.sl [] .nil,.bool false,iv 0,.bool false]) hS22 rfl rfl rfl rfl rfl) ?_
 rintro _ H111 ⟨b110,rfl,hS112⟩
 refine ak ?_
 have hL113:=a2.lk
 refine fq rfl (fun _=>jn (r:=a2) (enc:=fX.cells) rfl rfl rfl rfl rfl rfl) ?_
 refine aC ?_
 have hS114:=Sep.iF hS112 5
 have hNk115:=a2.lk
 refine fC (a2.l.length) (fun k115 e h=>∃ v116:AV,∃ l117:List fK,∃ H118:ah,(pa a2.l a1.l l117 k115)∧(l117.length=k115)∧Sep H118 (.sl true true v116 5 (List.map fK.cells l117)::.obj (.ptr b110 0 0 0) [.ip (fk.cells nx) 0 false,kK r2 r3 r4 r5 r6,(.ip r13 0 false),v116,.sl [] .nil,(.hs b23 g24 0 (List.map fu ((List.replicate ((r15).toNat) (0)))).length),.sl [] .nil,.sl [] .nil,.sl [] .nil,.sl [] .nil,.bool false,iv 0,.bool false]::.sl true true (.hs b23 g24 0 (List.map fu ((List.replicate ((r15).toNat) (0)))).length) 1 (List.map fu ((List.replicate ((r15).toNat) (0))))::[])∧proj [1,2,11,53,54,55] e=[(1,Row.av fK.cells a1),(2,fE.av fX.cells a2),(11,(.ptr b110 0 0 0)),(53,fE.av fX.cells a2),(54,iv (a2.l.length:Int)),(55,iv (k115:Int))]∧{ h with aq:=fU [1,2,11,53,54,55] h.aq } = { H118 with aq:=[] }) ?_ (k0:=0) cO ⟨((.sl [] .nil)),(([]:List fK)),H111,fg,eR,hS114,rfl,rfl⟩
 rintro k115 e h hkk115 ⟨v116,l117,H118,hKd,hKl,hS119,he,hh⟩
 refine gm he hh ?_
 clear he hh
 refine aa ?_
 refine gl ((k115:Int)) ((a2.l.length:Int)) (fun h120=>?_) (fun h120=>?_)
 refine bI ?_
 have hx121:k115<a2.l.length:=by omega
 refine fq rfl (fun _=>jM (n:=k115) (r:=a2) (enc:=fX.cells) rfl rfl rfl rfl rfl hx121 rfl) ?_
 generalize hqx122:a2.l[k115]=x122
 have hinx122:x122∈a2.l:=by rw [← hqx122]; exact List.getElem_mem _
 have hsx122:=p6 x122 hinx122
 refine aX ?_
 refine bT ?_
 refine kM 1 hS119 ?_
 refine kj 1 hS119 ?_
 refine lR 1 hS119 v116 ?_
 iterate 3 refine rV ?_
 have hx123:(x122.fV).toNat<a1.l.length:=by omega
 refine ga rfl rfl (fun _=>gN (n:=x122.fV) (r:=a1) (enc:=fK.cells) rfl rfl rfl rfl rfl cO hx123 rfl) ?_
 generalize hqx124:a1.l[(x122.fV).toNat]=x124
 iterate 2 refine rV ?_
 refine QL 0 [x124] hS119 fun v125 H126 hS127=>?_
 refine kM 1 hS127 ?_
 refine kj 1 hS127 ?_
 refine gS (H:=H126) rfl rfl (iG (H:=H126) (i:=1) (o:=3) (r:=v125) hS127 rfl rfl rfl rfl (jq rfl rfl (Sep.cell (i:=0) hS127 rfl)) (fD (Sep.cell (i:=0) hS127 rfl) gJ) rfl) ?_
 rintro _ H128 ⟨rfl,hS129⟩
 refine cg ?_
 refine gy ((k115:Int)) (1) ?_
 refine ab ?_
 exact ⟨by omega,(v125),((l117++[x124])),H128,e8,d4,hS129,rfl,rfl⟩
 refine aj ?_
 refine aW ?_
 have hS130:=Sep.ni (i:=0) hS119 rfl
 have hS131:=Sep.iF hS130 5
 have hq3:=fun (i:Nat) (x:fX) (y:fK) (h1:a2.l[i]?=some x) (h2:(l117)[i]?=some y)=>p3a i x y h1 (hKd.2 i x y h1 h2)
 have hS132:=Sep.pick hS131 [2,1,0,3] 4 cK cK
 refine gC (H:=H118) (args:=[(.ptr b110 0 0 0),fE.av fX.cells a2]) (p:=[]) (r:=[]) rfl rfl rfl rfl rfl rfl rfl (P1 b110 nx ((kK r2 r3 r4 r5 r6)) (.ip r13 0 false) v116 l117 (.sl [] .nil) ([]:List fJ) (((.hs b23 g24 0 (List.map fu ((List.replicate ((r15).toNat) (0)))).length))) (.sl [] .nil) (.sl [] .nil) (.sl [] .nil) (.sl [] .nil) (.bool false) (iv 0) (.bool false) a2 (.sl true true (.hs b23 g24 0 (List.map fu ((List.replicate ((r15).toNat) (0)))).length) 1 (List.map fu ((List.replicate ((r15).toNat) (0))))::[]) hS132 cG cG cG cG cG cG cG) ?_
 rintro _ H133 ⟨r138,vbo136,blo137,hc135,hS134,rfl⟩
 have hWb:=hc135
 refine bP ?_
 refine iJ (r138) (0) (fun h139=>?_) (fun h139=>?_)
 refine aA ?_
 refine aD ?_
 exact False.elim cO
 refine bF ?_
 obtain ⟨r140,hl141,hf142⟩:=gZ (H:=H133) (i:=1) (l:=l117) (enc:=fK.cells) hS134 rfl cH
 have hlq:=hl141; have hln144:=congrArg List.length hl141
 have hz143:∀ ls m,freeze false { H133 with aq:=ls } (m+2) v116=some (Row.av fK.cells r140):=fun ls m=>hf142 _ _ (fun _=>rfl)
 obtain ⟨r145,hl146,hf147⟩:=gZ (H:=H133) (i:=2) (l:=blo137) (enc:=fJ.cells) hS134 rfl cH
 have hlq:=hl146; have hln149:=congrArg List.length hl146
 have hz148:∀ ls m,freeze false { H133 with aq:=ls } (m+2) vbo136=some (Row.av fJ.cells r145):=fun ls m=>hf147 _ _ (fun _=>by simp only [fJ.cells,gr,jC,ju,jK,jH,j1])
 obtain ⟨r150,hl151,hf152⟩:=gZ (H:=H133) (i:=3) (l:=(List.replicate ((r15).toNat) (0))) (enc:=fu) hS134 rfl cH
 have hlq:=hl151; have hln154:=congrArg List.length hl151
 have hz153:∀ ls m,freeze false { H133 with aq:=ls } (m+2) ((.hs b23 g24 0 (List.map fu ((List.replicate ((r15).toNat) (0)))).length))=some (Row.av fu r150):=fun ls m=>hf152 _ _ (fun _=>rfl)
 have hz155:∀ ls m,freeze false { H133 with aq:=ls } (m+4) (.ptr b110 0 0 0)=some (nE nx r2 r3 r4 r5 r6 (.ip r13 0 false) r140 r145 r150):=fun ls m=>iS (i:=0) hS134 rfl _ _ (by simp only [FZ,hz143,hz148,hz153])
 have hff156:freeze false { H133 with aq:=[] } 8 (.fz [(.ptr b110 0 0 0),iv 0])=some (.fz [nE nx r2 r3 r4 r5 r6 (.ip r13 0 false) r140 r145 r150,iv 0]):=by simp only [FZ,hz143,hz148,hz153,hz155]
 refine ⟨.fz [(.ptr b110 0 0 0),iv 0],rfl,.fz [nE nx r2 r3 r4 r5 r6 (.ip r13 0 false) r140 r145 r150,iv 0],hff156,⟨nx,r2,r3,(r4),r5,r6,(.ip r13 0 false),r140,r145,r150,eK,rfl⟩⟩
theorem Ul:FT 22=some IA:=by kernel_rfl
theorem QG:aT 22=none:=by kernel_rfl
theorem u22 {H:ah} (x:gg) (F:List gH) (hS:Sep H (F)) :∃ v H',fj cfg FT aT true 22 [.agg (gg.cells x)] { H with aq:=[] } v H'∧(∃ r0:Bool,(True)∧Sep H' (F)∧v=.bool r0):=by
 refine gB QG Ul rfl ?_
 refine ai ?_
 refine bP ?_
 refine ik (b:=x.auto) rfl (fun _=>rfl) (fun h1=>?_) (fun h1=>?_)
 refine af ?_
 have hS2:=Sep.pick hS [] 0 cK cK
 exact ⟨.bool true,rfl,true,trivial,Sep.aq hS2 _,rfl⟩
 refine af ?_
 have hS3:=Sep.pick hS [] 0 cK cK
 exact ⟨.bool false,rfl,false,trivial,Sep.aq hS3 _,rfl⟩
theorem TQ:FT 49=some HU:=by kernel_rfl
theorem P2:aT 49=none:=by kernel_rfl
theorem QT {H:ah} (l:fE gg) (F:List gH) (hS:Sep H (F)) :∃ v H',fj cfg FT aT true 49 [fE.av gg.cells l,.gL 22 [] []] { H with aq:=[] } v H'∧(∃ r0:Int,(True)∧Sep H' (F)∧v=iv r0):=by
 refine gB P2 TQ rfl ?_
 refine aY ?_
 have hL1:=l.lk
 refine fq rfl (fun _=>jn (r:=l) (enc:=gg.cells) rfl rfl rfl rfl rfl rfl) ?_
 refine aC ?_
 have hNk2:=l.lk
 refine fC (l.l.length) (fun k2 e h=>∃ H3:ah,Sep H3 (F)∧proj [0,1,7,8] e=[(0,fE.av gg.cells l),(1,.gL 22 [] []),(7,iv (l.l.length:Int)),(8,iv (k2:Int))]∧{ h with aq:=fU [0,1,7,8] h.aq } = { H3 with aq:=[] }) ?_ (k0:=0) cO ⟨H,hS,rfl,rfl⟩
 rintro k2 e h hkk2 ⟨H3,hS4,he,hh⟩
 refine gm he hh ?_
 clear he hh
 refine aa ?_
 refine gl ((k2:Int)) ((l.l.length:Int)) (fun h5=>?_) (fun h5=>?_)
 refine bL ?_
 refine aB ?_
 have hx6:k2<l.l.length:=by omega
 refine fq rfl (fun _=>jM (n:=k2) (r:=l) (enc:=gg.cells) rfl rfl rfl rfl rfl hx6 rfl) ?_
 generalize hqx7:l.l[k2]=x7
 have hinx7:x7∈l.l:=by rw [← hqx7]; exact List.getElem_mem _
 have hmx7:=True.intro
 refine oV ?_
 refine gC (H:=H3) (args:=[.agg (gg.cells x7)]) (p:=[]) (r:=[]) rfl rfl rfl rfl rfl rfl rfl (u22 x7 (F) hS4) ?_
 rintro _ H9 ⟨r12,hc11,hS10,rfl⟩
 cases r12
 refine bN ?_
 refine gy ((k2:Int)) (1) ?_
 refine ab ?_
 exact ⟨by omega,H9,hS10,rfl,rfl⟩
 refine aH ?_
 have hS13:=Sep.pick hS10 [] 0 cK cK
 exact ⟨iv (k2:Int),rfl,((k2:Int)),trivial,Sep.aq hS13 _,rfl⟩
 refine aN ?_
 have hS14:=Sep.pick hS4 [] 0 cK cK
 exact ⟨iv (-1),rfl,(-1),trivial,Sep.aq hS14 _,rfl⟩
theorem XE:FT 21=some Gx:=by kernel_rfl
theorem P9:aT 21=none:=by kernel_rfl
theorem OS {H:ah} (l:fE gg) (F:List gH) (hS:Sep H (F)) :∃ v H',fj cfg FT aT true 21 [fE.av gg.cells l,.gL 22 [] []] { H with aq:=[] } v H'∧(∃ r0:Bool,(True)∧Sep H' (F)∧v=.bool r0):=by
 refine gB P9 XE rfl ?_
 refine cm ?_
 refine gC (H:=H) (args:=[fE.av gg.cells l,.gL 22 [] []]) (p:=[]) (r:=[]) rfl rfl rfl rfl rfl rfl rfl (QT l (F) hS) ?_
 rintro _ H2 ⟨r5,hc4,hS3,rfl⟩
 refine jg (r5) (0) (fun h6=>?_) (fun h6=>?_)
 refine af ?_
 have hS7:=Sep.pick hS3 [] 0 cK cK
 exact ⟨.bool true,rfl,true,trivial,Sep.aq hS7 _,rfl⟩
 refine af ?_
 have hS8:=Sep.pick hS3 [] 0 cK cK
 exact ⟨.bool false,rfl,false,trivial,Sep.aq hS8 _,rfl⟩
theorem R0:FT 51=some HQ:=by kernel_rfl
theorem NG:aT 51=none:=by kernel_rfl
theorem u51 {H:ah} (x:gK) (F:List gH) (hS:Sep H (F)) :∃ v H',fj cfg FT aT true 51 [.agg (gK.cells x)] { H with aq:=[] } v H'∧(∃ r0:Bool,(True)∧Sep H' (F)∧v=.bool r0):=by
 refine gB NG R0 rfl ?_
 refine aQ ?_
 refine ae ?_
 have hL1:=x.gW.lk
 refine gG x.gW ?_
 refine g9 ((x.gW.l.length:Int)) (12) (fun h2=>?_) (fun h2=>?_)
 refine af ?_
 have hS3:=Sep.pick hS [] 0 cK cK
 exact ⟨.bool true,rfl,true,trivial,Sep.aq hS3 _,rfl⟩
 refine af ?_
 have hS4:=Sep.pick hS [] 0 cK cK
 exact ⟨.bool false,rfl,false,trivial,Sep.aq hS4 _,rfl⟩
theorem WU:FT 53=some GA:=by kernel_rfl
theorem Rc:aT 53=none:=by kernel_rfl
def P53 (_a0:Int) (_a1:Int) (v:AV):Prop:=∃ r0:Bool,(((r0=true→0≤_a0∧_a0≤_a1)∧(r0=false→¬(0≤_a0∧_a0≤_a1))))∧v=.bool r0
theorem t53 (a0:Int) (a1:Int)  (h:ah):∃ v,fj cfg FT aT false 53 [iv a0,iv a1] h v h∧P53 a0 a1 v:=by
 refine fS Rc WU rfl rfl ?_
 refine aa ?_
 refine bP ?_
 refine jg (a0) (0) (fun h1=>?_) (fun h1=>?_)
 iterate 3 refine oV ?_
 refine o5 (a0) (a1) (fun h2=>?_) (fun h2=>?_)
 refine aS ?_
 exact xA (.bool true) ⟨true,eJ,rfl⟩
 refine aS ?_
 exact xA (.bool false) ⟨false,eJ,rfl⟩
 refine bD ?_
 refine aS ?_
 exact xA (.bool false) ⟨false,eJ,rfl⟩
theorem PI:FT 187=some Eu:=by kernel_rfl
theorem MB:aT 187=none:=by kernel_rfl
def acd (_a0:fh) (_a1:Int) (v:AV):Prop:=∃ r0:Int,(True)∧v=iv r0
theorem t187 (a0:fh) (a1:Int)  (h:ah):∃ v,fj cfg FT aT false 187 [.agg (fh.cells a0),iv a1] h v h∧acd a0 a1 v:=by
 refine fS MB PI rfl rfl ?_
 refine aQ ?_
 refine bb ?_
 have hL1:=a0.elems.lk
 refine gG a0.elems ?_
 have hL2:=a0.elems.lk
 refine lY ((a0.elems.l.length:Int)) (1) ?_
 refine oC (t53 (a1) ((a0.elems.l.length:Int) - 1)) ?_
 rintro _ ⟨r4,hc3,rfl⟩
 have hI:=hc3
 cases r4
 refine au ?_
 exact xA (iv 0) ⟨(0),trivial,rfl⟩
 have hIn:=hI.1 rfl
 refine ay ?_
 refine aB ?_
 have hx5:(a1).toNat<a0.elems.l.length:=by omega
 refine fq rfl (fun _=>gN (n:=a1) (r:=a0.elems) (enc:=gf.cells) rfl rfl rfl rfl rfl cO hx5 rfl) ?_
 generalize hqx6:a0.elems.l[(a1).toNat]=x6
 refine bk ?_
 exact xA (iv x6.kind) ⟨(x6.kind),trivial,rfl⟩
theorem QZ:FT 122=some Ce:=by kernel_rfl
theorem M0:aT 122=none:=by kernel_rfl
def Z2 (_a0:fh) (_a1:iZ) (v:AV):Prop:=∃ r0:Bool,(True)∧v=.bool r0
theorem t122 (a0:fh) (a1:iZ)  (h:ah):∃ v,fj cfg FT aT false 122 [.agg (fh.cells a0),.agg (iZ.cells a1)] h v h∧Z2 a0 a1 v:=by
 refine fS M0 QZ rfl rfl ?_
 refine bJ ?_
 refine aW ?_
 refine cD ?_
 refine gA (a1.end_) (1) (fun h1=>?_) (fun h1=>?_)
 refine a7 ?_
 refine be ?_
 have hL2:=a0.signals.lk
 refine gG a0.signals ?_
 have hL3:=a0.signals.lk
 refine lY ((a0.signals.l.length:Int)) (1) ?_
 refine oC (t53 (a1.to) ((a0.signals.l.length:Int) - 1)) ?_
 rintro _ ⟨r5,hc4,rfl⟩
 have hI:=hc4
 cases r5
 refine af ?_
 exact xA (.bool false) ⟨false,trivial,rfl⟩
 have hIn:=hI.1 rfl
 refine af ?_
 exact xA (.bool true) ⟨true,trivial,rfl⟩
 refine bf ?_
 refine gA (a1.end_) (2) (fun h6=>?_) (fun h6=>?_)
 refine a7 ?_
 refine aB ?_
 refine oC (t187 a0 (a1.to)) ?_
 rintro _ ⟨r8,hc7,rfl⟩
 refine gA (r8) (4) (fun h9=>?_) (fun h9=>?_)
 refine af ?_
 exact xA (.bool true) ⟨true,trivial,rfl⟩
 refine af ?_
 exact xA (.bool false) ⟨false,trivial,rfl⟩
 refine bf ?_
 refine gA (a1.end_) (3) (fun h10=>?_) (fun h10=>?_)
 refine a7 ?_
 refine aB ?_
 refine oC (t187 a0 (a1.to)) ?_
 rintro _ ⟨r12,hc11,rfl⟩
 refine gA (r12) (1) (fun h13=>?_) (fun h13=>?_)
 refine af ?_
 exact xA (.bool true) ⟨true,trivial,rfl⟩
 refine af ?_
 exact xA (.bool false) ⟨false,trivial,rfl⟩
 refine ay ?_
 refine bu ?_
 exact xA (.bool false) ⟨false,trivial,rfl⟩
theorem R5:FT 55=some IF:=by kernel_rfl
theorem OA:aT 55=none:=by kernel_rfl
def P55 (_a0:fh) (_a1:gp) (_a2:gK) (v:AV):Prop:=∃ r0:Bool,((r0=true→(rs 121 [.str _a2.name.l]=.bool true∧0≤_a2.fV∧_a2.fV<(_a1.fV.l.length:Int)∧0≤_a2.from_∧_a2.from_<(_a0.signals.l.length:Int))))∧v=.bool r0
theorem t55 (a0:fh) (a1:gp) (a2:gK)  (h:ah):∃ v,fj cfg FT aT false 55 [.agg (fh.cells a0),.agg (gp.cells a1),.agg (gK.cells a2)] h v h∧P55 a0 a1 a2 v:=by
 refine fS OA R5 rfl rfl ?_
 refine aa ?_
 refine bM ?_
 refine aW ?_
 refine oC (t121 a2.name) ?_
 rintro _ ⟨r2,⟨hc1,hc1r⟩,rfl⟩
 cases r2
 refine aP ?_
 iterate 6 refine oS ?_
 refine aP ?_
 iterate 6 refine oS ?_
 refine bz ?_
 exact xA (.bool false) ⟨false,dj,rfl⟩
 iterate 6 refine oV ?_
 have hL3:=a1.fV.lk
 refine gG a1.fV ?_
 have hL4:=a1.fV.lk
 refine lY ((a1.fV.l.length:Int)) (1) ?_
 refine oC (t53 (a2.fV) ((a1.fV.l.length:Int) - 1)) ?_
 rintro _ ⟨r6,hc5,rfl⟩
 have hI:=hc5
 cases r6
 iterate 3 refine oV ?_
 iterate 8 refine oS ?_
 refine bz ?_
 exact xA (.bool false) ⟨false,dj,rfl⟩
 have hIn:=hI.1 rfl
 iterate 7 refine oV ?_
 have hL7:=a0.signals.lk
 refine gG a0.signals ?_
 have hL8:=a0.signals.lk
 refine lY ((a0.signals.l.length:Int)) (1) ?_
 refine oC (t53 (a2.from_) ((a0.signals.l.length:Int) - 1)) ?_
 rintro _ ⟨r10,hc9,rfl⟩
 have hI:=hc9
 cases r10
 refine oV ?_
 refine bz ?_
 exact xA (.bool false) ⟨false,dj,rfl⟩
 have hIn:=hI.1 rfl
 iterate 5 refine oV ?_
 refine oC (t53 (a2.left) (4000)) ?_
 rintro _ ⟨r12,hc11,rfl⟩
 have hI:=hc11
 cases r12
 refine bd ?_
 exact xA (.bool false) ⟨false,dj,rfl⟩
 have hIn:=hI.1 rfl
 refine bA ?_
 refine aU ?_
 refine aW ?_
 have hL13:=a2.gW.lk
 refine gG a2.gW ?_
 refine aC ?_
 have hNk14:=a2.gW.lk
 refine fC (a2.gW.l.length) (fun gh e h=>∃ n15:Int,proj [3,7,41,42,43] e=[(3,.la 3 0),(7,iv n15),(41,Row.av iZ.cells a2.gW),(42,iv (a2.gW.l.length:Int)),(43,iv (gh:Int))]∧{ h with aq:=fU [3,7,41,42,43] h.aq } = { ah.empty with aq:=[(3,(fh.cells a0))] }) ?_ (k0:=0) cO ⟨(0),rfl,rfl⟩
 rintro gh e h hkk14 ⟨n15,he,hh⟩
 refine gm he hh ?_
 clear he hh
 refine aa ?_
 refine gl ((gh:Int)) ((a2.gW.l.length:Int)) (fun h16=>?_) (fun h16=>?_)
 refine bI ?_
 have hx17:gh<a2.gW.l.length:=by omega
 refine iU gh a2.gW hx17 ?_
 generalize hqx18:a2.gW.l[gh]=x18
 refine aX ?_
 refine aW ?_
 refine oC (t53 (x18.at_) (2000)) ?_
 rintro _ ⟨r20,hc19,rfl⟩
 have hI:=hc19
 cases r20
 refine aE ?_
 refine bz ?_
 exact xA (.bool false) ⟨false,dj,rfl⟩
 have hIn:=hI.1 rfl
 iterate 5 refine oV ?_
 refine gl (x18.at_) (n15) (fun h21=>?_) (fun h21=>?_)
 refine bz ?_
 exact xA (.bool false) ⟨false,dj,rfl⟩
 iterate 4 refine oV ?_
 refine oC (t122 a0 x18) ?_
 rintro _ ⟨r23,hc22,rfl⟩
 cases r23
 refine bd ?_
 exact xA (.bool false) ⟨false,dj,rfl⟩
 refine bA ?_
 refine a8 ?_
 refine bO ?_
 refine gy ((gh:Int)) (1) ?_
 refine ab ?_
 exact ⟨by omega,(x18.at_),rfl,rfl⟩
 refine aN ?_
 exact xA (.bool true) ⟨true,dj,rfl⟩
theorem RX:FT 54=some Ir:=by kernel_rfl
theorem RN:aT 54=none:=by kernel_rfl
theorem u54 {H:ah} (b:Nat) (pp:fh) (b2:Nat) (dd:gp) (x:gK) (F:List gH) (hS:Sep H (.obj (.ptr b 0 0 0) (fh.cells pp)::.obj (.ptr b2 0 0 0) (gp.cells dd)::F)) :∃ v H',fj cfg FT aT true 54 [.agg (gK.cells x),(.ptr b 0 0 0),(.ptr b2 0 0 0)] { H with aq:=[] } v H'∧(∃ r0:Bool,((r0=false→¬ (¬ (rs 121 [.str x.name.l]=.bool true∧0≤x.fV∧x.fV<(dd.fV.l.length:Int)∧0≤x.from_∧x.from_<(pp.signals.l.length:Int)))))∧Sep H' (.obj (.ptr b 0 0 0) (fh.cells pp)::.obj (.ptr b2 0 0 0) (gp.cells dd)::F)∧v=.bool r0):=by
 refine gB RN RX rfl ?_
 refine aQ ?_
 refine aa ?_
 refine ix 0 hS (.agg (fh.cells pp)) ?_
 refine ix 1 hS (.agg (gp.cells dd)) ?_
 refine oV ?_
 refine oC (t55 pp dd x) ?_
 rintro _ ⟨r2,hc1,rfl⟩
 cases r2
 clear hc1
 refine aS ?_
 have hS3:=Sep.pick hS [0,1] 2 cK cK
 exact ⟨.bool true,rfl,true,e9,Sep.aq hS3 _,rfl⟩
 have hc1t:=hc1 rfl
 refine aS ?_
 have hS4:=Sep.pick hS [0,1] 2 cK cK
 exact ⟨.bool false,rfl,false,e9,Sep.aq hS4 _,rfl⟩
theorem SR:FT 56=some Iy:=by kernel_rfl
theorem Pk:aT 56=none:=by kernel_rfl
theorem u56 {H:ah} (b:Nat) (rr:gK) (x:gK) (F:List gH) (hS:Sep H (.obj (.ptr b 0 0 0) (gK.cells rr)::F)) :∃ v H',fj cfg FT aT true 56 [.agg (gK.cells x),(.ptr b 0 0 0)] { H with aq:=[] } v H'∧(∃ r0:Bool,(((r0=true→x.name.l=rr.name.l)∧(r0=false→¬ (x.name.l=rr.name.l))))∧Sep H' (.obj (.ptr b 0 0 0) (gK.cells rr)::F)∧v=.bool r0):=by
 refine gB Pk SR rfl ?_
 refine aQ ?_
 refine ae ?_
 refine iN 0 hS ?_
 refine ix 0 hS (.str (rr.name.l)) ?_
 refine lJ rfl (fun _=>qo rfl rfl) (fun h1=>?_) (fun h1=>?_)
 refine af ?_
 have hS2:=Sep.pick hS [0] 1 cK cK
 exact ⟨.bool true,rfl,true,dJ,Sep.aq hS2 _,rfl⟩
 refine af ?_
 have hS3:=Sep.pick hS [0] 1 cK cK
 exact ⟨.bool false,rfl,false,dJ,Sep.aq hS3 _,rfl⟩
theorem Ak:FT 117=some Dh:=by kernel_rfl
theorem xV:aT 117=none:=by kernel_rfl
theorem MN {H:ah} (l:fE gK) (F:List gH) (hS:Sep H (F)) :∃ v H',fj cfg FT aT true 117 [fE.av gK.cells l,.gL 51 [] []] { H with aq:=[] } v H'∧(∃ r0:Int,(True)∧Sep H' (F)∧v=iv r0):=by
 refine gB xV Ak rfl ?_
 refine aY ?_
 have hL1:=l.lk
 refine fq rfl (fun _=>jn (r:=l) (enc:=gK.cells) rfl rfl rfl rfl rfl rfl) ?_
 refine aC ?_
 have hNk2:=l.lk
 refine fC (l.l.length) (fun k2 e h=>∃ H3:ah,Sep H3 (F)∧proj [0,1,7,8] e=[(0,fE.av gK.cells l),(1,.gL 51 [] []),(7,iv (l.l.length:Int)),(8,iv (k2:Int))]∧{ h with aq:=fU [0,1,7,8] h.aq } = { H3 with aq:=[] }) ?_ (k0:=0) cO ⟨H,hS,rfl,rfl⟩
 rintro k2 e h hkk2 ⟨H3,hS4,he,hh⟩
 refine gm he hh ?_
 clear he hh
 refine aa ?_
 refine gl ((k2:Int)) ((l.l.length:Int)) (fun h5=>?_) (fun h5=>?_)
 refine bL ?_
 refine aB ?_
 have hx6:k2<l.l.length:=by omega
 refine fq rfl (fun _=>jM (n:=k2) (r:=l) (enc:=gK.cells) rfl rfl rfl rfl rfl hx6 rfl) ?_
 generalize hqx7:l.l[k2]=x7
 have hinx7:x7∈l.l:=by rw [← hqx7]; exact List.getElem_mem _
 have hmx7:=True.intro
 refine oV ?_
 refine gC (H:=H3) (args:=[.agg (gK.cells x7)]) (p:=[]) (r:=[]) rfl rfl rfl rfl rfl rfl rfl (u51 x7 (F) hS4) ?_
 rintro _ H9 ⟨r12,hc11,hS10,rfl⟩
 cases r12
 refine bN ?_
 refine gy ((k2:Int)) (1) ?_
 refine ab ?_
 exact ⟨by omega,H9,hS10,rfl,rfl⟩
 refine aH ?_
 have hS13:=Sep.pick hS10 [] 0 cK cK
 exact ⟨iv (k2:Int),rfl,((k2:Int)),trivial,Sep.aq hS13 _,rfl⟩
 refine aN ?_
 have hS14:=Sep.pick hS4 [] 0 cK cK
 exact ⟨iv (-1),rfl,(-1),trivial,Sep.aq hS14 _,rfl⟩
theorem Lu {H:ah} (l:fE gK) (b:Nat) (pp:fh) (b2:Nat) (dd:gp) (F:List gH) (hS:Sep H (.obj (.ptr b 0 0 0) (fh.cells pp)::.obj (.ptr b2 0 0 0) (gp.cells dd)::F)) :∃ v H',fj cfg FT aT true 117 [fE.av gK.cells l,.gL 54 [] [(.ptr b 0 0 0),(.ptr b2 0 0 0)]] { H with aq:=[] } v H'∧(∃ r0:Int,(((0≤r0→True)∧(r0<0→∀ x∈l.l,¬ (¬ (rs 121 [.str x.name.l]=.bool true∧0≤x.fV∧x.fV<(dd.fV.l.length:Int)∧0≤x.from_∧x.from_<(pp.signals.l.length:Int))))))∧Sep H' (.obj (.ptr b 0 0 0) (fh.cells pp)::.obj (.ptr b2 0 0 0) (gp.cells dd)::F)∧v=iv r0):=by
 refine gB xV Ak rfl ?_
 refine aY ?_
 have hL1:=l.lk
 refine fq rfl (fun _=>jn (r:=l) (enc:=gK.cells) rfl rfl rfl rfl rfl rfl) ?_
 refine aC ?_
 have hNk2:=l.lk
 refine fC (l.l.length) (fun k2 e h=>∃ H3:ah,(∀ (i:Nat) (h:i<l.l.length),i<k2→¬ (¬ (rs 121 [.str (l.l[i]).name.l]=.bool true∧0≤(l.l[i]).fV∧(l.l[i]).fV<(dd.fV.l.length:Int)∧0≤(l.l[i]).from_∧(l.l[i]).from_<(pp.signals.l.length:Int))))∧Sep H3 (.obj (.ptr b 0 0 0) (fh.cells pp)::.obj (.ptr b2 0 0 0) (gp.cells dd)::F)∧proj [0,1,7,8] e=[(0,fE.av gK.cells l),(1,.gL 54 [] [(.ptr b 0 0 0),(.ptr b2 0 0 0)]),(7,iv (l.l.length:Int)),(8,iv (k2:Int))]∧{ h with aq:=fU [0,1,7,8] h.aq } = { H3 with aq:=[] }) ?_ (k0:=0) cO ⟨H,eG,hS,rfl,rfl⟩
 rintro k2 e h hkk2 ⟨H3,hP,hS4,he,hh⟩
 refine gm he hh ?_
 clear he hh
 refine aa ?_
 refine gl ((k2:Int)) ((l.l.length:Int)) (fun h5=>?_) (fun h5=>?_)
 refine bL ?_
 refine aB ?_
 have hx6:k2<l.l.length:=by omega
 refine fq rfl (fun _=>jM (n:=k2) (r:=l) (enc:=gK.cells) rfl rfl rfl rfl rfl hx6 rfl) ?_
 generalize hqx7:l.l[k2]=x7
 have hinx7:x7∈l.l:=by rw [← hqx7]; exact List.getElem_mem _
 have hmx7:=True.intro
 refine oV ?_
 have hS8:=Sep.pick hS4 [0,1] 2 cK cK
 refine gC (H:=H3) (args:=[.agg (gK.cells x7)]) (p:=[]) (r:=[(.ptr b 0 0 0),(.ptr b2 0 0 0)]) rfl rfl rfl rfl rfl rfl rfl (u54 b pp b2 dd x7 (F) hS8) ?_
 rintro _ H9 ⟨r12,hc11,hS10,rfl⟩
 have hB:=hc11
 cases r12
 refine bN ?_
 refine gy ((k2:Int)) (1) ?_
 refine ab ?_
 exact ⟨by omega,H9,(by exact ur (P:=fun x:gK=>¬ (¬ (rs 121 [.str x.name.l]=.bool true∧0≤x.fV∧x.fV<(dd.fV.l.length:Int)∧0≤x.from_∧x.from_<(pp.signals.l.length:Int)))) cP hP (hB rfl)),hS10,rfl,rfl⟩
 refine aH ?_
 have hS13:=Sep.pick hS10 [0,1] 2 cK cK
 exact ⟨iv (k2:Int),rfl,((k2:Int)),dk,Sep.aq hS13 _,rfl⟩
 refine aN ?_
 have hS14:=Sep.pick hS4 [0,1] 2 cK cK
 exact ⟨iv (-1),rfl,(-1),dk,Sep.aq hS14 _,rfl⟩
theorem MA {H:ah} (l:fE gK) (b:Nat) (rr:gK) (F:List gH) (hS:Sep H (.obj (.ptr b 0 0 0) (gK.cells rr)::F)) :∃ v H',fj cfg FT aT true 117 [fE.av gK.cells l,.gL 56 [] [(.ptr b 0 0 0)]] { H with aq:=[] } v H'∧(∃ r0:Int,(((0≤r0→∃ x∈l.l,x.name.l=rr.name.l)∧(r0<0→∀ x∈l.l,¬ (x.name.l=rr.name.l))))∧Sep H' (.obj (.ptr b 0 0 0) (gK.cells rr)::F)∧v=iv r0):=by
 refine gB xV Ak rfl ?_
 refine aY ?_
 have hL1:=l.lk
 refine fq rfl (fun _=>jn (r:=l) (enc:=gK.cells) rfl rfl rfl rfl rfl rfl) ?_
 refine aC ?_
 have hNk2:=l.lk
 refine fC (l.l.length) (fun k2 e h=>∃ H3:ah,(∀ (i:Nat) (h:i<l.l.length),i<k2→¬ ((l.l[i]).name.l=rr.name.l))∧Sep H3 (.obj (.ptr b 0 0 0) (gK.cells rr)::F)∧proj [0,1,7,8] e=[(0,fE.av gK.cells l),(1,.gL 56 [] [(.ptr b 0 0 0)]),(7,iv (l.l.length:Int)),(8,iv (k2:Int))]∧{ h with aq:=fU [0,1,7,8] h.aq } = { H3 with aq:=[] }) ?_ (k0:=0) cO ⟨H,eG,hS,rfl,rfl⟩
 rintro k2 e h hkk2 ⟨H3,hP,hS4,he,hh⟩
 refine gm he hh ?_
 clear he hh
 refine aa ?_
 refine gl ((k2:Int)) ((l.l.length:Int)) (fun h5=>?_) (fun h5=>?_)
 refine bL ?_
 refine aB ?_
 have hx6:k2<l.l.length:=by omega
 refine fq rfl (fun _=>jM (n:=k2) (r:=l) (enc:=gK.cells) rfl rfl rfl rfl rfl hx6 rfl) ?_
 generalize hqx7:l.l[k2]=x7
 have hinx7:x7∈l.l:=by rw [← hqx7]; exact List.getElem_mem _
 have hmx7:=True.intro
 refine oV ?_
 have hS8:=Sep.pick hS4 [0] 1 cK cK
 refine gC (H:=H3) (args:=[.agg (gK.cells x7)]) (p:=[]) (r:=[(.ptr b 0 0 0)]) rfl rfl rfl rfl rfl rfl rfl (u56 b rr x7 (F) hS8) ?_
 rintro _ H9 ⟨r12,hc11,hS10,rfl⟩
 have hB:=hc11
 cases r12
 refine bN ?_
 refine gy ((k2:Int)) (1) ?_
 refine ab ?_
 exact ⟨by omega,H9,(by exact ur (P:=fun x:gK=>¬ (x.name.l=rr.name.l)) cP hP (hB.2 rfl)),hS10,rfl,rfl⟩
 refine aH ?_
 have hS13:=Sep.pick hS10 [0] 1 cK cK
 exact ⟨iv (k2:Int),rfl,((k2:Int)),dk,Sep.aq hS13 _,rfl⟩
 refine aN ?_
 have hS14:=Sep.pick hS4 [0] 1 cK cK
 exact ⟨iv (-1),rfl,(-1),dk,Sep.aq hS14 _,rfl⟩
theorem Cg:FT 50=some HB:=by kernel_rfl
theorem AO:aT 50=none:=by kernel_rfl
theorem Q8 {H:ah} (l:fE gK) (F:List gH) (hS:Sep H (F)) :∃ v H',fj cfg FT aT true 50 [fE.av gK.cells l,.gL 51 [] []] { H with aq:=[] } v H'∧(∃ r0:Bool,(True)∧Sep H' (F)∧v=.bool r0):=by
 refine gB AO Cg rfl ?_
 refine cm ?_
 refine gC (H:=H) (args:=[fE.av gK.cells l,.gL 51 [] []]) (p:=[]) (r:=[]) rfl rfl rfl rfl rfl rfl rfl (MN l (F) hS) ?_
 rintro _ H2 ⟨r5,hc4,hS3,rfl⟩
 refine jg (r5) (0) (fun h6=>?_) (fun h6=>?_)
 refine af ?_
 have hS7:=Sep.pick hS3 [] 0 cK cK
 exact ⟨.bool true,rfl,true,trivial,Sep.aq hS7 _,rfl⟩
 refine af ?_
 have hS8:=Sep.pick hS3 [] 0 cK cK
 exact ⟨.bool false,rfl,false,trivial,Sep.aq hS8 _,rfl⟩
theorem NB {H:ah} (l:fE gK) (b:Nat) (pp:fh) (b2:Nat) (dd:gp) (F:List gH) (hS:Sep H (.obj (.ptr b 0 0 0) (fh.cells pp)::.obj (.ptr b2 0 0 0) (gp.cells dd)::F)) :∃ v H',fj cfg FT aT true 50 [fE.av gK.cells l,.gL 54 [] [(.ptr b 0 0 0),(.ptr b2 0 0 0)]] { H with aq:=[] } v H'∧(∃ r0:Bool,(((r0=true→True)∧(r0=false→∀ x∈l.l,¬ (¬ (rs 121 [.str x.name.l]=.bool true∧0≤x.fV∧x.fV<(dd.fV.l.length:Int)∧0≤x.from_∧x.from_<(pp.signals.l.length:Int))))))∧Sep H' (.obj (.ptr b 0 0 0) (fh.cells pp)::.obj (.ptr b2 0 0 0) (gp.cells dd)::F)∧v=.bool r0):=by
 refine gB AO Cg rfl ?_
 refine cm ?_
 have hS1:=Sep.pick hS [0,1] 2 cK cK
 refine gC (H:=H) (args:=[fE.av gK.cells l,.gL 54 [] [(.ptr b 0 0 0),(.ptr b2 0 0 0)]]) (p:=[]) (r:=[]) rfl rfl rfl rfl rfl rfl rfl (Lu l b pp b2 dd (F) hS1) ?_
 rintro _ H2 ⟨r5,hc4,hS3,rfl⟩
 have hIx:=hc4
 refine jg (r5) (0) (fun h6=>?_) (fun h6=>?_)
 refine af ?_
 have hS7:=Sep.pick hS3 [0,1] 2 cK cK
 exact ⟨.bool true,rfl,true,dv,Sep.aq hS7 _,rfl⟩
 refine af ?_
 have hS8:=Sep.pick hS3 [0,1] 2 cK cK
 exact ⟨.bool false,rfl,false,dv,Sep.aq hS8 _,rfl⟩
theorem Q1 {H:ah} (l:fE gK) (b:Nat) (rr:gK) (F:List gH) (hS:Sep H (.obj (.ptr b 0 0 0) (gK.cells rr)::F)) :∃ v H',fj cfg FT aT true 50 [fE.av gK.cells l,.gL 56 [] [(.ptr b 0 0 0)]] { H with aq:=[] } v H'∧(∃ r0:Bool,(((r0=true→∃ x∈l.l,x.name.l=rr.name.l)∧(r0=false→∀ x∈l.l,¬ (x.name.l=rr.name.l))))∧Sep H' (.obj (.ptr b 0 0 0) (gK.cells rr)::F)∧v=.bool r0):=by
 refine gB AO Cg rfl ?_
 refine cm ?_
 have hS1:=Sep.pick hS [0] 1 cK cK
 refine gC (H:=H) (args:=[fE.av gK.cells l,.gL 56 [] [(.ptr b 0 0 0)]]) (p:=[]) (r:=[]) rfl rfl rfl rfl rfl rfl rfl (MA l b rr (F) hS1) ?_
 rintro _ H2 ⟨r5,hc4,hS3,rfl⟩
 have hIx:=hc4
 refine jg (r5) (0) (fun h6=>?_) (fun h6=>?_)
 refine af ?_
 have hS7:=Sep.pick hS3 [0] 1 cK cK
 exact ⟨.bool true,rfl,true,dv,Sep.aq hS7 _,rfl⟩
 refine af ?_
 have hS8:=Sep.pick hS3 [0] 1 cK cK
 exact ⟨.bool false,rfl,false,dv,Sep.aq hS8 _,rfl⟩
theorem Wt:FT 23=some Hd:=by kernel_rfl
theorem Qi:aT 23=none:=by kernel_rfl
def P23 (_a0:fh) (_a1:gp) (v:AV):Prop:=∃ r0:Int,((r0=0→(rs 52 [.agg (fh.cells _a0),Row.av fK.cells _a1.fV]=iv 0∧(∀ r∈_a1.runs.l,(rs 121 [.str r.name.l]=.bool true∧0≤r.fV∧r.fV<(_a1.fV.l.length:Int)∧0≤r.from_∧r.from_<(_a0.signals.l.length:Int)))∧(∀ (i j:Nat) (h:j < _a1.runs.l.length) (hij:i<j),j < _a1.runs.l.length→(_a1.runs.l[i]).name.l≠(_a1.runs.l[j]).name.l)∧_a1.runs.l.length≤8)))∧v=iv r0
theorem t23 (a0:fh) (a1:gp)  (h:ah):∃ v,fj cfg FT aT false 23 [.agg (fh.cells a0),.agg (gp.cells a1)] h v h∧P23 a0 a1 v:=by
 refine fS Qi Wt rfl rfl ?_
 refine aa ?_
 refine gd (H:=ah.empty) rfl (iz gI rfl rfl rfl rfl rfl) ?_
 rintro _ H2 ⟨b1,rfl,hS3⟩
 refine gd (H:=H2) rfl (iz hS3 rfl rfl rfl rfl rfl) ?_
 rintro _ H5 ⟨b4,rfl,hS6⟩
 refine ab ?_
 refine ck ?_
 refine iN 0 hS6 ?_
 refine ix 0 hS6 (Row.av gK.cells a1.runs) ?_
 have hL7:=a1.runs.lk
 refine gG a1.runs ?_
 refine g9 ((a1.runs.l.length:Int)) (8) (fun h8=>?_) (fun h8=>?_)
 refine bD ?_
 refine au ?_
 exact xA (iv 3) ⟨(3),c9,rfl⟩
 refine oV ?_
 refine iN 0 hS6 ?_
 refine ix 0 hS6 (Row.av gK.cells a1.runs) ?_
 have hS9:=Sep.pick hS6 [0,1] 2 cK cK
 refine gC (H:=H5) (args:=[Row.av gK.cells a1.runs,.gL 51 [] []]) (p:=[]) (r:=[]) rfl rfl rfl rfl rfl rfl rfl (Q8 (Row.j6 a1.runs) (.obj (.ptr b4 0 0 0) (gp.cells a1)::.obj (.ptr b1 0 0 0) (fh.cells a0)::[]) hS9) ?_
 rintro _ H10 ⟨r13,hc12,hS11,rfl⟩
 cases r13
 refine ay ?_
 refine ck ?_
 refine ix 1 hS11 (.agg (fh.cells a0)) ?_
 refine iN 0 hS11 ?_
 refine ix 0 hS11 (Row.av fK.cells a1.fV) ?_
 refine oC (t52 a0 a1.fV) ?_
 rintro _ ⟨r15,⟨hc14,hc14r⟩,rfl⟩
 have hSC:=hc14r
 refine bP ?_
 refine iJ (r15) (0) (fun h16=>?_) (fun h16=>?_)
 refine aH ?_
 exact xA (iv r15) ⟨(r15),c9,rfl⟩
 refine az ?_
 refine ck ?_
 refine iN 0 hS11 ?_
 refine ix 0 hS11 (iv a1.um) ?_
 refine oC (t53 (a1.um) (86399)) ?_
 rintro _ ⟨r18,hc17,rfl⟩
 have hI:=hc17
 cases r18
 refine bz ?_
 exact xA (iv 1) ⟨(1),c9,rfl⟩
 have hIn:=hI.1 rfl
 iterate 2 refine oV ?_
 refine iN 0 hS11 ?_
 refine ix 0 hS11 (Row.av gK.cells a1.runs) ?_
 refine fq rfl (fun _=>pf rfl rfl (ph rfl rfl)) ?_
 have hS19:=Sep.pick hS11 [1,0] 2 cK cK
 refine gC (H:=H10) (args:=[Row.av gK.cells a1.runs,.gL 54 [] [(.ptr b1 0 0 0),(.ptr b4 0 0 0)]]) (p:=[]) (r:=[]) rfl rfl rfl rfl rfl rfl rfl (NB (Row.j6 a1.runs) b1 a0 b4 a1 ([]) hS19) ?_
 rintro _ H20 ⟨r23,hc22,hS21,rfl⟩
 have hMy:=hc22
 cases r23
 refine ay ?_
 refine ck ?_
 refine iN 1 hS21 ?_
 refine ix 1 hS21 (Row.av gK.cells a1.runs) ?_
 have hL24:=a1.runs.lk
 refine gG a1.runs ?_
 refine aC ?_
 have hS25:=Sep.pick hS21 [1] 2 cK cK
 have hNk26:=a1.runs.lk
 refine fC (a1.runs.l.length) (fun jI e h=>∃ H27:ah,(∀ (i j:Nat) (h:j<a1.runs.l.length) (hij:i<j),j<jI→(a1.runs.l[i]).name.l≠(a1.runs.l[j]).name.l)∧Sep H27 (.obj (.ptr b4 0 0 0) (gp.cells a1)::[])∧proj [3,35,36,37] e=[(3,(.ptr b4 0 0 0)),(35,Row.av gK.cells a1.runs),(36,iv (a1.runs.l.length:Int)),(37,iv (jI:Int))]∧{ h with aq:=fU [3,35,36,37] h.aq } = { H27 with aq:=[] }) ?_ (k0:=0) cO ⟨H20,(by (intro i j h hij h2; omega)),hS25,rfl,rfl⟩
 rintro jI e h hkk26 ⟨H27,hNe,hS28,he,hh⟩
 refine gm he hh ?_
 clear he hh
 refine aa ?_
 refine gl ((jI:Int)) ((a1.runs.l.length:Int)) (fun h29=>?_) (fun h29=>?_)
 refine bU ?_
 have hx30:jI<a1.runs.l.length:=by omega
 refine iU jI a1.runs hx30 ?_
 generalize hqx31:a1.runs.l[jI]=x31
 refine oV ?_
 refine gd (H:=H27) rfl (uM hS28 rfl rfl) ?_
 rintro _ H33 ⟨b32,rfl,hS34⟩
 refine oV ?_
 refine yq 0 hS34 (.agg (gK.cells x31)) fun H35 hS36=>?_
 refine oN ?_
 refine aa ?_
 refine iN 1 hS36 ?_
 refine ix 1 hS36 (Row.av gK.cells a1.runs) ?_
 refine oV ?_
 have hx37:jI≤a1.runs.l.length:=by omega
 refine fq rfl (fun _=>Aw (k:=jI) (r:=a1.runs) (enc:=gK.cells) (n:=5) rfl rfl rfl rfl rfl rfl hx37 (fun _=>rfl)) ?_
 refine fq rfl (fun _=>pf rfl rfl (ph rfl rfl)) ?_
 have hS38:=Sep.pick hS36 [0,1] 2 cK cK
 refine gC (H:=H35) (args:=[Row.av gK.cells (Row.take a1.runs jI),.gL 56 [] [(.ptr b32 0 0 0)]]) (p:=[]) (r:=[]) rfl rfl rfl rfl rfl rfl rfl (Q1 (Row.j6 (Row.take a1.runs jI)) b32 x31 (.obj (.ptr b4 0 0 0) (gp.cells a1)::[]) hS38) ?_
 rintro _ H39 ⟨r42,hc41,hS40,rfl⟩
 have hCt:=hc41
 cases r42
 refine bN ?_
 refine gy ((jI:Int)) (1) ?_
 refine ab ?_
 have hS43:=Sep.pick hS40 [1] 2 cK cK
 exact ⟨by omega,H39,(by exact Gf cP hNe (hCt.2 rfl)),hS43,rfl,rfl⟩
 refine aZ ?_
 exact xA (iv 4) ⟨(4),c9,rfl⟩
 refine aN ?_
 exact xA (iv 0) ⟨(0),c9,rfl⟩
 refine au ?_
 exact xA (iv 1) ⟨(1),c9,rfl⟩
 refine au ?_
 exact xA (iv 3) ⟨(3),c9,rfl⟩
theorem UK:FT 33=some HL:=by kernel_rfl
theorem Qx:aT 33=none:=by kernel_rfl
def P33 (_a0:fk) (_a1:gp) (_a2:Int) (v:AV):Prop:=∃ r0:fX,∃ r1:Bool,((0≤_a2→_a2<(_a1.runs.l.length:Int)→r0=iM _a0.p _a1 _a2.toNat))∧v=.fz [.agg (fX.cells r0),.bool r1]
theorem t33 (a0:fk) (a1:gp) (a2:Int)  (h:ah):∃ v,fj cfg FT aT false 33 [.ip (fk.cells a0) 0 false,.agg (gp.cells a1),iv a2] h v h∧P33 a0 a1 a2 v:=by
 refine fS Qx UK rfl rfl ?_
 refine ae ?_
 refine ak ?_
 refine gl (a2) (0) (fun h1=>?_) (fun h1=>?_)
 refine bi ?_
 refine bp ?_
 exact xF (.fz [.agg [.str ([]),iv 0,iv 0,iv 0,iv 0],.bool false]) ⟨(⟨(⟨[],by decide⟩:kO),(0),(⟨(0),(0)⟩:bY),(0)⟩:fX),false,de,rfl⟩
 iterate 4 refine oV ?_
 have hL2:=a1.runs.lk
 refine gG a1.runs ?_
 refine jg (a2) ((a1.runs.l.length:Int)) (fun h3=>?_) (fun h3=>?_)
 refine bp ?_
 exact xF (.fz [.agg [.str ([]),iv 0,iv 0,iv 0,iv 0],.bool false]) ⟨(⟨(⟨[],by decide⟩:kO),(0),(⟨(0),(0)⟩:bY),(0)⟩:fX),false,de,rfl⟩
 refine ay ?_
 refine aB ?_
 have hx4:(a2).toNat<a1.runs.l.length:=by omega
 refine fq rfl (fun _=>gN (n:=a2) (r:=a1.runs) (enc:=gK.cells) rfl rfl rfl rfl rfl cO hx4 rfl) ?_
 generalize hqx5:a1.runs.l[(a2).toNat]=x5
 refine aX ?_
 refine aB ?_
 refine oC (t86 a0 (x5.from_)) ?_
 rintro _ ⟨r7,r8,hc6,rfl⟩
 have hA:=hc6.1; have hA0:=hc6.2
 cases r8
 refine aO ?_
 refine be ?_
 refine aO ?_
 refine bb ?_
 refine oC (t82 a0 (r7.elem)) ?_
 rintro _ ⟨r10,hc9,rfl⟩
 have hK:=hc9
 refine gA (r10) (4) (fun h11=>?_) (fun h11=>?_)
 refine aR ?_
 exact xF (.fz [.agg [.str (x5.name.l),iv x5.fV,iv r7.elem,iv r7.en,iv 0],.bool true]) ⟨(⟨x5.name,(x5.fV),r7,(0)⟩:fX),true,de,rfl⟩
 refine bF ?_
 exact xF (.fz [.agg [.str (x5.name.l),iv x5.fV,iv r7.elem,iv r7.en,iv x5.left],.bool true]) ⟨(⟨x5.name,(x5.fV),r7,(x5.left)⟩:fX),true,de,rfl⟩
 refine aO ?_
 refine be ?_
 refine aO ?_
 refine bb ?_
 refine oC (t82 a0 (r7.elem)) ?_
 rintro _ ⟨r13,hc12,rfl⟩
 have hK:=hc12
 refine gA (r13) (4) (fun h14=>?_) (fun h14=>?_)
 refine aR ?_
 exact xF (.fz [.agg [.str (x5.name.l),iv x5.fV,iv r7.elem,iv r7.en,iv 0],.bool true]) ⟨(⟨x5.name,(x5.fV),r7,(0)⟩:fX),true,de,rfl⟩
 refine bF ?_
 exact xF (.fz [.agg [.str (x5.name.l),iv x5.fV,iv r7.elem,iv r7.en,iv x5.left],.bool true]) ⟨(⟨x5.name,(x5.fV),r7,(x5.left)⟩:fX),true,de,rfl⟩
theorem Xe:FT 25=some GU:=by kernel_rfl
theorem Oy:aT 25=none:=by kernel_rfl
def P25 (_a0:fk) (_a1:gp) (v:AV):Prop:=∃ r0:Int,((r0=0→(∀ i,i < _a1.runs.l.length→∃ b:fJ,rs 59 [.ip (fk.cells _a0) 0 false,.int .i64 (rZ _a1 i),.agg (iM _a0.p _a1 i).cells]=.fz [.agg b.cells,.int .i64 0])∧(∀ i j,i<j→j < _a1.runs.l.length→∀ x∈kR _a0.p [(iM _a0.p _a1 i).at_],x∉kR _a0.p [(iM _a0.p _a1 j).at_])))∧v=iv r0
theorem t25 (a0:fk) (a1:gp) (q1:∀ r∈a1.runs.l,0≤r.fV∧r.fV<(a1.fV.l.length:Int)) (h:ah):∃ v,fj cfg FT aT false 25 [.ip (fk.cells a0) 0 false,.agg (gp.cells a1)] h v h∧P25 a0 a1 v:=by
 refine fS Oy Xe rfl rfl ?_
 refine aQ ?_
 refine aa ?_
 refine gd rfl (iH gI) ?_
 rintro _ H2 ⟨b1,rfl,hS3⟩
 refine aw ?_
 refine aW ?_
 have hL4:=a1.runs.lk
 refine gG a1.runs ?_
 refine aC ?_
 have hNk5:=a1.runs.lk
 refine fC (a1.runs.l.length) (fun k5 e h=>∃ l6:List (Int×Bool),∃ n7:Int,∃ H8:ah,(∀ i,i<k5→∃ b:fJ,rs 59 [.ip (fk.cells a0) 0 false,.int .i64 (rZ a1 i),.agg (iM a0.p a1 i).cells]=.fz [.agg b.cells,.int .i64 0])∧(Tk (fun i=>kR a0.p [(iM a0.p a1 i).at_]) k5 l6 n7)∧Sep H8 (.map (.hm b1) (gn iK bK l6)::[])∧proj [0,3,5,6,17,18,19] e=[(0,.ip (fk.cells a0) 0 false),(3,.la 3 0),(5,iv n7),(6,(.hm b1)),(17,Row.av gK.cells a1.runs),(18,iv (a1.runs.l.length:Int)),(19,iv (k5:Int))]∧{ h with aq:=fU [0,3,5,6,17,18,19] h.aq } = { H8 with aq:=[(3,(gp.cells a1))] }) ?_ (k0:=0) cO ⟨([]),(0),H2,(by (intro i h; omega)),(by exact Tk.zero _),hS3,rfl,rfl⟩
 rintro k5 e h hkk5 ⟨l6,n7,H8,hQ,hB,hS9,he,hh⟩
 refine gm he hh ?_
 clear he hh
 refine aa ?_
 refine gl ((k5:Int)) ((a1.runs.l.length:Int)) (fun h10=>?_) (fun h10=>?_)
 refine bU ?_
 have hx11:k5<a1.runs.l.length:=by omega
 refine iU k5 a1.runs hx11 ?_
 generalize hqx12:a1.runs.l[k5]=x12
 have hinx12:x12∈a1.runs.l:=by rw [← hqx12]; exact List.getElem_mem _
 have hsx12:=q1 x12 hinx12
 refine bM ?_
 refine aB ?_
 refine oC (t33 a0 a1 ((k5:Int))) ?_
 rintro _ ⟨r14,r15,hc13,rfl⟩
 have hTr:=hc13
 cases r15
 refine aO ?_
 refine bR ?_
 have hx16:(x12.fV).toNat<a1.fV.l.length:=by omega
 refine ga rfl rfl (fun _=>gN (n:=x12.fV) (r:=a1.fV) (enc:=fK.cells) rfl rfl rfl rfl rfl cO hx16 rfl) ?_
 generalize hqx17:a1.fV.l[(x12.fV).toNat]=x17
 iterate 3 refine rV ?_
 refine rC (t59 a0 (x17.len) r14) ?_
 rintro _ ⟨r19,r20,⟨hc18,hc18r⟩,rfl⟩
 have hSt:=hc18r; have hStt:=hc18
 refine br ?_
 refine bh ?_
 refine iJ (r20) (0) (fun h21=>?_) (fun h21=>?_)
 refine aH ?_
 exact xA (iv r20) ⟨(r20),dV,rfl⟩
 refine bE ?_
 refine oC (t60 a0 r19 cG) ?_
 rintro _ ⟨r23,hc22,rfl⟩
 have hLie:=hc22
 have hL24:=r23.lk
 refine gG r23 ?_
 refine aC ?_
 have hNk25:=r23.lk
 refine fC (r23.l.length) (fun iI e h=>∃ l26:List (Int×Bool),∃ n27:Int,∃ H28:ah,(ri (fun i=>kR a0.p [(iM a0.p a1 i).at_]) k5 (r23.l.take iI) l26 n27)∧Sep H28 (.map (.hm b1) (gn iK bK l26)::[])∧proj [0,3,5,6,17,18,19,49,50,51] e=[(0,.ip (fk.cells a0) 0 false),(3,.la 3 0),(5,iv n27),(6,(.hm b1)),(17,Row.av gK.cells a1.runs),(18,iv (a1.runs.l.length:Int)),(19,iv (k5:Int)),(49,Row.av fu r23),(50,iv (r23.l.length:Int)),(51,iv (iI:Int))]∧{ h with aq:=fU [0,3,5,6,17,18,19,49,50,51] h.aq } = { H28 with aq:=[(3,(gp.cells a1))] }) ?_ (k0:=0) cO ⟨(l6),(n7),H8,(by exact Tk.start hB _),hS9,rfl,rfl⟩
 rintro iI e h hkk25 ⟨l26,n27,H28,hB2,hS29,he,hh⟩
 refine gm he hh ?_
 clear he hh
 refine aa ?_
 refine gl ((iI:Int)) ((r23.l.length:Int)) (fun h30=>?_) (fun h30=>?_)
 refine bI ?_
 have hx31:iI<r23.l.length:=by omega
 refine iU iI r23 hx31 ?_
 generalize hqx32:r23.l[iI]=x32
 refine aw ?_
 refine aW ?_
 refine jG (H:=H28) (i:=0) (ek:=iK) (ev:=bK) (l:=l26) (x32) rfl rfl hS29 rfl rfl rfl rfl rfl rfl rfl rfl lq (fun y33 h34=>?_) (fun h35=>?_)
 cases y33
 exact absurd (hB2.tk.val _ (kU h34)) ef
 refine aA ?_
 refine qg ?_
 refine ab ?_
 refine bC ?_
 refine gd rfl (jS (H:=H28) (i:=0) (ek:=iK) (ev:=bK) (x32) true hS29 rfl rfl rfl rfl rfl rfl lq) ?_
 rintro _ H36 ⟨rfl,hS37⟩
 refine bO ?_
 refine gy ((iI:Int)) (1) ?_
 refine ab ?_
 exact ⟨by omega,((put (x32) true l26)),(18),H36,dY,hS37,rfl,rfl⟩
 refine az ?_
 refine bC ?_
 refine gd rfl (jS (H:=H28) (i:=0) (ek:=iK) (ev:=bK) (x32) true hS29 rfl rfl rfl rfl rfl rfl lq) ?_
 rintro _ H38 ⟨rfl,hS39⟩
 refine bO ?_
 refine gy ((iI:Int)) (1) ?_
 refine ab ?_
 exact ⟨by omega,((put (x32) true l26)),(n27),H38,dY,hS39,rfl,rfl⟩
 refine aj ?_
 refine qg ?_
 refine gy ((k5:Int)) (1) ?_
 refine ab ?_
 exact ⟨by omega,(l26),(n27),H28,eW,e7,hS29,rfl,rfl⟩
 refine aO ?_
 refine bR ?_
 have hx40:(x12.fV).toNat<a1.fV.l.length:=by omega
 refine ga rfl rfl (fun _=>gN (n:=x12.fV) (r:=a1.fV) (enc:=fK.cells) rfl rfl rfl rfl rfl cO hx40 rfl) ?_
 generalize hqx41:a1.fV.l[(x12.fV).toNat]=x41
 iterate 3 refine rV ?_
 refine rC (t59 a0 (x41.len) r14) ?_
 rintro _ ⟨r43,r44,⟨hc42,hc42r⟩,rfl⟩
 have hSt:=hc42r; have hStt:=hc42
 refine br ?_
 refine bh ?_
 refine iJ (r44) (0) (fun h45=>?_) (fun h45=>?_)
 refine aH ?_
 exact xA (iv r44) ⟨(r44),dV,rfl⟩
 refine bE ?_
 refine oC (t60 a0 r43 cG) ?_
 rintro _ ⟨r47,hc46,rfl⟩
 have hLie:=hc46
 have hL48:=r47.lk
 refine gG r47 ?_
 refine aC ?_
 have hNk49:=r47.lk
 refine fC (r47.l.length) (fun pP e h=>∃ l50:List (Int×Bool),∃ n51:Int,∃ H52:ah,(ri (fun i=>kR a0.p [(iM a0.p a1 i).at_]) k5 (r47.l.take pP) l50 n51)∧Sep H52 (.map (.hm b1) (gn iK bK l50)::[])∧proj [0,3,5,6,17,18,19,49,50,51] e=[(0,.ip (fk.cells a0) 0 false),(3,.la 3 0),(5,iv n51),(6,(.hm b1)),(17,Row.av gK.cells a1.runs),(18,iv (a1.runs.l.length:Int)),(19,iv (k5:Int)),(49,Row.av fu r47),(50,iv (r47.l.length:Int)),(51,iv (pP:Int))]∧{ h with aq:=fU [0,3,5,6,17,18,19,49,50,51] h.aq } = { H52 with aq:=[(3,(gp.cells a1))] }) ?_ (k0:=0) cO ⟨(l6),(n7),H8,(by exact Tk.start hB _),hS9,rfl,rfl⟩
 rintro pP e h hkk49 ⟨l50,n51,H52,hB2,hS53,he,hh⟩
 refine gm he hh ?_
 clear he hh
 refine aa ?_
 refine gl ((pP:Int)) ((r47.l.length:Int)) (fun h54=>?_) (fun h54=>?_)
 refine bI ?_
 have hx55:pP<r47.l.length:=by omega
 refine iU pP r47 hx55 ?_
 generalize hqx56:r47.l[pP]=x56
 refine aw ?_
 refine aW ?_
 refine jG (H:=H52) (i:=0) (ek:=iK) (ev:=bK) (l:=l50) (x56) rfl rfl hS53 rfl rfl rfl rfl rfl rfl rfl rfl lq (fun y57 h58=>?_) (fun h59=>?_)
 cases y57
 exact absurd (hB2.tk.val _ (kU h58)) ef
 refine aA ?_
 refine qg ?_
 refine ab ?_
 refine bC ?_
 refine gd rfl (jS (H:=H52) (i:=0) (ek:=iK) (ev:=bK) (x56) true hS53 rfl rfl rfl rfl rfl rfl lq) ?_
 rintro _ H60 ⟨rfl,hS61⟩
 refine bO ?_
 refine gy ((pP:Int)) (1) ?_
 refine ab ?_
 exact ⟨by omega,((put (x56) true l50)),(18),H60,dY,hS61,rfl,rfl⟩
 refine az ?_
 refine bC ?_
 refine gd rfl (jS (H:=H52) (i:=0) (ek:=iK) (ev:=bK) (x56) true hS53 rfl rfl rfl rfl rfl rfl lq) ?_
 rintro _ H62 ⟨rfl,hS63⟩
 refine bO ?_
 refine gy ((pP:Int)) (1) ?_
 refine ab ?_
 exact ⟨by omega,((put (x56) true l50)),(n51),H62,dY,hS63,rfl,rfl⟩
 refine aj ?_
 refine qg ?_
 refine gy ((k5:Int)) (1) ?_
 refine ab ?_
 exact ⟨by omega,(l50),(n51),H52,eW,e7,hS53,rfl,rfl⟩
 refine aj ?_
 refine bG ?_
 exact xA (iv n7) ⟨(n7),dV,rfl⟩
theorem Nm:FT 138=some C7:=by kernel_rfl
theorem MX:aT 138=none:=by kernel_rfl
def Y1 (_a0:gp) (_a1:Int) (_a2:Int) (v:AV):Prop:=∃ r0:Row iZ,∃ r1:Bool,((((r1=true→0≤_a1∧_a1<(_a0.runs.l.length:Int)∧0≤_a2∧(∀ h : _a1.toNat < _a0.runs.l.length,r0=(_a0.runs.l[_a1.toNat]).gW)∧_a2≤(r0.l.length:Int))∧(r1=false→Bx _a0 _a1 _a2))∧r0.l.length≤9223372036854775807))∧v=.fz [Row.av iZ.cells r0,.bool r1]
theorem t138 (a0:gp) (a1:Int) (a2:Int)  (h:ah):∃ v,fj cfg FT aT false 138 [.agg (gp.cells a0),iv a1,iv a2] h v h∧Y1 a0 a1 a2 v:=by
 refine fS MX Nm rfl rfl ?_
 refine ae ?_
 refine ak ?_
 refine gl (a1) (0) (fun h1=>?_) (fun h1=>?_)
 refine bi ?_
 refine aP ?_
 refine bX ?_
 refine cu ?_
 exact xF (.fz [.sl [] .nil,.bool false]) ⟨(⟨[],.nil,Nat.zero_le _,rfl,fun _=>rfl⟩:Row iZ),false,cY,rfl⟩
 iterate 4 refine oV ?_
 have hL2:=a0.runs.lk
 refine gG a0.runs ?_
 refine jg (a1) ((a0.runs.l.length:Int)) (fun h3=>?_) (fun h3=>?_)
 refine aP ?_
 refine bX ?_
 refine cu ?_
 exact xF (.fz [.sl [] .nil,.bool false]) ⟨(⟨[],.nil,Nat.zero_le _,rfl,fun _=>rfl⟩:Row iZ),false,cY,rfl⟩
 iterate 3 refine oV ?_
 refine gl (a2) (0) (fun h4=>?_) (fun h4=>?_)
 refine bX ?_
 refine cu ?_
 exact xF (.fz [.sl [] .nil,.bool false]) ⟨(⟨[],.nil,Nat.zero_le _,rfl,fun _=>rfl⟩:Row iZ),false,cY,rfl⟩
 iterate 6 refine oV ?_
 have hx5:(a1).toNat<a0.runs.l.length:=by omega
 refine fq rfl (fun _=>gN (n:=a1) (r:=a0.runs) (enc:=gK.cells) rfl rfl rfl rfl rfl cO hx5 rfl) ?_
 generalize hqx6:a0.runs.l[(a1).toNat]=x6
 iterate 2 refine oV ?_
 have hL7:=x6.gW.lk
 refine gG x6.gW ?_
 refine g9 (a2) ((x6.gW.l.length:Int)) (fun h8=>?_) (fun h8=>?_)
 refine cu ?_
 exact xF (.fz [.sl [] .nil,.bool false]) ⟨(⟨[],.nil,Nat.zero_le _,rfl,fun _=>rfl⟩:Row iZ),false,cY,rfl⟩
 refine ay ?_
 refine aB ?_
 have hx9:(a1).toNat<a0.runs.l.length:=by omega
 refine fq rfl (fun _=>gN (n:=a1) (r:=a0.runs) (enc:=gK.cells) rfl rfl rfl rfl rfl cO hx9 rfl) ?_
 rw [hqx6]
 refine bo ?_
 exact xF (.fz [Row.av iZ.cells x6.gW,.bool true]) ⟨x6.gW,true,cY,rfl⟩
theorem NN:FT 139=some DU:=by kernel_rfl
theorem Nj:aT 139=none:=by kernel_rfl
def aay (_a0:fk) (_a1:gp) (_a2:Int) (_a3:Int) (v:AV):Prop:=∃ r0:bY,∃ r1:Bool,(((r1=true→lC false (oT _a0.p.signals.l) (fun x=>look x _a0.next) _a1 _a2 _a3=some r0)∧(r1=false→lC false (oT _a0.p.signals.l) (fun x=>look x _a0.next) _a1 _a2 _a3=none)))∧v=.fz [.agg (bY.cells r0),.bool r1]
theorem t139 (a0:fk) (a1:gp) (a2:Int) (a3:Int) (q1:0≤a2) (q2:a2<(a1.runs.l.length:Int)) (q3:0≤a3) (q4:∀ h:a2.toNat<a1.runs.l.length,a3≤((a1.runs.l[a2.toNat]).gW.l.length:Int)) (h:ah):∃ v,fj cfg FT aT false 139 [.ip (fk.cells a0) 0 false,.agg (gp.cells a1),iv a2,iv a3] h v h∧aay a0 a1 a2 a3 v:=by
 refine fS Nj NN rfl rfl ?_
 refine ae ?_
 refine ak ?_
 refine gA (a3) (0) (fun h1=>?_) (fun h1=>?_)
 refine aA ?_
 refine be ?_
 have hx2:(a2).toNat<a1.runs.l.length:=by omega
 refine fq rfl (fun _=>gN (n:=a2) (r:=a1.runs) (enc:=gK.cells) rfl rfl rfl rfl rfl cO hx2 rfl) ?_
 generalize hqx3:a1.runs.l[(a2).toNat]=x3
 have hinx3:x3∈a1.runs.l:=by rw [← hqx3]; exact List.getElem_mem _
 have hsx3:=q4 cP; rw [hqx3] at hsx3; have hkx3:=x3.gW.ok; simp only [ns] at hkx3
 iterate 2 refine oV ?_
 refine oC (t86 a0 (x3.from_)) ?_
 rintro _ ⟨r5,r6,hc4,rfl⟩
 have hA:=hc4.1; have hA0:=hc4.2
 cases r6
 refine bo ?_
 exact xF (.fz [.agg (bY.cells r5),.bool false]) ⟨r5,false,cI,rfl⟩
 refine bo ?_
 exact xF (.fz [.agg (bY.cells r5),.bool true]) ⟨r5,true,cI,rfl⟩
 refine az ?_
 refine bb ?_
 have hx7:(a2).toNat<a1.runs.l.length:=by omega
 refine fq rfl (fun _=>gN (n:=a2) (r:=a1.runs) (enc:=gK.cells) rfl rfl rfl rfl rfl cO hx7 rfl) ?_
 generalize hqx8:a1.runs.l[(a2).toNat]=x8
 have hinx8:x8∈a1.runs.l:=by rw [← hqx8]; exact List.getElem_mem _
 have hsx8:=q4 cP; rw [hqx8] at hsx8; have hkx8:=x8.gW.ok; simp only [ns] at hkx8
 iterate 3 refine oV ?_
 refine lY (a3) (1) ?_
 have hx9:(a3 - 1).toNat<x8.gW.l.length:=by omega
 refine fq rfl (fun _=>gN (n:=a3 - 1) (r:=x8.gW) (enc:=iZ.cells) rfl rfl rfl rfl rfl cO hx9 rfl) ?_
 generalize hqx10:x8.gW.l[(a3 - 1).toNat]=x10
 refine aX ?_
 refine ae ?_
 refine cD ?_
 refine gA (x10.end_) (1) (fun h11=>?_) (fun h11=>?_)
 refine a7 ?_
 refine aB ?_
 refine oC (t86 a0 (x10.to)) ?_
 rintro _ ⟨r13,r14,hc12,rfl⟩
 have hA:=hc12.1; have hA0:=hc12.2
 cases r14
 refine bo ?_
 exact xF (.fz [.agg (bY.cells r13),.bool false]) ⟨r13,false,cI,rfl⟩
 refine bo ?_
 exact xF (.fz [.agg (bY.cells r13),.bool true]) ⟨r13,true,cI,rfl⟩
 refine bf ?_
 refine gA (x10.end_) (3) (fun h15=>?_) (fun h15=>?_)
 refine a7 ?_
 refine be ?_
 refine oC (t78 a0 (⟨(x10.to),(0)⟩:bY)) ?_
 rintro _ ⟨r17,r18,hc16,rfl⟩
 have hN:=hc16
 cases r18
 refine aO ?_
 refine be ?_
 refine oC (t78 a0 (⟨(x10.to),(1)⟩:bY)) ?_
 rintro _ ⟨r20,r21,hc19,rfl⟩
 have hN:=hc19
 cases r21
 refine aO ?_
 refine bb ?_
 refine bA ?_
 refine aB ?_
 refine aP ?_
 refine bk ?_
 exact xF (.fz [.agg [iv x10.to,iv 1],.bool false]) ⟨(⟨(x10.to),(1)⟩:bY),false,cI,rfl⟩
 refine cy ?_
 iterate 4 refine oV ?_
 refine a7 ?_
 refine ai ?_
 refine bo ?_
 exact xF (.fz [.agg [iv x10.to,iv 0],.bool true]) ⟨(⟨(x10.to),(0)⟩:bY),true,cI,rfl⟩
 refine aO ?_
 refine be ?_
 refine oC (t78 a0 (⟨(x10.to),(1)⟩:bY)) ?_
 rintro _ ⟨r23,r24,hc22,rfl⟩
 have hN:=hc22
 cases r24
 refine aO ?_
 refine bb ?_
 refine oS ?_
 refine ay ?_
 refine be ?_
 refine aO ?_
 refine qr ?_
 exact xF (.fz [.agg [iv x10.to,iv 1],.bool true]) ⟨(⟨(x10.to),(1)⟩:bY),true,cI,rfl⟩
 refine aO ?_
 refine bb ?_
 refine oS ?_
 refine ay ?_
 refine be ?_
 refine aO ?_
 refine qr ?_
 exact xF (.fz [.agg [iv x10.to,iv 1],.bool false]) ⟨(⟨(x10.to),(1)⟩:bY),false,cI,rfl⟩
 refine oV ?_
 refine bF ?_
 exact xF (.fz [.agg [iv 0,iv 0],.bool false]) ⟨(⟨(0),(0)⟩:bY),false,cI,rfl⟩
theorem UJ:FT 61=some Hq:=by kernel_rfl
theorem QS:aT 61=none:=by kernel_rfl
def P61 (_a0:fk) (_a1:gp) (_a2:Int) (_a3:Int) (v:AV):Prop:=∃ r0:Int,(((0≤r0→0≤_a2∧_a2<(_a1.runs.l.length:Int)∧0≤_a3∧∀ h : _a2.toNat < _a1.runs.l.length,_a3<((_a1.runs.l[_a2.toNat]).gW.l.length:Int))∧r0=oz false (oT _a0.p.signals.l) (fun x=>look x _a0.next) (mV _a0.p) (fun x=>(look x _a0.reads).getD (-1)) _a1 _a2 _a3))∧v=iv r0
theorem t61 (a0:fk) (a1:gp) (a2:Int) (a3:Int)  (h:ah):∃ v,fj cfg FT aT false 61 [.ip (fk.cells a0) 0 false,.agg (gp.cells a1),iv a2,iv a3] h v h∧P61 a0 a1 a2 a3 v:=by
 refine fS QS UJ rfl rfl ?_
 refine qq (qg (oV ?_))
 refine oV ?_
 refine oN (qq (qg (oV ?_)))
 iterate 2 refine oV ?_
 refine oC (t138 a1 (a2) (a3)) ?_
 rintro _ ⟨r2,r3,hc1,rfl⟩
 have hL:=hc1.1; have hLz:=hc1.2
 cases r3
 iterate 5 refine oV ?_
 refine oN (qs (qq (qg (oV ?_))))
 iterate 2 refine oV ?_
 iterate 4 refine oS ?_
 refine oV ?_
 refine oN (qT ?_)
 refine qq (qg (oV ?_))
 refine oN (qr ?_)
 exact ⟨iv (-1),rfl,iv (-1),rfl,(-1),(by refine C6 ?_; first | exact (qj (EJ (hL.2 rfl))).symm | exact (Ft (by omega) rfl (by rw [← hLL (by omega)]; omega)).symm | exact (qj (hG.2 rfl)).symm | (rw [Dv (hG.1 rfl) (.inl rfl) (by omega) rfl (by rw [← hLL (by omega)]; omega) rfl]; simp_all [DA]; done)),rfl⟩
 have hLt:=hL.1 rfl; have hLL:=hLt.2.2.2.1
 iterate 5 refine oV ?_
 refine oN (qs (qq (qg (oV ?_))))
 iterate 4 refine oV ?_
 have hL4:=r2.lk
 refine fq rfl (fun _=>B3 (r:=r2) (enc:=iZ.cells) rfl rfl rfl rfl rfl rfl) ?_
 refine gA (a3) ((r2.l.length:Int)) (fun h5=>?_) (fun h5=>?_)
 refine oV ?_
 refine oN (qT ?_)
 refine qq (qg (oV ?_))
 refine oN (qr ?_)
 exact ⟨iv (-1),rfl,iv (-1),rfl,(-1),(by refine C6 ?_; first | exact (qj (EJ (hL.2 rfl))).symm | exact (Ft (by omega) rfl (by rw [← hLL (by omega)]; omega)).symm | exact (qj (hG.2 rfl)).symm | (rw [Dv (hG.1 rfl) (.inl rfl) (by omega) rfl (by rw [← hLL (by omega)]; omega) rfl]; simp_all [DA]; done)),rfl⟩
 refine oV ?_
 refine oN (qF ?_)
 refine qk ?_
 refine w0 [(0,.ip (fk.cells a0) 0 false),(2,iv a2),(3,iv a3),(5,.la 5 0),(9,Row.av iZ.cells r2)] [(5,(gp.cells a1))] ?_
 refine qq (qg (oV ?_))
 iterate 3 refine oV ?_
 refine oC (t139 a0 a1 (a2) (a3) (by first | assumption | omega | (dsimp only [Row.j6]; omega) | (simp<;>omega) | exact hPre (by omega) | exact hPre | (simp_all; done) | (simp_all; omega)) (by first | assumption | omega | (dsimp only [Row.j6]; omega) | (simp<;>omega) | exact hPre (by omega) | exact hPre | (simp_all; done) | (simp_all; omega)) (by first | assumption | omega | (dsimp only [Row.j6]; omega) | (simp<;>omega) | exact hPre (by omega) | exact hPre | (simp_all; done) | (simp_all; omega)) (by first | assumption | omega | (dsimp only [Row.j6]; omega) | (simp<;>omega) | exact hPre (by omega) | exact hPre | (simp_all; done) | (simp_all; omega))) ?_
 rintro _ ⟨r7,r8,hc6,rfl⟩
 have hG:=hc6
 cases r8
 iterate 6 refine oV ?_
 refine oN (qs (qq (qg (oV ?_))))
 iterate 2 refine oV ?_
 iterate 12 refine oS ?_
 refine oV ?_
 refine oN (qT ?_)
 refine qq (qg (oV ?_))
 refine oN (qr ?_)
 exact ⟨iv (-1),rfl,iv (-1),rfl,(-1),(by refine C6 ?_; first | exact (qj (EJ (hL.2 rfl))).symm | exact (Ft (by omega) rfl (by rw [← hLL (by omega)]; omega)).symm | exact (qj (hG.2 rfl)).symm | (rw [Dv (hG.1 rfl) (.inl rfl) (by omega) rfl (by rw [← hLL (by omega)]; omega) rfl]; simp_all [DA]; done)),rfl⟩
 iterate 6 refine oV ?_
 refine oN (qs (qq (qg (oV ?_))))
 iterate 4 refine oV ?_
 have hx9:(a3).toNat<r2.l.length:=by omega
 refine fq rfl (fun _=>gN (n:=a3) (r:=r2) (enc:=iZ.cells) rfl rfl rfl rfl rfl (by omega) hx9 rfl) ?_
 generalize hqx10:r2.l[(a3).toNat]=x10
 refine oV ?_
 refine ik (b:=x10.xW) rfl (fun _=>rfl) (fun h11=>?_) (fun h11=>?_)
 iterate 4 refine oV ?_
 refine oC (t82 a0 (r7.elem)) ?_
 rintro _ ⟨r13,hc12,rfl⟩
 have hK:=hc12
 refine iJ (r13) (1) (fun h14=>?_) (fun h14=>?_)
 iterate 2 refine oV ?_
 refine oN (qT ?_)
 refine qq (qg (oV ?_))
 refine oN (qr ?_)
 exact ⟨iv (-1),rfl,iv (-1),rfl,(-1),(by refine C6 ?_; first | exact (qj (EJ (hL.2 rfl))).symm | exact (Ft (by omega) rfl (by rw [← hLL (by omega)]; omega)).symm | exact (qj (hG.2 rfl)).symm | (rw [Dv (hG.1 rfl) (.inl rfl) (by omega) rfl (by rw [← hLL (by omega)]; omega) rfl]; simp_all [DA]; done)),rfl⟩
 iterate 2 refine oV ?_
 refine oN (qF ?_)
 refine qk ?_
 refine w0 [(0,.ip (fk.cells a0) 0 false),(3,iv a3),(9,Row.av iZ.cells r2),(11,.la 11 0)] [(11,(bY.cells r7))] ?_
 refine qs (qq (qg (oV ?_)))
 refine oV ?_
 have hx15:(a3).toNat<r2.l.length:=by omega
 refine fq rfl (fun _=>gN (n:=a3) (r:=r2) (enc:=iZ.cells) rfl rfl rfl rfl rfl (by omega) hx15 rfl) ?_
 rw [hqx10]
 refine oV ?_
 refine ik (b:=x10.xW) rfl (fun _=>rfl) (fun h17=>?_) (fun h17=>?_)
 refine oN (qT ?_)
 refine qg (oV ?_)
 refine oV ?_
 refine fq rfl (fun _=>gY rfl rfl rfl (nb .i64 (1) (r7.en))) ?_
 iterate 2 refine oV ?_
 refine oN ?_
 refine w0 [(0,.ip (fk.cells a0) 0 false),(11,.la 11 0)] [(11,[iv r7.elem,iv (IntKind.i64.wrap (1 - (r7.en)))])] ?_
 refine qq (qg (oV ?_))
 refine oV ?_
 refine oC (t81 a0 (⟨(r7.elem),(IntKind.i64.wrap (1 - (r7.en)))⟩:bY)) ?_
 rintro _ ⟨r19,hc18,rfl⟩
 have hR:=hc18
 refine oV ?_
 refine oN (qr ?_)
 exact ⟨iv r19,rfl,iv r19,rfl,(r19),(by refine C6 ?_; first | exact (qj (EJ (hL.2 rfl))).symm | exact (Ft (by omega) rfl (by rw [← hLL (by omega)]; omega)).symm | exact (qj (hG.2 rfl)).symm | (rw [Dv (hG.1 rfl) (.inl rfl) (by omega) rfl (by rw [← hLL (by omega)]; omega) rfl]; simp_all [DA]; done)),rfl⟩
 refine oN (qF ?_)
 refine qk ?_
 refine w0 [(0,.ip (fk.cells a0) 0 false),(11,.la 11 0)] [(11,(bY.cells r7))] ?_
 refine qq (qg (oV ?_))
 refine oV ?_
 refine oC (t81 a0 r7) ?_
 rintro _ ⟨r21,hc20,rfl⟩
 have hR:=hc20
 refine oV ?_
 refine oN (qr ?_)
 exact ⟨iv r21,rfl,iv r21,rfl,(r21),(by refine C6 ?_; first | exact (qj (EJ (hL.2 rfl))).symm | exact (Ft (by omega) rfl (by rw [← hLL (by omega)]; omega)).symm | exact (qj (hG.2 rfl)).symm | (rw [Dv (hG.1 rfl) (.inl rfl) (by omega) rfl (by rw [← hLL (by omega)]; omega) rfl]; simp_all [DA]; done)),rfl⟩
 refine oV ?_
 iterate 5 refine oS ?_
 iterate 2 refine oV ?_
 refine oN (qF ?_)
 refine qk ?_
 refine w0 [(0,.ip (fk.cells a0) 0 false),(3,iv a3),(9,Row.av iZ.cells r2),(11,.la 11 0)] [(11,(bY.cells r7))] ?_
 refine qs (qq (qg (oV ?_)))
 refine oV ?_
 have hx22:(a3).toNat<r2.l.length:=by omega
 refine fq rfl (fun _=>gN (n:=a3) (r:=r2) (enc:=iZ.cells) rfl rfl rfl rfl rfl (by omega) hx22 rfl) ?_
 rw [hqx10]
 refine oV ?_
 refine ik (b:=x10.xW) rfl (fun _=>rfl) (fun h24=>?_) (fun h24=>?_)
 refine oN (qT ?_)
 refine qg (oV ?_)
 refine oV ?_
 refine fq rfl (fun _=>gY rfl rfl rfl (nb .i64 (1) (r7.en))) ?_
 iterate 2 refine oV ?_
 refine oN ?_
 refine w0 [(0,.ip (fk.cells a0) 0 false),(11,.la 11 0)] [(11,[iv r7.elem,iv (IntKind.i64.wrap (1 - (r7.en)))])] ?_
 refine qq (qg (oV ?_))
 refine oV ?_
 refine oC (t81 a0 (⟨(r7.elem),(IntKind.i64.wrap (1 - (r7.en)))⟩:bY)) ?_
 rintro _ ⟨r26,hc25,rfl⟩
 have hR:=hc25
 refine oV ?_
 refine oN (qr ?_)
 exact ⟨iv r26,rfl,iv r26,rfl,(r26),(by refine C6 ?_; first | exact (qj (EJ (hL.2 rfl))).symm | exact (Ft (by omega) rfl (by rw [← hLL (by omega)]; omega)).symm | exact (qj (hG.2 rfl)).symm | (rw [Dv (hG.1 rfl) (.inl rfl) (by omega) rfl (by rw [← hLL (by omega)]; omega) rfl]; simp_all [DA]; done)),rfl⟩
 refine oN (qF ?_)
 refine qk ?_
 refine w0 [(0,.ip (fk.cells a0) 0 false),(11,.la 11 0)] [(11,(bY.cells r7))] ?_
 refine qq (qg (oV ?_))
 refine oV ?_
 refine oC (t81 a0 r7) ?_
 rintro _ ⟨r28,hc27,rfl⟩
 have hR:=hc27
 refine oV ?_
 refine oN (qr ?_)
 exact ⟨iv r28,rfl,iv r28,rfl,(r28),(by refine C6 ?_; first | exact (qj (EJ (hL.2 rfl))).symm | exact (Ft (by omega) rfl (by rw [← hLL (by omega)]; omega)).symm | exact (qj (hG.2 rfl)).symm | (rw [Dv (hG.1 rfl) (.inl rfl) (by omega) rfl (by rw [← hLL (by omega)]; omega) rfl]; simp_all [DA]; done)),rfl⟩
theorem Nq:FT 192=some D7:=by kernel_rfl
theorem MT:aT 192=none:=by kernel_rfl
def Zq (_a0:fk) (_a1:Int) (v:AV):Prop:=∃ r0:Int,∃ r1:Bool,(True)∧v=.fz [iv r0,.bool r1]
theorem t192 (a0:fk) (a1:Int)  (h:ah):∃ v,fj cfg FT aT false 192 [.ip (fk.cells a0) 0 false,iv a1] h v h∧Zq a0 a1 v:=by
 refine fS MT Nq rfl rfl ?_
 refine aQ ?_
 refine ae ?_
 refine oC (t86 a0 (a1)) ?_
 rintro _ ⟨r2,r3,hc1,rfl⟩
 have hA:=hc1.1; have hA0:=hc1.2
 cases r3
 refine aO ?_
 refine ai ?_
 refine bo ?_
 exact xF (.fz [iv r2.elem,.bool false]) ⟨(r2.elem),false,trivial,rfl⟩
 refine aO ?_
 refine ai ?_
 refine bo ?_
 exact xF (.fz [iv r2.elem,.bool true]) ⟨(r2.elem),true,trivial,rfl⟩
theorem Ow:FT 140=some Er:=by kernel_rfl
theorem LX:aT 140=none:=by kernel_rfl
def acn (_a0:fk) (_a1:Int) (v:AV):Prop:=∃ r0:Int,(True)∧v=iv r0
theorem t140 (a0:fk) (a1:Int)  (h:ah):∃ v,fj cfg FT aT false 140 [.ip (fk.cells a0) 0 false,iv a1] h v h∧acn a0 a1 v:=by
 refine fS LX Ow rfl rfl ?_
 refine cm ?_
 refine oC (t192 a0 (a1)) ?_
 rintro _ ⟨r2,r3,hc1,rfl⟩
 cases r3
 refine bj ?_
 refine au ?_
 exact xA (iv (-1)) ⟨(-1),trivial,rfl⟩
 refine bj ?_
 refine ay ?_
 refine bG ?_
 exact xA (iv r2) ⟨(r2),trivial,rfl⟩
theorem T5:FT 62=some Iu:=by kernel_rfl
theorem QQ:aT 62=none:=by kernel_rfl
def P62 (_a0:fk) (_a1:gp) (_a2:Int) (_a3:Int) (v:AV):Prop:=∃ r0:Int,(True)∧v=iv r0
theorem t62 (a0:fk) (a1:gp) (a2:Int) (a3:Int)  (h:ah):∃ v,fj cfg FT aT false 62 [.ip (fk.cells a0) 0 false,.agg (gp.cells a1),iv a2,iv a3] h v h∧P62 a0 a1 a2 a3 v:=by
 refine fS QQ T5 rfl rfl ?_
 refine aQ ?_
 refine aB ?_
 refine oC (t138 a1 (a2) (a3)) ?_
 rintro _ ⟨r2,r3,hc1,rfl⟩
 have hL:=hc1.1; have hLz:=hc1.2
 cases r3
 refine bj ?_
 refine au ?_
 exact xA (iv (-1)) ⟨(-1),trivial,rfl⟩
 have hLt:=hL.1 rfl; have hLL:=hLt.2.2.2.1
 refine bj ?_
 refine oV ?_
 refine cz ?_
 refine gA (a3) (0) (fun h4=>?_) (fun h4=>?_)
 refine aA ?_
 refine be ?_
 have hx5:(a2).toNat<a1.runs.l.length:=by omega
 refine fq rfl (fun _=>gN (n:=a2) (r:=a1.runs) (enc:=gK.cells) rfl rfl rfl rfl rfl cO hx5 rfl) ?_
 generalize hqx6:a1.runs.l[(a2).toNat]=x6
 iterate 2 refine oV ?_
 refine oC (t140 a0 (x6.from_)) ?_
 rintro _ ⟨r8,hc7,rfl⟩
 refine af ?_
 exact xA (iv r8) ⟨(r8),trivial,rfl⟩
 refine az ?_
 refine aW ?_
 refine lY (a3) (1) ?_
 have hx9:(a3 - 1).toNat<r2.l.length:=by omega
 refine fq rfl (fun _=>gN (n:=a3 - 1) (r:=r2) (enc:=iZ.cells) rfl rfl rfl rfl rfl cO hx9 rfl) ?_
 generalize hqx10:r2.l[(a3 - 1).toNat]=x10
 refine aX ?_
 refine ae ?_
 refine cD ?_
 refine gA (x10.end_) (1) (fun h11=>?_) (fun h11=>?_)
 refine a7 ?_
 refine aB ?_
 refine oC (t140 a0 (x10.to)) ?_
 rintro _ ⟨r13,hc12,rfl⟩
 refine af ?_
 exact xA (iv r13) ⟨(r13),trivial,rfl⟩
 refine bf ?_
 refine gA (x10.end_) (3) (fun h14=>?_) (fun h14=>?_)
 refine bp ?_
 exact xA (iv x10.to) ⟨(x10.to),trivial,rfl⟩
 refine ay ?_
 refine bu ?_
 exact xA (iv (-1)) ⟨(-1),trivial,rfl⟩
theorem V0:FT 63=some Gl:=by kernel_rfl
theorem OX:aT 63=none:=by kernel_rfl
def P63 (_a0:fP) (_a1:iZ) (v:AV):Prop:=∃ r0:Bool,((r0=true→0 < _a0.steps.l.length))∧v=.bool r0
theorem t63 (a0:fP) (a1:iZ)  (h:ah):∃ v,fj cfg FT aT false 63 [.agg (fP.cells a0),.agg (iZ.cells a1)] h v h∧P63 a0 a1 v:=by
 refine fS OX V0 rfl rfl ?_
 refine ae ?_
 refine am ?_
 refine be ?_
 refine iJ (a0.end_) (a1.end_) (fun h1=>?_) (fun h1=>?_)
 refine bm ?_
 refine au ?_
 exact xA (.bool false) ⟨false,dh,rfl⟩
 iterate 3 refine oV ?_
 have hL2:=a0.steps.lk
 refine gG a0.steps ?_
 refine gA ((a0.steps.l.length:Int)) (0) (fun h3=>?_) (fun h3=>?_)
 refine au ?_
 exact xA (.bool false) ⟨false,dh,rfl⟩
 refine ay ?_
 refine aW ?_
 refine gA (a1.end_) (1) (fun h4=>?_) (fun h4=>?_)
 refine aA ?_
 refine be ?_
 refine gA (a0.to) (a1.to) (fun h5=>?_) (fun h5=>?_)
 refine af ?_
 exact xA (.bool true) ⟨true,dh,rfl⟩
 refine af ?_
 exact xA (.bool false) ⟨false,dh,rfl⟩
 refine az ?_
 refine bV ?_
 refine rV ?_
 have hL6:=a0.steps.lk
 refine yG a0.steps ?_
 have hL7:=a0.steps.lk
 refine OU ((a0.steps.l.length:Int)) (1) ?_
 have hx8:((a0.steps.l.length:Int) - 1).toNat<a0.steps.l.length:=by omega
 refine ga rfl rfl (fun _=>gN (n:=(a0.steps.l.length:Int) - 1) (r:=a0.steps) (enc:=fy.cells) rfl rfl rfl rfl rfl cO hx8 rfl) ?_
 generalize hqx9:a0.steps.l[((a0.steps.l.length:Int) - 1).toNat]=x9
 iterate 4 refine rV ?_
 refine wv (x9.elem) (a1.to) (fun h10=>?_) (fun h10=>?_)
 refine aV ?_
 refine qr ?_
 exact xA (.bool true) ⟨true,dh,rfl⟩
 refine aV ?_
 refine qr ?_
 exact xA (.bool false) ⟨false,dh,rfl⟩
theorem UW:FT 65=some Gh:=by kernel_rfl
theorem PT:aT 65=none:=by kernel_rfl
def P65 (_a0:fk) (_a1:fK) (_a2:Int) (v:AV):Prop:=∃ r0:Bool,(True)∧v=.bool r0
theorem t65 (a0:fk) (a1:fK) (a2:Int) (q1:jb a0.p) (h:ah):∃ v,fj cfg FT aT false 65 [.ip (fk.cells a0) 0 false,.agg (fK.cells a1),iv a2] h v h∧P65 a0 a1 a2 v:=by
 refine fS PT UW rfl rfl ?_
 refine aQ ?_
 refine aW ?_
 refine oC (t82 a0 (a2)) ?_
 rintro _ ⟨r2,hc1,rfl⟩
 have hK:=hc1
 refine cD ?_
 refine gA (r2) (4) (fun h3=>?_) (fun h3=>?_)
 refine au ?_
 exact xA (.bool true) ⟨true,trivial,rfl⟩
 refine bf ?_
 refine gA (r2) (1) (fun h4=>?_) (fun h4=>?_)
 refine a7 ?_
 refine a6 ?_
 refine rC (t136 a0 (a2)) ?_
 rintro _ ⟨r6,hc5,rfl⟩
 iterate 3 refine rV ?_
 refine rC (t32 a0 cG) ?_
 rintro _ ⟨r8,hc7,rfl⟩
 have hPl:=hc7.2.2.2.2.2
 refine rV ?_
 refine ga rfl rfl (fun _=>gY rfl rfl rfl (lQ .i64 (a1.len) (r8.gv))) ?_
 refine wm (r6) (IntKind.i64.wrap (a1.len+(r8.gv))) (fun h9=>?_) (fun h9=>?_)
 refine aV ?_
 refine qr ?_
 exact xA (.bool true) ⟨true,trivial,rfl⟩
 refine aV ?_
 refine qr ?_
 exact xA (.bool false) ⟨false,trivial,rfl⟩
 refine ay ?_
 refine bu ?_
 exact xA (.bool false) ⟨false,trivial,rfl⟩
theorem WH:FT 26=some Io:=by kernel_rfl
theorem Rv:aT 26=none:=by kernel_rfl
def P26 (_a0:fk) (_a1:Row fP) (_a2:gp) (_a3:Int) (_a4:Int) (v:AV):Prop:=∃ r0:Row Int,(True)∧v=Row.av fu r0
theorem t26 (a0:fk) (a1:Row fP) (a2:gp) (a3:Int) (a4:Int) (q1:jb a0.p) (q2:a1.l.length≤64) (h:ah):∃ v,fj cfg FT aT false 26 [.ip (fk.cells a0) 0 false,Row.av fP.cells a1,.agg (gp.cells a2),iv a3,iv a4] h v h∧P26 a0 a1 a2 a3 a4 v:=by
 refine fS Rv WH rfl rfl ?_
 refine aQ ?_
 refine bV ?_
 refine rV ?_
 refine rC (t61 a0 a2 (a3) (a4)) ?_
 rintro _ ⟨r2,hc1,rfl⟩
 have hFd:=hc1.1
 iterate 4 refine rV ?_
 refine rC (t62 a0 a2 (a3) (a4)) ?_
 rintro _ ⟨r4,hc3,rfl⟩
 refine rV ?_
 refine aV ?_
 refine qs ?_
 refine cf ?_
 refine o4 (r2) (0) (fun h5=>?_) (fun h5=>?_)
 refine co ?_
 refine rS ?_
 iterate 2 refine rV ?_
 iterate 10 refine rS ?_
 refine aV ?_
 refine ac ?_
 exact xF (.sl [] .nil) ⟨(⟨[],.nil,Nat.zero_le _,rfl,fun _=>rfl⟩:Row Int),trivial,rfl⟩
 iterate 4 refine rV ?_
 have hx6:(a3).toNat<a2.runs.l.length:=by omega
 refine ga rfl rfl (fun _=>gN (n:=a3) (r:=a2.runs) (enc:=gK.cells) rfl rfl rfl rfl rfl cO hx6 rfl) ?_
 generalize hqx7:a2.runs.l[(a3).toNat]=x7
 have hinx7:x7∈a2.runs.l:=by rw [← hqx7]; exact List.getElem_mem _
 have hlx7:=(hFd cO).2.2.2 cP; rw [hqx7] at hlx7
 iterate 2 refine rV ?_
 refine o4 (x7.fV) (0) (fun h8=>?_) (fun h8=>?_)
 iterate 2 refine rV ?_
 iterate 10 refine rS ?_
 refine aV ?_
 refine ac ?_
 exact xF (.sl [] .nil) ⟨(⟨[],.nil,Nat.zero_le _,rfl,fun _=>rfl⟩:Row Int),trivial,rfl⟩
 iterate 5 refine rV ?_
 have hx9:(a3).toNat<a2.runs.l.length:=by omega
 refine ga rfl rfl (fun _=>gN (n:=a3) (r:=a2.runs) (enc:=gK.cells) rfl rfl rfl rfl rfl cO hx9 rfl) ?_
 rw [hqx7]
 iterate 4 refine rV ?_
 have hL11:=a2.fV.lk
 refine yG a2.fV ?_
 refine wm (x7.fV) ((a2.fV.l.length:Int)) (fun h12=>?_) (fun h12=>?_)
 refine aV ?_
 refine ac ?_
 exact xF (.sl [] .nil) ⟨(⟨[],.nil,Nat.zero_le _,rfl,fun _=>rfl⟩:Row Int),trivial,rfl⟩
 refine bB ?_
 refine bR ?_
 have hx13:(a3).toNat<a2.runs.l.length:=by omega
 refine ga rfl rfl (fun _=>gN (n:=a3) (r:=a2.runs) (enc:=gK.cells) rfl rfl rfl rfl rfl cO hx13 rfl) ?_
 rw [hqx7]
 iterate 2 refine rV ?_
 have hx15:(x7.fV).toNat<a2.fV.l.length:=by omega
 refine ga rfl rfl (fun _=>gN (n:=x7.fV) (r:=a2.fV) (enc:=fK.cells) rfl rfl rfl rfl rfl cO hx15 rfl) ?_
 generalize hqx16:a2.fV.l[(x7.fV).toNat]=x16
 iterate 2 refine rV ?_
 refine aV ?_
 refine aY ?_
 have hL17:=a1.lk
 refine gG a1 ?_
 refine aC ?_
 have hS18:=Sep.iF gI 1
 have hNk19:=a1.lk
 refine fC (a1.l.length) (fun jh e h=>∃ v20:AV,∃ l21:List Int,∃ H22:ah,(l21.length≤0+jh)∧Sep H22 (.sl true true v20 1 (List.map fu l21)::[])∧proj [0,3,4,7,11,12,13,14,60,61,62] e=[(0,.ip (fk.cells a0) 0 false),(3,iv a3),(4,iv a4),(7,.la 7 0),(11,iv r2),(12,iv r4),(13,.la 13 0),(14,v20),(60,Row.av fP.cells a1),(61,iv (a1.l.length:Int)),(62,iv (jh:Int))]∧{ h with aq:=fU [0,3,4,7,11,12,13,14,60,61,62] h.aq } = { H22 with aq:=[(7,(gp.cells a2)),(13,(fK.cells x16))] }) ?_ (k0:=0) cO ⟨((.sl [] .nil)),(([]:List Int)),ah.empty,dx,hS18,rfl,rfl⟩
 rintro jh e h hkk19 ⟨v20,l21,H22,hl24,hS23,he,hh⟩
 refine gm he hh ?_
 clear he hh
 refine aa ?_
 refine gl ((jh:Int)) ((a1.l.length:Int)) (fun h25=>?_) (fun h25=>?_)
 refine aM ?_
 refine wa [(0,.ip (fk.cells a0) 0 false),(3,iv a3),(4,iv a4),(7,.la 7 0),(11,iv r2),(12,iv r4),(13,.la 13 0),(14,v20),(60,Row.av fP.cells a1),(61,iv (a1.l.length:Int)),(62,iv (jh:Int))] H22 [(7,(gp.cells a2)),(13,(fK.cells x16))] ?_ (Eq.trans (b:=[(0,.ip (fk.cells a0) 0 false),(3,iv a3),(4,iv a4),(7,.la 7 0),(11,iv r2),(12,iv r4),(13,.la 13 0),(14,fi 14 v20),(60,Row.av fP.cells a1),(61,iv (a1.l.length:Int)),(62,iv (jh:Int))]) rfl cV)
 refine ba ?_
 refine ai ?_
 have hx26:jh<a1.l.length:=by omega
 refine iU jh a1 hx26 ?_
 generalize hqx27:a1.l[jh]=x27
 refine bM ?_
 refine bV ?_
 refine wv (x27.from_) (r2) (fun h28=>?_) (fun h28=>?_)
 iterate 5 refine rV ?_
 have hx29:(a3).toNat<a2.runs.l.length:=by omega
 refine ga rfl rfl (fun _=>gN (n:=a3) (r:=a2.runs) (enc:=gK.cells) rfl rfl rfl rfl rfl cO hx29 rfl) ?_
 rw [hqx7]
 iterate 3 refine rV ?_
 have hx31:(a4).toNat<x7.gW.l.length:=by omega
 refine ga rfl rfl (fun _=>gN (n:=a4) (r:=x7.gW) (enc:=iZ.cells) rfl rfl rfl rfl rfl cO hx31 rfl) ?_
 generalize hqx32:x7.gW.l[(a4).toNat]=x32
 refine rV ?_
 refine rC (t63 x27 x32) ?_
 rintro _ ⟨r34,hc33,rfl⟩
 cases r34
 clear hc33
 refine bv ?_
 refine ce ?_
 refine bB ?_
 refine wa [(0,.ip (fk.cells a0) 0 false),(3,iv a3),(4,iv a4),(7,.la 7 0),(11,iv r2),(12,iv r4),(13,.la 13 0),(14,v20),(60,Row.av fP.cells a1),(61,iv (a1.l.length:Int)),(62,iv (jh:Int))] H22 [(7,(gp.cells a2)),(13,(fK.cells x16))] ?_ (Eq.trans (b:=[(0,.ip (fk.cells a0) 0 false),(3,iv a3),(4,iv a4),(7,.la 7 0),(11,iv r2),(12,iv r4),(13,.la 13 0),(14,fi 14 v20),(60,Row.av fP.cells a1),(61,iv (a1.l.length:Int)),(62,iv (jh:Int))]) rfl cV)
 refine qg ?_
 refine gy ((jh:Int)) (1) ?_
 refine ab ?_
 exact ⟨by omega,(v20),(l21),H22,cL,hS23,(Eq.trans (b:=[(0,.ip (fk.cells a0) 0 false),(3,iv a3),(4,iv a4),(7,.la 7 0),(11,iv r2),(12,iv r4),(13,.la 13 0),(14,fi 14 v20),(60,Row.av fP.cells a1),(61,iv (a1.l.length:Int)),(62,iv ((jh:Int)+1))]) rfl cV),rfl⟩
 have hc33t:=hc33 rfl
 iterate 3 refine rV ?_
 refine Hl (b:=x27.bare) rfl rfl (fun _=>rfl) (fun h35=>?_) (fun h35=>?_)
 iterate 3 refine rV ?_
 refine ce ?_
 refine bB ?_
 refine wa [(0,.ip (fk.cells a0) 0 false),(3,iv a3),(4,iv a4),(7,.la 7 0),(11,iv r2),(12,iv r4),(13,.la 13 0),(14,v20),(60,Row.av fP.cells a1),(61,iv (a1.l.length:Int)),(62,iv (jh:Int))] H22 [(7,(gp.cells a2)),(13,(fK.cells x16))] ?_ (Eq.trans (b:=[(0,.ip (fk.cells a0) 0 false),(3,iv a3),(4,iv a4),(7,.la 7 0),(11,iv r2),(12,iv r4),(13,.la 13 0),(14,fi 14 v20),(60,Row.av fP.cells a1),(61,iv (a1.l.length:Int)),(62,iv (jh:Int))]) rfl cV)
 refine qg ?_
 refine gy ((jh:Int)) (1) ?_
 refine ab ?_
 exact ⟨by omega,(v20),(l21),H22,cL,hS23,(Eq.trans (b:=[(0,.ip (fk.cells a0) 0 false),(3,iv a3),(4,iv a4),(7,.la 7 0),(11,iv r2),(12,iv r4),(13,.la 13 0),(14,fi 14 v20),(60,Row.av fP.cells a1),(61,iv (a1.l.length:Int)),(62,iv ((jh:Int)+1))]) rfl cV),rfl⟩
 iterate 6 refine rV ?_
 refine rC (t64 (Row.j6 x27.nT) (r4)) ?_
 rintro _ ⟨r37,hc36,rfl⟩
 cases r37
 iterate 9 refine rV ?_
 have hL38:=x27.steps.lk
 refine yG x27.steps ?_
 have hL39:=x27.steps.lk
 refine OU ((x27.steps.l.length:Int)) (1) ?_
 have hx40:((x27.steps.l.length:Int) - 1).toNat<x27.steps.l.length:=by omega
 refine ga rfl rfl (fun _=>gN (n:=(x27.steps.l.length:Int) - 1) (r:=x27.steps) (enc:=fy.cells) rfl rfl rfl rfl rfl cO hx40 rfl) ?_
 generalize hqx41:x27.steps.l[((x27.steps.l.length:Int) - 1).toNat]=x41
 iterate 2 refine rV ?_
 refine rC (t65 a0 x16 (x41.elem) cG) ?_
 rintro _ ⟨r43,hc42,rfl⟩
 cases r43
 refine bB ?_
 refine wa [(0,.ip (fk.cells a0) 0 false),(3,iv a3),(4,iv a4),(7,.la 7 0),(11,iv r2),(12,iv r4),(13,.la 13 0),(14,v20),(60,Row.av fP.cells a1),(61,iv (a1.l.length:Int)),(62,iv (jh:Int))] H22 [(7,(gp.cells a2)),(13,(fK.cells x16))] ?_ (Eq.trans (b:=[(0,.ip (fk.cells a0) 0 false),(3,iv a3),(4,iv a4),(7,.la 7 0),(11,iv r2),(12,iv r4),(13,.la 13 0),(14,fi 14 v20),(60,Row.av fP.cells a1),(61,iv (a1.l.length:Int)),(62,iv (jh:Int))]) rfl cV)
 refine qg ?_
 refine gy ((jh:Int)) (1) ?_
 refine ab ?_
 exact ⟨by omega,(v20),(l21),H22,cL,hS23,(Eq.trans (b:=[(0,.ip (fk.cells a0) 0 false),(3,iv a3),(4,iv a4),(7,.la 7 0),(11,iv r2),(12,iv r4),(13,.la 13 0),(14,fi 14 v20),(60,Row.av fP.cells a1),(61,iv (a1.l.length:Int)),(62,iv ((jh:Int)+1))]) rfl cV),rfl⟩
 refine cE ?_
 refine a8 ?_
 refine gd rfl (ib (H:=H22) (i:=0) [((jh:Int))] hS23 rfl rfl rfl rfl rfl rfl rfl rfl rfl (fun _=>rfl) (.inl rfl) cS (fun _=>rfl)) ?_
 rintro v44 H45 hS46
 refine ab ?_
 refine wa [(0,.ip (fk.cells a0) 0 false),(3,iv a3),(4,iv a4),(7,.la 7 0),(11,iv r2),(12,iv r4),(13,.la 13 0),(14,v44),(60,Row.av fP.cells a1),(61,iv (a1.l.length:Int)),(62,iv (jh:Int))] H45 [(7,(gp.cells a2)),(13,(fK.cells x16))] ?_ (Eq.trans (b:=[(0,.ip (fk.cells a0) 0 false),(3,iv a3),(4,iv a4),(7,.la 7 0),(11,iv r2),(12,iv r4),(13,.la 13 0),(14,fi 14 v44),(60,Row.av fP.cells a1),(61,iv (a1.l.length:Int)),(62,iv (jh:Int))]) rfl eb)
 refine qg ?_
 refine gy ((jh:Int)) (1) ?_
 refine ab ?_
 exact ⟨by omega,(v44),((l21++[((jh:Int))])),H45,cL,hS46,(Eq.trans (b:=[(0,.ip (fk.cells a0) 0 false),(3,iv a3),(4,iv a4),(7,.la 7 0),(11,iv r2),(12,iv r4),(13,.la 13 0),(14,fi 14 v44),(60,Row.av fP.cells a1),(61,iv (a1.l.length:Int)),(62,iv ((jh:Int)+1))]) rfl eb),rfl⟩
 iterate 3 refine rV ?_
 iterate 12 refine rS ?_
 refine bB ?_
 refine wa [(0,.ip (fk.cells a0) 0 false),(3,iv a3),(4,iv a4),(7,.la 7 0),(11,iv r2),(12,iv r4),(13,.la 13 0),(14,v20),(60,Row.av fP.cells a1),(61,iv (a1.l.length:Int)),(62,iv (jh:Int))] H22 [(7,(gp.cells a2)),(13,(fK.cells x16))] ?_ (Eq.trans (b:=[(0,.ip (fk.cells a0) 0 false),(3,iv a3),(4,iv a4),(7,.la 7 0),(11,iv r2),(12,iv r4),(13,.la 13 0),(14,fi 14 v20),(60,Row.av fP.cells a1),(61,iv (a1.l.length:Int)),(62,iv (jh:Int))]) rfl cV)
 refine qg ?_
 refine gy ((jh:Int)) (1) ?_
 refine ab ?_
 exact ⟨by omega,(v20),(l21),H22,cL,hS23,(Eq.trans (b:=[(0,.ip (fk.cells a0) 0 false),(3,iv a3),(4,iv a4),(7,.la 7 0),(11,iv r2),(12,iv r4),(13,.la 13 0),(14,fi 14 v20),(60,Row.av fP.cells a1),(61,iv (a1.l.length:Int)),(62,iv ((jh:Int)+1))]) rfl cV),rfl⟩
 refine co ?_
 iterate 5 refine rS ?_
 refine bv ?_
 refine ce ?_
 refine bB ?_
 refine wa [(0,.ip (fk.cells a0) 0 false),(3,iv a3),(4,iv a4),(7,.la 7 0),(11,iv r2),(12,iv r4),(13,.la 13 0),(14,v20),(60,Row.av fP.cells a1),(61,iv (a1.l.length:Int)),(62,iv (jh:Int))] H22 [(7,(gp.cells a2)),(13,(fK.cells x16))] ?_ (Eq.trans (b:=[(0,.ip (fk.cells a0) 0 false),(3,iv a3),(4,iv a4),(7,.la 7 0),(11,iv r2),(12,iv r4),(13,.la 13 0),(14,fi 14 v20),(60,Row.av fP.cells a1),(61,iv (a1.l.length:Int)),(62,iv (jh:Int))]) rfl cV)
 refine qg ?_
 refine gy ((jh:Int)) (1) ?_
 refine ab ?_
 exact ⟨by omega,(v20),(l21),H22,cL,hS23,(Eq.trans (b:=[(0,.ip (fk.cells a0) 0 false),(3,iv a3),(4,iv a4),(7,.la 7 0),(11,iv r2),(12,iv r4),(13,.la 13 0),(14,fi 14 v20),(60,Row.av fP.cells a1),(61,iv (a1.l.length:Int)),(62,iv ((jh:Int)+1))]) rfl cV),rfl⟩
 refine aj ?_
 refine wa [(14,v20)] H22 [] ?_ (Eq.trans (b:=[(14,fi 14 v20)]) rfl cV)
 refine bG ?_
 obtain ⟨r47,hl48,hf49⟩:=gZ (H:=H22) (i:=0) (l:=l21) (enc:=fu) hS23 rfl cH
 have hlq:=hl48; have hln51:=congrArg List.length hl48
 have hz50:∀ m,freeze false { H22 with aq:=[] } (m+2) v20=some (Row.av fu r47):=fun m=>hf49 _ _ (fun _=>rfl)
 exact ⟨v20,(iB (vs:=[v20]) rfl (fD (Sep.arg (i:=0) hS23 rfl) gJ)),Row.av fu r47,(show freeze false { H22 with aq:=[] } 8 v20=some (Row.av fu r47) by simp only [FZ,hz50]),r47,trivial,rfl⟩
theorem abo:FT 8=some QD:=by kernel_rfl
theorem Yi:aT 8=none:=by kernel_rfl
def P8b (_a0:gb) (_a1:gp) (v:AV):Prop:=∃ r0:Int,((r0=0→((rs 52 [.agg (fh.cells _a0.fo),Row.av fK.cells _a1.fV]=iv 0∧(∀ r∈_a1.runs.l,(rs 121 [.str r.name.l]=.bool true∧0≤r.fV∧r.fV<(_a1.fV.l.length:Int)∧0≤r.from_∧r.from_<(_a0.fo.signals.l.length:Int)))∧(∀ (i j:Nat) (h:j < _a1.runs.l.length) (hij:i<j),j < _a1.runs.l.length→(_a1.runs.l[i]).name.l≠(_a1.runs.l[j]).name.l)∧_a1.runs.l.length≤8)∧∃ n:fk,mW n _a0.fo∧rs 24 [.agg (fh.cells _a0.fo)]=.fz [.ip (fk.cells n) 0 false,iv 0]∧(∀ i,i < _a1.runs.l.length→∃ b:fJ,rs 59 [.ip (fk.cells n) 0 false,.int .i64 (rZ _a1 i),.agg (iM n.p _a1 i).cells]=.fz [.agg b.cells,.int .i64 0])∧(∀ i j,i<j→j < _a1.runs.l.length→∀ x∈kR n.p [(iM n.p _a1 i).at_],x∉kR n.p [(iM n.p _a1 j).at_]))))∧v=iv r0
theorem t8b (a0:gb) (a1:gp) (q1:jb a0.fo) (q2:a0.roads.l.length≤64) (h:ah):∃ v,fj cfg FT aT false 8 [.agg (gb.cells a0),.agg (gp.cells a1)] h v h∧P8b a0 a1 v:=by
 refine fS Yi abo rfl rfl ?_
 refine bJ ?_
 refine bb ?_
 refine gC (H:=ah.empty) (args:=[Row.av gg.cells a0.fo.signals,.gL 22 [] []]) (p:=[]) (r:=[]) rfl rfl rfl rfl rfl rfl rfl (OS (Row.j6 a0.fo.signals) ([]) gI) ?_
 rintro _ H2 ⟨r5,hc4,hS3,rfl⟩
 cases r5
 refine az ?_
 refine bb ?_
 refine oC (t23 a0.fo a1) ?_
 rintro _ ⟨r7,hc6,rfl⟩
 have hD:=hc6; have hPre:=fun (hz : _=(0:Int)) (r:gK) (hr:r∈a1.runs.l)=>And.intro ((hc6 hz).2.1 r hr).2.1 ((hc6 hz).2.1 r hr).2.2.1
 refine bP ?_
 refine iJ (r7) (0) (fun h8=>?_) (fun h8=>?_)
 refine aH ?_
 exact xA (iv r7) ⟨(r7),dw,rfl⟩
 refine bE ?_
 refine oC (t24 a0.fo cG) ?_
 rintro _ (⟨r10,⟨hc9,hc9r⟩,rfl⟩ | ⟨r11,⟨hc9,hc9r⟩,rfl⟩)
 have hFw:=hc9.yA; have hFs:=hc9.yA.signals; have hFl:=hc9.len; have hNe:=hc9; have hNr:=hc9r
 refine bj ?_
 refine ay ?_
 refine aW ?_
 refine oC (t25 r10 a1 cG) ?_
 rintro _ ⟨r13,hc12,rfl⟩
 have hSs:=hc12
 refine bP ?_
 refine iJ (r13) (0) (fun h14=>?_) (fun h14=>?_)
 refine aH ?_
 exact xA (iv r13) ⟨(r13),dw,rfl⟩
 refine az ?_
 refine aW ?_
 have hL15:=a1.runs.lk
 refine gG a1.runs ?_
 refine aC ?_
 have hNk16:=a1.runs.lk
 refine fC (a1.runs.l.length) (fun im e h=>proj [2,3,6,38,39,40] e=[(2,.la 2 0),(3,.la 3 0),(6,.ip (fk.cells r10) 0 false),(38,Row.av gK.cells a1.runs),(39,iv (a1.runs.l.length:Int)),(40,iv (im:Int))]∧{ h with aq:=fU [2,3,6,38,39,40] h.aq } = { H2 with aq:=[(2,(gb.cells a0)),(3,(gp.cells a1))] }) ?_ (k0:=0) cO ⟨rfl,rfl⟩
 rintro im e h hkk16 ⟨he,hh⟩
 refine gm he hh ?_
 clear he hh
 refine aa ?_
 refine gl ((im:Int)) ((a1.runs.l.length:Int)) (fun h17=>?_) (fun h17=>?_)
 refine bU ?_
 have hx18:im<a1.runs.l.length:=by omega
 refine iU im a1.runs hx18 ?_
 generalize hqx19:a1.runs.l[im]=x19
 refine bM ?_
 refine aW ?_
 have hL20:=x19.gW.lk
 refine gG x19.gW ?_
 refine gA ((x19.gW.l.length:Int)) (0) (fun h21=>?_) (fun h21=>?_)
 refine bg ?_
 iterate 8 refine oS ?_
 refine au ?_
 exact xA (iv 10) ⟨(10),dw,rfl⟩
 iterate 5 refine oV ?_
 have hL22:=x19.gW.lk
 refine gG x19.gW ?_
 have hL23:=x19.gW.lk
 refine lY ((x19.gW.l.length:Int)) (1) ?_
 have hx24:((x19.gW.l.length:Int) - 1).toNat<x19.gW.l.length:=by omega
 refine fq rfl (fun _=>gN (n:=(x19.gW.l.length:Int) - 1) (r:=x19.gW) (enc:=iZ.cells) rfl rfl rfl rfl rfl cO hx24 rfl) ?_
 generalize hqx25:x19.gW.l[((x19.gW.l.length:Int) - 1).toNat]=x25
 iterate 2 refine oV ?_
 refine iJ (x25.end_) (2) (fun h26=>?_) (fun h26=>?_)
 refine au ?_
 exact xA (iv 10) ⟨(10),dw,rfl⟩
 refine oV ?_
 refine bE ?_
 have hL27:=x19.gW.lk
 refine gG x19.gW ?_
 refine aC ?_
 have hNk28:=x19.gW.lk
 refine fC (x19.gW.l.length) (fun qQ e h=>proj [2,3,6,8,38,39,40,63,64] e=[(2,.la 2 0),(3,.la 3 0),(6,.ip (fk.cells r10) 0 false),(8,iv (im:Int)),(38,Row.av gK.cells a1.runs),(39,iv (a1.runs.l.length:Int)),(40,iv (im:Int)),(63,iv (x19.gW.l.length:Int)),(64,iv (qQ:Int))]∧{ h with aq:=fU [2,3,6,8,38,39,40,63,64] h.aq } = { H2 with aq:=[(2,(gb.cells a0)),(3,(gp.cells a1))] }) ?_ (k0:=0) cO ⟨rfl,rfl⟩
 rintro qQ e h hkk28 ⟨he,hh⟩
 refine gm he hh ?_
 clear he hh
 refine aa ?_
 refine gl ((qQ:Int)) ((x19.gW.l.length:Int)) (fun h29=>?_) (fun h29=>?_)
 refine bL ?_
 refine aa ?_
 iterate 6 refine oV ?_
 refine oC (t26 r10 a0.roads a1 ((im:Int)) ((qQ:Int)) cG cG) ?_
 rintro _ ⟨r31,hc30,rfl⟩
 have hL32:=r31.lk
 refine gG r31 ?_
 refine gA ((r31.l.length:Int)) (0) (fun h33=>?_) (fun h33=>?_)
 refine aZ ?_
 exact xA (iv 10) ⟨(10),dw,rfl⟩
 refine bN ?_
 refine gy ((qQ:Int)) (1) ?_
 refine ab ?_
 exact ⟨by omega,rfl,rfl⟩
 refine aj ?_
 refine qg ?_
 refine gy ((im:Int)) (1) ?_
 refine ab ?_
 exact ⟨by omega,rfl,rfl⟩
 refine aN ?_
 exact xA (iv 0) ⟨(0),dw,rfl⟩
 refine bj ?_
 refine iJ (r11) (0) (fun h34=>?_) (fun h34=>?_)
 refine aH ?_
 exact xA (iv r11) ⟨(r11),dw,rfl⟩
 refine az ?_
 refine aW ?_
 exfalso; omega
 refine aZ ?_
 exact xA (iv 7) ⟨(7),dw,rfl⟩
def P8 (_a0:gb) (_a1:gp) (v:AV):Prop:=∃ r0:Int,(((r0=0→((rs 52 [.agg (fh.cells _a0.fo),Row.av fK.cells _a1.fV]=iv 0∧(∀ r∈_a1.runs.l,(rs 121 [.str r.name.l]=.bool true∧0≤r.fV∧r.fV<(_a1.fV.l.length:Int)∧0≤r.from_∧r.from_<(_a0.fo.signals.l.length:Int)))∧(∀ (i j:Nat) (h:j < _a1.runs.l.length) (hij:i<j),j < _a1.runs.l.length→(_a1.runs.l[i]).name.l≠(_a1.runs.l[j]).name.l)∧_a1.runs.l.length≤8)∧∃ n:fk,mW n _a0.fo∧rs 24 [.agg (fh.cells _a0.fo)]=.fz [.ip (fk.cells n) 0 false,iv 0]∧(∀ i,i < _a1.runs.l.length→∃ b:fJ,rs 59 [.ip (fk.cells n) 0 false,.int .i64 (rZ _a1 i),.agg (iM n.p _a1 i).cells]=.fz [.agg b.cells,.int .i64 0])∧(∀ i j,i<j→j < _a1.runs.l.length→∀ x∈kR n.p [(iM n.p _a1 i).at_],x∉kR n.p [(iM n.p _a1 j).at_]))))∧rs 8 [.agg (gb.cells _a0),.agg (gp.cells _a1)]=iv r0)∧v=iv r0
theorem t8 (a0:gb) (a1:gp) (q1:jb a0.fo) (q2:a0.roads.l.length≤64) (h:ah):∃ v,fj cfg FT aT false 8 [.agg (gb.cells a0),.agg (gp.cells a1)] h v h∧P8 a0 a1 v:=by
 obtain ⟨v,hc,hP,hr⟩:=kg mQ (t8b a0 a1 q1 q2) h
 obtain ⟨r0,hp,rfl⟩:=hP
 exact ⟨_,hc,r0,⟨hp,hr⟩,rfl⟩
def P4 (v:AV):Prop:=∃ r0:Bool,r0=true∧v=.bool r0
theorem t4 (h:ah):∃ v,fj cfg FT aT false 4 [] h v h∧P4 v:=by
 refine ⟨.bool true,⟨1,fun k hk=>?_⟩,true,rfl,rfl⟩
 obtain ⟨k,rfl⟩:∃ k',k=k'+1:=⟨k - 1,by omega⟩
 rfl
theorem TU:FT 28=some HO:=by kernel_rfl
theorem Rf:aT 28=none:=by kernel_rfl
def P28 (_a0:fh) (v:AV):Prop:=∃ r0:Bool,((r0=true→jb _a0))∧v=.bool r0
theorem t28 (a0:fh)  (h:ah):∃ v,fj cfg FT aT false 28 [.agg (fh.cells a0)] h v h∧P28 a0 v:=by
 refine fS Rf TU rfl rfl ?_
 refine aQ ?_
 refine aW ?_
 have hL1:=a0.elems.lk
 refine gG a0.elems ?_
 refine g9 ((a0.elems.l.length:Int)) (60) (fun h2=>?_) (fun h2=>?_)
 refine bm ?_
 refine aE ?_
 refine bz ?_
 exact xA (.bool false) ⟨false,c3,rfl⟩
 iterate 3 refine oV ?_
 have hL3:=a0.fQ.lk
 refine gG a0.fQ ?_
 refine g9 ((a0.fQ.l.length:Int)) (120) (fun h4=>?_) (fun h4=>?_)
 refine aE ?_
 refine bz ?_
 exact xA (.bool false) ⟨false,c3,rfl⟩
 iterate 4 refine oV ?_
 have hL5:=a0.signals.lk
 refine gG a0.signals ?_
 refine g9 ((a0.signals.l.length:Int)) (60) (fun h6=>?_) (fun h6=>?_)
 refine bz ?_
 exact xA (.bool false) ⟨false,c3,rfl⟩
 iterate 4 refine oV ?_
 have hL7:=a0.lines.lk
 refine gG a0.lines ?_
 refine g9 ((a0.lines.l.length:Int)) (20) (fun h8=>?_) (fun h8=>?_)
 refine au ?_
 exact xA (.bool false) ⟨false,c3,rfl⟩
 refine ay ?_
 refine bc ?_
 have hNk9:=a0.lines.lk
 refine fC (a0.lines.l.length) (fun k9 e h=>(∀ (i:Nat) (h:i<a0.lines.l.length),i<k9→(a0.lines.l[i]).elems.l.length≤60)∧proj [1,3] e=[(1,.la 1 0),(3,iv (k9:Int))]∧{ h with aq:=fU [1,3] h.aq } = { ah.empty with aq:=[(1,(fh.cells a0))] }) ?_ (k0:=0) cO ⟨eG,rfl,rfl⟩
 rintro k9 e h hkk9 ⟨hI,he,hh⟩
 refine gm he hh ?_
 clear he hh
 refine bb ?_
 have hL10:=a0.lines.lk
 refine gG a0.lines ?_
 refine gl ((k9:Int)) ((a0.lines.l.length:Int)) (fun h11=>?_) (fun h11=>?_)
 refine aG ?_
 refine aB ?_
 have hx12:k9<a0.lines.l.length:=by omega
 refine iU k9 a0.lines hx12 ?_
 generalize hqx13:a0.lines.l[k9]=x13
 iterate 2 refine oV ?_
 have hL14:=x13.elems.lk
 refine gG x13.elems ?_
 refine g9 ((x13.elems.l.length:Int)) (60) (fun h15=>?_) (fun h15=>?_)
 refine oV ?_
 iterate 8 refine oS ?_
 refine au ?_
 exact xA (.bool false) ⟨false,c3,rfl⟩
 iterate 4 refine oV ?_
 have hx16:k9<a0.lines.l.length:=by omega
 refine iU k9 a0.lines hx16 ?_
 rw [hqx13]
 iterate 3 refine oV ?_
 refine g9 ((x13.name.l.length:Int)) (100) (fun h18=>?_) (fun h18=>?_)
 refine au ?_
 exact xA (.bool false) ⟨false,c3,rfl⟩
 refine ci ?_
 refine gy ((k9:Int)) (1) ?_
 refine ab ?_
 exact ⟨by omega,(by (intro i h h2; rcases Nat.lt_succ_iff_lt_or_eq.mp h2 with h3 | h3; exact hI i h h3; subst h3; simp_all; try omega)),rfl,rfl⟩
 refine aF ?_
 refine bc ?_
 have hNk19:=a0.elems.lk
 refine fC (a0.elems.l.length) (fun jh e h=>proj [1,4] e=[(1,.la 1 0),(4,iv (jh:Int))]∧{ h with aq:=fU [1,4] h.aq } = { ah.empty with aq:=[(1,(fh.cells a0))] }) ?_ (k0:=0) cO ⟨rfl,rfl⟩
 rintro jh e h hkk19 ⟨he,hh⟩
 refine gm he hh ?_
 clear he hh
 refine bb ?_
 have hL20:=a0.elems.lk
 refine gG a0.elems ?_
 refine gl ((jh:Int)) ((a0.elems.l.length:Int)) (fun h21=>?_) (fun h21=>?_)
 refine aG ?_
 refine aB ?_
 have hx22:jh<a0.elems.l.length:=by omega
 refine iU jh a0.elems hx22 ?_
 generalize hqx23:a0.elems.l[jh]=x23
 iterate 3 refine oV ?_
 refine g9 ((x23.name.l.length:Int)) (100) (fun h24=>?_) (fun h24=>?_)
 refine aZ ?_
 exact xA (.bool false) ⟨false,c3,rfl⟩
 refine az ?_
 refine aL ?_
 refine gy ((jh:Int)) (1) ?_
 refine ab ?_
 exact ⟨by omega,rfl,rfl⟩
 refine aF ?_
 refine bc ?_
 have hNk25:=a0.signals.lk
 refine fC (a0.signals.l.length) (fun iI e h=>proj [1,5] e=[(1,.la 1 0),(5,iv (iI:Int))]∧{ h with aq:=fU [1,5] h.aq } = { ah.empty with aq:=[(1,(fh.cells a0))] }) ?_ (k0:=0) cO ⟨rfl,rfl⟩
 rintro iI e h hkk25 ⟨he,hh⟩
 refine gm he hh ?_
 clear he hh
 refine bb ?_
 have hL26:=a0.signals.lk
 refine gG a0.signals ?_
 refine gl ((iI:Int)) ((a0.signals.l.length:Int)) (fun h27=>?_) (fun h27=>?_)
 refine aG ?_
 refine aB ?_
 have hx28:iI<a0.signals.l.length:=by omega
 refine iU iI a0.signals hx28 ?_
 generalize hqx29:a0.signals.l[iI]=x29
 iterate 3 refine oV ?_
 refine g9 ((x29.name.l.length:Int)) (100) (fun h30=>?_) (fun h30=>?_)
 refine aZ ?_
 exact xA (.bool false) ⟨false,c3,rfl⟩
 refine az ?_
 refine aL ?_
 refine gy ((iI:Int)) (1) ?_
 refine ab ?_
 exact ⟨by omega,rfl,rfl⟩
 refine cF ?_
 exact xA (.bool true) ⟨true,c3,rfl⟩
end Go.Sx
