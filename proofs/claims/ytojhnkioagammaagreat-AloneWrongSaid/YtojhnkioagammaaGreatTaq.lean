/- Proves what some functions of the program answer, by walking through them. -/
import Derived.Test.YtojhnkioagammaaGreatTaf
import Derived.Test.YtojhnkioagammaaGreatTal
import Derived.Test.YtojhnkioagammaaGreatTap
set_option linter.all false
set_option maxRecDepth 100000
set_option maxHeartbeats 0
namespace Go.Sx
open Go Go.Proofs
theorem WY:FT 16=some Hh:=by kernel_rfl
theorem PZ:aT 16=none:=by kernel_rfl
theorem u16 {H:ah} (ps:List ic) (yb:Nat) (n:fk) (c2:gb) (d:gp) (wn:fk) (c:gb) (lv:Row fZ) (ke:Int) (nn:fk) (sp:Row Int) (fd:AV) (ws:Row fK) (wb:Row fJ) (wl:Row Int) (va:AV) (yl:List jD) (lvs:Row fZ) (F:List gH) (hP:Sep H (.obj (.ptr yb 0 0 0) (uh n c2 d (nE wn c lv ke nn sp fd ws wb wl) va)::.sl true false va 1 (List.map jD.cells yl)::(gQ ps++F))) (hps:ps.map ic.ptr=yl) (q9:yl.length≤64) (hz:∀ p∈ps,p.le 1):∃ v H',fj cfg FT aT true 16 [(.ptr yb 0 0 0),Row.av fZ.cells lvs] { H with aq:=[] } v H'∧(∃ r0:Bool,∃ ps':List ic,ps'.map ic.ptr=yl∧(∀ p∈ps',p.le 1)∧Sep H' (.obj (.ptr yb 0 0 0) (uh n c2 d (nE wn c lv ke nn sp fd ws wb wl) va)::.sl true false va 1 (List.map jD.cells yl)::(gQ ps'++F))∧v=.bool r0):=by
 refine gB PZ WY rfl ?_
 have hS:=Sep.yY hP
 refine aU ?_
 refine aY ?_
 refine fq rfl (fun _=>j3 (i:=5) hS rfl rfl) ?_
 refine fq rfl (fun _=>jz (i:=5) hS rfl rfl rfl rfl rfl) ?_
 refine fq rfl (fun _=>jU (i:=5) (o:=15) (r:=va) hS rfl rfl rfl rfl) ?_
 refine fq rfl (fun _=>jT (i:=6) hS rfl rfl rfl rfl rfl rfl rfl) ?_
 refine aC ?_
 refine fC (yl.length) (fun k1 e h=>∃ b2:Bool,∃ ps2:List ic,∃ H4:ah,(ps2.map ic.ptr=yl)∧(∀ p∈ps2,p.le 1)∧Sep H4 (.obj (.ptr yb 0 0 0) (uh n c2 d (nE wn c lv ke nn sp fd ws wb wl) va)::.sl true false va 1 (List.map jD.cells yl)::(gQ ps2++F))∧proj [0,1,5,11,12,13] e=[(0,(.ptr yb 0 0 0)),(1,Row.av fZ.cells lvs),(5,.bool b2),(11,va),(12,iv (yl.length:Int)),(13,iv (k1:Int))]∧{ h with aq:=fU [0,1,5,11,12,13] h.aq } = { H4 with aq:=[] }) ?_ (k0:=0) cO ⟨(true),ps,H,hps,hz,hP,(Eq.trans (b:=[(0,(.ptr yb 0 0 0)),(1,Row.av fZ.cells lvs),(5,.bool true),(11,fi 11 va),(12,iv (yl.length:Int)),(13,iv 0)]) rfl (by first | (rw [(show fi 11 va=va from Sep.fT (i:=6) hS rfl 11)]; done) | (rw [(show fi 11 va=va from Sep.fT (i:=6) hS rfl 11)]; rfl))),rfl⟩
 rintro k1 e h hkk1 ⟨b2,ps2,H4,hps2,hPi,hP2,he,hh⟩
 refine gm he hh ?_
 clear he hh
 refine aa ?_
 refine gl ((k1:Int)) ((yl.length:Int)) (fun h6=>?_) (fun h6=>?_)
 have hkp:k1<ps2.length:=by have:=congrArg List.length hps2; simp at this; omega
 obtain ⟨⟨xb,run,lg,n3,tb,lb,tr,lr,ts,ls,tz,lz⟩,hqp⟩:∃ x,ps2[k1]=x:=⟨_,rfl⟩
 have hS5:Sep H4 (.obj (.ptr xb 0 0 0) [iv run,iv 0,iv (-1),Row.av iZ.cells lg,tb,tr,ts,tz,iv n3]::.sl true true tb 5 (List.map fJ.cells lb)::.sl true true tr 1 (List.map fu lr)::.sl true true ts 1 (List.map (g6 fu) ls)::.sl true true tz 1 (List.map (g6 fu) lz)::.obj (.ptr yb 0 0 0) (uh n c2 d (nE wn c lv ke nn sp fd ws wb wl) va)::.sl true false va 1 (List.map jD.cells yl)::(gQ (ps2.take k1)++gQ (ps2.drop (k1+1))++F)):=gQ.focus hP2 hkp hqp
 have hle:=hPi _ (List.getElem_mem hkp)
 rw [hqp] at hle
 refine aM ?_
 refine wa [(0,(.ptr yb 0 0 0)),(1,Row.av fZ.cells lvs),(5,.bool b2),(11,va),(12,iv (yl.length:Int)),(13,iv (k1:Int))] H4 [] ?_ (Eq.trans (b:=[(0,(.ptr yb 0 0 0)),(1,Row.av fZ.cells lvs),(5,.bool b2),(11,fi 11 va),(12,iv (yl.length:Int)),(13,iv (k1:Int))]) rfl cQ)
 refine bZ ?_
 have hx7:k1<yl.length:=by first | omega | (simp<;>omega) | (simp_all; omega)
 obtain ⟨x8,hqx8⟩:∃ x,yl[k1]=x:=⟨_,rfl⟩
 refine kz rfl (ji (i:=6) (m:=k1) (cs:=jD.cells x8) hS5 rfl rfl rfl rfl rfl rfl rfl (iq hx7 hqx8)) ?_
 rintro a9 ⟨ha10,hea11⟩
 refine fq rfl (fun _=>ko (i:=6) (m:=k1) (o:=0) (r:=.ptr x8.b 0 0 0) (cs:=jD.cells x8) hS5 rfl (iq hx7 hqx8) hea11 rfl rfl ha10) ?_
 have hpx:x8.b=xb:=Al hps2 hqp hqx8
 rw [hpx]
 refine ak ?_
 refine fq rfl (fun _=>j3 (i:=0) hS5 rfl rfl) ?_
 refine fq rfl (fun _=>jz (i:=0) hS5 rfl rfl rfl rfl rfl) ?_
 refine fq rfl (fun _=>jU (i:=0) (o:=2) (r:=iv (-1)) hS5 rfl rfl rfl rfl) ?_
 refine bX ?_
 refine ay ?_
 refine wa [(0,(.ptr yb 0 0 0)),(1,Row.av fZ.cells lvs),(5,.bool b2),(7,(.ptr xb 0 0 0)),(11,va),(12,iv (yl.length:Int)),(13,iv (k1:Int))] H4 [] ?_ (Eq.trans (b:=[(0,(.ptr yb 0 0 0)),(1,Row.av fZ.cells lvs),(5,.bool b2),(7,(.ptr xb 0 0 0)),(11,fi 11 va),(12,iv (yl.length:Int)),(13,iv (k1:Int))]) rfl cQ)
 refine qs ?_
 refine cf ?_
 refine ga rfl rfl (fun _=>j3 (i:=0) hS5 rfl rfl) ?_
 refine ga rfl rfl (fun _=>jz (i:=0) hS5 rfl rfl rfl rfl rfl) ?_
 refine ga rfl rfl (fun _=>jU (i:=0) (o:=1) (r:=iv 0) hS5 rfl rfl rfl rfl) ?_
 refine rV ?_
 refine ga rfl rfl (fun _=>j3 (i:=0) hS5 rfl rfl) ?_
 refine ga rfl rfl (fun _=>jz (i:=0) hS5 rfl rfl rfl rfl rfl) ?_
 refine ga rfl rfl (fun _=>jU (i:=0) (o:=3) (r:=Row.av iZ.cells lg) hS5 rfl rfl rfl rfl) ?_
 have hL12:=lg.lk
 refine yG lg ?_
 refine wv (0) ((lg.l.length:Int)) (fun h13=>?_) (fun h13=>?_)
 iterate 2 refine rV ?_
 refine ga rfl rfl (fun _=>j3 (i:=0) hS5 rfl rfl) ?_
 iterate 2 refine ga rfl rfl (fun _=>jz (i:=0) hS5 rfl rfl rfl rfl rfl) ?_
 refine ga rfl rfl (fun _=>jU (i:=0) (o:=8) (r:=iv n3) hS5 rfl rfl rfl rfl) ?_
 refine o4 (n3) (0) (fun h14=>?_) (fun h14=>?_)
 refine cE ?_
 refine bC ?_
 refine fq rfl (fun _=>j3 (i:=5) hS5 rfl rfl) ?_
 refine fq rfl (fun _=>jz (i:=5) hS5 rfl rfl rfl rfl rfl) ?_
 refine fq rfl (fun _=>jU (i:=5) (o:=14) (r:=nE wn c lv ke nn sp fd ws wb wl) hS5 rfl rfl rfl rfl) ?_
 refine oC (t37 wn c lv (ke) nn sp fd ws wb wl) ?_
 rintro _ ⟨r16,hc15,rfl⟩
 refine fq rfl (fun _=>j3 (i:=0) hS5 rfl rfl) ?_
 iterate 2 refine fq rfl (fun _=>jz (i:=0) hS5 rfl rfl rfl rfl rfl) ?_
 refine gd rfl (iG (i:=0) (o:=8) (r:=iv r16) hS5 rfl rfl rfl rfl rfl rfl rfl) ?_
 rintro _ H17 ⟨rfl,hS18⟩
 refine oN ?_
 refine wa [(0,(.ptr yb 0 0 0)),(1,Row.av fZ.cells lvs),(5,.bool b2),(7,(.ptr xb 0 0 0)),(11,va),(12,iv (yl.length:Int)),(13,iv (k1:Int))] H17 [] ?_ (Eq.trans (b:=[(0,(.ptr yb 0 0 0)),(1,Row.av fZ.cells lvs),(5,.bool b2),(7,(.ptr xb 0 0 0)),(11,fi 11 va),(12,iv (yl.length:Int)),(13,iv (k1:Int))]) rfl dg)
 refine qg ?_
 refine ik (b:=b2) rfl (fun _=>rfl) (fun h19=>?_) (fun h19=>?_)
 iterate 2 refine oV ?_
 refine fq rfl (fun _=>j3 (i:=0) hS18 rfl rfl) ?_
 iterate 2 refine fq rfl (fun _=>jz (i:=0) hS18 rfl rfl rfl rfl rfl) ?_
 refine fq rfl (fun _=>jU (i:=0) (o:=8) (r:=iv r16) hS18 rfl rfl rfl rfl) ?_
 refine jg (r16) (0) (fun h20=>?_) (fun h20=>?_)
 refine aw ?_
 refine wa [(0,(.ptr yb 0 0 0)),(1,Row.av fZ.cells lvs),(5,.bool true),(11,va),(12,iv (yl.length:Int)),(13,iv (k1:Int))] H17 [] ?_ (Eq.trans (b:=[(0,(.ptr yb 0 0 0)),(1,Row.av fZ.cells lvs),(5,.bool true),(11,fi 11 va),(12,iv (yl.length:Int)),(13,iv (k1:Int))]) rfl dg)
 refine qg ?_
 refine gy ((k1:Int)) (1) ?_
 refine ab ?_
 exact ⟨by omega,(true),ps2.set k1 ⟨xb,run,lg,(r16),tb,lb,tr,lr,ts,ls,tz,lz⟩,H17,mM hps2 hqp rfl,oo hPi hle,gQ.close (y:=⟨xb,run,lg,(r16),tb,lb,tr,lr,ts,ls,tz,lz⟩) hS18 hkp,(Eq.trans (b:=[(0,(.ptr yb 0 0 0)),(1,Row.av fZ.cells lvs),(5,.bool true),(11,fi 11 va),(12,iv (yl.length:Int)),(13,iv ((k1:Int)+1))]) rfl dg),rfl⟩
 refine aw ?_
 refine wa [(0,(.ptr yb 0 0 0)),(1,Row.av fZ.cells lvs),(5,.bool false),(11,va),(12,iv (yl.length:Int)),(13,iv (k1:Int))] H17 [] ?_ (Eq.trans (b:=[(0,(.ptr yb 0 0 0)),(1,Row.av fZ.cells lvs),(5,.bool false),(11,fi 11 va),(12,iv (yl.length:Int)),(13,iv (k1:Int))]) rfl dg)
 refine qg ?_
 refine gy ((k1:Int)) (1) ?_
 refine ab ?_
 exact ⟨by omega,(false),ps2.set k1 ⟨xb,run,lg,(r16),tb,lb,tr,lr,ts,ls,tz,lz⟩,H17,mM hps2 hqp rfl,oo hPi hle,gQ.close (y:=⟨xb,run,lg,(r16),tb,lb,tr,lr,ts,ls,tz,lz⟩) hS18 hkp,(Eq.trans (b:=[(0,(.ptr yb 0 0 0)),(1,Row.av fZ.cells lvs),(5,.bool false),(11,fi 11 va),(12,iv (yl.length:Int)),(13,iv ((k1:Int)+1))]) rfl dg),rfl⟩
 refine bS ?_
 refine aw ?_
 refine wa [(0,(.ptr yb 0 0 0)),(1,Row.av fZ.cells lvs),(5,.bool false),(11,va),(12,iv (yl.length:Int)),(13,iv (k1:Int))] H17 [] ?_ (Eq.trans (b:=[(0,(.ptr yb 0 0 0)),(1,Row.av fZ.cells lvs),(5,.bool false),(11,fi 11 va),(12,iv (yl.length:Int)),(13,iv (k1:Int))]) rfl dg)
 refine qg ?_
 refine gy ((k1:Int)) (1) ?_
 refine ab ?_
 exact ⟨by omega,(false),ps2.set k1 ⟨xb,run,lg,(r16),tb,lb,tr,lr,ts,ls,tz,lz⟩,H17,mM hps2 hqp rfl,oo hPi hle,gQ.close (y:=⟨xb,run,lg,(r16),tb,lb,tr,lr,ts,ls,tz,lz⟩) hS18 hkp,(Eq.trans (b:=[(0,(.ptr yb 0 0 0)),(1,Row.av fZ.cells lvs),(5,.bool false),(11,fi 11 va),(12,iv (yl.length:Int)),(13,iv ((k1:Int)+1))]) rfl dg),rfl⟩
 refine bB ?_
 refine wa [(0,(.ptr yb 0 0 0)),(1,Row.av fZ.cells lvs),(5,.bool b2),(7,(.ptr xb 0 0 0)),(11,va),(12,iv (yl.length:Int)),(13,iv (k1:Int))] H4 [] ?_ (Eq.trans (b:=[(0,(.ptr yb 0 0 0)),(1,Row.av fZ.cells lvs),(5,.bool b2),(7,(.ptr xb 0 0 0)),(11,fi 11 va),(12,iv (yl.length:Int)),(13,iv (k1:Int))]) rfl cQ)
 refine qg ?_
 refine ik (b:=b2) rfl (fun _=>rfl) (fun h21=>?_) (fun h21=>?_)
 iterate 2 refine oV ?_
 refine fq rfl (fun _=>j3 (i:=0) hS5 rfl rfl) ?_
 iterate 2 refine fq rfl (fun _=>jz (i:=0) hS5 rfl rfl rfl rfl rfl) ?_
 refine fq rfl (fun _=>jU (i:=0) (o:=8) (r:=iv n3) hS5 rfl rfl rfl rfl) ?_
 refine jg (n3) (0) (fun h22=>?_) (fun h22=>?_)
 refine aw ?_
 refine wa [(0,(.ptr yb 0 0 0)),(1,Row.av fZ.cells lvs),(5,.bool true),(11,va),(12,iv (yl.length:Int)),(13,iv (k1:Int))] H4 [] ?_ (Eq.trans (b:=[(0,(.ptr yb 0 0 0)),(1,Row.av fZ.cells lvs),(5,.bool true),(11,fi 11 va),(12,iv (yl.length:Int)),(13,iv (k1:Int))]) rfl cQ)
 refine qg ?_
 refine gy ((k1:Int)) (1) ?_
 refine ab ?_
 exact ⟨by omega,(true),ps2.set k1 ⟨xb,run,lg,(n3),tb,lb,tr,lr,ts,ls,tz,lz⟩,H4,mM hps2 hqp rfl,oo hPi hle,gQ.close (y:=⟨xb,run,lg,(n3),tb,lb,tr,lr,ts,ls,tz,lz⟩) hS5 hkp,(Eq.trans (b:=[(0,(.ptr yb 0 0 0)),(1,Row.av fZ.cells lvs),(5,.bool true),(11,fi 11 va),(12,iv (yl.length:Int)),(13,iv ((k1:Int)+1))]) rfl cQ),rfl⟩
 refine aw ?_
 refine wa [(0,(.ptr yb 0 0 0)),(1,Row.av fZ.cells lvs),(5,.bool false),(11,va),(12,iv (yl.length:Int)),(13,iv (k1:Int))] H4 [] ?_ (Eq.trans (b:=[(0,(.ptr yb 0 0 0)),(1,Row.av fZ.cells lvs),(5,.bool false),(11,fi 11 va),(12,iv (yl.length:Int)),(13,iv (k1:Int))]) rfl cQ)
 refine qg ?_
 refine gy ((k1:Int)) (1) ?_
 refine ab ?_
 exact ⟨by omega,(false),ps2.set k1 ⟨xb,run,lg,(n3),tb,lb,tr,lr,ts,ls,tz,lz⟩,H4,mM hps2 hqp rfl,oo hPi hle,gQ.close (y:=⟨xb,run,lg,(n3),tb,lb,tr,lr,ts,ls,tz,lz⟩) hS5 hkp,(Eq.trans (b:=[(0,(.ptr yb 0 0 0)),(1,Row.av fZ.cells lvs),(5,.bool false),(11,fi 11 va),(12,iv (yl.length:Int)),(13,iv ((k1:Int)+1))]) rfl cQ),rfl⟩
 refine bS ?_
 refine aw ?_
 refine wa [(0,(.ptr yb 0 0 0)),(1,Row.av fZ.cells lvs),(5,.bool false),(11,va),(12,iv (yl.length:Int)),(13,iv (k1:Int))] H4 [] ?_ (Eq.trans (b:=[(0,(.ptr yb 0 0 0)),(1,Row.av fZ.cells lvs),(5,.bool false),(11,fi 11 va),(12,iv (yl.length:Int)),(13,iv (k1:Int))]) rfl cQ)
 refine qg ?_
 refine gy ((k1:Int)) (1) ?_
 refine ab ?_
 exact ⟨by omega,(false),ps2.set k1 ⟨xb,run,lg,(n3),tb,lb,tr,lr,ts,ls,tz,lz⟩,H4,mM hps2 hqp rfl,oo hPi hle,gQ.close (y:=⟨xb,run,lg,(n3),tb,lb,tr,lr,ts,ls,tz,lz⟩) hS5 hkp,(Eq.trans (b:=[(0,(.ptr yb 0 0 0)),(1,Row.av fZ.cells lvs),(5,.bool false),(11,fi 11 va),(12,iv (yl.length:Int)),(13,iv ((k1:Int)+1))]) rfl cQ),rfl⟩
 refine co ?_
 refine bB ?_
 refine wa [(0,(.ptr yb 0 0 0)),(1,Row.av fZ.cells lvs),(5,.bool b2),(7,(.ptr xb 0 0 0)),(11,va),(12,iv (yl.length:Int)),(13,iv (k1:Int))] H4 [] ?_ (Eq.trans (b:=[(0,(.ptr yb 0 0 0)),(1,Row.av fZ.cells lvs),(5,.bool b2),(7,(.ptr xb 0 0 0)),(11,fi 11 va),(12,iv (yl.length:Int)),(13,iv (k1:Int))]) rfl cQ)
 refine qg ?_
 refine ik (b:=b2) rfl (fun _=>rfl) (fun h23=>?_) (fun h23=>?_)
 iterate 2 refine oV ?_
 refine fq rfl (fun _=>j3 (i:=0) hS5 rfl rfl) ?_
 iterate 2 refine fq rfl (fun _=>jz (i:=0) hS5 rfl rfl rfl rfl rfl) ?_
 refine fq rfl (fun _=>jU (i:=0) (o:=8) (r:=iv n3) hS5 rfl rfl rfl rfl) ?_
 refine jg (n3) (0) (fun h24=>?_) (fun h24=>?_)
 refine aw ?_
 refine wa [(0,(.ptr yb 0 0 0)),(1,Row.av fZ.cells lvs),(5,.bool true),(11,va),(12,iv (yl.length:Int)),(13,iv (k1:Int))] H4 [] ?_ (Eq.trans (b:=[(0,(.ptr yb 0 0 0)),(1,Row.av fZ.cells lvs),(5,.bool true),(11,fi 11 va),(12,iv (yl.length:Int)),(13,iv (k1:Int))]) rfl cQ)
 refine qg ?_
 refine gy ((k1:Int)) (1) ?_
 refine ab ?_
 exact ⟨by omega,(true),ps2.set k1 ⟨xb,run,lg,(n3),tb,lb,tr,lr,ts,ls,tz,lz⟩,H4,mM hps2 hqp rfl,oo hPi hle,gQ.close (y:=⟨xb,run,lg,(n3),tb,lb,tr,lr,ts,ls,tz,lz⟩) hS5 hkp,(Eq.trans (b:=[(0,(.ptr yb 0 0 0)),(1,Row.av fZ.cells lvs),(5,.bool true),(11,fi 11 va),(12,iv (yl.length:Int)),(13,iv ((k1:Int)+1))]) rfl cQ),rfl⟩
 refine aw ?_
 refine wa [(0,(.ptr yb 0 0 0)),(1,Row.av fZ.cells lvs),(5,.bool false),(11,va),(12,iv (yl.length:Int)),(13,iv (k1:Int))] H4 [] ?_ (Eq.trans (b:=[(0,(.ptr yb 0 0 0)),(1,Row.av fZ.cells lvs),(5,.bool false),(11,fi 11 va),(12,iv (yl.length:Int)),(13,iv (k1:Int))]) rfl cQ)
 refine qg ?_
 refine gy ((k1:Int)) (1) ?_
 refine ab ?_
 exact ⟨by omega,(false),ps2.set k1 ⟨xb,run,lg,(n3),tb,lb,tr,lr,ts,ls,tz,lz⟩,H4,mM hps2 hqp rfl,oo hPi hle,gQ.close (y:=⟨xb,run,lg,(n3),tb,lb,tr,lr,ts,ls,tz,lz⟩) hS5 hkp,(Eq.trans (b:=[(0,(.ptr yb 0 0 0)),(1,Row.av fZ.cells lvs),(5,.bool false),(11,fi 11 va),(12,iv (yl.length:Int)),(13,iv ((k1:Int)+1))]) rfl cQ),rfl⟩
 refine bS ?_
 refine aw ?_
 refine wa [(0,(.ptr yb 0 0 0)),(1,Row.av fZ.cells lvs),(5,.bool false),(11,va),(12,iv (yl.length:Int)),(13,iv (k1:Int))] H4 [] ?_ (Eq.trans (b:=[(0,(.ptr yb 0 0 0)),(1,Row.av fZ.cells lvs),(5,.bool false),(11,fi 11 va),(12,iv (yl.length:Int)),(13,iv (k1:Int))]) rfl cQ)
 refine qg ?_
 refine gy ((k1:Int)) (1) ?_
 refine ab ?_
 exact ⟨by omega,(false),ps2.set k1 ⟨xb,run,lg,(n3),tb,lb,tr,lr,ts,ls,tz,lz⟩,H4,mM hps2 hqp rfl,oo hPi hle,gQ.close (y:=⟨xb,run,lg,(n3),tb,lb,tr,lr,ts,ls,tz,lz⟩) hS5 hkp,(Eq.trans (b:=[(0,(.ptr yb 0 0 0)),(1,Row.av fZ.cells lvs),(5,.bool false),(11,fi 11 va),(12,iv (yl.length:Int)),(13,iv ((k1:Int)+1))]) rfl cQ),rfl⟩
 have hS5:=Sep.yY hP2
 refine aj ?_
 refine aa ?_
 refine ik (b:=b2) rfl (fun _=>rfl) (fun h25=>?_) (fun h25=>?_)
 refine af ?_
 exact ⟨.bool true,rfl,true,ps2,hps2,hPi,Sep.aq hP2 _,rfl⟩
 refine af ?_
 exact ⟨.bool false,rfl,false,ps2,hps2,hPi,Sep.aq hP2 _,rfl⟩
theorem aaM:FT 9=some Qa:=by kernel_rfl
theorem Wo:aT 9=none:=by kernel_rfl
end Go.Sx
