/- Proves what some functions of the program answer, by walking through them. -/
import Derived.KernelRfl
import Derived.Test.YtihofefpkjfmnaaGreatNag
import Derived.Test.YtihofefpkjfmnaaGreatNaj
import Derived.Test.YtihofefpkjfmnaaGreatNal
import Derived.Test.YtihofefpkjfmnaaGreatNam
import Derived.Test.YtihofefpkjfmnaaGreatNan
import Derived.Test.YtihofefpkjfmnaaGreatNao
set_option linter.all false
set_option maxRecDepth 100000
set_option maxHeartbeats 0
namespace Go.Sx
open Go Go.Proofs
def P45 (_a0:kb) (_a1:Row kq) (_a2:dO) (_a3:Int) (_a4:Int) (v:AV):Prop:=∃ r0:kn,((Ax r0/\rP _a0.p _a1.l _a2 _a3 r0))/\v=.agg (kn.af r0)
def t45 (a0:kb) (a1:Row kq) (a2:dO) (a3:Int) (a4:Int) (q1:mU a0.p) (q2:a1.l.length<=64) (q3:(∀ r∈(a1.l:List kq),ri r)) (q5:(∀ r∈a2.runs.l,r.kr.l.length<=12)) (qn:rB a0) (qi:0<=a3/\a3<(a2.runs.l.length:Int)) (q8:a4=0) (q9:0<=oe a0.p a2 a3 0->lR a0.p (oe a0.p a2 a3 0)≠0):Ct 45 [.ip (kb.af a0) 0 false,kx a1,.agg (dO.af a2),iv a3,iv a4] (P45 a0 a1 a2 a3 a4):=by
 refine kA Pn ?_
 refine ae ?_
 iterate 2 refine oN (qq (qg (oV ?_)))
 refine ao ?_
 refine oC (t96 a2 a3 a4) ?_
 rintro _ ⟨r2,r3,hc1,rfl⟩
 have hL:=hc1.1; have hLz:=hc1.2
 have hLe:r3=true->(r2).l.length<=12/\0<=a4/\a4<=((r2).l.length:Int):=λz=>by have hz:=hL.1 z; refine ⟨?_,hz.2.2.1,hz.2.2.2.2⟩; rw [hz.2.2.2.1 d4]; exact q5 _ (List.getElem_mem _)
 cases r3
 refine cP ?_
 refine cA ?_
 exact xG ⟨(⟨(mu:Row Int),(mu:Row lL)⟩:kn),eT,rfl⟩
 have hLt:=hL.1 rfl; have hLL:=hLt.2.2.2.1
 refine cP ?_
 refine ap ?_
 refine wy [.ip (kb.af a0) 0 false,kx a1,iv a3,iv a4,.la 7 0,.la 10 0,.la 11 0,nF r2] [(7,(dO.af a2)),(10,[iN,iN]),(11,[iN,iN])] ?_
 refine qs ?_
 refine db ?_
 refine oC (t98 a0 a2 a3 a4) ?_
 rintro _ ⟨r5,hc4,rfl⟩
 have hStn:=hc4
 refine oC (t97 a0 r5) ?_
 rintro _ ⟨r7,hc6,rfl⟩
 have hPla:=hc6
 refine aN ?_
 refine mW (λh8=>?_) (λh8=>?_)
 refine ay ?_
 refine qg ?_
 refine cG ?_
 refine wy [.ip (kb.af a0) 0 false,kx a1,iv a3,iv a4,.la 7 0,.la 10 0,.la 11 0,nF r2] [(7,(dO.af a2)),(10,[iN,iN]),(11,[.sl [[iv r7]] (.exact 1),iN])] ?_
 refine aj ?_
 refine oC (t99 a0 dS) ?_
 rintro _ ⟨r10,hc9,rfl⟩
 have hPl:=hc9.2.2.2.2.2
 have hLG:=E9 hPl q1; obtain ⟨hLe1,hLe2,hLe3⟩:=hLe rfl
 refine oV ?_
 refine ak ?_
 refine aC ?_
 have hS11:=Sep.m3 lJ 2
 refine nw (λm17 e h=>∃ v12:AV,∃ l13:List lL,∃ n14:Int,∃ H15:bV,m17=((r2.l.length:Int) - n14).toNat/\(0<=n14/\n14<=(r2.l.length:Int))/\((l13.length:Int)<=n14)/\(∀ x∈(l13:List lL),x.free.l.length<=1000000)/\(WL a0.p a1.l a2 a3 l13 (n14).toNat)/\Sep H15 (nu lL.af 2 v12 l13::[])/\At [0,1,3,7,10,11,12,15,16] [.ip (kb.af a0) 0 false,kx a1,iv a3,.la 7 0,.la 10 0,.la 11 0,nF r2,kD r10.lines,iv n14] H15 [(7,(dO.af a2)),(10,[iN,iN]),(11,[.sl [[iv r7]] (.exact 1),v12])] e h) ?_ _ _ _ ⟨iN,(([]:List lL)),a4,bV.empty,rfl,d4,fg,fQ,gO,hS11,atR⟩
 rintro m17 e h ⟨v12,l13,n14,H15,hmm17,hi0,hi1,hW,hWl,hS16,hA⟩
 refine cu ?_
 have hL18:=r2.lk
 refine lx r2 ?_
 refine kE (λh19=>?_) (λh19=>?_)
 refine cb ?_
 refine wz [.ip (kb.af a0) 0 false,kx a1,iv a3,.la 7 0,.la 10 0,.la 11 0,nF r2,kD r10.lines,iv n14] H15 [(7,(dO.af a2)),(10,[iN,iN]),(11,[.sl [[iv r7]] (.exact 1),v12])] ?_
 refine dM ?_
 refine rV ?_
 refine rC (t100 a0 r10.lines a1 a2 a3 n14 dS dS dS dS dS) ?_
 rintro _ ⟨r21,hc20,rfl⟩
 have hFr:=hc20
 refine bH ?_
 refine Zu ?_
 refine rC (t98 a0 a2 a3 (n14+1)) ?_
 rintro _ ⟨r23,hc22,rfl⟩
 have hStn:=hc22
 refine rC (t97 a0 r23) ?_
 rintro _ ⟨r25,hc24,rfl⟩
 have hPla:=hc24
 refine rV ?_
 refine kG rfl rfl (λ_=>sJ (xs:=[[kU r21,iv r25]]) rfl rfl rfl rfl (yU (j8 (mH _) (j8 rfl kK)) rfl)) ?_
 refine mP rfl rfl (lO (i:=0) (l:=l13) (enc:=lL.af) [(⟨r21,r25⟩:lL)] hS16 rfl rfl rfl rfl rfl rfl rfl rfl rfl (λ_=>rfl) (.inl rfl) dZ (λ_=>rfl)) ?_
 rintro v26 H27 hS28
 refine rV ?_
 refine kG rfl rfl (λ_=>pd rfl rfl rfl (nG rfl rfl (Sep.cell (i:=0) hS28 rfl)) (j8 (Sep.cell (i:=0) hS28 rfl) kK) rfl rfl) ?_
 refine rN ?_
 refine wz [.ip (kb.af a0) 0 false,kx a1,iv a3,.la 7 0,.la 10 0,.la 11 0,nF r2,kD r10.lines,iv n14] H27 [(7,(dO.af a2)),(10,[iN,iN]),(11,[.sl [[iv r7]] (.exact 1),v26])] ?_
 refine aJ ?_
 refine kI ?_
 refine ab ?_
 refine ⟨_,?_,v26,((l13++[(⟨r21,r25⟩:lL)])),(n14+1),H27,rfl,d4,fg,(by exact qx hW hFr.1),hZ,hS28,atR⟩
 omega
 refine aL ?_
 refine wz [.la 10 0,.la 10 0,.la 11 0] H15 [(10,[iN,iN]),(10,[iN,iN]),(11,[.sl [[iv r7]] (.exact 1),v12])] ?_
 refine aj ?_
 refine iS rfl (λ_=>pd rfl rfl rfl rfl (j8 rfl (j8 (Sep.cell (i:=0) hS16 rfl) kK)) rfl rfl) ?_
 refine cN ?_
 obtain ⟨r29,hl30,hf31⟩:=mz (H:=H15) (i:=0) (l:=l13) (enc:=lL.af) hS16 rfl dV
 have hlq:=hl30; have hln33:=congrArg List.length hl30
 have hz32:∀ m,freeze false { H15 with cT:=[(10,[.sl [[iv r7]] (.exact 1),v12]),(11,[.sl [[iv r7]] (.exact 1),v12])] } (m+2) v12=some (nJ r29):=λm=>hf31 _ _ (λ_=>by simp only [lL.af,kP,oD,oZ,pB,oz,pE])
 exact ⟨.agg [.sl [[iv r7]] (.exact 1),v12],(lQ (vs:=[.agg [.sl [[iv r7]] (.exact 1),v12]]) rfl rfl),.agg [.sl [[iv r7]] (.exact 1),nJ r29],(show freeze false { H15 with cT:=[(10,[.sl [[iv r7]] (.exact 1),v12]),(11,[.sl [[iv r7]] (.exact 1),v12])] } 8 (.agg [.sl [[iv r7]] (.exact 1),v12])=some (.agg [.sl [[iv r7]] (.exact 1),nJ r29]) by simp only [FZ,hz32]),(⟨(⟨[r7],.exact 1,rD,rfl,oq⟩:Row Int),r29⟩:kn),eT,rfl⟩
 refine au ?_
 refine wy [.ip (kb.af a0) 0 false,kx a1,iv a3,iv a4,.la 7 0,.la 10 0,.la 11 0,nF r2] [(7,(dO.af a2)),(10,[iN,iN]),(11,[iN,iN])] ?_
 refine aj ?_
 refine oC (t99 a0 dS) ?_
 rintro _ ⟨r35,hc34,rfl⟩
 have hPl:=hc34.2.2.2.2.2
 have hLG:=E9 hPl q1; obtain ⟨hLe1,hLe2,hLe3⟩:=hLe rfl
 refine oV ?_
 refine ak ?_
 refine aC ?_
 have hS36:=Sep.m3 lJ 2
 refine nw (λm42 e h=>∃ v37:AV,∃ l38:List lL,∃ n39:Int,∃ H40:bV,m42=((r2.l.length:Int) - n39).toNat/\(0<=n39/\n39<=(r2.l.length:Int))/\((l38.length:Int)<=n39)/\(∀ x∈(l38:List lL),x.free.l.length<=1000000)/\(WL a0.p a1.l a2 a3 l38 (n39).toNat)/\Sep H40 (nu lL.af 2 v37 l38::[])/\At [0,1,3,7,10,11,12,15,16] [.ip (kb.af a0) 0 false,kx a1,iv a3,.la 7 0,.la 10 0,.la 11 0,nF r2,kD r35.lines,iv n39] H40 [(7,(dO.af a2)),(10,[iN,iN]),(11,[iN,v37])] e h) ?_ _ _ _ ⟨iN,(([]:List lL)),a4,bV.empty,rfl,d4,fg,fQ,gO,hS36,atR⟩
 rintro m42 e h ⟨v37,l38,n39,H40,hmm42,hi0,hi1,hW,hWl,hS41,hA⟩
 refine cu ?_
 have hL43:=r2.lk
 refine lx r2 ?_
 refine kE (λh44=>?_) (λh44=>?_)
 refine cb ?_
 refine wz [.ip (kb.af a0) 0 false,kx a1,iv a3,.la 7 0,.la 10 0,.la 11 0,nF r2,kD r35.lines,iv n39] H40 [(7,(dO.af a2)),(10,[iN,iN]),(11,[iN,v37])] ?_
 refine dM ?_
 refine rV ?_
 refine rC (t100 a0 r35.lines a1 a2 a3 n39 dS dS dS dS dS) ?_
 rintro _ ⟨r46,hc45,rfl⟩
 have hFr:=hc45
 refine bH ?_
 refine Zu ?_
 refine rC (t98 a0 a2 a3 (n39+1)) ?_
 rintro _ ⟨r48,hc47,rfl⟩
 have hStn:=hc47
 refine rC (t97 a0 r48) ?_
 rintro _ ⟨r50,hc49,rfl⟩
 have hPla:=hc49
 refine rV ?_
 refine kG rfl rfl (λ_=>sJ (xs:=[[kU r46,iv r50]]) rfl rfl rfl rfl (yU (j8 (mH _) (j8 rfl kK)) rfl)) ?_
 refine mP rfl rfl (lO (i:=0) (l:=l38) (enc:=lL.af) [(⟨r46,r50⟩:lL)] hS41 rfl rfl rfl rfl rfl rfl rfl rfl rfl (λ_=>rfl) (.inl rfl) dZ (λ_=>rfl)) ?_
 rintro v51 H52 hS53
 refine rV ?_
 refine kG rfl rfl (λ_=>pd rfl rfl rfl (nG rfl rfl (Sep.cell (i:=0) hS53 rfl)) (j8 (Sep.cell (i:=0) hS53 rfl) kK) rfl rfl) ?_
 refine rN ?_
 refine wz [.ip (kb.af a0) 0 false,kx a1,iv a3,.la 7 0,.la 10 0,.la 11 0,nF r2,kD r35.lines,iv n39] H52 [(7,(dO.af a2)),(10,[iN,iN]),(11,[iN,v51])] ?_
 refine aJ ?_
 refine kI ?_
 refine ab ?_
 refine ⟨_,?_,v51,((l38++[(⟨r46,r50⟩:lL)])),(n39+1),H52,rfl,d4,fg,(by exact qx hW hFr.1),hZ,hS53,atR⟩
 omega
 refine aL ?_
 refine ct ?_
 obtain ⟨r54,hl55,hf56⟩:=mz (H:=H40) (i:=0) (l:=l38) (enc:=lL.af) hS41 rfl dV
 have hlq:=hl55; have hln58:=congrArg List.length hl55
 have hz57:∀ m,freeze false { H40 with cT:=[(10,[iN,v37]),(11,[iN,v37])] } (m+2) v37=some (nJ r54):=λm=>hf56 _ _ (λ_=>by simp only [lL.af,kP,oD,oZ,pB,oz,pE])
 exact ⟨.agg [iN,v37],(lQ (vs:=[.agg [iN,v37]]) rfl rfl),.agg [iN,nJ r54],(show freeze false { H40 with cT:=[(10,[iN,v37]),(11,[iN,v37])] } 8 (.agg [iN,v37])=some (.agg [iN,nJ r54]) by simp only [FZ,hz57]),(⟨(mu:Row Int),r54⟩:kn),eT,rfl⟩
def abO (n:kb) (c:kV) (d:dO) (lg:ka Int) (rd:ka Int) (ca:ka Int) (ow:ka Int) (v:AV):Prop:=∃ r0:Row kn,((r0.l.length=lg.l.length/\∀ x∈r0.l,Ax x)/\mN n.p c.roads.l d r0.l lg.l.length)/\v=ma r0
def ack (n:kb) (c:kV) (d:dO) (lg:ka Int) (rd:ka Int) (ca:ka Int) (ow:ka Int) (o1:mU n.p) (o2:c.roads.l.length<=64) (o3:(∀ r∈(c.roads.l:List kq),ri r)) (o4:(∀ r∈d.runs.l,r.kr.l.length<=12)) (o5:rd.l.length=lg.l.length) (o6:lg.l.length<=8) (o7:∀ x∈lg.l,x=0) (o8:∀ x∈rd.l,x = -1) (on:rB n) (ol:lg.l.length=d.runs.l.length) (os:∀ i:Nat,i<d.runs.l.length->0<=oe n.p d i 0->lR n.p (oe n.p d i 0)≠0):Ct 15 [.ip (pk n c d (lG lg) (lG rd) (lG ca) (lG ow)) 0 true] (abO n c d lg rd ca ow):=by
 refine kA NJ ?_
 refine bC ?_
 refine aY ?_
 refine aD ?_
 have hL1:=lg.lk
 refine iS rfl (λ_=>nA (r:=lg) (enc:=kX) rfl rfl rfl rfl rfl rfl) ?_
 refine aC ?_
 have hS2:=Sep.m3 lJ 2
 have hNk3:=lg.lk
 refine ke lg.l.length (λk3 e h=>∃ v4:AV,∃ l5:List kn,∃ H6:bV,(l5.length=k3)/\(∀ x∈(l5:List kn),Ax x)/\(mN n.p c.roads.l d l5 k3)/\Sep H6 (nu kn.af 2 v4 l5::[])/\At [0,3,9,10,11] [.ip (pk n c d (lG lg) (lG rd) (lG ca) (lG ow)) 0 true,v4,lG lg,ck lg.l.length,ck k3] H6 [] e h) ?_ (k0:=0) d4 ⟨iN,(([]:List kn)),bV.empty,iy,fQ,(by exact mN.zero),hS2,atR⟩
 rintro k3 e h hkk3 ⟨v4,l5,H6,hLn,hCo,hCs,hS7,hA⟩
 refine aE ?_
 refine kE (λh8=>?_) (λh8=>?_)
 refine ai ?_
 refine wz [.ip (pk n c d (lG lg) (lG rd) (lG ca) (lG ow)) 0 true,v4,lG lg,ck lg.l.length,ck k3] H6 [] ?_ (kF hS7 [(3,0)])
 refine cw ?_
 have hx9:k3<lg.l.length:=by omega
 refine iS rfl (λ_=>m8 (n:=k3) (r:=lg) (enc:=kX) rfl rfl rfl rfl rfl hx9 rfl) ?_
 generalize hqx10:lg.l[k3]=x10
 have hinx10:x10∈lg.l:=by rw [<- hqx10]; exact List.getElem_mem _
 have hzx10:=o7 x10 hinx10
 refine bM ?_
 refine qs ?_
 refine db ?_
 have hx11:k3<rd.l.length:=by omega
 refine iS rfl (λ_=>m8 (n:=k3) (r:=rd) (enc:=kX) rfl rfl rfl rfl rfl hx11 rfl) ?_
 generalize hqx12:rd.l[k3]=x12
 have hinx12:x12∈rd.l:=by rw [<- hqx12]; exact List.getElem_mem _
 have hzx12:=o8 x12 hinx12
 refine oV ?_
 refine mW (λh13=>?_) (λh13=>?_)
 exfalso; omega
 refine au ?_
 refine wz [.ip (pk n c d (lG lg) (lG rd) (lG ca) (lG ow)) 0 true,v4,ck k3,iv x10,lG lg,ck lg.l.length,ck k3] H6 [] ?_ (kF hS7 [(3,0)])
 refine qd ?_
 iterate 16 refine rV ?_
 have hos:=λh=>os k3 h
 refine rC (t45 n c.roads d ((k3:Int)) x10 dS dS dS dS dS dS dS dS) ?_
 rintro _ ⟨r15,hc14,rfl⟩
 have hCkr2:=hc14.2
 have hCk:=hc14.1; have hCR:=hc14.2
 refine kG rfl rfl (λ_=>sJ (xs:=[(kn.af r15)]) rfl rfl rfl rfl (yU (j8 (mH _) (j8 (mH _) kK)) rfl)) ?_
 refine mP rfl rfl (lO (i:=0) [r15] hS7 rfl rfl rfl rfl rfl rfl rfl rfl rfl (λ_=>rfl) (.inl rfl) dZ (λ_=>rfl)) ?_
 rintro v16 H17 hS18
 refine aP ?_
 refine wz [.ip (pk n c d (lG lg) (lG rd) (lG ca) (lG ow)) 0 true,v16,lG lg,ck lg.l.length,ck k3] H17 [] ?_ (kF hS18 [(3,0)])
 refine qg ?_
 refine kI ?_
 refine ab ?_
 exact ⟨by omega,v16,((l5++[r15])),H17,gN,(by exact qx hCo hCk),(by exact hCs.snoc hCR),hS18,(kF hS18 [(3,0)])⟩
 refine ah ?_
 refine wz [v4] H6 [] ?_ (kF hS7 [(3,0)])
 refine bT ?_
 obtain ⟨r19,hl20,hf21⟩:=mz (H:=H6) (i:=0) (l:=l5) (enc:=kn.af) hS7 rfl dV
 have hlq:=hl20; have hln23:=congrArg List.length hl20
 have hz22:∀ m,freeze false { H6 with cT:=[] } (m+2) v4=some (ma r19):=λm=>hf21 _ _ (λ_=>by simp only [kn.af,kP,oD,oZ,pB,oz,pE])
 exact ⟨v4,(lQ (vs:=[v4]) rfl (j8 (Sep.arg (i:=0) hS7 rfl) kK)),ma r19,(show freeze false { H6 with cT:=[] } 8 v4=some (ma r19) by simp only [FZ,hz22]),r19,(by exact ⟨⟨by omega,by simp_all⟩,hCs.end_ dT d4 d4⟩),rfl⟩
def Q6 (n:kb) (c:kV) (d:dO) (lg:ka Int) (rd:ka Int) (ca:ka Int) (ow:ka Int) (v:AV):Prop:=∃ r0:Row kn,(((r0.l.length=lg.l.length/\∀ x∈r0.l,Ax x)/\mN n.p c.roads.l d r0.l lg.l.length)/\rs 15 [.ip (pk n c d (lG lg) (lG rd) (lG ca) (lG ow)) 0 true]=ma r0)/\v=ma r0
def t15 (n:kb) (c:kV) (d:dO) (lg:ka Int) (rd:ka Int) (ca:ka Int) (ow:ka Int) (o1:mU n.p) (o2:c.roads.l.length<=64) (o3:(∀ r∈(c.roads.l:List kq),ri r)) (o4:(∀ r∈d.runs.l,r.kr.l.length<=12)) (o5:rd.l.length=lg.l.length) (o6:lg.l.length<=8) (o7:∀ x∈lg.l,x=0) (o8:∀ x∈rd.l,x = -1) (on:rB n) (ol:lg.l.length=d.runs.l.length) (os:∀ i:Nat,i<d.runs.l.length->0<=oe n.p d i 0->lR n.p (oe n.p d i 0)≠0) (h:bV):∃ v,kC cfg FT kJ false 15 [.ip (pk n c d (lG lg) (lG rd) (lG ca) (lG ow)) 0 true] h v h/\Q6 n c d lg rd ca ow v:=by
 obtain ⟨v,hc,hP,hr⟩:=pa rY (ack n c d lg rd ca ow o1 o2 o3 o4 o5 o6 o7 o8 on ol os) h
 obtain ⟨r0,hp,rfl⟩:=hP
 exact iR
def u72 {H:bV} (x:lY) (F:List lF) (hS:Sep H F) :∃ v H',kC cfg FT kJ true 72 [.agg (lY.af x)] { H with cT:=[] } v H'/\(∃ r0:Bool,(((r0=true->x.auto=true)/\(r0=false->x.auto=false)))/\Sep H' (F)/\v=.bool r0):=by
 refine lK MC ?_
 refine aj ?_
 refine aN ?_
 refine mh (b:=x.auto) rfl (λ_=>rfl) (λh1=>?_) (λh1=>?_)
 refine ag ?_
 have hS2:=Sep.pick hS [] 0 dW dW
 exact iP
 refine ag ?_
 have hS3:=Sep.pick hS [] 0 dW dW
 exact i9
def R5 {H:bV} (l:ka lY) (F:List lF) (hS:Sep H F) :∃ v H',kC cfg FT kJ true 140 [ka.av lY.af l,.ly 72 [] []] { H with cT:=[] } v H'/\(∃ r0:Int,(((0<=r0->∃ x∈l.l,x.auto=true)/\(r0<0->∀ x∈l.l,x.auto=false)))/\Sep H' (F)/\v=iv r0):=by
 refine lK IP ?_
 refine aY ?_
 have hL1:=l.lk
 refine iS rfl (λ_=>nA (r:=l) (enc:=lY.af) rfl rfl rfl rfl rfl rfl) ?_
 refine aC ?_
 have hNk2:=l.lk
 refine ke l.l.length (λk2 e h=>∃ H3:bV,(∀ (i:Nat) (h:i<l.l.length),i<k2->(l.l[i]).auto=false)/\Sep H3 (F)/\At [0,1,7,8] [ka.av lY.af l,.ly 72 [] [],ck l.l.length,ck k2] H3 [] e h) ?_ (k0:=0) d4 ⟨H,eX,hS,atR⟩
 rintro k2 e h hkk2 ⟨H3,hP,hS4,hA⟩
 refine aE ?_
 refine kE (λh5=>?_) (λh5=>?_)
 refine c8 ?_
 refine aI ?_
 have hx6:k2<l.l.length:=by omega
 refine iS rfl (λ_=>m8 (n:=k2) (r:=l) (enc:=lY.af) rfl rfl rfl rfl rfl hx6 rfl) ?_
 generalize hqx7:l.l[k2]=x7
 have hinx7:x7∈l.l:=by rw [<- hqx7]; exact List.getElem_mem _
 have hmx7:=True.intro
 refine oV ?_
 refine lB (H:=H3) (args:=[.agg (lY.af x7)]) (p:=[]) (r:=[]) rfl rfl rfl rfl rfl rfl rfl (u72 x7 F hS4) ?_
 rintro _ H9 ⟨r12,hc11,hS10,rfl⟩
 have hB:=hc11
 cases r12
 refine bv ?_
 refine kI ?_
 refine ab ?_
 exact ⟨by omega,H9,(by exact ng (P:=λx:lY=>x.auto=false) dT hP (hB.2 rfl)),hS10,atR⟩
 refine aH ?_
 have hS13:=Sep.pick hS10 [] 0 dW dW
 exact i5
 refine bE ?_
 have hS14:=Sep.pick hS4 [] 0 dW dW
 exact i6
def TM {H:bV} (l:ka lY) (F:List lF) (hS:Sep H F) :∃ v H',kC cfg FT kJ true 71 [ka.av lY.af l,.ly 72 [] []] { H with cT:=[] } v H'/\(∃ r0:Bool,(((r0=true->∃ x∈l.l,x.auto=true)/\(r0=false->∀ x∈l.l,x.auto=false)))/\Sep H' (F)/\v=.bool r0):=by
 refine lK Mq ?_
 refine cO ?_
 refine lB (H:=H) (args:=[ka.av lY.af l,.ly 72 [] []]) (p:=[]) (r:=[]) rfl rfl rfl rfl rfl rfl rfl (R5 l F hS) ?_
 rintro _ H2 ⟨r5,hc4,hS3,rfl⟩
 have hIx:=hc4
 refine mW (λh6=>?_) (λh6=>?_)
 refine ag ?_
 have hS7:=Sep.pick hS3 [] 0 dW dW
 exact iM
 refine ag ?_
 have hS8:=Sep.pick hS3 [] 0 dW dW
 exact iO
def aba (_a0:Int) (_a1:Int) (v:AV):Prop:=∃ r0:Bool,(((r0=true->1<=_a0/\_a0<=_a1)/\(r0=false->¬ (1<=_a0/\_a0<=_a1))))/\v=.bool r0
def t239 (a0:Int) (a1:Int) :Ct 239 [iv a0,iv a1] (aba a0 a1):=by
 refine kA Ib ?_
 refine aa ?_
 refine aN ?_
 refine mW (λh1=>?_) (λh1=>?_)
 refine aD ?_
 refine tX (λh2=>?_) (λh2=>?_)
 refine bd ?_
 exact xB ⟨true,gh,rfl⟩
 refine bd ?_
 exact xB ⟨false,gh,rfl⟩
 refine bX ?_
 refine bd ?_
 exact xB ⟨false,gh,rfl⟩
def aaM (_a0:kR) (v:AV):Prop:=∃ r0:Bool,((xq _a0->r0=true))/\v=.bool r0
def t197 (a0:kR) :Ct 197 [.agg (kR.af a0)] (aaM a0):=by
 refine kA JL ?_
 refine dl ?_
 refine oC (t127 a0.name) ?_
 rintro _ ⟨r2,⟨hc1,hc1r⟩,rfl⟩
 have hNw:=hc1
 cases r2
 refine bX ?_
 refine ao ?_
 refine aB ?_
 refine bd ?_
 exact jl
 refine aD ?_
 refine oC (t239 a0.len 4000) ?_
 rintro _ ⟨r4,hc3,rfl⟩
 have hMa:=hc3
 cases r4
 refine ao ?_
 refine aB ?_
 refine bd ?_
 exact jl
 refine aM ?_
 refine oC (t239 a0.top 60) ?_
 rintro _ ⟨r6,hc5,rfl⟩
 have hMa:=hc5
 cases r6
 refine az ?_
 refine bd ?_
 exact jl
 refine aM ?_
 refine oC (t239 a0.acc 10) ?_
 rintro _ ⟨r8,hc7,rfl⟩
 have hMa:=hc7
 cases r8
 refine dj ?_
 refine bd ?_
 exact jl
 refine aM ?_
 refine oC (t239 a0.lC 10) ?_
 rintro _ ⟨r10,hc9,rfl⟩
 have hMa:=hc9
 cases r10
 refine bd ?_
 exact jl
 refine bd ?_
 exact xB ⟨true,eY,rfl⟩
def aaA (_a0:Row kR) (v:AV):Prop:=∃ r0:Int,((Cb _a0.l->r0=0))/\v=iv r0
def t124 (a0:Row kR) :Ct 124 [lH a0] (aaA a0):=by
 refine kA J4 ?_
 refine bC ?_
 refine ur ?_
 refine am ?_
 have hL1:=a0.lk
 refine lx a0 ?_
 refine mc (λh2=>?_) (λh2=>?_)
 refine aZ ?_
 exact xB ⟨3,fU,rfl⟩
 refine au ?_
 refine bC ?_
 refine qq ?_
 refine ql ?_
 refine am ?_
 have hL3:=a0.lk
 refine dL ?_
 have hNk4:=a0.lk
 refine ke a0.l.length (λk4 e h=>∃ n5:Int,(Cb a0.l->n5=0)/\At [0,3,11,12,13] [lH a0,iv n5,lH a0,ck a0.l.length,ck k4] bV.empty [] e h) ?_ (k0:=0) d4 ⟨0,(by exact λ_=>rfl),atR⟩
 rintro k4 e h hkk4 ⟨n5,hE0,hA⟩
 refine aE ?_
 refine kE (λh6=>?_) (λh6=>?_)
 refine ai ?_
 refine cw ?_
 have hx7:k4<a0.l.length:=by omega
 refine mB k4 a0 hx7 ?_
 generalize hqx8:a0.l[k4]=x8
 refine aD ?_
 refine ak ?_
 refine oC (t197 x8) ?_
 rintro _ ⟨r10,hc9,rfl⟩
 have hMs:=hc9
 cases r10
 refine aq ?_
 exact xB ⟨1,fU,rfl⟩
 refine oV ?_
 refine dG ?_
 have hx11:k4<=a0.l.length:=by omega
 refine iS rfl (λ_=>Bg (k:=k4) (r:=a0) (enc:=kR.af) (n:=5) rfl rfl rfl rfl rfl rfl hx11 (λ_=>rfl)) ?_
 have hL12:=(Row.take a0 k4).lk
 refine lx ((Row.take a0 k4)) ?_
 refine aC ?_
 have hNk13:=(Row.take a0 k4).lk
 refine ke ((Row.take a0 k4).l.length) (λk13 e h=>At [0,3,5,11,12,13,23,24,25] [lH a0,iv n5,.la 5 0,lH a0,ck a0.l.length,ck k4,lH (Row.take a0 k4),iv ((Row.take a0 k4).l.length:Int),ck k13] bV.empty [(5,(kR.af x8))] e h) ?_ (k0:=0) d4 atR
 rintro k13 e h hkk13 hA
 refine aE ?_
 refine kE (λh14=>?_) (λh14=>?_)
 refine cm ?_
 have hx15:k13<(Row.take a0 k4).l.length:=by omega
 refine mB k13 ((Row.take a0 k4)) hx15 ?_
 generalize hqx16:(Row.take a0 k4).l[k13]=x16
 refine bM ?_
 refine bJ ?_
 refine qf rfl (λ_=>vf rfl rfl) (λh17=>?_) (λh17=>?_)
 refine ay ?_
 refine bC ?_
 refine qe ?_
 refine qg ?_
 refine kI ?_
 refine ab ?_
 exact ⟨by omega,4,im,atR⟩
 refine bv ?_
 refine kI ?_
 refine ab ?_
 exact iJ
 refine ah ?_
 refine qg ?_
 refine kI ?_
 refine ab ?_
 exact ⟨by omega,n5,im,atR⟩
 refine ah ?_
 refine bT ?_
 exact xB ⟨n5,fU,rfl⟩
def abF {H:bV} (b:Nat) (pp:bY) (x:kR) (F:List lF) (hS:Sep H (lE b (bY.af pp)::F)) :∃ v H',kC cfg FT kJ true 126 [.agg (kR.af x),(ki b)] { H with cT:=[] } v H'/\(∃ r0:Bool,(((r0=true->¬ (x.top<=pp.top/\pp.lC<=x.lC))/\(r0=false->(x.top<=pp.top/\pp.lC<=x.lC))))/\Sep H' (lE b (bY.af pp)::F)/\v=.bool r0):=by
 refine lK I8 ?_
 refine dl ?_
 refine pC 0 hS ?_
 refine nB 0 hS (iv pp.top) ?_
 refine mc (λh1=>?_) (λh1=>?_)
 refine b5 ?_
 refine bd ?_
 have hS2:=Sep.pick hS [0] 1 dW dW
 exact iP
 refine aD ?_
 refine pC 0 hS ?_
 refine nB 0 hS (iv pp.lC) ?_
 refine kE (λh3=>?_) (λh3=>?_)
 refine bd ?_
 have hS4:=Sep.pick hS [0] 1 dW dW
 exact ⟨.bool true,rfl,true,eO,Sep.cT hS4 _,rfl⟩
 refine bd ?_
 have hS5:=Sep.pick hS [0] 1 dW dW
 exact ⟨.bool false,rfl,false,eO,Sep.cT hS5 _,rfl⟩
def Nn {H:bV} (l:ka kR) (b:Nat) (pp:bY) (F:List lF) (hS:Sep H (lE b (bY.af pp)::F)) :∃ v H',kC cfg FT kJ true 198 [ka.av kR.af l,.ly 126 [] [(ki b)]] { H with cT:=[] } v H'/\(∃ r0:Int,(((0<=r0->∃ x∈l.l,¬ (x.top<=pp.top/\pp.lC<=x.lC))/\(r0<0->∀ x∈l.l,(x.top<=pp.top/\pp.lC<=x.lC))))/\Sep H' (lE b (bY.af pp)::F)/\v=iv r0):=by
 refine lK Kj ?_
 refine aY ?_
 have hL1:=l.lk
 refine iS rfl (λ_=>nA (r:=l) (enc:=kR.af) rfl rfl rfl rfl rfl rfl) ?_
 refine aC ?_
 have hNk2:=l.lk
 refine ke l.l.length (λk2 e h=>∃ H3:bV,(∀ (i:Nat) (h:i<l.l.length),i<k2->((l.l[i]).top<=pp.top/\pp.lC<=(l.l[i]).lC))/\Sep H3 (lE b (bY.af pp)::F)/\At [0,1,7,8] [ka.av kR.af l,.ly 126 [] [(ki b)],ck l.l.length,ck k2] H3 [] e h) ?_ (k0:=0) d4 ⟨H,eX,hS,atR⟩
 rintro k2 e h hkk2 ⟨H3,hP,hS4,hA⟩
 refine aE ?_
 refine kE (λh5=>?_) (λh5=>?_)
 refine c8 ?_
 refine aI ?_
 have hx6:k2<l.l.length:=by omega
 refine iS rfl (λ_=>m8 (n:=k2) (r:=l) (enc:=kR.af) rfl rfl rfl rfl rfl hx6 rfl) ?_
 generalize hqx7:l.l[k2]=x7
 have hinx7:x7∈l.l:=by rw [<- hqx7]; exact List.getElem_mem _
 have hmx7:=True.intro
 refine oV ?_
 have hS8:=Sep.pick hS4 [0] 1 dW dW
 refine lB (H:=H3) (args:=[.agg (kR.af x7)]) (p:=[]) (r:=[(ki b)]) rfl rfl rfl rfl rfl rfl rfl (abF b pp x7 F hS8) ?_
 rintro _ H9 ⟨r12,hc11,hS10,rfl⟩
 have hB:=hc11
 cases r12
 refine bv ?_
 refine kI ?_
 refine ab ?_
 exact ⟨by omega,H9,(by exact ng (P:=λx:kR=>(x.top<=pp.top/\pp.lC<=x.lC)) dT hP (hB.2 rfl)),hS10,atR⟩
 refine aH ?_
 have hS13:=Sep.pick hS10 [0] 1 dW dW
 exact i5
 refine bE ?_
 have hS14:=Sep.pick hS4 [0] 1 dW dW
 exact i6
def M5 {H:bV} (l:ka kR) (b:Nat) (pp:bY) (F:List lF) (hS:Sep H (lE b (bY.af pp)::F)) :∃ v H',kC cfg FT kJ true 125 [ka.av kR.af l,.ly 126 [] [(ki b)]] { H with cT:=[] } v H'/\(∃ r0:Bool,(((r0=true->∃ x∈l.l,¬ (x.top<=pp.top/\pp.lC<=x.lC))/\(r0=false->∀ x∈l.l,(x.top<=pp.top/\pp.lC<=x.lC))))/\Sep H' (lE b (bY.af pp)::F)/\v=.bool r0):=by
 refine lK Ji ?_
 refine cO ?_
 have hS1:=Sep.pick hS [0] 1 dW dW
 refine lB (H:=H) (args:=[ka.av kR.af l,.ly 126 [] [(ki b)]]) (p:=[]) (r:=[]) rfl rfl rfl rfl rfl rfl rfl (Nn l b pp F hS1) ?_
 rintro _ H2 ⟨r5,hc4,hS3,rfl⟩
 have hIx:=hc4
 refine mW (λh6=>?_) (λh6=>?_)
 refine ag ?_
 have hS7:=Sep.pick hS3 [0] 1 dW dW
 exact iM
 refine ag ?_
 have hS8:=Sep.pick hS3 [0] 1 dW dW
 exact iO
def ab2 (_a0:bY) (_a1:Row kR) (v:AV):Prop:=∃ r0:Int,((yM _a0 _a1.l->r0=0))/\v=iv r0
def Z3 (a0:bY) (a1:Row kR) :Ct 60 [.agg (bY.af a0),lH a1] (ab2 a0 a1):=by
 refine kA N2 ?_
 refine bR ?_
 rintro _ H2 ⟨b1,rfl,hS3⟩
 refine ak ?_
 refine oC (t124 a1) ?_
 rintro _ ⟨r5,hc4,rfl⟩
 have hWr:=hc4
 refine aN ?_
 refine mg (λh6=>?_) (λh6=>?_)
 refine aH ?_
 exact xB ⟨r5,fS,rfl⟩
 refine au ?_
 refine wz [lH a1,(ki b1)] H2 [] ?_
 refine am ?_
 refine iS rfl (λ_=>tn rfl rfl (tv rfl rfl)) ?_
 have hS7:=Sep.pick hS3 [0] 1 dW dW
 refine lB (H:=H2) (args:=[lH a1,.ly 126 [] [(ki b1)]]) (p:=[]) (r:=[]) rfl rfl rfl rfl rfl rfl rfl (M5 (Row.mi a1) b1 a0 ([]) hS7) ?_
 rintro _ H8 ⟨r11,hc10,hS9,rfl⟩
 have hC1:=hc10
 cases r11
 refine au ?_
 refine wz [] H8 [] ?_
 refine aU ?_
 exact xB ⟨0,fS,rfl⟩
 refine aZ ?_
 exact xB ⟨9,fS,rfl⟩
def P60 (_a0:bY) (_a1:Row kR) (v:AV):Prop:=∃ r0:Int,(((yM _a0 _a1.l->r0=0))/\rs 60 [.agg (bY.af _a0),lH _a1]=iv r0)/\v=iv r0
def t60 (a0:bY) (a1:Row kR)  (h:bV):∃ v,kC cfg FT kJ false 60 [.agg (bY.af a0),lH a1] h v h/\P60 a0 a1 v:=by
 obtain ⟨v,hc,hP,hr⟩:=pa rY (Z3 a0 a1) h
 obtain ⟨r0,hp,rfl⟩:=hP
 exact iR
def abb {H:bV} (x:kS) (F:List lF) (hS:Sep H F) :∃ v H',kC cfg FT kJ true 142 [.agg (kS.af x)] { H with cT:=[] } v H'/\(∃ r0:Bool,(((r0=true->12<x.kr.l.length)/\(r0=false->x.kr.l.length<=12)))/\Sep H' (F)/\v=.bool r0):=by
 refine lK IH ?_
 refine dl ?_
 have hL1:=x.kr.lk
 refine lx x.kr ?_
 refine mc (λh2=>?_) (λh2=>?_)
 refine ag ?_
 have hS3:=Sep.pick hS [] 0 dW dW
 exact ⟨.bool true,rfl,true,eO,Sep.cT hS3 _,rfl⟩
 refine ag ?_
 have hS4:=Sep.pick hS [] 0 dW dW
 exact ⟨.bool false,rfl,false,eO,Sep.cT hS4 _,rfl⟩
def abP (_a0:Int) (_a1:Int) (v:AV):Prop:=∃ r0:Bool,(((r0=true->0<=_a0/\_a0<=_a1)/\(r0=false->¬(0<=_a0/\_a0<=_a1))))/\v=.bool r0
def t143 (a0:Int) (a1:Int) :Ct 143 [iv a0,iv a1] (abP a0 a1):=by
 refine kA IZ ?_
 refine aa ?_
 refine aN ?_
 refine mW (λh1=>?_) (λh1=>?_)
 refine aD ?_
 refine tX (λh2=>?_) (λh2=>?_)
 refine bd ?_
 exact xB ⟨true,gw,rfl⟩
 refine bd ?_
 exact xB ⟨false,gw,rfl⟩
 refine bX ?_
 refine bd ?_
 exact xB ⟨false,gw,rfl⟩
def aas (_a0:bY) (_a1:Int) (v:AV):Prop:=∃ r0:Int,(r0=lR _a0 _a1)/\v=iv r0
def t243 (a0:bY) (a1:Int) :Ct 243 [.agg (bY.af a0),iv a1] (aas a0 a1):=by
 refine kA Iz ?_
 refine aV ?_
 refine cq ?_
 have hL1:=a0.elems.lk
 refine lx a0.elems ?_
 have hL2:=a0.elems.lk
 refine pW ?_
 refine oC (t143 a1 ((a0.elems.l.length:Int) - 1)) ?_
 rintro _ ⟨r4,hc3,rfl⟩
 have hI:=hc3
 cases r4
 refine aq ?_
 exact xB ⟨0,gX,rfl⟩
 have hIn:=hI.1 rfl
 refine ap ?_
 refine aI ?_
 have hx5:(a1).toNat<a0.elems.l.length:=by omega
 refine iS rfl (λ_=>kW (n:=a1) (r:=a0.elems) (enc:=my.af) rfl rfl rfl rfl rfl d4 hx5 rfl) ?_
 generalize hqx6:a0.elems.l[(a1).toNat]=x6
 refine cr ?_
 exact xB ⟨x6.kind,gX,rfl⟩
def Z0 (_a0:bY) (_a1:lD) (v:AV):Prop:=∃ r0:Bool,(((r0=true->Az _a0 _a1)/\(r0=false->¬ Az _a0 _a1)))/\v=.bool r0
def t212 (a0:bY) (a1:lD) :Ct 212 [.agg (bY.af a0),.agg (lD.af a1)] (Z0 a0 a1):=by
 refine kA IM ?_
 refine cy ?_
 refine aR ?_
 refine dh ?_
 refine kZ (λh1=>?_) (λh1=>?_)
 refine ba ?_
 refine bJ ?_
 have hL2:=a0.signals.lk
 refine lx a0.signals ?_
 have hL3:=a0.signals.lk
 refine pW ?_
 refine oC (t143 a1.to ((a0.signals.l.length:Int) - 1)) ?_
 rintro _ ⟨r5,hc4,rfl⟩
 have hI:=hc4
 cases r5
 refine ag ?_
 exact js
 have hIn:=hI.1 rfl
 refine ag ?_
 exact xB ⟨true,eJ,rfl⟩
 refine be ?_
 refine kZ (λh6=>?_) (λh6=>?_)
 refine dH ?_
 refine oC (t243 a0 a1.to) ?_
 rintro _ ⟨r8,hc7,rfl⟩
 have hKd:=hc7
 refine kZ (λh9=>?_) (λh9=>?_)
 refine ag ?_
 exact xB ⟨true,eJ,rfl⟩
 refine ag ?_
 exact js
 refine be ?_
 refine kZ (λh10=>?_) (λh10=>?_)
 refine dH ?_
 refine oC (t243 a0 a1.to) ?_
 rintro _ ⟨r12,hc11,rfl⟩
 have hKd:=hc11
 refine kZ (λh13=>?_) (λh13=>?_)
 refine ag ?_
 exact xB ⟨true,eJ,rfl⟩
 refine ag ?_
 exact js
 refine ap ?_
 refine aU ?_
 exact js
def abA (_a0:bY) (_a1:dO) (_a2:kS) (v:AV):Prop:=∃ r0:Bool,(((r0=true->(rs 127 [.str _a2.name.l]=.bool true/\0<=_a2.ko/\_a2.ko<(_a1.ko.l.length:Int)/\0<=_a2.from_/\_a2.from_<(_a0.signals.l.length:Int)))/\(r0=false->¬ yk _a0 _a1 _a2)))/\v=.bool r0
def t145 (a0:bY) (a1:dO) (a2:kS) :Ct 145 [.agg (bY.af a0),.agg (dO.af a1),.agg (kS.af a2)] (abA a0 a1 a2):=by
 refine kA JW ?_
 refine aa ?_
 refine cG ?_
 refine aR ?_
 refine oC (t127 a2.name) ?_
 rintro _ ⟨r2,⟨hc1,hc1r⟩,rfl⟩
 have hNw:=hc1
 cases r2
 refine cD ?_
 refine cD ?_
 refine bP ?_
 exact i7
 refine c7 ?_
 have hL3:=a1.ko.lk
 refine lx a1.ko ?_
 have hL4:=a1.ko.lk
 refine pW ?_
 refine oC (t143 a2.ko ((a1.ko.l.length:Int) - 1)) ?_
 rintro _ ⟨r6,hc5,rfl⟩
 have hI:=hc5
 cases r6
 refine oV ?_
 refine cD ?_
 refine bP ?_
 exact i7
 have hIn:=hI.1 rfl
 iterate 7 refine oV ?_
 have hL7:=a0.signals.lk
 refine lx a0.signals ?_
 have hL8:=a0.signals.lk
 refine pW ?_
 refine oC (t143 a2.from_ ((a0.signals.l.length:Int) - 1)) ?_
 rintro _ ⟨r10,hc9,rfl⟩
 have hI:=hc9
 cases r10
 refine oV ?_
 refine bP ?_
 exact i7
 have hIn:=hI.1 rfl
 refine aQ ?_
 refine oC (t143 a2.left 4000) ?_
 rintro _ ⟨r12,hc11,rfl⟩
 have hI:=hc11
 cases r12
 refine bw ?_
 exact i7
 have hIn:=hI.1 rfl
 refine cf ?_
 refine bC ?_
 refine aR ?_
 have hL13:=a2.kr.lk
 refine lx a2.kr ?_
 refine aC ?_
 have hNk14:=a2.kr.lk
 refine ke a2.kr.l.length (λk14 e h=>∃ n15:Int,(n15=BA a2.kr.l k14)/\At [3,7,41,42,43] [.la 3 0,iv n15,nF a2.kr,ck a2.kr.l.length,ck k14] bV.empty [(3,(bY.af a0))] e h) ?_ (k0:=0) d4 ⟨0,iy,atR⟩
 rintro k14 e h hkk14 ⟨n15,hAt,hA⟩
 refine aE ?_
 refine kE (λh16=>?_) (λh16=>?_)
 refine cm ?_
 have hx17:k14<a2.kr.l.length:=by omega
 refine mB k14 a2.kr hx17 ?_
 generalize hqx18:a2.kr.l[k14]=x18
 refine bM ?_
 refine aR ?_
 refine oC (t143 x18.at_ 2000) ?_
 rintro _ ⟨r20,hc19,rfl⟩
 have hI:=hc19
 cases r20
 refine aS ?_
 refine bP ?_
 exact i7
 have hIn:=hI.1 rfl
 refine aQ ?_
 refine kE (λh21=>?_) (λh21=>?_)
 refine bP ?_
 exact i7
 refine aM ?_
 refine oC (t212 a0 x18) ?_
 rintro _ ⟨r23,hc22,rfl⟩
 have hLea:=hc22
 cases r23
 refine bw ?_
 exact i7
 refine cf ?_
 refine bu ?_
 refine dC ?_
 refine kI ?_
 refine ab ?_
 exact ⟨by omega,x18.at_,iz,atR⟩
 refine bE ?_
 exact xB ⟨true,d6,rfl⟩
def ace {H:bV} (b:Nat) (pp:bY) (b2:Nat) (dd:dO) (x:kS) (F:List lF) (hS:Sep H (lE b (bY.af pp)::lE b2 (dO.af dd)::F)) :∃ v H',kC cfg FT kJ true 144 [.agg (kS.af x),(ki b),(ki b2)] { H with cT:=[] } v H'/\(∃ r0:Bool,(((r0=true->¬ yk pp dd x)/\(r0=false->(rs 127 [.str x.name.l]=.bool true/\0<=x.ko/\x.ko<(dd.ko.l.length:Int)/\0<=x.from_/\x.from_<(pp.signals.l.length:Int)))))/\Sep H' (lE b (bY.af pp)::lE b2 (dO.af dd)::F)/\v=.bool r0):=by
 refine lK JE ?_
 refine aV ?_
 refine aa ?_
 refine nB 0 hS (.agg (bY.af pp)) ?_
 refine nB 1 hS (.agg (dO.af dd)) ?_
 refine oV ?_
 refine oC (t145 pp dd x) ?_
 rintro _ ⟨r2,hc1,rfl⟩
 have hMay:=hc1
 cases r2
 refine bd ?_
 have hS3:=Sep.pick hS [0,1] 2 dW dW
 exact ⟨.bool true,rfl,true,gP,Sep.cT hS3 _,rfl⟩
 refine bd ?_
 have hS4:=Sep.pick hS [0,1] 2 dW dW
 exact ⟨.bool false,rfl,false,gP,Sep.cT hS4 _,rfl⟩
def aaR {H:bV} (b:Nat) (rr:kS) (x:kS) (F:List lF) (hS:Sep H (lE b (kS.af rr)::F)) :∃ v H',kC cfg FT kJ true 146 [.agg (kS.af x),(ki b)] { H with cT:=[] } v H'/\(∃ r0:Bool,(((r0=true->x.name.l=rr.name.l)/\(r0=false->¬ x.name.l=rr.name.l)))/\Sep H' (lE b (kS.af rr)::F)/\v=.bool r0):=by
 refine lK HO ?_
 refine dl ?_
 refine pC 0 hS ?_
 refine nB 0 hS (.str rr.name.l) ?_
 refine qf rfl (λ_=>vf rfl rfl) (λh1=>?_) (λh1=>?_)
 refine ag ?_
 have hS2:=Sep.pick hS [0] 1 dW dW
 exact iP
 refine ag ?_
 have hS3:=Sep.pick hS [0] 1 dW dW
 exact i9
def Ph {H:bV} (l:ka kS) (F:List lF) (hS:Sep H F) :∃ v H',kC cfg FT kJ true 211 [ka.av kS.af l,.ly 142 [] []] { H with cT:=[] } v H'/\(∃ r0:Int,(((0<=r0->∃ x∈l.l,12<x.kr.l.length)/\(r0<0->∀ x∈l.l,x.kr.l.length<=12)))/\Sep H' (F)/\v=iv r0):=by
 refine lK Ce ?_
 refine aY ?_
 have hL1:=l.lk
 refine cL ?_
 have hNk2:=l.lk
 refine ke l.l.length (λk2 e h=>∃ H3:bV,(∀ (i:Nat) (h:i<l.l.length),i<k2->(l.l[i]).kr.l.length<=12)/\Sep H3 (F)/\At [0,1,7,8] [ka.av kS.af l,.ly 142 [] [],ck l.l.length,ck k2] H3 [] e h) ?_ (k0:=0) d4 ⟨H,eX,hS,atR⟩
 rintro k2 e h hkk2 ⟨H3,hP,hS4,hA⟩
 refine aE ?_
 refine kE (λh5=>?_) (λh5=>?_)
 refine c8 ?_
 refine aI ?_
 have hx6:k2<l.l.length:=by omega
 refine iS rfl (λ_=>m8 (n:=k2) (r:=l) (enc:=kS.af) rfl rfl rfl rfl rfl hx6 rfl) ?_
 generalize hqx7:l.l[k2]=x7
 have hinx7:x7∈l.l:=by rw [<- hqx7]; exact List.getElem_mem _
 have hmx7:=True.intro
 refine oV ?_
 refine lB (H:=H3) (args:=[.agg (kS.af x7)]) (p:=[]) (r:=[]) rfl rfl rfl rfl rfl rfl rfl (abb x7 F hS4) ?_
 rintro _ H9 ⟨r12,hc11,hS10,rfl⟩
 have hB:=hc11
 cases r12
 refine bv ?_
 refine kI ?_
 refine ab ?_
 exact ⟨by omega,H9,(by exact ng (P:=λx:kS=>x.kr.l.length<=12) dT hP (hB.2 rfl)),hS10,atR⟩
 refine aH ?_
 have hS13:=Sep.pick hS10 [] 0 dW dW
 exact i5
 refine bE ?_
 have hS14:=Sep.pick hS4 [] 0 dW dW
 exact i6
def Oi {H:bV} (l:ka kS) (b:Nat) (pp:bY) (b2:Nat) (dd:dO) (F:List lF) (hS:Sep H (lE b (bY.af pp)::lE b2 (dO.af dd)::F)) :∃ v H',kC cfg FT kJ true 211 [ka.av kS.af l,.ly 144 [] [(ki b),(ki b2)]] { H with cT:=[] } v H'/\(∃ r0:Int,(((0<=r0->∃ x∈l.l,¬ yk pp dd x)/\(r0<0->∀ x∈l.l,(rs 127 [.str x.name.l]=.bool true/\0<=x.ko/\x.ko<(dd.ko.l.length:Int)/\0<=x.from_/\x.from_<(pp.signals.l.length:Int)))))/\Sep H' (lE b (bY.af pp)::lE b2 (dO.af dd)::F)/\v=iv r0):=by
 refine lK Ce ?_
 refine aY ?_
 have hL1:=l.lk
 refine cL ?_
 have hNk2:=l.lk
 refine ke l.l.length (λk2 e h=>∃ H3:bV,(∀ (i:Nat) (h:i<l.l.length),i<k2->(rs 127 [.str (l.l[i]).name.l]=.bool true/\0<=(l.l[i]).ko/\(l.l[i]).ko<(dd.ko.l.length:Int)/\0<=(l.l[i]).from_/\(l.l[i]).from_<(pp.signals.l.length:Int)))/\Sep H3 (lE b (bY.af pp)::lE b2 (dO.af dd)::F)/\At [0,1,7,8] [ka.av kS.af l,.ly 144 [] [(ki b),(ki b2)],ck l.l.length,ck k2] H3 [] e h) ?_ (k0:=0) d4 ⟨H,eX,hS,atR⟩
 rintro k2 e h hkk2 ⟨H3,hP,hS4,hA⟩
 refine aE ?_
 refine kE (λh5=>?_) (λh5=>?_)
 refine c8 ?_
 refine aI ?_
 have hx6:k2<l.l.length:=by omega
 refine iS rfl (λ_=>m8 (n:=k2) (r:=l) (enc:=kS.af) rfl rfl rfl rfl rfl hx6 rfl) ?_
 generalize hqx7:l.l[k2]=x7
 have hinx7:x7∈l.l:=by rw [<- hqx7]; exact List.getElem_mem _
 have hmx7:=True.intro
 refine oV ?_
 have hS8:=Sep.pick hS4 [0,1] 2 dW dW
 refine lB (H:=H3) (args:=[.agg (kS.af x7)]) (p:=[]) (r:=[(ki b),(ki b2)]) rfl rfl rfl rfl rfl rfl rfl (ace b pp b2 dd x7 F hS8) ?_
 rintro _ H9 ⟨r12,hc11,hS10,rfl⟩
 have hB:=hc11
 cases r12
 refine bv ?_
 refine kI ?_
 refine ab ?_
 exact ⟨by omega,H9,(by exact ng (P:=λx:kS=>(rs 127 [.str x.name.l]=.bool true/\0<=x.ko/\x.ko<(dd.ko.l.length:Int)/\0<=x.from_/\x.from_<(pp.signals.l.length:Int))) dT hP (hB.2 rfl)),hS10,atR⟩
 refine aH ?_
 have hS13:=Sep.pick hS10 [0,1] 2 dW dW
 exact i5
 refine bE ?_
 have hS14:=Sep.pick hS4 [0,1] 2 dW dW
 exact i6
def Nk {H:bV} (l:ka kS) (b:Nat) (rr:kS) (F:List lF) (hS:Sep H (lE b (kS.af rr)::F)) :∃ v H',kC cfg FT kJ true 211 [ka.av kS.af l,.ly 146 [] [(ki b)]] { H with cT:=[] } v H'/\(∃ r0:Int,(((0<=r0->∃ x∈l.l,x.name.l=rr.name.l)/\(r0<0->∀ x∈l.l,¬ x.name.l=rr.name.l)))/\Sep H' (lE b (kS.af rr)::F)/\v=iv r0):=by
 refine lK Ce ?_
 refine aY ?_
 have hL1:=l.lk
 refine cL ?_
 have hNk2:=l.lk
 refine ke l.l.length (λk2 e h=>∃ H3:bV,(∀ (i:Nat) (h:i<l.l.length),i<k2->¬ (l.l[i]).name.l=rr.name.l)/\Sep H3 (lE b (kS.af rr)::F)/\At [0,1,7,8] [ka.av kS.af l,.ly 146 [] [(ki b)],ck l.l.length,ck k2] H3 [] e h) ?_ (k0:=0) d4 ⟨H,eX,hS,atR⟩
 rintro k2 e h hkk2 ⟨H3,hP,hS4,hA⟩
 refine aE ?_
 refine kE (λh5=>?_) (λh5=>?_)
 refine c8 ?_
 refine aI ?_
 have hx6:k2<l.l.length:=by omega
 refine iS rfl (λ_=>m8 (n:=k2) (r:=l) (enc:=kS.af) rfl rfl rfl rfl rfl hx6 rfl) ?_
 generalize hqx7:l.l[k2]=x7
 have hinx7:x7∈l.l:=by rw [<- hqx7]; exact List.getElem_mem _
 have hmx7:=True.intro
 refine oV ?_
 have hS8:=Sep.pick hS4 [0] 1 dW dW
 refine lB (H:=H3) (args:=[.agg (kS.af x7)]) (p:=[]) (r:=[(ki b)]) rfl rfl rfl rfl rfl rfl rfl (aaR b rr x7 F hS8) ?_
 rintro _ H9 ⟨r12,hc11,hS10,rfl⟩
 have hB:=hc11
 cases r12
 refine bv ?_
 refine kI ?_
 refine ab ?_
 exact ⟨by omega,H9,(by exact ng (P:=λx:kS=>¬ x.name.l=rr.name.l) dT hP (hB.2 rfl)),hS10,atR⟩
 refine aH ?_
 have hS13:=Sep.pick hS10 [0] 1 dW dW
 exact i5
 refine bE ?_
 have hS14:=Sep.pick hS4 [0] 1 dW dW
 exact i6
def MR {H:bV} (l:ka kS) (F:List lF) (hS:Sep H F) :∃ v H',kC cfg FT kJ true 141 [ka.av kS.af l,.ly 142 [] []] { H with cT:=[] } v H'/\(∃ r0:Bool,(((r0=true->∃ x∈l.l,12<x.kr.l.length)/\(r0=false->∀ x∈l.l,x.kr.l.length<=12)))/\Sep H' (F)/\v=.bool r0):=by
 refine lK BL ?_
 refine cO ?_
 refine lB (H:=H) (args:=[ka.av kS.af l,.ly 142 [] []]) (p:=[]) (r:=[]) rfl rfl rfl rfl rfl rfl rfl (Ph l F hS) ?_
 rintro _ H2 ⟨r5,hc4,hS3,rfl⟩
 have hIx:=hc4
 refine mW (λh6=>?_) (λh6=>?_)
 refine ag ?_
 have hS7:=Sep.pick hS3 [] 0 dW dW
 exact iM
 refine ag ?_
 have hS8:=Sep.pick hS3 [] 0 dW dW
 exact iO
def Pc {H:bV} (l:ka kS) (b:Nat) (pp:bY) (b2:Nat) (dd:dO) (F:List lF) (hS:Sep H (lE b (bY.af pp)::lE b2 (dO.af dd)::F)) :∃ v H',kC cfg FT kJ true 141 [ka.av kS.af l,.ly 144 [] [(ki b),(ki b2)]] { H with cT:=[] } v H'/\(∃ r0:Bool,(((r0=true->∃ x∈l.l,¬ yk pp dd x)/\(r0=false->∀ x∈l.l,(rs 127 [.str x.name.l]=.bool true/\0<=x.ko/\x.ko<(dd.ko.l.length:Int)/\0<=x.from_/\x.from_<(pp.signals.l.length:Int)))))/\Sep H' (lE b (bY.af pp)::lE b2 (dO.af dd)::F)/\v=.bool r0):=by
 refine lK BL ?_
 refine cO ?_
 have hS1:=Sep.pick hS [0,1] 2 dW dW
 refine lB (H:=H) (args:=[ka.av kS.af l,.ly 144 [] [(ki b),(ki b2)]]) (p:=[]) (r:=[]) rfl rfl rfl rfl rfl rfl rfl (Oi l b pp b2 dd F hS1) ?_
 rintro _ H2 ⟨r5,hc4,hS3,rfl⟩
 have hIx:=hc4
 refine mW (λh6=>?_) (λh6=>?_)
 refine ag ?_
 have hS7:=Sep.pick hS3 [0,1] 2 dW dW
 exact iM
 refine ag ?_
 have hS8:=Sep.pick hS3 [0,1] 2 dW dW
 exact iO
def MM {H:bV} (l:ka kS) (b:Nat) (rr:kS) (F:List lF) (hS:Sep H (lE b (kS.af rr)::F)) :∃ v H',kC cfg FT kJ true 141 [ka.av kS.af l,.ly 146 [] [(ki b)]] { H with cT:=[] } v H'/\(∃ r0:Bool,(((r0=true->∃ x∈l.l,x.name.l=rr.name.l)/\(r0=false->∀ x∈l.l,¬ x.name.l=rr.name.l)))/\Sep H' (lE b (kS.af rr)::F)/\v=.bool r0):=by
 refine lK BL ?_
 refine cO ?_
 have hS1:=Sep.pick hS [0] 1 dW dW
 refine lB (H:=H) (args:=[ka.av kS.af l,.ly 146 [] [(ki b)]]) (p:=[]) (r:=[]) rfl rfl rfl rfl rfl rfl rfl (Nk l b rr F hS1) ?_
 rintro _ H2 ⟨r5,hc4,hS3,rfl⟩
 have hIx:=hc4
 refine mW (λh6=>?_) (λh6=>?_)
 refine ag ?_
 have hS7:=Sep.pick hS3 [0] 1 dW dW
 exact iM
 refine ag ?_
 have hS8:=Sep.pick hS3 [0] 1 dW dW
 exact iO
def P73 (_a0:bY) (_a1:dO) (v:AV):Prop:=∃ r0:Int,(((r0=0->(rs 60 [.agg (bY.af _a0),lH _a1.ko]=iv 0/\(∀ r∈_a1.runs.l,(rs 127 [.str r.name.l]=.bool true/\0<=r.ko/\r.ko<(_a1.ko.l.length:Int)/\0<=r.from_/\r.from_<(_a0.signals.l.length:Int)))/\(∀ (i j:Nat) (h:j < _a1.runs.l.length) (hij:i<j),j < _a1.runs.l.length->(_a1.runs.l[i]).name.l≠(_a1.runs.l[j]).name.l)/\_a1.runs.l.length<=8))/\(uG _a0 _a1->r0=0)))/\v=iv r0
def t73 (a0:bY) (a1:dO) :Ct 73 [.agg (bY.af a0),.agg (dO.af a1)] (P73 a0 a1):=by
 refine kA N8 ?_
 refine bR ?_
 rintro _ H2 ⟨b1,rfl,hS3⟩
 refine kM (H:=H2) rfl (sa hS3 rfl rfl rfl rfl rfl) ?_
 rintro _ H5 ⟨b4,rfl,hS6⟩
 refine ab ?_
 refine bp ?_
 refine pC 0 hS6 ?_
 refine nB 0 hS6 (lW a1.runs) ?_
 have hL7:=a1.runs.lk
 refine lx a1.runs ?_
 refine mc (λh8=>?_) (λh8=>?_)
 refine bX ?_
 refine aq ?_
 exact xB ⟨3,ej,rfl⟩
 refine oV ?_
 refine pC 0 hS6 ?_
 refine nB 0 hS6 (lW a1.runs) ?_
 have hS9:=Sep.pick hS6 [0,1] 2 dW dW
 refine lB (H:=H5) (args:=[lW a1.runs,.ly 142 [] []]) (p:=[]) (r:=[]) rfl rfl rfl rfl rfl rfl rfl (MR (Row.mi a1.runs) (lE b4 (dO.af a1)::lE b1 (bY.af a0)::[]) hS9) ?_
 rintro _ H10 ⟨r13,hc12,hS11,rfl⟩
 have hC1:=hc12
 cases r13
 refine ap ?_
 refine wz [(ki b1),(ki b4)] H10 [] ?_
 refine bp ?_
 refine nB 1 hS11 (.agg (bY.af a0)) ?_
 refine pC 0 hS11 ?_
 refine nB 0 hS11 (lH a1.ko) ?_
 refine oC (t60 a0 a1.ko) ?_
 rintro _ ⟨r15,⟨hc14,hc14r⟩,rfl⟩
 have hSC:=hc14r; have hSk:=hc14
 refine aN ?_
 refine mg (λh16=>?_) (λh16=>?_)
 refine aH ?_
 exact xB ⟨r15,ej,rfl⟩
 refine au ?_
 refine wz [(ki b1),(ki b4)] H10 [] ?_
 refine bp ?_
 refine pC 0 hS11 ?_
 refine nB 0 hS11 (iv a1.nP) ?_
 refine oC (t143 a1.nP 86399) ?_
 rintro _ ⟨r18,hc17,rfl⟩
 have hI:=hc17
 cases r18
 refine bP ?_
 exact xB ⟨1,ej,rfl⟩
 have hIn:=hI.1 rfl
 refine ao ?_
 refine pC 0 hS11 ?_
 refine nB 0 hS11 (lW a1.runs) ?_
 refine iS rfl (λ_=>tn rfl rfl (tv rfl rfl)) ?_
 have hS19:=Sep.pick hS11 [1,0] 2 dW dW
 refine lB (H:=H10) (args:=[lW a1.runs,.ly 144 [] [(ki b1),(ki b4)]]) (p:=[]) (r:=[]) rfl rfl rfl rfl rfl rfl rfl (Pc (Row.mi a1.runs) b1 a0 b4 a1 ([]) hS19) ?_
 rintro _ H20 ⟨r23,hc22,hS21,rfl⟩
 have hMy:=hc22
 cases r23
 refine ap ?_
 refine wz [(ki b4)] H20 [] ?_
 refine bp ?_
 refine pC 1 hS21 ?_
 refine nB 1 hS21 (lW a1.runs) ?_
 have hL24:=a1.runs.lk
 refine dm ?_
 have hS25:=Sep.pick hS21 [1] 2 dW dW
 have hNk26:=a1.runs.lk
 refine ke a1.runs.l.length (λk26 e h=>∃ H27:bV,(∀ (i j:Nat) (h:j<a1.runs.l.length) (hij:i<j),j<k26->(a1.runs.l[i]).name.l≠(a1.runs.l[j]).name.l)/\Sep H27 (lE b4 (dO.af a1)::[])/\At [3,35,36,37] [(ki b4),lW a1.runs,ck a1.runs.l.length,ck k26] H27 [] e h) ?_ (k0:=0) d4 ⟨H20,ir,hS25,atR⟩
 rintro k26 e h hkk26 ⟨H27,hNe,hS28,hA⟩
 refine aE ?_
 refine kE (λh29=>?_) (λh29=>?_)
 refine ai ?_
 refine wz [(ki b4),lW a1.runs,ck a1.runs.l.length,ck k26] H27 [] ?_
 refine cw ?_
 have hx30:k26<a1.runs.l.length:=by omega
 refine mB k26 a1.runs hx30 ?_
 generalize hqx31:a1.runs.l[k26]=x31
 refine oV ?_
 refine kM (H:=H27) rfl (zm hS28 rfl rfl) ?_
 rintro _ H33 ⟨b32,rfl,hS34⟩
 refine oV ?_
 refine F4 0 hS34 (.agg (kS.af x31)) λH35 hS36=>?_
 refine oN ?_
 refine aa ?_
 refine pC 1 hS36 ?_
 refine nB 1 hS36 (lW a1.runs) ?_
 refine oV ?_
 have hx37:k26<=a1.runs.l.length:=by omega
 refine iS rfl (λ_=>Bg (k:=k26) (r:=a1.runs) (enc:=kS.af) (n:=5) rfl rfl rfl rfl rfl rfl hx37 (λ_=>rfl)) ?_
 refine iS rfl (λ_=>tn rfl rfl (tv rfl rfl)) ?_
 have hS38:=Sep.pick hS36 [0,1] 2 dW dW
 refine lB (H:=H35) (args:=[lW (Row.take a1.runs k26),.ly 146 [] [(ki b32)]]) (p:=[]) (r:=[]) rfl rfl rfl rfl rfl rfl rfl (MM (Row.mi (Row.take a1.runs k26)) b32 x31 (lE b4 (dO.af a1)::[]) hS38) ?_
 rintro _ H39 ⟨r42,hc41,hS40,rfl⟩
 have hCt:=hc41
 cases r42
 refine au ?_
 refine wz [(ki b4),lW a1.runs,ck a1.runs.l.length,ck k26] H39 [] ?_
 refine qg ?_
 refine kI ?_
 refine ab ?_
 have hS43:=Sep.pick hS40 [1] 2 dW dW
 exact ⟨by omega,H39,(by exact Ej dT hNe (hCt.2 rfl)),hS43,atR⟩
 refine aZ ?_
 exact xB ⟨4,ej,rfl⟩
 refine ah ?_
 refine wz [] H27 [] ?_
 refine aU ?_
 exact xB ⟨0,ej,rfl⟩
 refine aq ?_
 exact xB ⟨1,ej,rfl⟩
 refine aq ?_
 exact xB ⟨3,ej,rfl⟩
def P47 (_a0:kb) (_a1:dO) (_a2:Int) (v:AV):Prop:=∃ r0:mA,∃ r1:Bool,((0<=_a2->_a2<(_a1.runs.l.length:Int)->r0=nC _a0.p _a1 _a2.toNat))/\v=.kO [.agg (mA.af r0),.bool r1]
def t47 (a0:kb) (a1:dO) (a2:Int) :Ct 47 [.ip (kb.af a0) 0 false,.agg (dO.af a1),iv a2] (P47 a0 a1 a2):=by
 refine kA Mz ?_
 refine ae ?_
 refine ak ?_
 refine kE (λh1=>?_) (λh1=>?_)
 refine b5 ?_
 refine cB ?_
 exact jG
 refine aM ?_
 have hL2:=a1.runs.lk
 refine lx a1.runs ?_
 refine mW (λh3=>?_) (λh3=>?_)
 refine cB ?_
 exact jG
 refine ap ?_
 refine aI ?_
 have hx4:(a2).toNat<a1.runs.l.length:=by omega
 refine iS rfl (λ_=>kW (n:=a2) (r:=a1.runs) (enc:=kS.af) rfl rfl rfl rfl rfl d4 hx4 rfl) ?_
 generalize hqx5:a1.runs.l[(a2).toNat]=x5
 refine bM ?_
 refine aI ?_
 refine oC (t101 a0 x5.from_) ?_
 rintro _ ⟨r7,r8,hc6,rfl⟩
 have hA:=hc6.1; have hA0:=hc6.2
 cases r8
 refine bB ?_
 refine aM ?_
 refine dg ?_
 refine cq ?_
 refine oC (t102 a0 r7.elem) ?_
 rintro _ ⟨r10,hc9,rfl⟩
 have hK:=hc9
 refine kZ (λh11=>?_) (λh11=>?_)
 refine aX ?_
 exact jH
 refine cz ?_
 exact jI
 refine bB ?_
 refine aM ?_
 refine dg ?_
 refine cq ?_
 refine oC (t102 a0 r7.elem) ?_
 rintro _ ⟨r13,hc12,rfl⟩
 have hK:=hc12
 refine kZ (λh14=>?_) (λh14=>?_)
 refine aX ?_
 exact jH
 refine cz ?_
 exact jI
def adq (_a0:kb) (_a1:j7) (v:AV):Prop:=∃ r0:Bool,(((r0=true->Al _a0.p _a1)/\(r0=false->¬ (lR _a0.p _a1.elem=1\/lR _a0.p _a1.elem=4)\/¬ Al _a0.p _a1)))/\v=.bool r0
def t201 (a0:kb) (a1:j7) :Ct 201 [.ip (kb.af a0) 0 false,.agg (j7.af a1)] (adq a0 a1):=by
 refine kA I3 ?_
 refine aV ?_
 refine bZ ?_
 refine xa (λh1=>?_) (λh1=>?_)
 refine cH ?_
 refine rC (t102 a0 a1.elem) ?_
 rintro _ ⟨r3,hc2,rfl⟩
 have hK:=hc2
 refine rC (t213 r3) ?_
 rintro _ ⟨r5,hc4,rfl⟩
 refine si (λh6=>?_) (λh6=>?_)
 refine bh ?_
 exact xB ⟨true,(by grind [Al]),rfl⟩
 refine bh ?_
 exact xB ⟨false,(by grind [Al]),rfl⟩
 refine rV ?_
 iterate 8 refine rS ?_
 refine bh ?_
 exact xB ⟨false,(by grind [Al]),rfl⟩
def Y4 (_a0:kb) (_a1:Int) (_a2:mA) (v:AV):Prop:=∃ r0:nh,∃ r1:Int,(((r1=0->r0.oP.l=[_a2.at_]/\0<=_a2.at_.elem/\_a2.at_.elem<(_a0.p.elems.l.length:Int))/\r1=sB _a0.p _a1 _a2))/\v=.kO [.agg (nh.af r0),iv r1]
def V6 (a0:kb) (a1:Int) (a2:mA) (qn:rB a0):Ct 130 [.ip (kb.af a0) 0 false,iv a1,.agg (mA.af a2)] (Y4 a0 a1 a2):=by
 refine kA Jn ?_
 refine cy ?_
 refine aO ?_
 refine cW ?_
 refine rC (t102 a0 a2.at_.elem) ?_
 rintro _ ⟨r2,hc1,rfl⟩
 have hK:=hc1
 refine cW ?_
 refine rC (t185 a0 a2.at_.elem) ?_
 rintro _ ⟨r4,hc3,rfl⟩
 have hLen:=hc3
 refine rV ?_
 refine aP ?_
 refine cw ?_
 refine kE (λh5=>?_) (λh5=>?_)
 refine bj ?_
 refine oV ?_
 refine de ?_
 refine bL ?_
 refine dy ?_
 exact iT
 refine ao ?_
 refine mc (λh6=>?_) (λh6=>?_)
 refine oV ?_
 refine de ?_
 refine bL ?_
 refine dy ?_
 exact iT
 refine aD ?_
 refine mg (λh7=>?_) (λh7=>?_)
 refine ao ?_
 refine mg (λh8=>?_) (λh8=>?_)
 refine oV ?_
 refine bL ?_
 refine dy ?_
 exact iT
 refine c7 ?_
 refine oC (t201 a0 a2.at_) ?_
 rintro _ ⟨r10,hc9,rfl⟩
 have hPo:=hc9
 cases r10
 refine oV ?_
 refine dy ?_
 exact iT
 refine bM ?_
 refine qF ?_
 refine aI ?_
 refine oC (t181 a0 a2.at_) ?_
 rintro _ ⟨r12,hc11,rfl⟩
 have hR:=hc11
 refine kE (λh13=>?_) (λh13=>?_)
 refine cB ?_
 exact iU
 refine ab ?_
 refine dn ?_
 refine kZ (λh14=>?_) (λh14=>?_)
 refine aD ?_
 refine mg (λh15=>?_) (λh15=>?_)
 refine aS ?_
 iterate 9 refine oS ?_
 refine dy ?_
 exact iT
 refine aD ?_
 refine kZ (λh16=>?_) (λh16=>?_)
 refine aD ?_
 refine kE (λh17=>?_) (λh17=>?_)
 refine bk ?_
 refine ao ?_
 refine dy ?_
 exact iT
 refine aM ?_
 refine mc (λh18=>?_) (λh18=>?_)
 refine ao ?_
 refine dy ?_
 exact iT
 refine cG ?_
 refine dn ?_
 refine kZ (λh19=>?_) (λh19=>?_)
 refine aM ?_
 refine a6 ?_
 refine mc (λh20=>?_) (λh20=>?_)
 refine dy ?_
 exact iV
 refine aW ?_
 refine kZ (λh21=>?_) (λh21=>?_)
 refine aX ?_
 exact iW
 refine cz ?_
 exact iX
 refine de ?_
 refine aW ?_
 refine kZ (λh22=>?_) (λh22=>?_)
 refine aX ?_
 exact iW
 refine cz ?_
 exact iX
 refine cI ?_
 refine kZ (λh23=>?_) (λh23=>?_)
 refine aM ?_
 refine a6 ?_
 refine mc (λh24=>?_) (λh24=>?_)
 refine dy ?_
 exact iV
 refine aW ?_
 refine kZ (λh25=>?_) (λh25=>?_)
 refine aX ?_
 exact iW
 refine cz ?_
 exact iX
 refine de ?_
 refine aW ?_
 refine kZ (λh26=>?_) (λh26=>?_)
 refine aX ?_
 exact iW
 refine cz ?_
 exact iX
 refine bX ?_
 refine aD ?_
 refine kZ (λh27=>?_) (λh27=>?_)
 refine aD ?_
 refine kE (λh28=>?_) (λh28=>?_)
 refine bk ?_
 refine ao ?_
 refine dy ?_
 exact iT
 refine aM ?_
 refine mc (λh29=>?_) (λh29=>?_)
 refine ao ?_
 refine dy ?_
 exact iT
 refine cG ?_
 refine dn ?_
 refine kZ (λh30=>?_) (λh30=>?_)
 refine aM ?_
 refine a6 ?_
 refine mc (λh31=>?_) (λh31=>?_)
 refine dy ?_
 exact iV
 refine aW ?_
 refine kZ (λh32=>?_) (λh32=>?_)
 refine aX ?_
 exact iW
 refine cz ?_
 exact iX
 refine de ?_
 refine aW ?_
 refine kZ (λh33=>?_) (λh33=>?_)
 refine aX ?_
 exact iW
 refine cz ?_
 exact iX
 refine cI ?_
 refine kZ (λh34=>?_) (λh34=>?_)
 refine aM ?_
 refine a6 ?_
 refine mc (λh35=>?_) (λh35=>?_)
 refine dy ?_
 exact iV
 refine aW ?_
 refine kZ (λh36=>?_) (λh36=>?_)
 refine aX ?_
 exact iW
 refine cz ?_
 exact iX
 refine de ?_
 refine aW ?_
 refine kZ (λh37=>?_) (λh37=>?_)
 refine aX ?_
 exact iW
 refine cz ?_
 exact iX
 refine bj ?_
 refine c7 ?_
 refine oC (t201 a0 a2.at_) ?_
 rintro _ ⟨r39,hc38,rfl⟩
 have hPo:=hc38
 cases r39
 refine oV ?_
 refine dy ?_
 exact iT
 refine bM ?_
 refine qF ?_
 refine aI ?_
 refine oC (t181 a0 a2.at_) ?_
 rintro _ ⟨r41,hc40,rfl⟩
 have hR:=hc40
 refine kE (λh42=>?_) (λh42=>?_)
 refine cB ?_
 exact iU
 refine ab ?_
 refine dn ?_
 refine kZ (λh43=>?_) (λh43=>?_)
 refine aD ?_
 refine mg (λh44=>?_) (λh44=>?_)
 refine aS ?_
 iterate 9 refine oS ?_
 refine dy ?_
 exact iT
 refine aD ?_
 refine kZ (λh45=>?_) (λh45=>?_)
 refine aD ?_
 refine kE (λh46=>?_) (λh46=>?_)
 refine bk ?_
 refine ao ?_
 refine dy ?_
 exact iT
 refine aM ?_
 refine mc (λh47=>?_) (λh47=>?_)
 refine ao ?_
 refine dy ?_
 exact iT
 refine cG ?_
 refine dn ?_
 refine kZ (λh48=>?_) (λh48=>?_)
 refine aM ?_
 refine a6 ?_
 refine mc (λh49=>?_) (λh49=>?_)
 refine dy ?_
 exact iV
 refine aW ?_
 refine kZ (λh50=>?_) (λh50=>?_)
 refine aX ?_
 exact iW
 refine cz ?_
 exact iX
 refine de ?_
 refine aW ?_
 refine kZ (λh51=>?_) (λh51=>?_)
 refine aX ?_
 exact iW
 refine cz ?_
 exact iX
 refine cI ?_
 refine kZ (λh52=>?_) (λh52=>?_)
 refine aM ?_
 refine a6 ?_
 refine mc (λh53=>?_) (λh53=>?_)
 refine dy ?_
 exact iV
 refine aW ?_
 refine kZ (λh54=>?_) (λh54=>?_)
 refine aX ?_
 exact iW
 refine cz ?_
 exact iX
 refine de ?_
 refine aW ?_
 refine kZ (λh55=>?_) (λh55=>?_)
 refine aX ?_
 exact iW
 refine cz ?_
 exact iX
 refine bX ?_
 refine aD ?_
 refine kZ (λh56=>?_) (λh56=>?_)
 refine aD ?_
 refine kE (λh57=>?_) (λh57=>?_)
 refine bk ?_
 refine ao ?_
 refine dy ?_
 exact iT
 refine aM ?_
 refine mc (λh58=>?_) (λh58=>?_)
 refine ao ?_
 refine dy ?_
 exact iT
 refine cG ?_
 refine dn ?_
 refine kZ (λh59=>?_) (λh59=>?_)
 refine aM ?_
 refine a6 ?_
 refine mc (λh60=>?_) (λh60=>?_)
 refine dy ?_
 exact iV
 refine aW ?_
 refine kZ (λh61=>?_) (λh61=>?_)
 refine aX ?_
 exact iW
 refine cz ?_
 exact iX
 refine de ?_
 refine aW ?_
 refine kZ (λh62=>?_) (λh62=>?_)
 refine aX ?_
 exact iW
 refine cz ?_
 exact iX
 refine cI ?_
 refine kZ (λh63=>?_) (λh63=>?_)
 refine aM ?_
 refine a6 ?_
 refine mc (λh64=>?_) (λh64=>?_)
 refine dy ?_
 exact iV
 refine aW ?_
 refine kZ (λh65=>?_) (λh65=>?_)
 refine aX ?_
 exact iW
 refine cz ?_
 exact iX
 refine de ?_
 refine aW ?_
 refine kZ (λh66=>?_) (λh66=>?_)
 refine aX ?_
 exact iW
 refine cz ?_
 exact iX
def acF (_a0:kb) (_a1:Int) (_a2:mA) (v:AV):Prop:=∃ r0:nh,∃ r1:Int,((((r1=0->r0.oP.l=[_a2.at_]/\0<=_a2.at_.elem/\_a2.at_.elem<(_a0.p.elems.l.length:Int))/\r1=sB _a0.p _a1 _a2))/\rs 130 [.ip (kb.af _a0) 0 false,iv _a1,.agg (mA.af _a2)]=.kO [.agg (nh.af r0),iv r1])/\v=.kO [.agg (nh.af r0),iv r1]
def t130 (a0:kb) (a1:Int) (a2:mA) (qn:rB a0) (h:bV):∃ v,kC cfg FT kJ false 130 [.ip (kb.af a0) 0 false,iv a1,.agg (mA.af a2)] h v h/\acF a0 a1 a2 v:=by
 obtain ⟨v,hc,hP,hr⟩:=pa rY (V6 a0 a1 a2 qn) h
 obtain ⟨r0,r1,hp,rfl⟩:=hP
 exact iY
def acY {H:bV} (vs:AV) (l:List Int) (a:Int) (b:Int) (F:List lF) (hS:Sep H (oT kX 1 vs l::F)) (q1:b<=a+1) (q2:0<=a) (q3:a<=1000):∃ v H',kC cfg FT kJ true 251 [vs,iv a,iv b] { H with cT:=[] } v H'/\((True)/\Sep H' (oT kX 1 vs l::F)/\v=.kO []):=by
 refine lK HZ ?_
 refine aj ?_
 refine kI ?_
 refine aC ?_
 refine nw (λm1 e h=>m1=0/\At [0,1,2,6] [vs,iv a,iv b,iv (a+1)] H [] e h) ?_ _ _ _ ⟨rfl,(kF hS [(0,0)])⟩
 rintro m1 e h ⟨hmm1,hA⟩
 refine cu ?_
 refine kE (λh2=>?_) (λh2=>?_)
 exfalso; omega
 refine aL ?_
 have hS3:=Sep.pick hS [0] 1 dW dW
 exact ⟨.kO [],rfl,zT,Sep.cT hS3 _,rfl⟩
def abN {H:bV} (vs:AV) (l:List Int) (a:Int) (b:Int) (c:Int) (F:List lF) (hS:Sep H (oT kX 1 vs l::F)) (q1:b<=a+1) (q2:0<=a) (q3:a<=1000) (q4:0<=b):∃ v H',kC cfg FT kJ true 240 [vs,iv a,iv b,iv c] { H with cT:=[] } v H'/\((True)/\Sep H' (oT kX 1 vs l::F)/\v=.kO []):=by
 refine lK KA ?_
 refine bC ?_
 refine aa ?_
 refine aC ?_
 refine nw (λm1 e h=>m1=0/\At [0,1,2,3,8,9] [vs,iv a,iv b,iv c,.bool true,.bool true] H [] e h) ?_ _ _ _ ⟨rfl,(kF hS [(0,0)])⟩
 rintro m1 e h ⟨hmm1,hA⟩
 refine rR hA ?_
 refine qb ?_
 refine ae ?_
 refine pW ?_
 refine ak ?_
 refine tX (λh2=>?_) (λh2=>?_)
 refine ay ?_
 refine aI ?_
 have hS3:=Sep.pick hS [0] 1 dW dW
 refine lB (H:=H) (args:=[vs,iv a,iv b]) (p:=[]) (r:=[]) rfl rfl rfl rfl rfl (j8 (Sep.arg (i:=0) hS rfl) (j8 rfl (j8 rfl kK))) rfl (acY vs l a b F hS3 dS dS dS) ?_
 rintro _ H4 ⟨hc6,hS5,rfl⟩
 refine cN ?_
 have hS7:=Sep.pick hS5 [0] 1 dW dW
 exact ⟨.kO [],rfl,zT,Sep.cT hS7 _,rfl⟩
 exfalso; omega
def OG (k:Nat) (h:bV):nH cfg FT kJ (k+8) false 241 [.int .u64 0] h=some (.int .i64 0,h):=by kernel_rfl
def aaQ (k:Nat) (h:bV):nH cfg FT kJ (k+8) false 241 [.int .u64 1] h=some (.int .i64 1,h):=by kernel_rfl
def acC (_a0:Int) (v:AV):Prop:=∃ r0:Int,(0<=r0/\r0<=64)/\v=iv r0
def t241 (a0:Int) (q1:a0=0\/a0=1) (h:bV):∃ v,kC cfg FT kJ false 241 [.int .u64 a0] h v h/\acC a0 v:=by
 rcases q1 with rfl | rfl
 ·exact ⟨iv 0,⟨8,λk hk=>by obtain ⟨j,rfl⟩:=Nat.exists_eq_add_of_le' hk; exact OG j h⟩,0,by omega,rfl⟩
 ·exact ⟨iv 1,⟨8,λk hk=>by obtain ⟨j,rfl⟩:=Nat.exists_eq_add_of_le' hk; exact aaQ j h⟩,1,by omega,rfl⟩
def u96 {H:bV} (vs:AV) (l:List Int) (F:List lF) (hS:Sep H (oT kX 1 vs l::F)) (q1:l.length<=1):∃ v H',kC cfg FT kJ true 202 [vs] { H with cT:=[] } v H'/\((True)/\Sep H' (oT kX 1 vs l::F)/\v=.kO []):=by
 refine lK JB ?_
 refine aj ?_
 refine iS rfl (λ_=>nO (i:=0) hS rfl rfl rfl rfl rfl rfl rfl) ?_
 refine ab ?_
 refine bu ?_
 refine iS rfl (λ_=>TG rfl rfl rfl rfl dX dX) ?_
 refine oC (t241 ((l.length:Int)) dS) ?_
 rintro _ ⟨r2,hc1,rfl⟩
 have hS3:=Sep.pick hS [0] 1 dW dW
 refine lB (H:=H) (args:=[vs,iv 0,ck l.length,iv r2]) (p:=[]) (r:=[]) rfl rfl rfl rfl rfl (j8 (Sep.arg (i:=0) hS rfl) (j8 rfl (j8 rfl (j8 rfl kK)))) rfl (abN vs l 0 ((l.length:Int)) r2 F hS3 dS dS dS dS) ?_
 rintro _ H4 ⟨hc6,hS5,rfl⟩
 refine oN ?_
 have hS7:=Sep.pick hS5 [0] 1 dW dW
 exact ⟨.kO [],rfl,zT,Sep.cT hS7 _,rfl⟩
def u97 {H:bV} (vs:AV) (l:List Int) (F:List lF) (hS:Sep H (oT kX 1 vs l::F)) (q1:l.length<=1):∃ v H',kC cfg FT kJ true 203 [vs] { H with cT:=[] } v H'/\(∃ vo:AV,(True)/\Sep H' (oT kX 1 vo l::F)/\v=vo):=by
 refine lK IJ ?_
 refine dP ?_
 refine kE (λh1=>?_) (λh1=>?_)
 refine aH ?_
 have hS2:=Sep.pick hS [0] 1 dW dW
 exact ⟨vs,(lQ (vs:=[vs]) rfl (j8 (Sep.arg (i:=0) hS rfl) kK)),vs,zT,Sep.cT hS2 _,rfl⟩
 exfalso; omega
def Zy (_a0:kb) (_a1:nh) (v:AV):Prop:=∃ r0:Row Int,(r0.l=p7 _a0.p _a1.oP.l)/\v=kU r0
def t131 (a0:kb) (a1:nh) (q1:a1.oP.l.length<=1):Ct 131 [.ip (kb.af a0) 0 false,.agg (nh.af a1)] (Zy a0 a1):=by
 refine kA Kn ?_
 refine aV ?_
 refine bC ?_
 refine aR ?_
 have hL1:=a1.oP.lk
 refine lx a1.oP ?_
 refine aC ?_
 have hS2:=Sep.m3 lJ 1
 have hNk3:=a1.oP.lk
 refine ke a1.oP.l.length (λk3 e h=>∃ v4:AV,∃ l5:List Int,∃ H6:bV,(l5=p7 a0.p (a1.oP.l.take k3))/\(l5.length<=k3)/\Sep H6 (om v4 l5::[])/\At [0,5,9,10,11] [.ip (kb.af a0) 0 false,v4,pG a1.oP,ck a1.oP.l.length,ck k3] H6 [] e h) ?_ (k0:=0) d4 ⟨iN,(([]:List Int)),bV.empty,iy,fQ,hS2,atR⟩
 rintro k3 e h hkk3 ⟨v4,l5,H6,hI,hI2,hS7,hA⟩
 refine aE ?_
 refine kE (λh8=>?_) (λh8=>?_)
 refine ai ?_
 refine wz [.ip (kb.af a0) 0 false,v4,pG a1.oP,ck a1.oP.l.length,ck k3] H6 [] ?_ (kF hS7 [(5,0)])
 refine bQ ?_
 have hx9:k3<a1.oP.l.length:=by omega
 refine mB k3 a1.oP hx9 ?_
 generalize hqx10:a1.oP.l[k3]=x10
 refine bM ?_
 refine aI ?_
 refine oC (t102 a0 x10.elem) ?_
 rintro _ ⟨r12,hc11,rfl⟩
 have hK:=hc11
 refine mg (λh13=>?_) (λh13=>?_)
 refine ay ?_
 refine dz ?_
 refine kM rfl (lO (H:=H6) (i:=0) (l:=l5) (enc:=kX) [x10.elem] hS7 rfl rfl rfl rfl rfl rfl rfl rfl rfl (λ_=>rfl) (.inl rfl) dZ (λ_=>rfl)) ?_
 rintro v14 H15 hS16
 refine ab ?_
 refine wz [.ip (kb.af a0) 0 false,v14,pG a1.oP,ck a1.oP.l.length,ck k3] H15 [] ?_ (kF hS16 [(5,0)])
 refine qg ?_
 refine kI ?_
 refine ab ?_
 exact ⟨by omega,v14,((l5++[x10.elem])),H15,ig,d7,hS16,(kF hS16 [(5,0)])⟩
 refine au ?_
 refine wz [.ip (kb.af a0) 0 false,v4,pG a1.oP,ck a1.oP.l.length,ck k3] H6 [] ?_ (kF hS7 [(5,0)])
 refine qg ?_
 refine kI ?_
 refine ab ?_
 exact ⟨by omega,v4,l5,H6,ig,d7,hS7,(kF hS7 [(5,0)])⟩
 refine ah ?_
 refine wz [v4] H6 [] ?_ (kF hS7 [(5,0)])
 refine aj ?_
 have hS17:=Sep.vn (i:=0) hS7 rfl
 have hS18:=Sep.pick hS17 [0] 1 dW dW
 refine lB (H:=H6) (args:=[v4]) (p:=[]) (r:=[]) rfl rfl rfl rfl rfl (j8 (Sep.arg (i:=0) hS17 rfl) kK) rfl (u96 v4 l5 ([]) hS18 dS) ?_
 rintro _ H19 ⟨hc21,hS20,rfl⟩
 refine oN ?_
 refine aj ?_
 have hS22:=Sep.pick hS20 [0] 1 dW dW
 refine lB (H:=H19) (args:=[v4]) (p:=[]) (r:=[]) rfl rfl rfl rfl rfl (j8 (Sep.arg (i:=0) hS20 rfl) kK) rfl (u97 v4 l5 ([]) hS22 dS) ?_
 rintro vo26 H23 ⟨_,hc25,hS24,rfl⟩
 refine ag ?_
 obtain ⟨r27,hl28,hf29⟩:=mz (H:=H23) (i:=0) (l:=l5) (enc:=kX) hS24 rfl dV
 have hlq:=hl28; have hln31:=congrArg List.length hl28
 have hz30:∀ m,freeze false { H23 with cT:=[] } (m+2) vo26=some (kU r27):=λm=>hf29 _ _ (λ_=>rfl)
 exact ⟨vo26,(lQ (vs:=[vo26]) rfl (j8 (Sep.arg (i:=0) hS24 rfl) kK)),kU r27,(show freeze false { H23 with cT:=[] } 8 vo26=some (kU r27) by simp only [FZ,hz30]),r27,(by rw [List.take_of_length_le d4] at hI; first | (simp_all; done) | (rw [hI] at *; first | assumption | (simp_all; done))),rfl⟩
def P74 (_a0:kb) (_a1:dO) (v:AV):Prop:=∃ r0:Int,(((r0=0->(∀ i,i < _a1.runs.l.length->∃ b:nh,rs 130 [.ip (kb.af _a0) 0 false,.int .i64 (vR _a1 i),.agg (nC _a0.p _a1 i).af]=.kO [.agg b.af,.int .i64 0])/\(∀ i j,i<j->j < _a1.runs.l.length->∀ x∈p7 _a0.p [(nC _a0.p _a1 i).at_],x∉p7 _a0.p [(nC _a0.p _a1 j).at_]))/\oJ _a0.p _a1 r0))/\v=iv r0
def t74 (a0:kb) (a1:dO) (q1:∀ r∈a1.runs.l,0<=r.ko/\r.ko<(a1.ko.l.length:Int)) (qn:rB a0):Ct 74 [.ip (kb.af a0) 0 false,.agg (dO.af a1)] (P74 a0 a1):=by
 refine kA OV ?_
 refine aV ?_
 refine cV ?_
 rintro _ H2 ⟨b1,rfl,hS3⟩
 refine bF ?_
 refine aR ?_
 have hL4:=a1.runs.lk
 refine dm ?_
 have hNk5:=a1.runs.lk
 refine ke a1.runs.l.length (λk5 e h=>∃ l6:List (Int×Bool),∃ n7:Int,∃ H8:bV,(∀ i,i<k5->∃ b:nh,rs 130 [.ip (kb.af a0) 0 false,.int .i64 (vR a1 i),.agg (nC a0.p a1 i).af]=.kO [.agg b.af,.int .i64 0])/\(Tk (λi=>p7 a0.p [(nC a0.p a1 i).at_]) k5 l6 n7)/\(∀ i,i<k5->wc a0.p a1 i=0)/\(sg (qw a0.p a1) k5 [] l6 n7)/\(n7=0\/n7=18/\qG (qw a0.p a1) k5)/\Sep H8 (m5 b1 iK bK l6::[])/\At [0,3,5,6,17,18,19] [.ip (kb.af a0) 0 false,.la 3 0,iv n7,(.hm b1),lW a1.runs,ck a1.runs.l.length,ck k5] H8 [(3,(dO.af a1))] e h) ?_ (k0:=0) d4 ⟨([]),0,H2,gu,(by exact Tk.zero _),gu,(by exact sg.zero _),(by exact .inl rfl),hS3,atR⟩
 rintro k5 e h hkk5 ⟨l6,n7,H8,hQ,hB,hEr,hC,hBm,hS9,hA⟩
 refine aE ?_
 refine kE (λh10=>?_) (λh10=>?_)
 refine ai ?_
 refine wz [.ip (kb.af a0) 0 false,.la 3 0,iv n7,(.hm b1),lW a1.runs,ck a1.runs.l.length,ck k5] H8 [(3,(dO.af a1))] ?_
 refine cw ?_
 have hx11:k5<a1.runs.l.length:=by omega
 refine mB k5 a1.runs hx11 ?_
 generalize hqx12:a1.runs.l[k5]=x12
 have hinx12:x12∈a1.runs.l:=by rw [<- hqx12]; exact List.getElem_mem _
 have hsx12:=q1 x12 hinx12
 refine cG ?_
 refine aI ?_
 refine oC (t47 a0 a1 ((k5:Int))) ?_
 rintro _ ⟨r14,r15,hc13,rfl⟩
 have hTr:=hc13
 cases r15
 refine cX ?_
 refine bH ?_
 have hx16:(x12.ko).toNat<a1.ko.l.length:=by omega
 refine kG rfl rfl (λ_=>kW (n:=x12.ko) (r:=a1.ko) (enc:=kR.af) rfl rfl rfl rfl rfl d4 hx16 rfl) ?_
 generalize hqx17:a1.ko.l[(x12.ko).toNat]=x17
 refine bA ?_
 refine rC (t130 a0 x17.len r14 dS) ?_
 rintro _ ⟨r19,r20,⟨hc18,hc18r⟩,rfl⟩
 have hSt:=hc18r; have hStt:=hc18.1; have hSw:=hc18.2
 refine bG ?_
 refine am ?_
 refine mg (λh21=>?_) (λh21=>?_)
 refine aH ?_
 exact xB ⟨r20,fc,rfl⟩
 refine au ?_
 refine wz [.ip (kb.af a0) 0 false,.la 3 0,iv n7,(.hm b1),.la 11 0,lW a1.runs,ck a1.runs.l.length,ck k5] H8 [(3,(dO.af a1)),(11,(nh.af r19))] ?_
 refine ae ?_
 refine oC (t131 a0 r19 dS) ?_
 rintro _ ⟨r23,hc22,rfl⟩
 have hLie:=hc22
 have hL24:=r23.lk
 refine lx r23 ?_
 refine aC ?_
 have hNk25:=r23.lk
 refine ke r23.l.length (λk25 e h=>∃ l26:List (Int×Bool),∃ n27:Int,∃ H28:bV,(vJ (λi=>p7 a0.p [(nC a0.p a1 i).at_]) k5 (r23.l.take k25) l26 n27)/\(sg (qw a0.p a1) k5 (r23.l.take k25) l26 n27)/\Sep H28 (m5 b1 iK bK l26::[])/\At [0,3,5,6,17,18,19,49,50,51] [.ip (kb.af a0) 0 false,.la 3 0,iv n27,(.hm b1),lW a1.runs,ck a1.runs.l.length,ck k5,kU r23,ck r23.l.length,ck k25] H28 [(3,(dO.af a1))] e h) ?_ (k0:=0) d4 ⟨l6,n7,H8,(by exact Tk.start hB _),(by exact sg.start hC _),hS9,atR⟩
 rintro k25 e h hkk25 ⟨l26,n27,H28,hB2,hC2,hS29,hA⟩
 refine aE ?_
 refine kE (λh30=>?_) (λh30=>?_)
 refine ai ?_
 refine wz [.ip (kb.af a0) 0 false,.la 3 0,iv n27,(.hm b1),lW a1.runs,ck a1.runs.l.length,ck k5,kU r23,ck r23.l.length,ck k25] H28 [(3,(dO.af a1))] ?_
 refine bQ ?_
 have hx31:k25<r23.l.length:=by omega
 refine mB k25 r23 hx31 ?_
 generalize hqx32:r23.l[k25]=x32
 refine bF ?_
 refine aR ?_
 refine nK (H:=H28) (i:=0) (ek:=iK) (ev:=bK) (l:=l26) x32 rfl rfl hS29 rfl rfl rfl rfl rfl rfl rfl rfl pD (λy33 h34=>?_) (λh35=>?_)
 cases y33
 exact absurd (hB2.tk.val _ (pJ h34)) fQ
 refine ay ?_
 refine qg ?_
 refine ab ?_
 refine wz [.ip (kb.af a0) 0 false,.la 3 0,iv 18,(.hm b1),iv x32,lW a1.runs,ck a1.runs.l.length,ck k5,kU r23,ck r23.l.length,ck k25] H28 [(3,(dO.af a1))] ?_
 refine dt ?_
 rintro _ H36 ⟨rfl,hS37⟩
 refine oN ?_
 refine wz [.ip (kb.af a0) 0 false,.la 3 0,iv 18,(.hm b1),lW a1.runs,ck a1.runs.l.length,ck k5,kU r23,ck r23.l.length,ck k25] H36 [(3,(dO.af a1))] ?_
 refine qg ?_
 refine kI ?_
 refine ab ?_
 exact ⟨by omega,((put x32 true l26)),18,H36,gc,fe,hS37,atR⟩
 refine au ?_
 refine wz [.ip (kb.af a0) 0 false,.la 3 0,iv n27,(.hm b1),iv x32,lW a1.runs,ck a1.runs.l.length,ck k5,kU r23,ck r23.l.length,ck k25] H28 [(3,(dO.af a1))] ?_
 refine dt ?_
 rintro _ H38 ⟨rfl,hS39⟩
 refine oN ?_
 refine wz [.ip (kb.af a0) 0 false,.la 3 0,iv n27,(.hm b1),lW a1.runs,ck a1.runs.l.length,ck k5,kU r23,ck r23.l.length,ck k25] H38 [(3,(dO.af a1))] ?_
 refine qg ?_
 refine kI ?_
 refine ab ?_
 exact ⟨by omega,((put x32 true l26)),n27,H38,gc,fe,hS39,atR⟩
 refine ah ?_
 refine wz [.ip (kb.af a0) 0 false,.la 3 0,iv n27,(.hm b1),lW a1.runs,ck a1.runs.l.length,ck k5] H28 [(3,(dO.af a1))] ?_
 refine qg ?_
 refine kI ?_
 refine ab ?_
 exact ⟨by omega,l26,n27,H28,hO,(by exact vJ.done hB2 d4 gG),fY,(by exact sg.done hC2 d4 gG),(by exact hC2.err),hS29,atR⟩
 refine cX ?_
 refine bH ?_
 have hx40:(x12.ko).toNat<a1.ko.l.length:=by omega
 refine kG rfl rfl (λ_=>kW (n:=x12.ko) (r:=a1.ko) (enc:=kR.af) rfl rfl rfl rfl rfl d4 hx40 rfl) ?_
 generalize hqx41:a1.ko.l[(x12.ko).toNat]=x41
 refine bA ?_
 refine rC (t130 a0 x41.len r14 dS) ?_
 rintro _ ⟨r43,r44,⟨hc42,hc42r⟩,rfl⟩
 have hSt:=hc42r; have hStt:=hc42.1; have hSw:=hc42.2
 refine bG ?_
 refine am ?_
 refine mg (λh45=>?_) (λh45=>?_)
 refine aH ?_
 exact xB ⟨r44,fc,rfl⟩
 refine au ?_
 refine wz [.ip (kb.af a0) 0 false,.la 3 0,iv n7,(.hm b1),.la 11 0,lW a1.runs,ck a1.runs.l.length,ck k5] H8 [(3,(dO.af a1)),(11,(nh.af r43))] ?_
 refine ae ?_
 refine oC (t131 a0 r43 dS) ?_
 rintro _ ⟨r47,hc46,rfl⟩
 have hLie:=hc46
 have hL48:=r47.lk
 refine lx r47 ?_
 refine aC ?_
 have hNk49:=r47.lk
 refine ke r47.l.length (λk49 e h=>∃ l50:List (Int×Bool),∃ n51:Int,∃ H52:bV,(vJ (λi=>p7 a0.p [(nC a0.p a1 i).at_]) k5 (r47.l.take k49) l50 n51)/\(sg (qw a0.p a1) k5 (r47.l.take k49) l50 n51)/\Sep H52 (m5 b1 iK bK l50::[])/\At [0,3,5,6,17,18,19,49,50,51] [.ip (kb.af a0) 0 false,.la 3 0,iv n51,(.hm b1),lW a1.runs,ck a1.runs.l.length,ck k5,kU r47,ck r47.l.length,ck k49] H52 [(3,(dO.af a1))] e h) ?_ (k0:=0) d4 ⟨l6,n7,H8,(by exact Tk.start hB _),(by exact sg.start hC _),hS9,atR⟩
 rintro k49 e h hkk49 ⟨l50,n51,H52,hB2,hC2,hS53,hA⟩
 refine aE ?_
 refine kE (λh54=>?_) (λh54=>?_)
 refine ai ?_
 refine wz [.ip (kb.af a0) 0 false,.la 3 0,iv n51,(.hm b1),lW a1.runs,ck a1.runs.l.length,ck k5,kU r47,ck r47.l.length,ck k49] H52 [(3,(dO.af a1))] ?_
 refine bQ ?_
 have hx55:k49<r47.l.length:=by omega
 refine mB k49 r47 hx55 ?_
 generalize hqx56:r47.l[k49]=x56
 refine bF ?_
 refine aR ?_
 refine nK (H:=H52) (i:=0) (ek:=iK) (ev:=bK) (l:=l50) x56 rfl rfl hS53 rfl rfl rfl rfl rfl rfl rfl rfl pD (λy57 h58=>?_) (λh59=>?_)
 cases y57
 exact absurd (hB2.tk.val _ (pJ h58)) fQ
 refine ay ?_
 refine qg ?_
 refine ab ?_
 refine wz [.ip (kb.af a0) 0 false,.la 3 0,iv 18,(.hm b1),iv x56,lW a1.runs,ck a1.runs.l.length,ck k5,kU r47,ck r47.l.length,ck k49] H52 [(3,(dO.af a1))] ?_
 refine du ?_
 rintro _ H60 ⟨rfl,hS61⟩
 refine oN ?_
 refine wz [.ip (kb.af a0) 0 false,.la 3 0,iv 18,(.hm b1),lW a1.runs,ck a1.runs.l.length,ck k5,kU r47,ck r47.l.length,ck k49] H60 [(3,(dO.af a1))] ?_
 refine qg ?_
 refine kI ?_
 refine ab ?_
 exact ⟨by omega,((put x56 true l50)),18,H60,gc,fe,hS61,atR⟩
 refine au ?_
 refine wz [.ip (kb.af a0) 0 false,.la 3 0,iv n51,(.hm b1),iv x56,lW a1.runs,ck a1.runs.l.length,ck k5,kU r47,ck r47.l.length,ck k49] H52 [(3,(dO.af a1))] ?_
 refine du ?_
 rintro _ H62 ⟨rfl,hS63⟩
 refine oN ?_
 refine wz [.ip (kb.af a0) 0 false,.la 3 0,iv n51,(.hm b1),lW a1.runs,ck a1.runs.l.length,ck k5,kU r47,ck r47.l.length,ck k49] H62 [(3,(dO.af a1))] ?_
 refine qg ?_
 refine kI ?_
 refine ab ?_
 exact ⟨by omega,((put x56 true l50)),n51,H62,gc,fe,hS63,atR⟩
 refine ah ?_
 refine wz [.ip (kb.af a0) 0 false,.la 3 0,iv n51,(.hm b1),lW a1.runs,ck a1.runs.l.length,ck k5] H52 [(3,(dO.af a1))] ?_
 refine qg ?_
 refine kI ?_
 refine ab ?_
 exact ⟨by omega,l50,n51,H52,hO,(by exact vJ.done hB2 d4 gG),fY,(by exact sg.done hC2 d4 gG),(by exact hC2.err),hS53,atR⟩
 refine ah ?_
 refine wz [iv n7] H8 [] ?_
 refine bT ?_
 exact xB ⟨n7,fc,rfl⟩
def Zz (_a0:kV) (_a1:dO) (v:AV):Prop:=∃ r0:Int,(((r0=0->((rs 60 [.agg (bY.af _a0.kH),lH _a1.ko]=iv 0/\(∀ r∈_a1.runs.l,(rs 127 [.str r.name.l]=.bool true/\0<=r.ko/\r.ko<(_a1.ko.l.length:Int)/\0<=r.from_/\r.from_<(_a0.kH.signals.l.length:Int)))/\(∀ (i j:Nat) (h:j < _a1.runs.l.length) (hij:i<j),j < _a1.runs.l.length->(_a1.runs.l[i]).name.l≠(_a1.runs.l[j]).name.l)/\_a1.runs.l.length<=8)/\∃ n:kb,qo n _a0.kH/\rs 31 [.agg (bY.af _a0.kH)]=.kO [.ip (kb.af n) 0 false,iv 0]/\(∀ i,i < _a1.runs.l.length->∃ b:nh,rs 130 [.ip (kb.af n) 0 false,.int .i64 (vR _a1 i),.agg (nC n.p _a1 i).af]=.kO [.agg b.af,.int .i64 0])/\(∀ i j,i<j->j < _a1.runs.l.length->∀ x∈p7 n.p [(nC n.p _a1 i).at_],x∉p7 n.p [(nC n.p _a1 j).at_])))/\(uG _a0.kH _a1->pO _a0.kH _a0.roads.l _a1 r0)))/\v=iv r0
def adG (a0:kV) (a1:dO) (q1:mU a0.kH) (q2:a0.roads.l.length<=64) (q3:∃ nx:kb,qo nx a0.kH/\rs 31 [.agg (bY.af a0.kH)]=.kO [.ip (kb.af nx) 0 false,iv 0]):Ct 30 [.agg (kV.af a0),.agg (dO.af a1)] (Zz a0 a1):=by
 refine kA N6 ?_
 obtain ⟨nx,hnk,hnx⟩:=q3
 have hNe:=hnk; have hNr:=hnx; have hFw:=hnk.Dm; have hFs:=hnk.Dm.signals; have hFl:=hnk.len; have hRg:=hnk.rg; have hNs:=hnk.self
 refine cy ?_
 refine cq ?_
 refine lB (H:=bV.empty) (args:=[lz a0.kH.signals,.ly 72 [] []]) (p:=[]) (r:=[]) rfl rfl rfl rfl rfl rfl rfl (TM (Row.mi a0.kH.signals) ([]) lJ) ?_
 rintro _ H2 ⟨r5,hc4,hS3,rfl⟩
 have hSg:=hc4
 cases r5
 refine au ?_
 refine cq ?_
 refine oC (t73 a0.kH a1) ?_
 rintro _ ⟨r7,hc6,rfl⟩
 have hD:=hc6.1; have hDd:=hc6.2; have hPre:=λ(hz : _=(0:Int)) (r:kS) (hr:r∈a1.runs.l)=>And.intro ((hc6.1 hz).2.1 r hr).2.1 ((hc6.1 hz).2.1 r hr).2.2.1
 refine aN ?_
 refine mg (λh8=>?_) (λh8=>?_)
 refine aH ?_
 exact xB ⟨r7,ei,rfl⟩
 refine dG ?_
 refine oC (SE a0.kH dS hnx) ?_
 rintro _ rfl
 refine cP ?_
 refine ap ?_
 refine aR ?_
 refine oC (t74 nx a1 dS dS) ?_
 rintro _ ⟨r11,hc10,rfl⟩
 have hSs:=hc10.1; have hSt2:=hc10.2
 rw [hnk.kH,Fy] at hSt2
 refine aN ?_
 refine mg (λh12=>?_) (λh12=>?_)
 refine aH ?_
 exact xB ⟨r11,ei,rfl⟩
 refine au ?_
 refine aR ?_
 have hL13:=a1.runs.lk
 refine dm ?_
 have hNk14:=a1.runs.lk
 refine ke a1.runs.l.length (λk14 e h=>(∀ i,i<k14->¬ sv a0.kH a0.roads.l a1 i)/\At [2,3,6,38,39,40] [.la 2 0,.la 3 0,.ip (kb.af nx) 0 false,lW a1.runs,ck a1.runs.l.length,ck k14] H2 [(2,(kV.af a0)),(3,(dO.af a1))] e h) ?_ (k0:=0) d4 ⟨gu,atR⟩
 rintro k14 e h hkk14 ⟨hBd,hA⟩
 refine aE ?_
 refine kE (λh15=>?_) (λh15=>?_)
 refine ai ?_
 refine cw ?_
 have hx16:k14<a1.runs.l.length:=by omega
 refine mB k14 a1.runs hx16 ?_
 generalize hqx17:a1.runs.l[k14]=x17
 refine cG ?_
 refine aR ?_
 have hL18:=x17.kr.lk
 refine lx x17.kr ?_
 refine kZ (λh19=>?_) (λh19=>?_)
 refine dF ?_
 refine aq ?_
 exact xB ⟨10,ei,rfl⟩
 refine aQ ?_
 have hL20:=x17.kr.lk
 refine lx x17.kr ?_
 have hL21:=x17.kr.lk
 refine pW ?_
 have hx22:((x17.kr.l.length:Int) - 1).toNat<x17.kr.l.length:=by omega
 refine iS rfl (λ_=>kW (n:=(x17.kr.l.length:Int) - 1) (r:=x17.kr) (enc:=lD.af) rfl rfl rfl rfl rfl d4 hx22 rfl) ?_
 generalize hqx23:x17.kr.l[((x17.kr.l.length:Int) - 1).toNat]=x23
 refine ao ?_
 refine mg (λh24=>?_) (λh24=>?_)
 refine aq ?_
 exact xB ⟨10,ei,rfl⟩
 refine oV ?_
 refine dG ?_
 have hL25:=x17.kr.lk
 refine lx x17.kr ?_
 refine aC ?_
 have hNk26:=x17.kr.lk
 refine ke x17.kr.l.length (λk26 e h=>(∀ i:Nat,i<k26->mY a0.kH a0.roads.l a1 (k14:Nat) (i:Nat)≠[])/\At [2,3,6,8,38,39,40,63,64] [.la 2 0,.la 3 0,.ip (kb.af nx) 0 false,ck k14,lW a1.runs,ck a1.runs.l.length,ck k14,ck x17.kr.l.length,ck k26] H2 [(2,(kV.af a0)),(3,(dO.af a1))] e h) ?_ (k0:=0) d4 ⟨gu,atR⟩
 rintro k26 e h hkk26 ⟨hRn,hA⟩
 refine aE ?_
 refine kE (λh27=>?_) (λh27=>?_)
 refine c8 ?_
 refine aa ?_
 refine c7 ?_
 refine oC (t56 nx a0.roads a1 ((k14:Int)) ((k26:Int)) dS dS dS) ?_
 rintro _ ⟨r29,⟨hc28,hc28r⟩,rfl⟩
 have hRo:=hc28.2.1; have hRl:=hc28.1; have hRe:=hc28.2.2
 rw [hnk.kH,Fk] at hRe
 have hL30:=r29.lk
 refine lx r29 ?_
 refine kZ (λh31=>?_) (λh31=>?_)
 refine aZ ?_
 exact xB ⟨10,ei,rfl⟩
 refine bv ?_
 refine kI ?_
 refine ab ?_
 exact jF
 refine ah ?_
 refine qg ?_
 refine kI ?_
 refine ab ?_
 exact ⟨by omega,iE,atR⟩
 refine bE ?_
 exact xB ⟨0,ei,rfl⟩
 refine aZ ?_
 exact xB ⟨7,ei,rfl⟩
def P30 (_a0:kV) (_a1:dO) (v:AV):Prop:=∃ r0:Int,((((r0=0->((rs 60 [.agg (bY.af _a0.kH),lH _a1.ko]=iv 0/\(∀ r∈_a1.runs.l,(rs 127 [.str r.name.l]=.bool true/\0<=r.ko/\r.ko<(_a1.ko.l.length:Int)/\0<=r.from_/\r.from_<(_a0.kH.signals.l.length:Int)))/\(∀ (i j:Nat) (h:j < _a1.runs.l.length) (hij:i<j),j < _a1.runs.l.length->(_a1.runs.l[i]).name.l≠(_a1.runs.l[j]).name.l)/\_a1.runs.l.length<=8)/\∃ n:kb,qo n _a0.kH/\rs 31 [.agg (bY.af _a0.kH)]=.kO [.ip (kb.af n) 0 false,iv 0]/\(∀ i,i < _a1.runs.l.length->∃ b:nh,rs 130 [.ip (kb.af n) 0 false,.int .i64 (vR _a1 i),.agg (nC n.p _a1 i).af]=.kO [.agg b.af,.int .i64 0])/\(∀ i j,i<j->j < _a1.runs.l.length->∀ x∈p7 n.p [(nC n.p _a1 i).at_],x∉p7 n.p [(nC n.p _a1 j).at_])))/\(uG _a0.kH _a1->pO _a0.kH _a0.roads.l _a1 r0)))/\rs 30 [.agg (kV.af _a0),.agg (dO.af _a1)]=iv r0)/\v=iv r0
def t30 (a0:kV) (a1:dO) (q1:mU a0.kH) (q2:a0.roads.l.length<=64) (q3:∃ nx:kb,qo nx a0.kH/\rs 31 [.agg (bY.af a0.kH)]=.kO [.ip (kb.af nx) 0 false,iv 0]) (h:bV):∃ v,kC cfg FT kJ false 30 [.agg (kV.af a0),.agg (dO.af a1)] h v h/\P30 a0 a1 v:=by
 obtain ⟨v,hc,hP,hr⟩:=pa rY (adG a0 a1 q1 q2 q3) h
 obtain ⟨r0,hp,rfl⟩:=hP
 exact iR
def P43 (_a0:ka Int) (v:AV):Prop:=∃ r0:Row Int,(r0.l = _a0.l)/\v=kU r0
def t43 (a0:ka Int) (q1:a0.l.length<=1000000):Ct 43 [lG a0] (P43 a0):=by
 refine kA JD ?_
 refine aY ?_
 refine mh (b:=a0.isNil) rfl (λ_=>oX rfl rfl rfl rfl) (λh1=>?_) (λh1=>?_)
 refine aZ ?_
 exact xG ⟨(mu:Row Int),eV,rfl⟩
 refine au ?_
 refine wy [lG a0] [] ?_
 refine ae ?_
 have hS2:=Sep.qj lJ 1
 refine kM rfl (lO (i:=0) (l:=([]:List Int)) (enc:=kX) a0.l hS2 rfl rfl rfl rfl rfl rfl rfl rfl rfl (λ_=>rfl) (.inl rfl) dZ (λ_=>rfl)) ?_
 rintro v3 H4 hS5
 refine ag ?_
 obtain ⟨r6,hl7,hf8⟩:=mz (H:=H4) (i:=0) (l:=(([]:List Int)++a0.l)) (enc:=kX) hS5 rfl dV
 have hlq:=hl7; have hln10:=congrArg List.length hl7
 have hz9:∀ m,freeze false { H4 with cT:=[] } (m+2) v3=some (kU r6):=λm=>hf8 _ _ (λ_=>rfl)
 exact ⟨v3,(lQ (vs:=[v3]) rfl (j8 (Sep.arg (i:=0) hS5 rfl) kK)),kU r6,(show freeze false { H4 with cT:=[] } 8 v3=some (kU r6) by simp only [FZ,hz9]),r6,eV,rfl⟩
def u77 {H:bV} (a0:ka kq) (F:List lF) (hS:Sep H F) (q1:a0.l.length<=1000):∃ v H',kC cfg FT kJ true 77 [ka.av kq.af a0] { H with cT:=[] } v H'/\(∃ ov:AV,∃ ol:List kq,(ol=a0.l)/\Sep H' (nu kq.af 9 ov ol::F)/\v=ov):=by
 refine lK N1 ?_
 refine aY ?_
 refine mh (b:=a0.isNil) rfl (λ_=>oX rfl rfl rfl rfl) (λh1=>?_) (λh1=>?_)
 refine aZ ?_
 have hS2:=Sep.m3 hS 9
 have hS3:=Sep.pick hS2 [0] 1 dW dW
 exact ⟨iN,rfl,iN,([]:List kq),fD,Sep.cT hS3 _,rfl⟩
 refine au ?_
 refine wz [ka.av kq.af a0] H [] ?_
 refine ae ?_
 have hS4:=Sep.qj hS 9
 refine kM rfl (lO (i:=0) (l:=([]:List kq)) (enc:=kq.af) a0.l hS4 rfl rfl rfl rfl rfl rfl rfl rfl rfl (λ_=>rfl) (.inl rfl) dZ (λ_=>rfl)) ?_
 rintro v5 H6 hS7
 refine ag ?_
 have hS8:=Sep.pick hS7 [0] 1 dW dW
 exact ⟨v5,(lQ (vs:=[v5]) rfl (j8 (Sep.arg (i:=0) hS7 rfl) kK)),v5,(([]:List kq)++a0.l),fD,Sep.cT hS8 _,rfl⟩
def P32 (_a0:kV) (v:AV):Prop:=∃ r0:kV,(r0.kH = _a0.kH/\r0.roads.l.length = _a0.roads.l.length/\(∀ r∈(r0.roads.l:List kq),ri r)/\r0.roads.l.map ph = _a0.roads.l.map ph)/\v=.agg (kV.af r0)
def t32 (a0:kV) (q1:a0.roads.l.length<=64) (q2:(∀ r∈(a0.roads.l:List kq),ri r)):Ct 32 [.agg (kV.af a0)] (P32 a0):=by
 refine kA NP ?_
 refine dl ?_
 refine lB (H:=bV.empty) (args:=[kx a0.roads]) (p:=[]) (r:=[]) rfl rfl rfl rfl rfl rfl rfl (u77 (Row.mi a0.roads) ([]) lJ dS) ?_
 rintro ov5 H2 ⟨_,ol6,hc4,hS3,rfl⟩
 have hqF:ol6.length=(Row.mi a0.roads).l.length:=by rw [hc4]
 try simp only [Row.mi] at hqF
 have hOl:=hc4
 refine oV ?_
 refine iS rfl (λ_=>pd rfl rfl rfl (nG rfl rfl (Sep.cell (i:=0) hS3 rfl)) (j8 (Sep.cell (i:=0) hS3 rfl) kK) rfl rfl) ?_
 refine oN ?_
 refine aR ?_
 refine iS rfl (λ_=>nO (H:=H2) (i:=0) (l:=ol6) (enc:=kq.af) hS3 rfl rfl rfl rfl rfl rfl rfl) ?_
 refine aC ?_
 refine ke ol6.length (λk7 e h=>∃ v8:AV,∃ l9:List kq,∃ H10:bV,(l9.length=a0.roads.l.length)/\((∀ r∈(l9:List kq),ri r))/\(l9.map ph=a0.roads.l.map ph)/\Sep H10 (nu kq.af 9 v8 l9::[])/\At [1,2,10,11,12] [.la 1 0,.la 2 0,v8,ck ol6.length,ck k7] H10 [(1,[ld a0.kH.elems,lv a0.kH.kB,lz a0.kH.signals,kD a0.kH.lines,iv a0.kH.top,iv a0.kH.lC,iv a0.kH.lN,iv a0.kH.lU,.bool a0.kH.lZ,v8]),(2,[iN,iN,iN,iN,iv 0,iv 0,iv 0,iv 0,kh,iN])] e h) ?_ (k0:=0) d4 ⟨ov5,ol6,H2,(by (rw [hOl]; rfl)),(by (rw [hOl]; exact q2)),(by rw [hOl]; rfl),hS3,(kF hS3 [(10,0)])⟩
 rintro k7 e h hkk7 ⟨v8,l9,H10,hL,hR,hRh,hS11,hA⟩
 refine aE ?_
 refine kE (λh12=>?_) (λh12=>?_)
 refine ai ?_
 refine wz [.la 1 0,.la 2 0,v8,ck ol6.length,ck k7] H10 [(1,[ld a0.kH.elems,lv a0.kH.kB,lz a0.kH.signals,kD a0.kH.lines,iv a0.kH.top,iv a0.kH.lC,iv a0.kH.lN,iv a0.kH.lU,.bool a0.kH.lZ,v8]),(2,[iN,iN,iN,iN,iv 0,iv 0,iv 0,iv 0,kh,iN])] ?_ (kF hS11 [(10,0)])
 refine cw ?_
 have hx13:k7<l9.length:=by first | omega | (simp<;>omega) | (simp_all; omega)
 obtain ⟨x14,hqx14⟩:∃ x,l9[k7]=x:=⟨_,rfl⟩
 have hinx14:x14∈l9:=by rw [<- hqx14]; exact List.getElem_mem _
 obtain ⟨hk1x14,hk2x14,hk3x14,hk4x14,hk5x14,hk6x14,hk7x14,hk8x14⟩:=hR _ hinx14
 refine nM rfl (mS (H:=H10) (i:=0) (m:=k7) (cs:=kq.af x14) hS11 rfl rfl rfl rfl rfl rfl rfl (mq hx13 hqx14)) ?_
 rintro a15 ⟨ha16,hea17⟩
 refine iS rfl (λ_=>pr (H:=H10) (i:=0) (m:=k7) (o:=0) (r:=.agg (kq.af x14)) (cs:=kq.af x14) hS11 rfl (mq hx13 hqx14) hea17 rfl rfl ha16) ?_
 refine bM ?_
 refine bZ ?_
 refine dN ?_
 refine rC (t78 (Row.mi x14.steps) dS) ?_
 rintro _ ⟨r19,hc18,rfl⟩
 have hC93:=congrArg List.length hc18; try simp only [Row.mi] at hC93
 refine rV ?_
 refine rC (t79 (Row.mi x14.nq) dS) ?_
 rintro _ ⟨r21,hc20,rfl⟩
 have hC94:=congrArg List.length hc20; try simp only [Row.mi] at hC94
 refine rC (t79 (Row.mi x14.guards) dS) ?_
 rintro _ ⟨r23,hc22,rfl⟩
 have hC94:=congrArg List.length hc22; try simp only [Row.mi] at hC94
 refine rC (t43 (Row.mi x14.mf) dS) ?_
 rintro _ ⟨r25,hc24,rfl⟩
 have hC115:=congrArg List.length hc24; try simp only [Row.mi] at hC115; have hIc:=hc24; try simp only [Row.mi] at hIc
 refine rC (t43 (Row.mi x14.holds) dS) ?_
 rintro _ ⟨r27,hc26,rfl⟩
 have hC115:=congrArg List.length hc26; try simp only [Row.mi] at hC115; have hIc:=hc26; try simp only [Row.mi] at hIc
 refine bA ?_
 refine bG ?_
 refine dz ?_
 have hx28:k7<l9.length:=by first | omega | (simp<;>omega) | (simp_all; omega)
 refine nM rfl (mS (H:=H10) (i:=0) (m:=k7) (cs:=kq.af x14) hS11 rfl rfl rfl rfl rfl rfl rfl (mq hx28 hqx14)) ?_
 rintro a29 ⟨ha30,hea31⟩
 refine kM rfl (oY (H:=H10) (i:=0) (m:=k7) (o:=0) x14 (⟨x14.from_,x14.to,x14.end_,r19,r21,r23,r25,r27,x14.bare⟩:kq) hS11 rfl hx28 hqx14 hea31 rfl ha30 rfl rfl rfl rfl) ?_
 rintro _ H32 ⟨rfl,hS33⟩
 refine oN ?_
 refine wz [.la 1 0,.la 2 0,v8,ck ol6.length,ck k7] H32 [(1,[ld a0.kH.elems,lv a0.kH.kB,lz a0.kH.signals,kD a0.kH.lines,iv a0.kH.top,iv a0.kH.lC,iv a0.kH.lN,iv a0.kH.lU,.bool a0.kH.lZ,v8]),(2,[iN,iN,iN,iN,iv 0,iv 0,iv 0,iv 0,kh,iN])] ?_ (kF hS33 [(10,0)])
 refine qg ?_
 refine kI ?_
 refine ab ?_
 exact ⟨by omega,v8,((l9.set k7 (⟨x14.from_,x14.to,x14.end_,r19,r21,r23,r25,r27,x14.bare⟩:kq))),H32,ge,(by exact AG hR (Nc (hR _ dT) dT dT dT dT dT)),(by exact zQ hRh dT (Tc dT dT)),hS33,(kF hS33 [(10,0)])⟩
 refine ah ?_
 refine aj ?_
 refine iS rfl (λ_=>pd rfl rfl rfl rfl (j8 rfl (j8 rfl (j8 rfl (j8 rfl (j8 rfl (j8 rfl (j8 rfl (j8 rfl (j8 rfl (j8 (Sep.cell (i:=0) hS11 rfl) kK)))))))))) rfl rfl) ?_
 refine cN ?_
 obtain ⟨r34,hl35,hf36⟩:=mz (H:=H10) (i:=0) (l:=l9) (enc:=kq.af) hS11 rfl dV
 have hlq:=hl35; have hln38:=congrArg List.length hl35
 have hz37:∀ m,freeze false { H10 with cT:=[(1,[ld a0.kH.elems,lv a0.kH.kB,lz a0.kH.signals,kD a0.kH.lines,iv a0.kH.top,iv a0.kH.lC,iv a0.kH.lN,iv a0.kH.lU,.bool a0.kH.lZ,v8]),(2,[ld a0.kH.elems,lv a0.kH.kB,lz a0.kH.signals,kD a0.kH.lines,iv a0.kH.top,iv a0.kH.lC,iv a0.kH.lN,iv a0.kH.lU,.bool a0.kH.lZ,v8])] } (m+2) v8=some (kx r34):=λm=>hf36 _ _ (λ_=>by simp only [kq.af,kP,oD,oZ,pB,oz,pE])
 exact ⟨.agg [ld a0.kH.elems,lv a0.kH.kB,lz a0.kH.signals,kD a0.kH.lines,iv a0.kH.top,iv a0.kH.lC,iv a0.kH.lN,iv a0.kH.lU,.bool a0.kH.lZ,v8],(lQ (vs:=[.agg [ld a0.kH.elems,lv a0.kH.kB,lz a0.kH.signals,kD a0.kH.lines,iv a0.kH.top,iv a0.kH.lC,iv a0.kH.lN,iv a0.kH.lU,.bool a0.kH.lZ,v8]]) rfl rfl),.agg [ld a0.kH.elems,lv a0.kH.kB,lz a0.kH.signals,kD a0.kH.lines,iv a0.kH.top,iv a0.kH.lC,iv a0.kH.lN,iv a0.kH.lU,.bool a0.kH.lZ,kx r34],(show freeze false { H10 with cT:=[(1,[ld a0.kH.elems,lv a0.kH.kB,lz a0.kH.signals,kD a0.kH.lines,iv a0.kH.top,iv a0.kH.lC,iv a0.kH.lN,iv a0.kH.lU,.bool a0.kH.lZ,v8]),(2,[ld a0.kH.elems,lv a0.kH.kB,lz a0.kH.signals,kD a0.kH.lines,iv a0.kH.top,iv a0.kH.lC,iv a0.kH.lN,iv a0.kH.lU,.bool a0.kH.lZ,v8])] } 8 (.agg [ld a0.kH.elems,lv a0.kH.kB,lz a0.kH.signals,kD a0.kH.lines,iv a0.kH.top,iv a0.kH.lC,iv a0.kH.lN,iv a0.kH.lU,.bool a0.kH.lZ,v8])=some (.agg [ld a0.kH.elems,lv a0.kH.kB,lz a0.kH.signals,kD a0.kH.lines,iv a0.kH.top,iv a0.kH.lC,iv a0.kH.lN,iv a0.kH.lU,.bool a0.kH.lZ,kx r34]) by simp only [FZ,hz37]),(⟨a0.kH,r34⟩:kV),(by exact ⟨rfl,by simp_all,by simp_all,Eq.trans (congrArg (List.map ph) dT) hRh⟩),rfl⟩
def P80 (_a0:ka kR) (v:AV):Prop:=∃ r0:Row kR,(r0.l = _a0.l)/\v=lH r0
def t80 (a0:ka kR) (q1:a0.l.length<=1000):Ct 80 [ka.av kR.af a0] (P80 a0):=by
 refine kA ND ?_
 refine aY ?_
 refine mh (b:=a0.isNil) rfl (λ_=>oX rfl rfl rfl rfl) (λh1=>?_) (λh1=>?_)
 refine aZ ?_
 exact xG ⟨(mu:Row kR),eV,rfl⟩
 refine dG ?_
 have hS2:=Sep.qj lJ 5
 refine kM rfl (lO (i:=0) (l:=([]:List kR)) (enc:=kR.af) a0.l hS2 rfl rfl rfl rfl rfl rfl rfl rfl rfl (λ_=>rfl) (.inl rfl) dZ (λ_=>rfl)) ?_
 rintro v3 H4 hS5
 refine ag ?_
 obtain ⟨r6,hl7,hf8⟩:=mz (H:=H4) (i:=0) (l:=(([]:List kR)++a0.l)) (enc:=kR.af) hS5 rfl dV
 have hlq:=hl7; have hln10:=congrArg List.length hl7
 have hz9:∀ m,freeze false { H4 with cT:=[] } (m+2) v3=some (lH r6):=λm=>hf8 _ _ (λ_=>rfl)
 exact ⟨v3,(lQ (vs:=[v3]) rfl (j8 (Sep.arg (i:=0) hS5 rfl) kK)),lH r6,(show freeze false { H4 with cT:=[] } 8 v3=some (lH r6) by simp only [FZ,hz9]),r6,eV,rfl⟩
def u81 {H:bV} (a0:ka kS) (F:List lF) (hS:Sep H F) (q1:a0.l.length<=1000):∃ v H',kC cfg FT kJ true 81 [ka.av kS.af a0] { H with cT:=[] } v H'/\(∃ ov:AV,∃ ol:List kS,(ol=a0.l)/\Sep H' (nu kS.af 5 ov ol::F)/\v=ov):=by
 refine lK MX ?_
 refine aY ?_
 refine mh (b:=a0.isNil) rfl (λ_=>oX rfl rfl rfl rfl) (λh1=>?_) (λh1=>?_)
 refine aZ ?_
 have hS2:=Sep.m3 hS 5
 have hS3:=Sep.pick hS2 [0] 1 dW dW
 exact ⟨iN,rfl,iN,([]:List kS),fD,Sep.cT hS3 _,rfl⟩
 refine au ?_
 refine wz [ka.av kS.af a0] H [] ?_
 refine ae ?_
 have hS4:=Sep.qj hS 5
 refine kM rfl (lO (i:=0) (l:=([]:List kS)) (enc:=kS.af) a0.l hS4 rfl rfl rfl rfl rfl rfl rfl rfl rfl (λ_=>rfl) (.inl rfl) dZ (λ_=>rfl)) ?_
 rintro v5 H6 hS7
 refine ag ?_
 have hS8:=Sep.pick hS7 [0] 1 dW dW
 exact ⟨v5,(lQ (vs:=[v5]) rfl (j8 (Sep.arg (i:=0) hS7 rfl) kK)),v5,(([]:List kS)++a0.l),fD,Sep.cT hS8 _,rfl⟩
def P82 (_a0:ka lD) (v:AV):Prop:=∃ r0:Row lD,(r0.l = _a0.l)/\v=nF r0
def t82 (a0:ka lD) (q1:a0.l.length<=1000):Ct 82 [ka.av lD.af a0] (P82 a0):=by
 refine kA M9 ?_
 refine aY ?_
 refine mh (b:=a0.isNil) rfl (λ_=>oX rfl rfl rfl rfl) (λh1=>?_) (λh1=>?_)
 refine aZ ?_
 exact xG ⟨(mu:Row lD),eV,rfl⟩
 refine dG ?_
 have hS2:=Sep.qj lJ 4
 refine kM rfl (lO (i:=0) (l:=([]:List lD)) (enc:=lD.af) a0.l hS2 rfl rfl rfl rfl rfl rfl rfl rfl rfl (λ_=>rfl) (.inl rfl) dZ (λ_=>rfl)) ?_
 rintro v3 H4 hS5
 refine ag ?_
 obtain ⟨r6,hl7,hf8⟩:=mz (H:=H4) (i:=0) (l:=(([]:List lD)++a0.l)) (enc:=lD.af) hS5 rfl dV
 have hlq:=hl7; have hln10:=congrArg List.length hl7
 have hz9:∀ m,freeze false { H4 with cT:=[] } (m+2) v3=some (nF r6):=λm=>hf8 _ _ (λ_=>rfl)
 exact ⟨v3,(lQ (vs:=[v3]) rfl (j8 (Sep.arg (i:=0) hS5 rfl) kK)),nF r6,(show freeze false { H4 with cT:=[] } 8 v3=some (nF r6) by simp only [FZ,hz9]),r6,eV,rfl⟩
def P33 (_a0:dO) (v:AV):Prop:=∃ r0:dO,((r0.runs.l.length = _a0.runs.l.length/\∀ r∈r0.runs.l,r.kr.l.length<=12)/\r0.runs.l.map nS = _a0.runs.l.map nS/\r0.ko.l = _a0.ko.l)/\v=.agg (dO.af r0)
def t33 (a0:dO) (q1:ug a0) (q2:a0.ko.l.length<=10):Ct 33 [.agg (dO.af a0)] (P33 a0):=by
 refine kA Mx ?_
 have q3:=q1.1
 refine aV ?_
 refine aO ?_
 refine cW ?_
 refine rC (t80 (Row.mi a0.ko) dS) ?_
 rintro _ ⟨r2,hc1,rfl⟩
 refine rV ?_
 refine HA (H:=bV.empty) (args:=[lW a0.runs]) (p:=[]) (r:=[]) rfl rfl rfl rfl rfl rfl rfl rfl (u81 (Row.mi a0.runs) ([]) lJ dS) ?_
 rintro ov7 H4 ⟨_,ol8,hc6,hS5,rfl⟩
 have hqF:ol8.length=(Row.mi a0.runs).l.length:=by rw [hc6]
 try simp only [Row.mi] at hqF
 have hOl:=hc6
 refine aK ?_
 refine kG rfl rfl (λ_=>pd rfl rfl rfl (nG rfl rfl (Sep.cell (i:=0) hS5 rfl)) (j8 (Sep.cell (i:=0) hS5 rfl) kK) rfl rfl) ?_
 refine rN ?_
 refine aR ?_
 refine iS rfl (λ_=>nO (i:=0) (l:=ol8) (enc:=kS.af) hS5 rfl rfl rfl rfl rfl rfl rfl) ?_
 refine aC ?_
 refine ke ol8.length (λk9 e h=>∃ v10:AV,∃ l11:List kS,∃ H12:bV,(l11.length=a0.runs.l.length)/\(∀ r∈(l11:List kS),r.kr.l.length<=12)/\(l11.map nS=a0.runs.l.map nS)/\Sep H12 (nu kS.af 5 v10 l11::[])/\At [1,2,14,15] [.la 1 0,.la 2 0,ck ol8.length,ck k9] H12 [(1,[iv a0.nP,lH r2,v10]),(2,[iv 0,iN,iN])] e h) ?_ (k0:=0) d4 ⟨ov7,ol8,H4,(by (rw [hOl]; rfl)),(by (rw [hOl]; exact λr hr=>(q1.2 r hr).1)),(by rw [hOl]; rfl),hS5,atR⟩
 rintro k9 e h hkk9 ⟨v10,l11,H12,hL,hR,hRh,hS13,hA⟩
 refine aE ?_
 refine kE (λh14=>?_) (λh14=>?_)
 refine ai ?_
 refine wz [.la 1 0,.la 2 0,ck ol8.length,ck k9] H12 [(1,[iv a0.nP,lH r2,v10]),(2,[iv 0,iN,iN])] ?_
 refine aw ?_
 refine aV ?_
 refine qd ?_
 refine cH ?_
 have hx15:k9<l11.length:=by first | omega | (simp<;>omega) | (simp_all; omega)
 obtain ⟨x16,hqx16⟩:∃ x,l11[k9]=x:=⟨_,rfl⟩
 have hinx16:x16∈l11:=by rw [<- hqx16]; exact List.getElem_mem _
 have hkx16:=hR _ hinx16
 refine pv rfl rfl (mS (i:=0) (m:=k9) (cs:=kS.af x16) hS13 rfl rfl rfl rfl rfl rfl rfl (mq hx15 hqx16)) ?_
 rintro a17 ⟨ha18,hea19⟩
 refine kG rfl rfl (λ_=>EA.Hq hea19 rfl rfl rfl ha18) ?_
 refine kG rfl rfl (λ_=>pr (i:=0) (m:=k9) (o:=4) (r:=nF x16.kr) (cs:=kS.af x16) hS13 rfl (mq hx15 hqx16) hea19 rfl rfl rfl) ?_
 refine rC (t82 (Row.mi x16.kr) dS) ?_
 rintro _ ⟨r21,hc20,rfl⟩
 have hC82:=congrArg List.length hc20; try simp only [Row.mi] at hC82
 have hx22:k9<l11.length:=by first | omega | (simp<;>omega) | (simp_all; omega)
 refine pv rfl rfl (mS (i:=0) (m:=k9) (cs:=kS.af x16) hS13 rfl rfl rfl rfl rfl rfl rfl (mq hx22 hqx16)) ?_
 rintro a23 ⟨ha24,hea25⟩
 refine kG rfl rfl (λ_=>EA.Hq hea25 rfl rfl rfl ha24) ?_
 refine mP rfl rfl (oY (i:=0) (m:=k9) (o:=4) x16 (⟨x16.name,x16.ko,x16.from_,x16.left,r21⟩:kS) hS13 rfl hx22 hqx16 hea25 rfl rfl rfl rfl rfl rfl) ?_
 rintro _ H26 ⟨rfl,hS27⟩
 refine rN ?_
 refine wz [.la 1 0,.la 2 0,ck ol8.length,ck k9] H26 [(1,[iv a0.nP,lH r2,v10]),(2,[iv 0,iN,iN])] ?_
 refine qg ?_
 refine kI ?_
 refine ab ?_
 exact ⟨by omega,v10,((l11.set k9 (⟨x16.name,x16.ko,x16.from_,x16.left,r21⟩:kS))),H26,ge,(by exact AG hR (by show List.length (Row.l _)<=12; rw [hC82]; assumption)),(by exact zQ hRh dT (RW dT)),hS27,atR⟩
 refine ah ?_
 refine wz [.la 1 0,.la 2 0,.la 2 0] H12 [(1,[iv a0.nP,lH r2,v10]),(2,[iv 0,iN,iN]),(2,[iv 0,iN,iN])] ?_
 refine aj ?_
 refine iS rfl (λ_=>pd rfl rfl rfl rfl (j8 rfl (j8 rfl (j8 (Sep.cell (i:=0) hS13 rfl) kK))) rfl rfl) ?_
 refine cN ?_
 obtain ⟨r28,hl29,hf30⟩:=mz (H:=H12) (i:=0) (l:=l11) (enc:=kS.af) hS13 rfl dV
 have hlq:=hl29; have hln32:=congrArg List.length hl29
 have hz31:∀ m,freeze false { H12 with cT:=[(1,[iv a0.nP,lH r2,v10]),(2,[iv a0.nP,lH r2,v10])] } (m+2) v10=some (lW r28):=λm=>hf30 _ _ (λ_=>by simp only [kS.af,kP,oD,oZ,pB,oz,pE])
 exact ⟨.agg [iv a0.nP,lH r2,v10],(lQ (vs:=[.agg [iv a0.nP,lH r2,v10]]) rfl rfl),.agg [iv a0.nP,lH r2,lW r28],(show freeze false { H12 with cT:=[(1,[iv a0.nP,lH r2,v10]),(2,[iv a0.nP,lH r2,v10])] } 8 (.agg [iv a0.nP,lH r2,v10])=some (.agg [iv a0.nP,lH r2,lW r28]) by simp only [FZ,hz31]),(⟨a0.nP,r2,r28⟩:dO),(by exact ⟨⟨by simp_all,by simp_all⟩,Eq.trans (congrArg (List.map nS) dT) hRh,by assumption⟩),rfl⟩
def WY (k:Nat) (h:bV):∀ m:Nat,m<=8->nH cfg FT kJ (k+60) false 34 [.sl [[iv (-1)]] (.exact 1),ck m] h=some (.sl (List.replicate m [iv (-1)]) .oh,h)
 | 0,_=>by kernel_rfl
 | 1,_=>by kernel_rfl
 | 2,_=>by kernel_rfl
 | 3,_=>by kernel_rfl
 | 4,_=>by kernel_rfl
 | 5,_=>by kernel_rfl
 | 6,_=>by kernel_rfl
 | 7,_=>by kernel_rfl
 | 8,_=>by kernel_rfl
 | m+9,hm=>by omega
def P34 (m:Nat) (v:AV):Prop:=∃ r0:Row Int,(r0.l=List.replicate m (-1))/\v=kU r0
def t34 (m:Nat) (q1:m<=8) (h:bV):∃ v,kC cfg FT kJ false 34 [.sl [[iv (-1)]] (.exact 1),ck m] h v h/\P34 m v:=by
 refine ⟨_,⟨60,λk hk=>by obtain ⟨j,rfl⟩:=Nat.exists_eq_add_of_le' hk; exact WY j h m q1⟩,⟨List.replicate m (-1),.oh,by simp [s9]; omega,rfl,λh=>by cases h⟩,rfl,?_⟩
 simp [Row.av,kX]
def abw {H:bV} (a0:ka kn) (F:List lF) (hS:Sep H F) (q1:a0.l.length<=1000):∃ v H',kC cfg FT kJ true 114 [ka.av kn.af a0] { H with cT:=[] } v H'/\(∃ ov:AV,∃ ol:List kn,(ol=a0.l)/\Sep H' (nu kn.af 2 ov ol::F)/\v=ov):=by
 refine lK I6 ?_
 refine aY ?_
 refine mh (b:=a0.isNil) rfl (λ_=>oX rfl rfl rfl rfl) (λh1=>?_) (λh1=>?_)
 refine aZ ?_
 have hS2:=Sep.m3 hS 2
 have hS3:=Sep.pick hS2 [0] 1 dW dW
 exact ⟨iN,rfl,iN,([]:List kn),fD,Sep.cT hS3 _,rfl⟩
 refine au ?_
 refine wz [ka.av kn.af a0] H [] ?_
 refine ae ?_
 have hS4:=Sep.qj hS 2
 refine kM rfl (lO (i:=0) (l:=([]:List kn)) (enc:=kn.af) a0.l hS4 rfl rfl rfl rfl rfl rfl rfl rfl rfl (λ_=>rfl) (.inl rfl) dZ (λ_=>rfl)) ?_
 rintro v5 H6 hS7
 refine ag ?_
 have hS8:=Sep.pick hS7 [0] 1 dW dW
 exact ⟨v5,(lQ (vs:=[v5]) rfl (j8 (Sep.arg (i:=0) hS7 rfl) kK)),v5,(([]:List kn)++a0.l),fD,Sep.cT hS8 _,rfl⟩
def SX {H:bV} (b:Bool) (F:List lF) (hS:Sep H F) :∃ v H',kC cfg FT kJ true 163 [.bool b] { H with cT:=[] } v H'/\(∃ r0:Bool,(r0=!b)/\Sep H' (F)/\v=.bool r0):=by
 refine lK HF ?_
 refine bC ?_
 refine aa ?_
 refine mh (b:=b) rfl (λ_=>rfl) (λh1=>?_) (λh1=>?_)
 refine bd ?_
 have hS2:=Sep.pick hS [] 0 dW dW
 exact ⟨.bool false,rfl,false,(by first | rfl | (simp_all; done)),Sep.cT hS2 _,rfl⟩
 refine bd ?_
 have hS3:=Sep.pick hS [] 0 dW dW
 exact ⟨.bool true,rfl,true,(by first | rfl | (simp_all; done)),Sep.cT hS3 _,rfl⟩
def aai {H:bV} (vb:AV) (bl:List Bool) (F:List lF) (hS:Sep H (nu rE 1 vb bl::F)) (q1:bl.length<=8):∃ v H',kC cfg FT kJ true 162 [vb,.ly 163 [] []] { H with cT:=[] } v H'/\(∃ r0:Int,(((-1<=r0/\(r0<0->∀ x∈bl,x=true)/\r0<(bl.length:Int))/\∀ (j:Nat) (h:j<bl.length),(j:Int)<r0->bl[j]=true))/\Sep H' (nu rE 1 vb bl::F)/\v=iv r0):=by
 refine lK HL ?_
 refine dP ?_
 refine aC ?_
 refine ke bl.length (λk1 e h=>∃ H2:bV,(∀ (i:Nat) (h:i<bl.length),i<k1->bl[i]=true)/\Sep H2 (nu rE 1 vb bl::F)/\At [0,1,7,8] [vb,.ly 163 [] [],ck bl.length,ck k1] H2 [] e h) ?_ (k0:=0) d4 ⟨H,eX,hS,(kF hS [(0,0)])⟩
 rintro k1 e h hkk1 ⟨H2,hP,hS3,hA⟩
 refine aE ?_
 refine kE (λh4=>?_) (λh4=>?_)
 refine ai ?_
 refine wz [vb,.ly 163 [] [],ck bl.length,ck k1] H2 [] ?_ (kF hS3 [(0,0)])
 refine aw ?_
 refine aV ?_
 refine aI ?_
 have hx5:k1<bl.length:=by first | omega | (simp<;>omega) | (simp_all; omega)
 obtain ⟨x6,hqx6⟩:∃ x,bl[k1]=x:=⟨_,rfl⟩
 refine nM rfl (mS (i:=0) (m:=k1) (cs:=rE x6) hS3 rfl rfl rfl rfl rfl rfl rfl (mq hx5 hqx6)) ?_
 rintro a7 ⟨ha8,hea9⟩
 refine mh (b:=x6) rfl (λ_=>pr (i:=0) (m:=k1) (o:=0) (r:=.bool x6) (cs:=rE x6) hS3 rfl (mq hx5 hqx6) hea9 rfl rfl ha8) (λh10=>?_) (λh10=>?_)
 have hS11:=Sep.pick hS3 [0] 1 dW dW
 refine lB (H:=H2) (args:=[.bool true]) (p:=[]) (r:=[]) rfl rfl rfl rfl rfl rfl rfl (SX true (nu rE 1 vb bl::F) hS11) ?_
 rintro _ H12 ⟨r15,hc14,hS13,rfl⟩
 have hO1:=hc14
 cases r15
 refine au ?_
 refine wz [vb,.ly 163 [] [],ck bl.length,ck k1] H12 [] ?_ (kF hS13 [(0,0)])
 refine qg ?_
 refine kI ?_
 refine ab ?_
 exact ⟨by omega,H12,gW,hS13,(kF hS13 [(0,0)])⟩
 refine aH ?_
 have hS16:=Sep.pick hS13 [0] 1 dW dW
 exact ⟨ck k1,rfl,((k1:Int)),fx,Sep.cT hS16 _,rfl⟩
 have hS17:=Sep.pick hS3 [0] 1 dW dW
 refine lB (H:=H2) (args:=[kh]) (p:=[]) (r:=[]) rfl rfl rfl rfl rfl rfl rfl (SX false (nu rE 1 vb bl::F) hS17) ?_
 rintro _ H18 ⟨r21,hc20,hS19,rfl⟩
 have hO1:=hc20
 cases r21
 refine au ?_
 refine wz [vb,.ly 163 [] [],ck bl.length,ck k1] H18 [] ?_ (kF hS19 [(0,0)])
 refine qg ?_
 refine kI ?_
 refine ab ?_
 exact ⟨by omega,H18,gW,hS19,(kF hS19 [(0,0)])⟩
 refine aH ?_
 have hS22:=Sep.pick hS19 [0] 1 dW dW
 exact ⟨ck k1,rfl,((k1:Int)),fx,Sep.cT hS22 _,rfl⟩
 refine bE ?_
 have hS23:=Sep.pick hS3 [0] 1 dW dW
 exact ⟨iv (-1),rfl,(-1),fx,Sep.cT hS23 _,rfl⟩
def ZO (_a0:Row Int) (v:AV):Prop:=∃ r0:Int,(nD r0 (vU _a0.l))/\v=.int .u64 (r0)
def t183 (a0:Row Int) :Ct 183 [kU a0] (ZO a0):=by
 refine kA Ke ?_
 refine bC ?_
 refine aY ?_
 have hL1:=a0.lk
 refine dL ?_
 have hNk2:=a0.lk
 refine ke a0.l.length (λk2 e h=>∃ n3:Int,(nD n3 (vU (a0.l.take k2)))/\At [3,6,7,8] [.int .u64 n3,kU a0,ck a0.l.length,ck k2] bV.empty [] e h) ?_ (k0:=0) d4 ⟨0,(by exact Gh (by simp [vU])),atR⟩
 rintro k2 e h hkk2 ⟨n3,hBi,hA⟩
 refine aE ?_
 refine kE (λh4=>?_) (λh4=>?_)
 refine cm ?_
 have hx5:k2<a0.l.length:=by omega
 refine mB k2 a0 hx5 ?_
 generalize hqx6:a0.l[k2]=x6
 refine oV ?_
 refine aN ?_
 refine mW (λh7=>?_) (λh7=>?_)
 refine ao ?_
 refine kE (λh8=>?_) (λh8=>?_)
 refine ba ?_
 refine ci ?_
 obtain ⟨z9,hz10⟩:=T2 (k:=.u64) (x:=1) (y:=x6) dX
 refine iS rfl (λ_=>Tf rfl rfl rfl hz10) ?_
 obtain ⟨z11,hz12⟩:=I2 .u64 n3 (z9)
 refine iS rfl (λ_=>ml rfl rfl rfl hz12) ?_
 refine oV ?_
 refine dC ?_
 refine kI ?_
 refine ab ?_
 exact ⟨by omega,z11,gt,atR⟩
 refine cE ?_
 refine kI ?_
 refine ab ?_
 exact ⟨by omega,n3,gt,atR⟩
 refine bj ?_
 refine cE ?_
 refine kI ?_
 refine ab ?_
 exact ⟨by omega,n3,gt,atR⟩
 refine ah ?_
 refine bT ?_
 exact xB ⟨n3,(by exact JC hBi d4),rfl⟩
def SW (_a0:ka kn) (_a1:Int) (v:AV):Prop:=∃ r0:Int,(nD r0 (zY _a0.l _a1 _a0.l.length))/\v=.int .u64 (r0)
def t164 (a0:ka kn) (a1:Int) :Ct 164 [ka.av kn.af a0,iv a1] (SW a0 a1):=by
 refine kA HC ?_
 refine bC ?_
 refine aY ?_
 have hL1:=a0.lk
 refine cJ ?_
 have hNk2:=a0.lk
 refine ke a0.l.length (λk2 e h=>∃ n3:Int,(nD n3 (zY a0.l a1 k2))/\At [1,5,8,9,10] [iv a1,.int .u64 n3,ka.av kn.af a0,ck a0.l.length,ck k2] bV.empty [] e h) ?_ (k0:=0) d4 ⟨0,(by exact Gh (by rintro i _ ⟨j,_,h,_⟩; omega)),atR⟩
 rintro k2 e h hkk2 ⟨n3,hBi,hA⟩
 refine aE ?_
 refine kE (λh4=>?_) (λh4=>?_)
 refine ai ?_
 refine cw ?_
 have hx5:k2<a0.l.length:=by omega
 refine iS rfl (λ_=>m8 (n:=k2) (r:=a0) (enc:=kn.af) rfl rfl rfl rfl rfl hx5 rfl) ?_
 generalize hqx6:a0.l[k2]=x6
 refine oV ?_
 refine dq ?_
 refine mg (λh7=>?_) (λh7=>?_)
 refine ay ?_
 refine bu ?_
 refine oC (t183 x6.at_) ?_
 rintro _ ⟨r9,hc8,rfl⟩
 have hOf:=hc8
 obtain ⟨z10,hz11⟩:=I2 .u64 n3 (r9)
 refine iS rfl (λ_=>ml rfl rfl rfl hz11) ?_
 refine oV ?_
 refine dC ?_
 refine kI ?_
 refine ab ?_
 exact ⟨by omega,z10,io,atR⟩
 refine bv ?_
 refine kI ?_
 refine ab ?_
 exact ⟨by omega,n3,io,atR⟩
 refine ah ?_
 refine bT ?_
 exact xB ⟨n3,(by (have he : _=a0.l.length:=Nat.le_antisymm dT d4; exact he▸hBi)),rfl⟩
def acd (_a0:kn) (v:AV):Prop:=∃ r0:Int,(nD r0 (xf _a0.kr.l))/\v=.int .u64 (r0)
def t165 (a0:kn) :Ct 165 [.agg (kn.af a0)] (acd a0):=by
 refine kA HY ?_
 refine aV ?_
 refine bC ?_
 refine aR ?_
 have hL1:=a0.kr.lk
 refine lx a0.kr ?_
 refine aC ?_
 have hNk2:=a0.kr.lk
 refine ke a0.kr.l.length (λk2 e h=>∃ n3:Int,(nD n3 (xf (a0.kr.l.take k2)))/\At [3,7,8,9] [.int .u64 n3,nJ a0.kr,ck a0.kr.l.length,ck k2] bV.empty [] e h) ?_ (k0:=0) d4 ⟨0,(by exact Gh (by simp [xf])),atR⟩
 rintro k2 e h hkk2 ⟨n3,hBi,hA⟩
 refine aE ?_
 refine kE (λh4=>?_) (λh4=>?_)
 refine cm ?_
 have hx5:k2<a0.kr.l.length:=by omega
 refine mB k2 a0.kr hx5 ?_
 generalize hqx6:a0.kr.l[k2]=x6
 refine bM ?_
 refine bu ?_
 refine oC (t183 x6.free) ?_
 rintro _ ⟨r8,hc7,rfl⟩
 have hOf:=hc7
 obtain ⟨z9,hz10⟩:=I2 .u64 n3 (r8)
 refine iS rfl (λ_=>ml rfl rfl rfl hz10) ?_
 refine oV ?_
 refine dC ?_
 refine kI ?_
 refine ab ?_
 exact ⟨by omega,z9,(by exact MH dT hBi hOf dT),atR⟩
 refine ah ?_
 refine bT ?_
 exact xB ⟨n3,(by exact Ra hBi d4),rfl⟩
def P84 (_a0:ka kn) (v:AV):Prop:=∃ r0:Row Int,∃ r1:Bool,(rH (_a0.l.map mX) r1)/\v=.kO [kU r0,.bool r1]
def t84 (a0:ka kn) (q1:a0.l.length<=8) (q4:yh a0.l):Ct 84 [ka.av kn.af a0] (P84 a0):=by
 refine kA NL ?_
 refine aj ?_
 refine aN ?_
 refine lB (H:=bV.empty) (args:=[ka.av kn.af a0]) (p:=[]) (r:=[]) rfl rfl rfl rfl rfl rfl rfl (abw a0 ([]) lJ dS) ?_
 rintro ov5 H2 ⟨_,ol6,hc4,hS3,rfl⟩
 have hqF:ol6.length=a0.l.length:=by rw [hc4]
 try simp only [Row.mi] at hqF
 have hOl:=hc4
 refine aN ?_
 have hL7:=a0.lk
 refine iS rfl (λ_=>nA (r:=a0) (enc:=kn.af) rfl rfl rfl rfl rfl rfl) ?_
 refine kM rfl (tW (m:=a0.l.length) hS3 rfl rfl rfl rfl rfl dX dW) ?_
 rintro v8 H9 hS10
 have hS12:=Sep.CP (enc:=rE) (z:=false) hS10 rfl
 refine ab ?_
 refine aY ?_
 have hL13:=a0.lk
 refine cJ ?_
 have hS14:=Sep.m3 hS12 1
 have hNk15:=a0.lk
 refine ke a0.l.length (λk15 e h=>∃ v16:AV,∃ l17:List Int,∃ v18:AV,∃ l19:List Bool,∃ v20:AV,∃ l21:List kn,∃ H22:bV,(l19.length=a0.l.length)/\(l21.length=a0.l.length)/\(l19.count true=k15)/\(l17.length<=k15)/\(p4 (a0.l.map mX) k15 (l21.map mX) l19)/\(yh l21)/\Sep H22 (om v16 l17::nu rE 1 v18 l19::nu kn.af 2 v20 l21::[])/\At [0,4,5,6,14,15] [ka.av kn.af a0,v20,v18,v16,ck a0.l.length,ck k15] H22 [] e h) ?_ (k0:=0) d4 ⟨iN,(([]:List Int)),v8,((List.replicate a0.l.length false)),ov5,ol6,H9,(by (first | exact List.length_replicate | omega)),(by (rw [hOl])),(by (first | exact List.count_replicate_self | simp [List.count_replicate])),(by exact Nat.zero_le _),(by exact p4.X8 hOl rfl),(by (rw [hOl]; exact q4)),hS14,(kF hS14 [(4,2),(5,1)])⟩
 rintro k15 e h hkk15 ⟨v16,l17,v18,l19,v20,l21,H22,hL5,hL4,hC,hL6,hRc,hLow,hS23,hA⟩
 refine aE ?_
 refine kE (λh24=>?_) (λh24=>?_)
 refine ai ?_
 refine wz [ka.av kn.af a0,v20,v18,v16,ck a0.l.length,ck k15] H22 [] ?_ (kF hS23 [(4,2),(5,1),(6,0)])
 refine cw ?_
 have hS25:=Sep.pick hS23 [1,0,2] 3 dW dW
 refine lB (H:=H22) (args:=[v18,.ly 163 [] []]) (p:=[]) (r:=[]) rfl rfl rfl rfl rfl (j8 (Sep.arg (i:=1) hS23 rfl) (j8 rfl kK)) rfl (aai v18 l19 (om v16 l17::nu kn.af 2 v20 l21::[]) hS25 dS) ?_
 rintro _ H26 ⟨r29,hc28,hS27,rfl⟩
 have hIb:=hc28.1; have hIb2:=hc28.2
 refine ab ?_
 refine aw ?_
 refine nw (λm31 e h=>∃ n30:Int,m31=((a0.l.length:Int) - n30).toNat/\(0<=n30)/\(n30<=(a0.l.length:Int))/\(xH (l21.map mX) l19 n30)/\At [0,4,5,6,7,14,15] [ka.av kn.af a0,v20,v18,v16,iv n30,ck a0.l.length,ck k15] H26 [] e h) ?_ _ _ _ ⟨r29,rfl,(by exact Up hIb.2.1 hC d4),d4,(by exact xH.init hIb2),(kF hS27 [(4,2),(5,0),(6,1)])⟩
 rintro m31 e h ⟨n30,hmm31,hx0,hx1,hNo,hA⟩
 refine rR hA ?_
 refine qs ?_
 refine bZ ?_
 have hL32:=a0.lk
 refine kG rfl rfl (λ_=>nA (r:=a0) (enc:=kn.af) rfl rfl rfl rfl rfl rfl) ?_
 refine si (λh33=>?_) (λh33=>?_)
 refine bA ?_
 have hk34:(((n30).toNat:Nat):Int)=n30:=Int.toNat_of_nonneg dX
 have hx35:(n30).toNat<l19.length:=by first | omega | (simp<;>omega) | (simp_all; omega)
 obtain ⟨x36,hqx36⟩:∃ x,l19[(n30).toNat]=x:=⟨_,rfl⟩
 refine pv rfl rfl (mS (i:=0) (m:=(n30).toNat) (cs:=rE x36) hS27 rfl rfl rfl rfl rfl rfl (congrArg (AV.int .i64) hk34.symm) (mq hx35 hqx36)) ?_
 rintro a37 ⟨ha38,hea39⟩
 refine Fz (b:=x36) rfl rfl (λ_=>pr (i:=0) (m:=(n30).toNat) (o:=0) (r:=.bool x36) (cs:=rE x36) hS27 rfl (mq hx35 hqx36) hea39 rfl rfl ha38) (λh40=>?_) (λh40=>?_)
 refine dD ?_
 iterate 4 refine rS ?_
 refine rV ?_
 refine ce ?_
 refine qk ?_
 refine wz [ka.av kn.af a0,v20,v18,v16,iv n30,ck a0.l.length,ck k15] H26 [] ?_ (kF hS27 [(4,2),(5,0),(6,1)])
 refine qb ?_
 refine aJ ?_
 refine kI ?_
 refine ab ?_
 refine ⟨_,?_,(n30+1),rfl,d4,d4,gF,(kF hS27 [(4,2),(5,0),(6,1)])⟩
 omega
 refine bA ?_
 refine nd hS27 2 λr41 hl42 hln45 hz44=>?_
 refine oj (args:=[v20,iv n30]) (p:=[]) (r:=[]) (args':=[ka.av kn.af r41,iv n30]) (R:=SW r41 n30) rfl rfl rfl rfl rfl rfl (j8 (Sep.arg (i:=2) hS27 rfl) (j8 rfl kK)) rfl fh (lj (by show kP (freeze true { H26 with cT:=[] } 8) [v20,iv n30] = _; simp only [FZ,hz44]) (j8 (Sep.ot (i:=2) hS27 rfl) (j8 rfl kK))) (lj e9 (j8 rfl (j8 rfl kK))) (λh=>t164 r41 n30  h) ?_
 rintro _ ⟨r47,hc46,rfl⟩
 have hOt:=hc46
 refine aK ?_
 have hk48:(((n30).toNat:Nat):Int)=n30:=Int.toNat_of_nonneg dX
 have hx49:(n30).toNat<l21.length:=by first | omega | (simp<;>omega) | (simp_all; omega)
 obtain ⟨x50,hqx50⟩:∃ x,l21[(n30).toNat]=x:=⟨_,rfl⟩
 refine pv rfl rfl (mS (i:=2) (m:=(n30).toNat) (cs:=kn.af x50) hS27 rfl rfl rfl rfl rfl rfl (congrArg (AV.int .i64) hk48.symm) (mq hx49 hqx50)) ?_
 rintro a51 ⟨ha52,hea53⟩
 refine kG rfl rfl (λ_=>pr (i:=2) (m:=(n30).toNat) (o:=0) (r:=.agg (kn.af x50)) (cs:=kn.af x50) hS27 rfl (mq hx49 hqx50) hea53 rfl rfl ha52) ?_
 refine rC (t165 x50) ?_
 rintro _ ⟨r55,hc54,rfl⟩
 have hWn:=hc54
 obtain ⟨z56,hz57⟩:=T8 .u64 r47 (r55)
 refine kG rfl rfl (λ_=>ml rfl rfl rfl hz57) ?_
 refine w5 (λh58=>?_) (λh58=>?_)
 refine rV ?_
 refine ce ?_
 refine qk ?_
 refine wz [ka.av kn.af a0,v20,v18,v16,iv n30,ck a0.l.length,ck k15] H26 [] ?_ (kF hS27 [(4,2),(5,0),(6,1)])
 refine qb ?_
 refine aJ ?_
 refine kI ?_
 refine ab ?_
 refine ⟨_,?_,(n30+1),rfl,d4,d4,gF,(kF hS27 [(4,2),(5,0),(6,1)])⟩
 omega
 refine rV ?_
 refine aP ?_
 refine qF ?_
 refine qe ?_
 refine wz [ka.av kn.af a0,v20,v18,v16,iv n30,ck a0.l.length,ck k15] H26 [] ?_ (kF hS27 [(4,2),(5,0),(6,1)])
 refine aR ?_
 have hL59:=a0.lk
 refine iS rfl (λ_=>nA (r:=a0) (enc:=kn.af) rfl rfl rfl rfl rfl rfl) ?_
 refine kZ (λh60=>?_) (λh60=>?_)
 refine aH ?_
 exact xG ⟨(mu:Row Int),false,gC,rfl⟩
 refine au ?_
 refine wz [ka.av kn.af a0,v20,v18,v16,iv n30,ck a0.l.length,ck k15] H26 [] ?_ (kF hS27 [(4,2),(5,0),(6,1)])
 refine db ?_
 have hk61:(((n30).toNat:Nat):Int)=n30:=Int.toNat_of_nonneg dX
 have hx62:(n30).toNat<l19.length:=by first | omega | (simp<;>omega) | (simp_all; omega)
 refine nM rfl (mS (i:=0) (m:=(n30).toNat) (cs:=rE x36) hS27 rfl rfl rfl rfl rfl rfl (congrArg (AV.int .i64) hk61.symm) (mq hx62 hqx36)) ?_
 rintro a63 ⟨ha64,hea65⟩
 refine kM rfl (oY (i:=0) (m:=(n30).toNat) (o:=0) x36 true hS27 rfl hx62 hqx36 hea65 rfl ha64 rfl rfl rfl rfl) ?_
 rintro _ H66 ⟨rfl,hS67⟩
 have hk68:(((n30).toNat:Nat):Int)=n30:=Int.toNat_of_nonneg dX
 have hx69:(n30).toNat<l21.length:=by first | omega | (simp<;>omega) | (simp_all; omega)
 refine nM rfl (mS (i:=2) (m:=(n30).toNat) (cs:=kn.af x50) hS67 rfl rfl rfl rfl rfl rfl (congrArg (AV.int .i64) hk68.symm) (mq hx69 hqx50)) ?_
 rintro a70 ⟨ha71,hea72⟩
 refine kM rfl (oY (i:=2) (m:=(n30).toNat) (o:=0) x50 (⟨(mu:Row Int),(mu:Row lL)⟩:kn) hS67 rfl hx69 hqx50 hea72 rfl ha71 rfl rfl rfl rfl) ?_
 rintro _ H73 ⟨rfl,hS74⟩
 refine oN ?_
 refine bu ?_
 refine kM rfl (lO (i:=1) [n30] hS74 rfl rfl rfl rfl rfl rfl rfl rfl rfl (λ_=>rfl) (.inl rfl) dZ (λ_=>rfl)) ?_
 rintro v75 H76 hS77
 refine ab ?_
 refine wz [ka.av kn.af a0,v20,v18,v75,ck a0.l.length,ck k15] H76 [] ?_ (kF hS77 [(4,2),(5,0),(6,1)])
 refine qg ?_
 refine kI ?_
 refine ab ?_
 have hS78:=Sep.pick hS77 [1,0,2] 3 dW dW
 exact ⟨by omega,v75,((l17++[n30])),v18,((l19.set ((n30).toNat) true)),v20,((l21.set ((n30).toNat) (⟨(mu:Row Int),(mu:Row lL)⟩:kn))),H76,ge,ge,iA,gN,gR,(by exact hLow.set),hS78,(kF hS78 [(4,2),(5,1),(6,0)])⟩
 refine rV ?_
 iterate 16 refine rS ?_
 refine aP ?_
 refine qF ?_
 refine qe ?_
 refine wz [ka.av kn.af a0,v20,v18,v16,iv n30,ck a0.l.length,ck k15] H26 [] ?_ (kF hS27 [(4,2),(5,0),(6,1)])
 refine aR ?_
 have hL79:=a0.lk
 refine iS rfl (λ_=>nA (r:=a0) (enc:=kn.af) rfl rfl rfl rfl rfl rfl) ?_
 refine kZ (λh80=>?_) (λh80=>?_)
 refine aH ?_
 exact xG ⟨(mu:Row Int),false,gC,rfl⟩
 refine au ?_
 refine wz [ka.av kn.af a0,v20,v18,v16,iv n30,ck a0.l.length,ck k15] H26 [] ?_ (kF hS27 [(4,2),(5,0),(6,1)])
 refine db ?_
 have hk81:(((n30).toNat:Nat):Int)=n30:=Int.toNat_of_nonneg dX
 have hx82:(n30).toNat<l19.length:=by first | omega | (simp<;>omega) | (simp_all; omega)
 obtain ⟨x83,hqx83⟩:∃ x,l19[(n30).toNat]=x:=⟨_,rfl⟩
 refine nM rfl (mS (i:=0) (m:=(n30).toNat) (cs:=rE x83) hS27 rfl rfl rfl rfl rfl rfl (congrArg (AV.int .i64) hk81.symm) (mq hx82 hqx83)) ?_
 rintro a84 ⟨ha85,hea86⟩
 refine kM rfl (oY (i:=0) (m:=(n30).toNat) (o:=0) x83 true hS27 rfl hx82 hqx83 hea86 rfl ha85 rfl rfl rfl rfl) ?_
 rintro _ H87 ⟨rfl,hS88⟩
 have hk89:(((n30).toNat:Nat):Int)=n30:=Int.toNat_of_nonneg dX
 have hx90:(n30).toNat<l21.length:=by first | omega | (simp<;>omega) | (simp_all; omega)
 obtain ⟨x91,hqx91⟩:∃ x,l21[(n30).toNat]=x:=⟨_,rfl⟩
 refine nM rfl (mS (i:=2) (m:=(n30).toNat) (cs:=kn.af x91) hS88 rfl rfl rfl rfl rfl rfl (congrArg (AV.int .i64) hk89.symm) (mq hx90 hqx91)) ?_
 rintro a92 ⟨ha93,hea94⟩
 refine kM rfl (oY (i:=2) (m:=(n30).toNat) (o:=0) x91 (⟨(mu:Row Int),(mu:Row lL)⟩:kn) hS88 rfl hx90 hqx91 hea94 rfl ha93 rfl rfl rfl rfl) ?_
 rintro _ H95 ⟨rfl,hS96⟩
 refine oN ?_
 refine bu ?_
 refine kM rfl (lO (i:=1) [n30] hS96 rfl rfl rfl rfl rfl rfl rfl rfl rfl (λ_=>rfl) (.inl rfl) dZ (λ_=>rfl)) ?_
 rintro v97 H98 hS99
 refine ab ?_
 refine wz [ka.av kn.af a0,v20,v18,v97,ck a0.l.length,ck k15] H98 [] ?_ (kF hS99 [(4,2),(5,0),(6,1)])
 refine qg ?_
 refine kI ?_
 refine ab ?_
 have hS100:=Sep.pick hS99 [1,0,2] 3 dW dW
 exact ⟨by omega,v97,((l17++[n30])),v18,((l19.set ((n30).toNat) true)),v20,((l21.set ((n30).toNat) (⟨(mu:Row Int),(mu:Row lL)⟩:kn))),H98,ge,ge,iA,gN,gR,(by exact hLow.set),hS100,(kF hS100 [(4,2),(5,1),(6,0)])⟩
 refine ah ?_
 refine wz [v16] H22 [] ?_ (kF hS23 [(6,0)])
 refine aF ?_
 obtain ⟨r101,hl102,hf103⟩:=mz (H:=H22) (i:=0) (l:=l17) (enc:=kX) hS23 rfl dV
 have hlq:=hl102; have hln105:=congrArg List.length hl102
 have hz104:∀ m,freeze false { H22 with cT:=[] } (m+2) v16=some (kU r101):=λm=>hf103 _ _ (λ_=>rfl)
 exact ⟨.kO [v16,.bool true],(lQ (vs:=[v16,.bool true]) rfl (j8 (Sep.arg (i:=0) hS23 rfl) (j8 rfl kK))),.kO [kU r101,.bool true],(show freeze false { H22 with cT:=[] } 8 (.kO [v16,.bool true])=some (.kO [kU r101,.bool true]) by simp only [FZ,hz104]),r101,true,gC,rfl⟩
def P35 (_a0:ka kn) (v:AV):Prop:=∃ r0:Bool,(rH (_a0.l.map mX) r0)/\v=.bool r0
def t35 (a0:ka kn) (q1:a0.l.length<=8) (q4:yh a0.l):Ct 35 [ka.av kn.af a0] (P35 a0):=by
 refine kA Pk ?_
 refine aa ?_
 refine aN ?_
 refine oC (t84 a0 dS dS) ?_
 rintro _ ⟨r2,r3,hc1,rfl⟩
 have hOrd:=hc1
 cases r3
 refine dg ?_
 refine bT ?_
 exact xB ⟨false,(by exact hOrd),rfl⟩
 refine dg ?_
 refine bT ?_
 exact xB ⟨true,(by exact hOrd),rfl⟩
end Go.Sx
