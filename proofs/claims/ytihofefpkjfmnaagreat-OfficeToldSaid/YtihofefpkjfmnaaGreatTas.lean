/- Proves what some functions of the program answer, by walking through them. -/
import Derived.Test.YtihofefpkjfmnaaGreatTaj
import Derived.Test.YtihofefpkjfmnaaGreatTak
import Derived.Test.YtihofefpkjfmnaaGreatTam
import Derived.Test.YtihofefpkjfmnaaGreatTan
import Derived.Test.YtihofefpkjfmnaaGreatTao
import Derived.Test.YtihofefpkjfmnaaGreatTap
import Derived.Test.YtihofefpkjfmnaaGreatTar
set_option linter.all false
set_option maxRecDepth 100000
set_option maxHeartbeats 0
namespace Go.Sx
open Go Go.Proofs
def YS (_a0:kP) (v:AV):Prop:=∃ r0:kP,(True)/\v=.agg (kP.ag r0)
def t115 (a0:kP) (q1:s8 a0):Ct 115 [.agg (kP.ag a0)] (YS a0):=by
 refine j9 Is ?_
 have q2:=q1.1
 have q3:(Row.drop a0.kH 1).l.length=a0.kH.l.length - 1:=List.length_drop
 refine bT ?_
 refine dJ ?_
 have hL1:=a0.kH.lk
 refine lu a0.kH ?_
 refine kR (λh2=>?_) (λh2=>?_)
 refine aJ ?_
 exact xG ⟨(⟨(lZ:Row Int),(lZ:Row mq)⟩:kP),zt⟩
 refine ah ?_
 refine aX ?_
 have hx3:0<a0.kH.l.length:=by omega
 refine ml 0 a0.kH hx3 ?_
 generalize hqx4:a0.kH.l[0]=x4
 have hinx4:x4∈a0.kH.l:=by rw [<- hqx4]; exact List.getElem_mem _
 have hsx4:=q1.2 x4 (by first | exact hinx4 | exact List.mem_of_mem_drop hinx4)
 refine am ?_
 refine aZ ?_
 refine mV (λh5=>?_) (λh5=>?_)
 refine dm ?_
 refine bZ ?_
 refine aX ?_
 have hx6:1<=a0.kH.l.length:=by omega
 refine jP rfl (λ_=>Af (k:=1) (r:=a0.kH) (enc:=mq.ag) (n:=2) rfl rfl rfl rfl rfl rfl hx6 (λ_=>rfl)) ?_
 have hL7:=(Row.drop a0.kH 1).lk
 refine lu ((Row.drop a0.kH 1)) ?_
 refine aC ?_
 have hS8:=Sep.mf kV 2
 have hNk9:=(Row.drop a0.kH 1).lk
 refine jW ((Row.drop a0.kH 1).l.length) (λk9 e h=>∃ v10:AV,∃ l11:List mq,∃ H12:aT,(l11.length<=0+k9)/\Sep H12 (my mq.ag 2 v10 l11::[])/\At [2,3,24,25,26] [.la 2 0,.la 3 0,oE (Row.drop a0.kH 1),iv ((Row.drop a0.kH 1).l.length:Int),bY k9] H12 [(2,[iN,iN]),(3,[.sl [[iv x4.end_]] (.exact 1),v10])] e h) ?_ (k0:=0) eG ⟨iN,(([]:List mq)),aT.empty,ff,hS8,atR⟩
 rintro k9 e h hkk9 ⟨v10,l11,H12,hl14,hS13,hA⟩
 refine aA ?_
 refine kx (λh15=>?_) (λh15=>?_)
 refine bC ?_
 have hx16:k9<(Row.drop a0.kH 1).l.length:=by omega
 refine ml k9 ((Row.drop a0.kH 1)) hx16 ?_
 generalize hqx17:(Row.drop a0.kH 1).l[k9]=x17
 have hinx17:x17∈(Row.drop a0.kH 1).l:=by rw [<- hqx17]; exact List.getElem_mem _
 have hsx17:=q1.2 x17 (by first | exact hinx17 | exact List.mem_of_mem_drop hinx17)
 refine dn ?_
 refine aI ?_
 refine rC (t43 (Row.mg x17.free) ey) ?_
 rintro _ ⟨r19,hc18,rfl⟩
 have hC115:=congrArg List.length hc18; try simp only [Row.mg] at hC115; have hIc:=hc18; try simp only [Row.mg] at hIc
 refine bj ?_
 refine kp rfl rfl (λ_=>sA (xs:=[[kN r19,iv x17.end_]]) rfl rfl rfl rfl (yp (jU (mZ _) (jU rfl kE)) rfl)) ?_
 refine lH rfl rfl (kZ (H:=H12) (i:=0) (l:=l11) (enc:=mq.ag) [(⟨r19,x17.end_⟩:mq)] hS13 rfl rfl rfl rfl rfl rfl rfl rfl rfl (λ_=>rfl) (.inl rfl) eE (λ_=>rfl)) ?_
 rintro v20 H21 hS22
 refine rV ?_
 refine kp rfl rfl (λ_=>qi rfl rfl rfl (mF rfl rfl (Sep.cell (i:=0) hS22 rfl)) (jU (Sep.cell (i:=0) hS22 rfl) kE) rfl rfl) ?_
 refine rN ?_
 refine qg ?_
 refine kD ?_
 refine ab ?_
 exact ⟨by omega,v20,((l11++[(⟨r19,x17.end_⟩:mq)])),H21,eC,hS22,atR⟩
 refine aj ?_
 refine ai ?_
 refine jP rfl (λ_=>qi rfl rfl rfl rfl (jU rfl (jU (Sep.cell (i:=0) hS13 rfl) kE)) rfl rfl) ?_
 refine dg ?_
 obtain ⟨r23,hl24,hf25⟩:=lK (H:=H12) (i:=0) (l:=l11) (enc:=mq.ag) hS13 rfl eA
 have hlq:=hl24; have hln27:=congrArg List.length hl24
 have hz26:∀ m,freeze false { H12 with cH:=[(2,[.sl [[iv x4.end_]] (.exact 1),v10]),(3,[.sl [[iv x4.end_]] (.exact 1),v10])] } (m+2) v10=some (oE r23):=λm=>hf25 _ _ (λ_=>by simp only [mq.ag,kG,m0,nf,np,mY,nj])
 exact ⟨.agg [.sl [[iv x4.end_]] (.exact 1),v10],(lL (vs:=[.agg [.sl [[iv x4.end_]] (.exact 1),v10]]) rfl rfl),.agg [.sl [[iv x4.end_]] (.exact 1),oE r23],(show freeze false { H12 with cH:=[(2,[.sl [[iv x4.end_]] (.exact 1),v10]),(3,[.sl [[iv x4.end_]] (.exact 1),v10])] } 8 (.agg [.sl [[iv x4.end_]] (.exact 1),v10])=some (.agg [.sl [[iv x4.end_]] (.exact 1),oE r23]) by simp only [FZ,hz26]),(⟨(⟨[x4.end_],.exact 1,pR,rfl,nE⟩:Row Int),r23⟩:kP),zt⟩
 refine ah ?_
 refine aX ?_
 have hx28:1<=a0.kH.l.length:=by omega
 refine jP rfl (λ_=>Af (k:=1) (r:=a0.kH) (enc:=mq.ag) (n:=2) rfl rfl rfl rfl rfl rfl hx28 (λ_=>rfl)) ?_
 have hL29:=(Row.drop a0.kH 1).lk
 refine lu ((Row.drop a0.kH 1)) ?_
 refine aC ?_
 have hS30:=Sep.mf kV 2
 have hNk31:=(Row.drop a0.kH 1).lk
 refine jW ((Row.drop a0.kH 1).l.length) (λk31 e h=>∃ v32:AV,∃ l33:List mq,∃ H34:aT,(l33.length<=0+k31)/\Sep H34 (my mq.ag 2 v32 l33::[])/\At [2,3,24,25,26] [.la 2 0,.la 3 0,oE (Row.drop a0.kH 1),iv ((Row.drop a0.kH 1).l.length:Int),bY k31] H34 [(2,[iN,iN]),(3,[iN,v32])] e h) ?_ (k0:=0) eG ⟨iN,(([]:List mq)),aT.empty,ff,hS30,atR⟩
 rintro k31 e h hkk31 ⟨v32,l33,H34,hl36,hS35,hA⟩
 refine aA ?_
 refine kx (λh37=>?_) (λh37=>?_)
 refine bC ?_
 have hx38:k31<(Row.drop a0.kH 1).l.length:=by omega
 refine ml k31 ((Row.drop a0.kH 1)) hx38 ?_
 generalize hqx39:(Row.drop a0.kH 1).l[k31]=x39
 have hinx39:x39∈(Row.drop a0.kH 1).l:=by rw [<- hqx39]; exact List.getElem_mem _
 have hsx39:=q1.2 x39 (by first | exact hinx39 | exact List.mem_of_mem_drop hinx39)
 refine dn ?_
 refine aI ?_
 refine rC (t43 (Row.mg x39.free) ey) ?_
 rintro _ ⟨r41,hc40,rfl⟩
 have hC115:=congrArg List.length hc40; try simp only [Row.mg] at hC115; have hIc:=hc40; try simp only [Row.mg] at hIc
 refine bj ?_
 refine kp rfl rfl (λ_=>sA (xs:=[[kN r41,iv x39.end_]]) rfl rfl rfl rfl (yp (jU (mZ _) (jU rfl kE)) rfl)) ?_
 refine lH rfl rfl (kZ (H:=H34) (i:=0) (l:=l33) (enc:=mq.ag) [(⟨r41,x39.end_⟩:mq)] hS35 rfl rfl rfl rfl rfl rfl rfl rfl rfl (λ_=>rfl) (.inl rfl) eE (λ_=>rfl)) ?_
 rintro v42 H43 hS44
 refine rV ?_
 refine kp rfl rfl (λ_=>qi rfl rfl rfl (mF rfl rfl (Sep.cell (i:=0) hS44 rfl)) (jU (Sep.cell (i:=0) hS44 rfl) kE) rfl rfl) ?_
 refine rN ?_
 refine qg ?_
 refine kD ?_
 refine ab ?_
 exact ⟨by omega,v42,((l33++[(⟨r41,x39.end_⟩:mq)])),H43,eC,hS44,atR⟩
 refine aj ?_
 refine ai ?_
 refine jP rfl (λ_=>qi rfl rfl rfl rfl (jU rfl (jU (Sep.cell (i:=0) hS35 rfl) kE)) rfl rfl) ?_
 refine dg ?_
 obtain ⟨r45,hl46,hf47⟩:=lK (H:=H34) (i:=0) (l:=l33) (enc:=mq.ag) hS35 rfl eA
 have hlq:=hl46; have hln49:=congrArg List.length hl46
 have hz48:∀ m,freeze false { H34 with cH:=[(2,[iN,v32]),(3,[iN,v32])] } (m+2) v32=some (oE r45):=λm=>hf47 _ _ (λ_=>by simp only [mq.ag,kG,m0,nf,np,mY,nj])
 exact ⟨.agg [iN,v32],(lL (vs:=[.agg [iN,v32]]) rfl rfl),.agg [iN,oE r45],(show freeze false { H34 with cH:=[(2,[iN,v32]),(3,[iN,v32])] } 8 (.agg [iN,v32])=some (.agg [iN,oE r45]) by simp only [FZ,hz48]),(⟨(lZ:Row Int),r45⟩:kP),zt⟩
def aaf (_a0:Row kP) (_a1:Int) (_a2:jS Int) (v:AV):Prop:=∃ r0:Bool,(True)/\v=.bool r0
def aaJ (a0:Row kP) (a1:Int) (a2:jS Int) (q1:∀ c∈a0.l,s8 c):Ct 55 [kS a0,iv a1,ly a2] (aaf a0 a1 a2):=by
 refine j9 L3 ?_
 refine dJ ?_
 refine oC (t112 a0 a1) ?_
 rintro _ ⟨r2,hc1,rfl⟩
 cases r2
 clear hc1
 refine cg ?_
 refine au ?_
 exact iq
 have hc1t:=hc1 rfl
 refine aF ?_
 have hL3:=a0.lk
 refine lu a0 ?_
 refine ma (λh4=>?_) (λh4=>?_)
 refine au ?_
 exact iq
 refine oV ?_
 refine dz ?_
 refine ao ?_
 have hL5:=a0.lk
 refine cN ?_
 have hS6:=Sep.OP kV 1 (List.map j6 [a1]) gX (k:=1) rfl
 have hNk7:=a0.lk
 refine jW a0.l.length (λk7 e h=>∃ v8:AV,∃ l9:List Int,∃ H10:aT,(∀ x∈(l9:List Int),0<=x/\x<(a0.l.length:Int))/\(l9.length<=k7+1)/\Sep H10 (JS j6 1 v8 l9::[])/\At [0,1,2,7,25,26,27] [kS a0,iv a1,ly a2,v8,kS a0,bY a0.l.length,bY k7] H10 [] e h) ?_ (k0:=0) eG ⟨((.sl (List.map j6 [a1]) (.exact 1))),([a1]),aT.empty,(by (intro x hx; simp at hx; subst hx; omega)),fS,hS6,atR⟩
 rintro k7 e h hkk7 ⟨v8,l9,H10,hG,hL7,hS11,hA⟩
 refine aA ?_
 refine kx (λh12=>?_) (λh12=>?_)
 refine ak ?_
 refine wz [kS a0,iv a1,ly a2,v8,kS a0,bY a0.l.length,bY k7] H10 [] ?_ (kh hS11 [(7,0)])
 refine aw ?_
 have hx13:k7<a0.l.length:=by omega
 refine ml k7 a0 hx13 ?_
 generalize hqx14:a0.l[k7]=x14
 have hinx14:x14∈a0.l:=by rw [<- hqx14]; exact List.getElem_mem _
 have hsx14:=q1 x14 hinx14
 refine oV ?_
 refine dM ?_
 refine lR (λh15=>?_) (λh15=>?_)
 refine aF ?_
 have hL16:=x14.kH.lk
 refine lu x14.kH ?_
 refine ma (λh17=>?_) (λh17=>?_)
 refine aK ?_
 refine oC (t113 a2 ((k7:Int))) ?_
 rintro _ ⟨r19,hc18,rfl⟩
 cases r19
 refine aH ?_
 refine wz [kS a0,iv a1,ly a2,v8,kS a0,bY a0.l.length,bY k7] H10 [] ?_ (kh hS11 [(7,0)])
 refine qg ?_
 refine kD ?_
 refine ab ?_
 exact jG
 refine be ?_
 refine bz ?_
 refine kn rfl (kZ (H:=H10) (i:=0) (l:=l9) (enc:=j6) [((k7:Int))] hS11 rfl rfl rfl rfl rfl rfl rfl rfl rfl (λ_=>rfl) (.inl rfl) eE (λ_=>rfl)) ?_
 rintro v20 H21 hS22
 refine ab ?_
 refine wz [kS a0,iv a1,ly a2,v20,kS a0,bY a0.l.length,bY k7] H21 [] ?_ (kh hS22 [(7,0)])
 refine qg ?_
 refine kD ?_
 refine ab ?_
 exact ⟨by omega,v20,((l9++[((k7:Int))])),H21,gu,eF,hS22,(kh hS22 [(7,0)])⟩
 refine cg ?_
 refine aH ?_
 refine wz [kS a0,iv a1,ly a2,v8,kS a0,bY a0.l.length,bY k7] H10 [] ?_ (kh hS11 [(7,0)])
 refine qg ?_
 refine kD ?_
 refine ab ?_
 exact jG
 refine bp ?_
 refine cg ?_
 refine aH ?_
 refine wz [kS a0,iv a1,ly a2,v8,kS a0,bY a0.l.length,bY k7] H10 [] ?_ (kh hS11 [(7,0)])
 refine qg ?_
 refine kD ?_
 refine ab ?_
 exact jG
 refine aj ?_
 refine wz [kS a0,v8] H10 [] ?_ (kh hS11 [(7,0)])
 refine bG ?_
 refine oe (λm26 e h=>∃ n23:Int,∃ H24:aT,m26=(9223372036854775807 - n23).toNat/\(1<=n23)/\Sep H24 (JS j6 1 v8 l9::[])/\At [0,7,10] [kS a0,v8,iv n23] H24 [] e h) ?_ _ _ _ ⟨1,H10,rfl,eG,hS11,(kh hS11 [(7,0)])⟩
 rintro m26 e h ⟨n23,H24,hmm26,hs1,hS25,hA⟩
 refine cC ?_
 refine jP rfl (λ_=>nb (H:=H24) (i:=0) (l:=l9) (enc:=j6) hS25 rfl rfl rfl rfl rfl rfl rfl) ?_
 obtain ⟨z27,hm29,hz28⟩:=PH (x:=1) (y:=(l9.length:Int)) eC
 refine jP rfl (λ_=>DE rfl rfl rfl hz28) ?_
 refine kx (λh30=>?_) (λh30=>?_)
 refine cE ?_
 refine wz [kS a0,v8,iv n23] H24 [] ?_ (kh hS25 [(7,0)])
 refine aw ?_
 have hS31:=Sep.pick hS25 [0] 1 eB eB
 refine kI (H:=H24) (args:=[kS a0]) (p:=[]) (r:=[]) rfl rfl rfl rfl rfl rfl rfl (Q0 (Row.mg a0) (JS j6 1 v8 l9::[]) hS31 ey) ?_
 rintro ov35 H32 ⟨_,ol36,hc34,hS33,rfl⟩
 have hqF:ol36.length=(Row.mg a0).l.length:=by rw [hc34]
 try simp only [Row.mg] at hqF
 have hOl:=hc34
 refine ao ?_
 refine jP rfl (λ_=>nb (H:=H32) (i:=1) (l:=l9) (enc:=j6) hS33 rfl rfl rfl rfl rfl rfl rfl) ?_
 refine aC ?_
 refine jW l9.length (λk37 e h=>∃ v38:AV,∃ l39:List kP,∃ H40:aT,(l39.length=a0.l.length)/\Sep H40 (my kP.ag 2 v38 l39::JS j6 1 v8 l9::[])/\At [0,7,10,11,60,61,62] [kS a0,v8,iv n23,v38,v8,bY l9.length,bY k37] H40 [] e h) ?_ (k0:=0) eG ⟨ov35,ol36,H32,gR,hS33,(kh hS33 [(7,1),(11,0),(60,1)])⟩
 rintro k37 e h hkk37 ⟨v38,l39,H40,hLt,hS41,hA⟩
 refine aA ?_
 refine kx (λh42=>?_) (λh42=>?_)
 refine ak ?_
 refine wz [kS a0,v8,iv n23,v38,v8,bY l9.length,bY k37] H40 [] ?_ (kh hS41 [(7,1),(11,0),(60,1)])
 refine aw ?_
 have hx43:k37<l9.length:=by first | omega | (simp<;>omega) | (simp_all; omega)
 obtain ⟨x44,hqx44⟩:∃ x,l9[k37]=x:=⟨_,rfl⟩
 have hinx44:x44∈l9:=by rw [<- hqx44]; exact List.getElem_mem _
 have hsx44:=hG x44 hinx44
 refine mv rfl (lO (H:=H40) (i:=1) (m:=k37) (cs:=j6 x44) hS41 rfl rfl rfl rfl rfl rfl rfl (lA hx43 hqx44)) ?_
 rintro a45 ⟨ha46,hea47⟩
 refine jP rfl (λ_=>mK (H:=H40) (i:=1) (m:=k37) (o:=0) (r:=iv x44) (cs:=j6 x44) hS41 rfl (lA hx43 hqx44) hea47 rfl rfl ha46) ?_
 refine oV ?_
 refine aG ?_
 obtain ⟨z48,hz49⟩:=Rj (k:=.i64) (x:=n23) (y:=(k37:Int)) eC
 refine jP rfl (λ_=>DE rfl rfl rfl hz49) ?_
 obtain ⟨z50,hz51⟩:=Bx .i64 z48 (1)
 refine jP rfl (λ_=>me rfl rfl rfl hz51) ?_
 refine kR (λh52=>?_) (λh52=>?_)
 refine dm ?_
 refine aK ?_
 have hx53:(x44).toNat<a0.l.length:=by omega
 refine jP rfl (λ_=>ld (n:=x44) (r:=a0) (enc:=kP.ag) rfl rfl rfl rfl rfl eG hx53 rfl) ?_
 generalize hqx54:a0.l[(x44).toNat]=x54
 have hinx54:x54∈a0.l:=by rw [<- hqx54]; exact List.getElem_mem _
 have hsx54:=q1 x54 hinx54
 refine oV ?_
 refine oC (t115 x54 ey) ?_
 rintro _ ⟨r56,hc55,rfl⟩
 have hk57:(((x44).toNat:Nat):Int)=x44:=Int.toNat_of_nonneg eC
 have hx58:(x44).toNat<l39.length:=by first | omega | (simp<;>omega) | (simp_all; omega)
 obtain ⟨x59,hqx59⟩:∃ x,l39[(x44).toNat]=x:=⟨_,rfl⟩
 refine mv rfl (lO (H:=H40) (i:=0) (m:=(x44).toNat) (cs:=kP.ag x59) hS41 rfl rfl rfl rfl rfl rfl (congrArg (AV.int .i64) hk57.symm) (lA hx58 hqx59)) ?_
 rintro a60 ⟨ha61,hea62⟩
 refine kn rfl (nH (H:=H40) (i:=0) (m:=(x44).toNat) (o:=0) x59 r56 hS41 rfl hx58 hqx59 hea62 rfl ha61 rfl rfl rfl rfl) ?_
 rintro _ H63 ⟨rfl,hS64⟩
 refine oN ?_
 refine wz [kS a0,v8,iv n23,v38,v8,bY l9.length,bY k37] H63 [] ?_ (kh hS64 [(7,1),(11,0),(60,1)])
 refine qg ?_
 refine kD ?_
 refine ab ?_
 exact ⟨by omega,v38,((l39.set ((x44).toNat) r56)),H63,eN,hS64,(kh hS64 [(7,1),(11,0),(60,1)])⟩
 refine ah ?_
 refine wz [kS a0,v8,iv n23,v38,v8,bY l9.length,bY k37] H40 [] ?_ (kh hS41 [(7,1),(11,0),(60,1)])
 refine qg ?_
 refine kD ?_
 refine ab ?_
 exact ⟨by omega,v38,l39,H40,eN,hS41,(kh hS41 [(7,1),(11,0),(60,1)])⟩
 refine aj ?_
 refine wz [kS a0,v8,iv n23,v38] H40 [] ?_ (kh hS41 [(7,1),(11,0)])
 refine ai ?_
 refine nU hS41 0 λr65 hl66 hln69 hz68=>?_
 refine mM (args:=[v38]) (p:=[]) (r:=[]) (args':=[jS.av kP.ag r65]) (R:=Wi r65) rfl rfl rfl rfl rfl (jU (Sep.arg (i:=0) hS41 rfl) kE) rfl fy (lx (by show kG (freeze true { H40 with cH:=[] } 8) [v38] = _; simp only [FZ,hz68]) (jU (Sep.qC (i:=0) hS41 rfl) kE)) (lx fk (jU rfl kE)) (λh=>t35 r65 ey h) ?_
 rintro _ ⟨r71,hc70,rfl⟩
 cases r71
 refine au ?_
 exact iq
 refine aH ?_
 refine wz [kS a0,v8,iv n23] H40 [] ?_ (kh hS41 [(7,1)])
 refine aM ?_
 refine kD ?_
 refine ab ?_
 have hS72:=Sep.pick hS41 [1] 2 eB eB
 refine ⟨_,?_,(n23+1),H40,rfl,eG,hS72,(kh hS72 [(7,0)])⟩
 omega
 refine dB ?_
 exact io
def Qs (_a0:Row kP) (_a1:Int) (_a2:jS Int) (v:AV):Prop:=∃ r0:Bool,((True)/\rs 55 [kS _a0,iv _a1,ly _a2]=.bool r0)/\v=.bool r0
def t55 (a0:Row kP) (a1:Int) (a2:jS Int) (q1:∀ c∈a0.l,s8 c) (h:aT):∃ v,ka cfg FT ko false 55 [kS a0,iv a1,ly a2] h v h/\Qs a0 a1 a2 v:=by
 obtain ⟨v,hc,hP,hr⟩:=nC pF (aaJ a0 a1 a2 q1) h
 obtain ⟨r0,hp,rfl⟩:=hP
 exact iB
def Wk {H:aT} (b:Nat) (nt:iS) (cc:j5) (dd:jV) (vl:AV) (lg:List Int) (vr:AV) (rd:List Int) (vca:AV) (ca:List Int) (vow:AV) (ow:List Int) (wn:iS) (c:j5) (lv:Row lF) (ke:Int) (nn:iS) (sp:Row Int) (fd:AV) (ws:Row j4) (wb:Row kr) (wl:Row Int) (F:List lC) (hS:Sep H (kO b (mE nt cc dd vl vr vca vow)::lG vl lg::lG vr rd::lG vca ca::lG vow ow::F)) (o1:mB nt.p) (o2:cc.roads.l.length<=64) (o3:(∀ r∈(cc.roads.l:List kz),rb r)) (o4:(∀ r∈dd.runs.l,r.kH.l.length<=12)) (o5:rd.length=lg.length) (o6:lg.length<=8) (o7:∀ x∈lg,x=0) (o8:∀ x∈rd,x = -1) (o9:dd.runs.l.length=lg.length) (oa:wb.l.length=lg.length) (w1:lv.l.length<=64) (w2:sp.l.length<=60) (w3:∀ x∈lv.l,x.seen.l.length<=1000) (w4:wb.l.length<=64) (w5:∀ x∈wb.l,x.lJ.l.length<=1000):∃ v H',ka cfg FT ko true 21 [(jQ b),nu wn c lv ke nn sp fd ws wb wl] { H with cH:=[] } v H'/\(∃ ro:Row Int,∃ vt:AV,∃ tl:List Bool,∃ vcao:AV,∃ cao:List Int,∃ vowo:AV,∃ owo:List Int,(ro.l=cao/\owo.length=cao.length/\cao.length<=512/\(∀ x∈owo,0<=x/\x<(rd.length:Int))/\∃ a,ui nt cc dd (nu wn c lv ke nn sp fd ws wb wl) lg rd lg.length ⟨a,cao,owo⟩)/\Sep H' (kO b (mE nt cc dd vl vr vcao vowo)::lG vl lg::lG vr rd::lG vcao cao::lG vowo owo::my mI 1 vt tl::F)/\v=.kq [kN ro,vt]):=by
 refine kW K9 ?_
 refine ai ?_
 refine aZ ?_
 refine oC (t48 wn c lv ke nn sp fd ws wb wl ey ey ey ey ey) ?_
 rintro _ (⟨r2,r3,r4,r5,r6,hc1,rfl⟩)
 have hBx1:=hc1.1; have hBx2:=hc1.2.1; have hBx3:=hc1.2.2
 refine oC (t49 r2 r3 r4 r5 r6 ey ey ey) ?_
 rintro _ ⟨r8,hc7,rfl⟩
 have hLv:=hc7
 refine oV ?_
 refine oC (t50 wn c lv ke nn sp fd ws wb wl ey ey ey ey ey) ?_
 rintro _ ⟨r10,⟨hc9,hc9r⟩,rfl⟩
 have hBo:=hc9
 have hBd:=hc9r; have hBl:=hc9
 refine oV ?_
 refine aG ?_
 refine uj 0 hS ?_
 refine od 0 hS ?_
 refine kn rfl (lY (H:=H) (i:=0) (o:=16) (r:=.sl [] .nil) hS rfl rfl rfl rfl rfl rfl rfl) ?_
 rintro _ H11 ⟨rfl,hS12⟩
 refine uj 0 hS12 ?_
 refine od 0 hS12 ?_
 refine kn rfl (lY (H:=H11) (i:=0) (o:=17) (r:=.sl [] .nil) hS12 rfl rfl rfl rfl rfl rfl rfl) ?_
 rintro _ H13 ⟨rfl,hS14⟩
 refine oN ?_
 refine ai ?_
 refine uj 0 hS14 ?_
 refine od 0 hS14 ?_
 refine m5 0 hS14 vl ?_
 refine jP rfl (λ_=>nb (H:=H13) (i:=1) (l:=lg) (enc:=j6) hS14 rfl rfl rfl rfl rfl rfl rfl) ?_
 refine kn rfl (qn (m:=lg.length) hS14 rfl rfl rfl rfl rfl eC eB) ?_
 rintro v15 H16 hS17
 have hS19:=Sep.wu (enc:=mI) (z:=false) hS17 rfl
 refine ao ?_
 have hL20:=r10.lk
 refine lu r10 ?_
 refine oV ?_
 refine cR ?_
 refine lR (λh21=>?_) (λh21=>?_)
 exfalso; omega
 refine ah ?_
 refine wz [(jQ b),nu wn c lv ke nn sp fd ws wb wl,nK r8,kX r10,v15] H16 [] ?_ (kh hS19 [(8,0)])
 refine aq ?_
 refine uj 1 hS19 ?_
 refine od 1 hS19 ?_
 refine m5 1 hS19 vr ?_
 refine jP rfl (λ_=>nb (H:=H16) (i:=3) (l:=rd) (enc:=j6) hS19 rfl rfl rfl rfl rfl rfl rfl) ?_
 refine aC ?_
 refine jW rd.length (λk22 e h=>At [0,1,6,7,8,48,49,50] [(jQ b),nu wn c lv ke nn sp fd ws wb wl,nK r8,kX r10,v15,vr,bY rd.length,bY k22] H16 [] e h) ?_ (k0:=0) eG (kh hS19 [(8,0),(48,3)])
 rintro k22 e h hkk22 hA
 refine aA ?_
 refine kx (λh23=>?_) (λh23=>?_)
 refine ak ?_
 refine wz [(jQ b),nu wn c lv ke nn sp fd ws wb wl,nK r8,kX r10,v15,vr,bY rd.length,bY k22] H16 [] ?_ (kh hS19 [(8,0),(48,3)])
 refine aw ?_
 have hx24:k22<rd.length:=by first | omega | (simp<;>omega) | (simp_all; omega)
 obtain ⟨x25,hqx25⟩:∃ x,rd[k22]=x:=⟨_,rfl⟩
 have hinx25:x25∈rd:=by rw [<- hqx25]; exact List.getElem_mem _
 have hzx25:=o8 x25 hinx25
 refine mv rfl (lO (H:=H16) (i:=3) (m:=k22) (cs:=j6 x25) hS19 rfl rfl rfl rfl rfl rfl rfl (lA hx24 hqx25)) ?_
 rintro a26 ⟨ha27,hea28⟩
 refine jP rfl (λ_=>mK (H:=H16) (i:=3) (m:=k22) (o:=0) (r:=iv x25) (cs:=j6 x25) hS19 rfl (lA hx24 hqx25) hea28 rfl rfl ha27) ?_
 refine oV ?_
 refine aZ ?_
 refine mV (λh29=>?_) (λh29=>?_)
 exfalso; omega
 refine bp ?_
 refine oV ?_
 refine db ?_
 refine aH ?_
 refine wz [(jQ b),nu wn c lv ke nn sp fd ws wb wl,nK r8,kX r10,v15,vr,bY rd.length,bY k22] H16 [] ?_ (kh hS19 [(8,0),(48,3)])
 refine qg ?_
 refine kD ?_
 refine ab ?_
 exact ⟨by omega,(kh hS19 [(8,0),(48,3)])⟩
 refine aj ?_
 refine wz [(jQ b),nu wn c lv ke nn sp fd ws wb wl,kX r10,v15] H16 [] ?_ (kh hS19 [(8,0)])
 refine ai ?_
 refine rD hS19 2 λr30 hl31 hcv34 hln35 hz33=>?_
 refine rD hS19 3 λr36 hl37 hcv40 hln41 hz39=>?_
 have hz42:∀ m,freeze true { H16 with cH:=[] } (m+4) (jQ b)=some (.ip (mE nt cc dd (ly r30) (ly r36) iN iN) 0 true):=λm=>mh (i:=1) hS19 rfl [] _ (by simp only [FZ,hz33,hz39]; try rfl)
 refine mM (args:=[(jQ b)]) (p:=[]) (r:=[]) (args':=[.ip (mE nt cc dd (ly r30) (ly r36) iN iN) 0 true]) (R:=Rv nt cc dd r30 r36 (⟨[],.nil,Nat.zero_le _,λ_=>rfl⟩:jS Int) (⟨[],.nil,Nat.zero_le _,λ_=>rfl⟩:jS Int)) rfl rfl rfl rfl rfl rfl rfl fy (lx (by show kG (freeze true { H16 with cH:=[] } 8) [(jQ b)] = _; simp only [FZ,hz33,hz39,hz42]) (jU rfl kE)) (lx fk (jU rfl kE)) (λh=>t15 nt cc dd r30 r36 (⟨[],.nil,Nat.zero_le _,λ_=>rfl⟩:jS Int) (⟨[],.nil,Nat.zero_le _,λ_=>rfl⟩:jS Int) ey ey ey ey ey ey ey ey h) ?_
 rintro _ ⟨r44,⟨hc43,hc43r⟩,rfl⟩
 have hClL:=hc43.1; have hClO:=hc43.2; have hVC:0<lg.length->rs 15 [.ip (mE nt cc dd (lM lg) (lM rd) iN iN) 0 true]=kS r44:=λhn=>by rw [<- oI hl31 hcv34 (DL (k:=0) (n:=lg.length) hn rfl),<- oI hl37 hcv40 (DL (k:=0) (n:=lg.length) hn eG)]; exact hc43r
 refine ab ?_
 refine aY ?_
 refine cR ?_
 refine aC ?_
 have hS45:=Sep.mf hS19 1
 have hS46:=Sep.mf hS45 1
 have hS47:=Sep.mf hS46 1
 refine jW lg.length (λk48 e h=>∃ v49:AV,∃ l50:List Int,∃ v51:AV,∃ l52:List Int,∃ v53:AV,∃ l54:List Int,∃ v55:AV,∃ l56:List Bool,∃ H57:aT,(ui nt cc dd (nu wn c lv ke nn sp fd ws wb wl) lg rd k48 ⟨l54,l50,l52⟩)/\(l54=[]->v53=.sl [] .nil)/\(l50=[]->v49=.sl [] .nil)/\(l52=[]->v51=.sl [] .nil)/\(l54.length<=k48)/\(l52.length=l50.length)/\(l50.length<=64*k48)/\(∀ x∈(l52:List Int),0<=x/\x<(rd.length:Int))/\(l56.length=lg.length)/\Sep H57 (lG v49 l50::lG v51 l52::lG v53 l54::my mI 1 v55 l56::kO b (mE nt cc dd vl vr v49 v51)::lG vl lg::lG vr rd::lG vca ca::lG vow ow::F)/\At [0,1,7,8,11,12,98,99] [(jQ b),nu wn c lv ke nn sp fd ws wb wl,kX r10,v55,kS r44,v53,bY lg.length,bY k48] H57 [] e h) ?_ (k0:=0) eG ⟨iN,(([]:List Int)),iN,(([]:List Int)),iN,(([]:List Int)),v15,((List.replicate lg.length false)),H16,(by exact .zero),(by exact λ_=>rfl),(by exact λ_=>rfl),(by exact λ_=>rfl),gU,gm,gU,fS,g8,hS47,(kh hS47 [(8,3)])⟩
 rintro k48 e h hkk48 ⟨v49,l50,v51,l52,v53,l54,v55,l56,H57,hRun,hAN,hCN,hON,hAl,hOL,hCl64,hOw,hTl,hS58,hA⟩
 refine rP hA ?_
 have hTrue:=True.intro
 refine aa ?_
 refine kx (λh59=>?_) (λh59=>?_)
 refine ak ?_
 refine wz [(jQ b),nu wn c lv ke nn sp fd ws wb wl,kX r10,v55,kS r44,v53,bY lg.length,bY k48] H57 [] ?_ (kh hS58 [(8,3),(12,2)])
 refine ay ?_
 refine dE ?_
 refine rD hS58 5 λr60 hl61 hcv64 hln65 hz63=>?_
 have hsv66:ly r60=lM lg:=oI hl61 hcv64 fU
 refine rD hS58 6 λr67 hl68 hcv71 hln72 hz70=>?_
 have hsv73:ly r67=lM rd:=oI hl68 hcv71 fU
 refine rD hS58 0 λr74 hl75 hcv78 hln79 hz77=>?_
 have hsv80:ly r74=lM l50:=oI hl75 hcv78 fJ
 refine rD hS58 1 λr81 hl82 hcv85 hln86 hz84=>?_
 have hsv87:ly r81=lM l52:=oI hl82 hcv85 fJ
 have hz88:∀ m,freeze true { H57 with cH:=[] } (m+4) (jQ b)=some (.ip (mE nt cc dd (ly r60) (ly r67) (ly r74) (ly r81)) 0 true):=λm=>mh (i:=4) hS58 rfl [] _ (by simp only [FZ,hz63,hz70,hz77,hz84]; try rfl)
 refine mM (args:=[(jQ b),bY k48]) (p:=[]) (r:=[]) (args':=[.ip (mE nt cc dd (ly r60) (ly r67) (ly r74) (ly r81)) 0 true,bY k48]) (R:=Wd nt cc dd r60 r67 r74 r81 k48) rfl rfl rfl rfl rfl rfl rfl fy (lx (by show kG (freeze true { H57 with cH:=[] } 8) [(jQ b),bY k48] = _; simp only [FZ,hz63,hz70,hz77,hz84,hz88]) (jU rfl (jU rfl kE))) (lx fk (jU rfl (jU rfl kE))) (λh=>t46 nt cc dd r60 r67 r74 r81 k48 ey ey ey h) ?_
 rintro _ ⟨r90,r91,⟨hc89,hc89r⟩,rfl⟩
 have hLeg:=hc89r; rw [hsv66,hsv73,hsv80,hsv87] at hLeg
 cases r91
 refine cQ ?_
 refine cY ?_
 refine de ?_
 refine wz [(jQ b),nu wn c lv ke nn sp fd ws wb wl,kX r10,v55,kS r44,v53,bY lg.length,bY k48] H57 [] ?_ (kh hS58 [(8,3),(12,2)])
 refine qg ?_
 refine kD ?_
 refine ab ?_
 exact ⟨by omega,v49,l50,v51,l52,v53,l54,v55,l56,H57,eO,eJ,eJ,eJ,eF,eF,eG,fo,eN,hS58,(kh hS58 [(8,3),(12,2)])⟩
 refine cQ ?_
 refine aF ?_
 refine uj 4 hS58 ?_
 refine od 4 hS58 ?_
 refine m5 4 hS58 vr ?_
 refine oV ?_
 have hx92:k48<rd.length:=by first | omega | (simp<;>omega) | (simp_all; omega)
 obtain ⟨x93,hqx93⟩:∃ x,rd[k48]=x:=⟨_,rfl⟩
 have hinx93:x93∈rd:=by rw [<- hqx93]; exact List.getElem_mem _
 have hzx93:=o8 x93 hinx93
 refine mv rfl (lO (H:=H57) (i:=6) (m:=k48) (cs:=j6 x93) hS58 rfl rfl rfl rfl rfl rfl rfl (lA hx92 hqx93)) ?_
 rintro a94 ⟨ha95,hea96⟩
 refine jP rfl (λ_=>mK (H:=H57) (i:=6) (m:=k48) (o:=0) (r:=iv x93) (cs:=j6 x93) hS58 rfl (lA hx92 hqx93) hea96 rfl rfl ha95) ?_
 refine mV (λh97=>?_) (λh97=>?_)
 exfalso; omega
 refine aH ?_
 refine wz [(jQ b),nu wn c lv ke nn sp fd ws wb wl,kX r10,v55,kS r44,v53,bY k48,.la 14 0,bY lg.length,bY k48] H57 [(14,(lU.ag r90))] ?_ (kh hS58 [(8,3),(12,2)])
 refine cF ?_
 refine nF 4 hS58 ?_
 refine ni 4 hS58 ?_
 refine nX 4 hS58 (.ip (iS.ag nt) 0 false) ?_
 refine rV ?_
 refine nF 4 hS58 ?_
 refine ni 4 hS58 ?_
 refine nX 4 hS58 (.agg (jV.ag dd)) ?_
 refine aI ?_
 refine nF 4 hS58 ?_
 refine ni 4 hS58 ?_
 refine nX 4 hS58 vl ?_
 refine rV ?_
 have hx98:k48<lg.length:=by first | omega | (simp<;>omega) | (simp_all; omega)
 obtain ⟨x99,hqx99⟩:∃ x,lg[k48]=x:=⟨_,rfl⟩
 have hinx99:x99∈lg:=by rw [<- hqx99]; exact List.getElem_mem _
 have hzx99:=o7 x99 hinx99
 refine nk rfl rfl (lO (H:=H57) (i:=5) (m:=k48) (cs:=j6 x99) hS58 rfl rfl rfl rfl rfl rfl rfl (lA hx98 hqx99)) ?_
 rintro a100 ⟨ha101,hea102⟩
 refine kp rfl rfl (λ_=>mK (H:=H57) (i:=5) (m:=k48) (o:=0) (r:=iv x99) (cs:=j6 x99) hS58 rfl (lA hx98 hqx99) hea102 rfl rfl ha101) ?_
 refine aI ?_
 have hx103:k48<r10.l.length:=by omega
 refine ph k48 r10 hx103 ?_
 generalize hqx104:r10.l[k48]=x104
 refine rV ?_
 refine rC (t51 nt dd ((k48:Int)) x99 x104) ?_
 rintro _ ⟨r106,⟨hc105,hc105r⟩,rfl⟩
 have hTu:=hc105r
 cases r106
 refine aO ?_
 refine a6 ?_
 refine lS (b:=r90.xW) rfl (λ_=>rfl) (λh107=>?_) (λh107=>?_)
 refine aK ?_
 have hx108:k48<l56.length:=by first | omega | (simp<;>omega) | (simp_all; omega)
 obtain ⟨x109,hqx109⟩:∃ x,l56[k48]=x:=⟨_,rfl⟩
 refine mv rfl (lO (H:=H57) (i:=3) (m:=k48) (cs:=mI x109) hS58 rfl rfl rfl rfl rfl rfl rfl (lA hx108 hqx109)) ?_
 rintro a110 ⟨ha111,hea112⟩
 refine kn rfl (nH (H:=H57) (i:=3) (m:=k48) (o:=0) x109 true hS58 rfl hx108 hqx109 hea112 rfl ha111 rfl rfl rfl rfl) ?_
 rintro _ H113 ⟨rfl,hS114⟩
 refine oN ?_
 refine bS ?_
 iterate 5 refine rS ?_
 refine bW ?_
 refine cf ?_
 refine wz [(jQ b),nu wn c lv ke nn sp fd ws wb wl,kX r10,v55,kS r44,v53,bY lg.length,bY k48] H113 [] ?_ (kh hS114 [(8,3),(12,2)])
 refine qg ?_
 refine kD ?_
 refine ab ?_
 exact ⟨by omega,v49,l50,v51,l52,v53,l54,v55,((l56.set k48 true)),H113,eO,eJ,eJ,eJ,eF,eF,eG,fo,eN,hS114,(kh hS114 [(8,3),(12,2)])⟩
 refine bv ?_
 refine oV ?_
 have hx115:k48<l56.length:=by first | omega | (simp<;>omega) | (simp_all; omega)
 obtain ⟨x116,hqx116⟩:∃ x,l56[k48]=x:=⟨_,rfl⟩
 refine mv rfl (lO (H:=H57) (i:=3) (m:=k48) (cs:=mI x116) hS58 rfl rfl rfl rfl rfl rfl rfl (lA hx115 hqx116)) ?_
 rintro a117 ⟨ha118,hea119⟩
 refine kn rfl (nH (H:=H57) (i:=3) (m:=k48) (o:=0) x116 false hS58 rfl hx115 hqx116 hea119 rfl ha118 rfl rfl rfl rfl) ?_
 rintro _ H120 ⟨rfl,hS121⟩
 refine oN ?_
 refine bS ?_
 iterate 5 refine rS ?_
 refine bW ?_
 refine cf ?_
 refine wz [(jQ b),nu wn c lv ke nn sp fd ws wb wl,kX r10,v55,kS r44,v53,bY lg.length,bY k48] H120 [] ?_ (kh hS121 [(8,3),(12,2)])
 refine qg ?_
 refine kD ?_
 refine ab ?_
 exact ⟨by omega,v49,l50,v51,l52,v53,l54,v55,((l56.set k48 false)),H120,eO,eJ,eJ,eJ,eF,eF,eG,fo,eN,hS121,(kh hS121 [(8,3),(12,2)])⟩
 refine aO ?_
 refine a6 ?_
 refine lS (b:=r90.xW) rfl (λ_=>rfl) (λh122=>?_) (λh122=>?_)
 refine aK ?_
 have hx123:k48<l56.length:=by first | omega | (simp<;>omega) | (simp_all; omega)
 obtain ⟨x124,hqx124⟩:∃ x,l56[k48]=x:=⟨_,rfl⟩
 refine mv rfl (lO (H:=H57) (i:=3) (m:=k48) (cs:=mI x124) hS58 rfl rfl rfl rfl rfl rfl rfl (lA hx123 hqx124)) ?_
 rintro a125 ⟨ha126,hea127⟩
 refine kn rfl (nH (H:=H57) (i:=3) (m:=k48) (o:=0) x124 false hS58 rfl hx123 hqx124 hea127 rfl ha126 rfl rfl rfl rfl) ?_
 rintro _ H128 ⟨rfl,hS129⟩
 refine oN ?_
 refine dj ?_
 refine rC (t52 wn c lv ke nn sp fd ws wb wl) ?_
 rintro _ ⟨r131,hc130,rfl⟩
 refine P7 (λh132=>?_) (λh132=>?_)
 refine bj ?_
 refine rC (t53 wn c lv ke nn sp fd ws wb wl) ?_
 rintro _ ⟨r134,hc133,rfl⟩
 cases r134
 refine dp ?_
 refine rD hS129 5 λr135 hl136 hcv139 hln140 hz138=>?_
 have hsv141:ly r135=lM lg:=oI hl136 hcv139 fU
 refine rD hS129 6 λr142 hl143 hcv146 hln147 hz145=>?_
 have hsv148:ly r142=lM rd:=oI hl143 hcv146 fU
 refine rD hS129 0 λr149 hl150 hcv153 hln154 hz152=>?_
 have hsv155:ly r149=lM l50:=oI hl150 hcv153 fJ
 refine rD hS129 1 λr156 hl157 hcv160 hln161 hz159=>?_
 have hsv162:ly r156=lM l52:=oI hl157 hcv160 fJ
 have hz163:∀ m,freeze true { H128 with cH:=[] } (m+4) (jQ b)=some (.ip (mE nt cc dd (ly r135) (ly r142) (ly r149) (ly r156)) 0 true):=λm=>mh (i:=4) hS129 rfl [] _ (by simp only [FZ,hz138,hz145,hz152,hz159]; try rfl)
 refine rk (args:=[(jQ b),kX r10,bY k48]) (p:=[]) (r:=[]) (args':=[.ip (mE nt cc dd (ly r135) (ly r142) (ly r149) (ly r156)) 0 true,kX r10,bY k48]) (R:=Rr nt cc dd r135 r142 r149 r156 r10 k48) rfl rfl rfl rfl rfl rfl rfl rfl fy (lx (by show kG (freeze true { H128 with cH:=[] } 8) [(jQ b),kX r10,bY k48] = _; simp only [FZ,hz138,hz145,hz152,hz159,hz163]) (jU rfl (jU rfl (jU rfl kE)))) (lx fk (jU rfl (jU rfl (jU rfl kE)))) (λh=>t54 nt cc dd r135 r142 r149 r156 r10 k48 ey ey h) ?_
 rintro _ ⟨r165,⟨hc164,hc164r⟩,rfl⟩
 have hTh:=hc164r; rw [hsv141,hsv148,hsv155,hsv162] at hTh
 cases r165
 refine aI ?_
 refine dW ?_
 refine bA ?_
 refine wz [(jQ b),nu wn c lv ke nn sp fd ws wb wl,kX r10,v55,kS r44,v53,bY lg.length,bY k48] H128 [] ?_ (kh hS129 [(8,3),(12,2)])
 refine qg ?_
 refine kD ?_
 refine ab ?_
 exact jl
 refine bQ ?_
 refine rD hS129 2 λr166 hl167 hcv170 hln171 hz169=>?_
 have hsv172:ly r166=lM l54:=oI hl167 hcv170 fJ
 refine rk (args:=[kS r44,bY k48,v53]) (p:=[]) (r:=[]) (args':=[kS r44,bY k48,ly r166]) (R:=Qs r44 ((k48:Int)) r166) rfl rfl rfl rfl rfl rfl (jU rfl (jU rfl (jU (Sep.arg (i:=2) hS129 rfl) kE))) rfl fy (lx (by show kG (freeze true { H128 with cH:=[] } 8) [kS r44,bY k48,v53] = _; simp only [FZ,hz169]) (jU rfl (jU rfl (jU (Sep.qC (i:=2) hS129 rfl) kE)))) (lx fk (jU rfl (jU rfl (jU rfl kE)))) (λh=>t55 r44 ((k48:Int)) r166 ey h) ?_
 rintro _ ⟨r174,⟨hc173,hc173r⟩,rfl⟩
 have hGr:=hc173r; rw [hsv172] at hGr
 cases r174
 refine bA ?_
 refine wz [(jQ b),nu wn c lv ke nn sp fd ws wb wl,kX r10,v55,kS r44,v53,bY lg.length,bY k48] H128 [] ?_ (kh hS129 [(8,3),(12,2)])
 refine qg ?_
 refine kD ?_
 refine ab ?_
 exact jl
 refine c8 ?_
 refine a6 ?_
 refine kn rfl (kZ (H:=H128) (i:=2) (l:=l54) (enc:=j6) [((k48:Int))] hS129 rfl rfl rfl rfl rfl rfl rfl rfl rfl (λ_=>rfl) (.inl rfl) eE (λ_=>rfl)) ?_
 rintro v175 H176 hS177
 refine ab ?_
 refine cF ?_
 refine nF 4 hS177 ?_
 refine ni 4 hS177 ?_
 refine nX 4 hS177 (.ip (iS.ag nt) 0 false) ?_
 refine rV ?_
 refine nF 4 hS177 ?_
 iterate 2 refine ni 4 hS177 ?_
 refine nX 4 hS177 (ki cc.roads) ?_
 refine rV ?_
 refine nF 4 hS177 ?_
 refine ni 4 hS177 ?_
 refine nX 4 hS177 (.agg (jV.ag dd)) ?_
 refine aI ?_
 refine nF 4 hS177 ?_
 refine ni 4 hS177 ?_
 refine nX 4 hS177 vl ?_
 refine rV ?_
 have hx178:k48<lg.length:=by first | omega | (simp<;>omega) | (simp_all; omega)
 refine nk rfl rfl (lO (H:=H176) (i:=5) (m:=k48) (cs:=j6 x99) hS177 rfl rfl rfl rfl rfl rfl rfl (lA hx178 hqx99)) ?_
 rintro a179 ⟨ha180,hea181⟩
 refine kp rfl rfl (λ_=>mK (H:=H176) (i:=5) (m:=k48) (o:=0) (r:=iv x99) (cs:=j6 x99) hS177 rfl (lA hx178 hqx99) hea181 rfl rfl ha180) ?_
 refine rC (t56 nt cc.roads dd ((k48:Int)) x99 ey ey) ?_
 rintro _ ⟨r183,⟨hc182,hc182r⟩,rfl⟩
 have hRo:=hc182.2; have hRl:=hc182.1
 have hRr:=hc182r
 have hL184:=r183.lk
 refine vx r183 ?_
 refine aO ?_
 refine qb ?_
 have hNk185:=r183.lk
 refine jW r183.l.length (λk185 e h=>∃ v186:AV,∃ l187:List Int,∃ v188:AV,∃ l189:List Int,∃ H190:aT,(l187=l50++(r183.l).take k185)/\(l189=l52++List.replicate k185 (k48:Int))/\(l187=[]->v186=.sl [] .nil)/\(l189=[]->v188=.sl [] .nil)/\(l187.length=l50.length+k185)/\(l189.length=l52.length+k185)/\Sep H190 (lG v186 l187::lG v188 l189::lG v175 (l54++[((k48:Int))])::my mI 1 v55 (l56.set k48 false)::kO b (mE nt cc dd vl vr v186 v188)::lG vl lg::lG vr rd::lG vca ca::lG vow ow::F)/\At [0,1,7,8,11,12,13,98,99,200,201,202] [(jQ b),nu wn c lv ke nn sp fd ws wb wl,kX r10,v55,kS r44,v175,bY k48,bY lg.length,bY k48,kN r183,bY r183.l.length,bY k185] H190 [] e h) ?_ (k0:=0) eG ⟨v49,l50,v51,l52,H176,fS,fS,ez,ez,gm,gm,hS177,(kh hS177 [(8,3),(12,2)])⟩
 rintro k185 e h hkk185 ⟨v186,l187,v188,l189,H190,hCa,hOe,hCN,hON,hC2,hO2,hS191,hA⟩
 refine aA ?_
 refine kx (λh192=>?_) (λh192=>?_)
 refine ak ?_
 refine wz [(jQ b),nu wn c lv ke nn sp fd ws wb wl,kX r10,v55,kS r44,v175,bY k48,bY lg.length,bY k48,kN r183,bY r183.l.length,bY k185] H190 [] ?_ (kh hS191 [(8,3),(12,2)])
 refine bd ?_
 have hx193:k185<r183.l.length:=by omega
 refine ml k185 r183 hx193 ?_
 generalize hqx194:r183.l[k185]=x194
 refine bh ?_
 refine qd ?_
 refine bj ?_
 refine nF 4 hS191 ?_
 refine ni 4 hS191 ?_
 refine nX 4 hS191 v186 ?_
 refine bj ?_
 refine nF 4 hS191 ?_
 refine ni 4 hS191 ?_
 refine nX 4 hS191 v188 ?_
 refine aI ?_
 refine sm rfl rfl (kZ (H:=H190) (i:=0) (l:=l187) (enc:=j6) [x194] hS191 rfl rfl rfl rfl rfl rfl rfl rfl rfl (λ_=>rfl) (.inl rfl) eE (λ_=>rfl)) ?_
 rintro v195 H196 hS197
 refine ⟨λcall=>(ug (nB rfl rfl rfl (mj (H:=H196) (i:=4) (o:=17) (r:=v188) hS197 rfl rfl rfl rfl) rfl (wY (i:=1) hS197 rfl))),?_⟩
 refine lH rfl rfl (kZ (H:=H196) (i:=1) (l:=l189) (enc:=j6) [((k48:Int))] hS197 rfl rfl rfl rfl rfl rfl rfl rfl rfl (λ_=>rfl) (.inl rfl) eE (λ_=>rfl)) ?_
 rintro v198 H199 hS200
 refine nF 4 hS200 ?_
 refine ni 4 hS200 ?_
 refine lH rfl rfl (lY (H:=H199) (i:=4) (o:=16) (r:=v195) hS200 rfl rfl rfl rfl (mF rfl rfl (Sep.cell (i:=0) hS200 rfl)) (jU (Sep.cell (i:=0) hS200 rfl) kE) rfl) ?_
 rintro _ H201 ⟨rfl,hS202⟩
 refine nF 4 hS202 ?_
 refine ni 4 hS202 ?_
 refine lH rfl rfl (lY (H:=H201) (i:=4) (o:=17) (r:=v198) hS202 rfl rfl rfl rfl (mF rfl rfl (Sep.cell (i:=1) hS202 rfl)) (jU (Sep.cell (i:=1) hS202 rfl) kE) rfl) ?_
 rintro _ H203 ⟨rfl,hS204⟩
 refine rN ?_
 refine wz [(jQ b),nu wn c lv ke nn sp fd ws wb wl,kX r10,v55,kS r44,v175,bY k48,bY lg.length,bY k48,kN r183,bY r183.l.length,bY k185] H203 [] ?_ (kh hS204 [(8,3),(12,2)])
 refine qg ?_
 refine kD ?_
 refine ab ?_
 exact ⟨by omega,v195,((l187++[x194])),v198,((l189++[((k48:Int))])),H203,(by exact Ed hCa ez),(by exact DG hOe),eJ,eJ,fu,fu,hS204,(kh hS204 [(8,3),(12,2)])⟩
 refine aj ?_
 refine wz [(jQ b),nu wn c lv ke nn sp fd ws wb wl,kX r10,v55,kS r44,v175,bY lg.length,bY k48] H190 [] ?_ (kh hS191 [(8,3),(12,2)])
 refine qg ?_
 refine kD ?_
 refine ab ?_
 exact ⟨by omega,v186,l187,v188,l189,v175,((l54++[((k48:Int))])),v55,((l56.set k48 false)),H190,eO,eJ,eJ,eJ,eF,eF,eG,fo,eN,hS191,(kh hS191 [(8,3),(12,2)])⟩
 refine bj ?_
 refine cf ?_
 refine wz [(jQ b),nu wn c lv ke nn sp fd ws wb wl,kX r10,v55,kS r44,v53,bY lg.length,bY k48] H128 [] ?_ (kh hS129 [(8,3),(12,2)])
 refine qg ?_
 refine kD ?_
 refine ab ?_
 exact jl
 refine bW ?_
 refine cf ?_
 refine wz [(jQ b),nu wn c lv ke nn sp fd ws wb wl,kX r10,v55,kS r44,v53,bY lg.length,bY k48] H128 [] ?_ (kh hS129 [(8,3),(12,2)])
 refine qg ?_
 refine kD ?_
 refine ab ?_
 exact jl
 refine bv ?_
 refine oV ?_
 have hx205:k48<l56.length:=by first | omega | (simp<;>omega) | (simp_all; omega)
 obtain ⟨x206,hqx206⟩:∃ x,l56[k48]=x:=⟨_,rfl⟩
 refine mv rfl (lO (H:=H57) (i:=3) (m:=k48) (cs:=mI x206) hS58 rfl rfl rfl rfl rfl rfl rfl (lA hx205 hqx206)) ?_
 rintro a207 ⟨ha208,hea209⟩
 refine kn rfl (nH (H:=H57) (i:=3) (m:=k48) (o:=0) x206 false hS58 rfl hx205 hqx206 hea209 rfl ha208 rfl rfl rfl rfl) ?_
 rintro _ H210 ⟨rfl,hS211⟩
 refine oN ?_
 refine dj ?_
 refine rC (t52 wn c lv ke nn sp fd ws wb wl) ?_
 rintro _ ⟨r213,hc212,rfl⟩
 refine P7 (λh214=>?_) (λh214=>?_)
 refine bj ?_
 refine rC (t53 wn c lv ke nn sp fd ws wb wl) ?_
 rintro _ ⟨r216,hc215,rfl⟩
 cases r216
 refine dp ?_
 refine rD hS211 5 λr217 hl218 hcv221 hln222 hz220=>?_
 have hsv223:ly r217=lM lg:=oI hl218 hcv221 fU
 refine rD hS211 6 λr224 hl225 hcv228 hln229 hz227=>?_
 have hsv230:ly r224=lM rd:=oI hl225 hcv228 fU
 refine rD hS211 0 λr231 hl232 hcv235 hln236 hz234=>?_
 have hsv237:ly r231=lM l50:=oI hl232 hcv235 fJ
 refine rD hS211 1 λr238 hl239 hcv242 hln243 hz241=>?_
 have hsv244:ly r238=lM l52:=oI hl239 hcv242 fJ
 have hz245:∀ m,freeze true { H210 with cH:=[] } (m+4) (jQ b)=some (.ip (mE nt cc dd (ly r217) (ly r224) (ly r231) (ly r238)) 0 true):=λm=>mh (i:=4) hS211 rfl [] _ (by simp only [FZ,hz220,hz227,hz234,hz241]; try rfl)
 refine rk (args:=[(jQ b),kX r10,bY k48]) (p:=[]) (r:=[]) (args':=[.ip (mE nt cc dd (ly r217) (ly r224) (ly r231) (ly r238)) 0 true,kX r10,bY k48]) (R:=Rr nt cc dd r217 r224 r231 r238 r10 k48) rfl rfl rfl rfl rfl rfl rfl rfl fy (lx (by show kG (freeze true { H210 with cH:=[] } 8) [(jQ b),kX r10,bY k48] = _; simp only [FZ,hz220,hz227,hz234,hz241,hz245]) (jU rfl (jU rfl (jU rfl kE)))) (lx fk (jU rfl (jU rfl (jU rfl kE)))) (λh=>t54 nt cc dd r217 r224 r231 r238 r10 k48 ey ey h) ?_
 rintro _ ⟨r247,⟨hc246,hc246r⟩,rfl⟩
 have hTh:=hc246r; rw [hsv223,hsv230,hsv237,hsv244] at hTh
 cases r247
 refine aI ?_
 refine dW ?_
 refine bA ?_
 refine wz [(jQ b),nu wn c lv ke nn sp fd ws wb wl,kX r10,v55,kS r44,v53,bY lg.length,bY k48] H210 [] ?_ (kh hS211 [(8,3),(12,2)])
 refine qg ?_
 refine kD ?_
 refine ab ?_
 exact jm
 refine bQ ?_
 refine rD hS211 2 λr248 hl249 hcv252 hln253 hz251=>?_
 have hsv254:ly r248=lM l54:=oI hl249 hcv252 fJ
 refine rk (args:=[kS r44,bY k48,v53]) (p:=[]) (r:=[]) (args':=[kS r44,bY k48,ly r248]) (R:=Qs r44 ((k48:Int)) r248) rfl rfl rfl rfl rfl rfl (jU rfl (jU rfl (jU (Sep.arg (i:=2) hS211 rfl) kE))) rfl fy (lx (by show kG (freeze true { H210 with cH:=[] } 8) [kS r44,bY k48,v53] = _; simp only [FZ,hz251]) (jU rfl (jU rfl (jU (Sep.qC (i:=2) hS211 rfl) kE)))) (lx fk (jU rfl (jU rfl (jU rfl kE)))) (λh=>t55 r44 ((k48:Int)) r248 ey h) ?_
 rintro _ ⟨r256,⟨hc255,hc255r⟩,rfl⟩
 have hGr:=hc255r; rw [hsv254] at hGr
 cases r256
 refine bA ?_
 refine wz [(jQ b),nu wn c lv ke nn sp fd ws wb wl,kX r10,v55,kS r44,v53,bY lg.length,bY k48] H210 [] ?_ (kh hS211 [(8,3),(12,2)])
 refine qg ?_
 refine kD ?_
 refine ab ?_
 exact jm
 refine c8 ?_
 refine a6 ?_
 refine kn rfl (kZ (H:=H210) (i:=2) (l:=l54) (enc:=j6) [((k48:Int))] hS211 rfl rfl rfl rfl rfl rfl rfl rfl rfl (λ_=>rfl) (.inl rfl) eE (λ_=>rfl)) ?_
 rintro v257 H258 hS259
 refine ab ?_
 refine cF ?_
 refine nF 4 hS259 ?_
 refine ni 4 hS259 ?_
 refine nX 4 hS259 (.ip (iS.ag nt) 0 false) ?_
 refine rV ?_
 refine nF 4 hS259 ?_
 iterate 2 refine ni 4 hS259 ?_
 refine nX 4 hS259 (ki cc.roads) ?_
 refine rV ?_
 refine nF 4 hS259 ?_
 refine ni 4 hS259 ?_
 refine nX 4 hS259 (.agg (jV.ag dd)) ?_
 refine aI ?_
 refine nF 4 hS259 ?_
 refine ni 4 hS259 ?_
 refine nX 4 hS259 vl ?_
 refine rV ?_
 have hx260:k48<lg.length:=by first | omega | (simp<;>omega) | (simp_all; omega)
 refine nk rfl rfl (lO (H:=H258) (i:=5) (m:=k48) (cs:=j6 x99) hS259 rfl rfl rfl rfl rfl rfl rfl (lA hx260 hqx99)) ?_
 rintro a261 ⟨ha262,hea263⟩
 refine kp rfl rfl (λ_=>mK (H:=H258) (i:=5) (m:=k48) (o:=0) (r:=iv x99) (cs:=j6 x99) hS259 rfl (lA hx260 hqx99) hea263 rfl rfl ha262) ?_
 refine rC (t56 nt cc.roads dd ((k48:Int)) x99 ey ey) ?_
 rintro _ ⟨r265,⟨hc264,hc264r⟩,rfl⟩
 have hRo:=hc264.2; have hRl:=hc264.1
 have hRr:=hc264r
 have hL266:=r265.lk
 refine vx r265 ?_
 refine aO ?_
 refine qb ?_
 have hNk267:=r265.lk
 refine jW r265.l.length (λk267 e h=>∃ v268:AV,∃ l269:List Int,∃ v270:AV,∃ l271:List Int,∃ H272:aT,(l269=l50++(r265.l).take k267)/\(l271=l52++List.replicate k267 (k48:Int))/\(l269=[]->v268=.sl [] .nil)/\(l271=[]->v270=.sl [] .nil)/\(l269.length=l50.length+k267)/\(l271.length=l52.length+k267)/\Sep H272 (lG v268 l269::lG v270 l271::lG v257 (l54++[((k48:Int))])::my mI 1 v55 (l56.set k48 false)::kO b (mE nt cc dd vl vr v268 v270)::lG vl lg::lG vr rd::lG vca ca::lG vow ow::F)/\At [0,1,7,8,11,12,13,98,99,200,201,202] [(jQ b),nu wn c lv ke nn sp fd ws wb wl,kX r10,v55,kS r44,v257,bY k48,bY lg.length,bY k48,kN r265,bY r265.l.length,bY k267] H272 [] e h) ?_ (k0:=0) eG ⟨v49,l50,v51,l52,H258,fS,fS,ez,ez,gm,gm,hS259,(kh hS259 [(8,3),(12,2)])⟩
 rintro k267 e h hkk267 ⟨v268,l269,v270,l271,H272,hCa,hOe,hCN,hON,hC2,hO2,hS273,hA⟩
 refine aA ?_
 refine kx (λh274=>?_) (λh274=>?_)
 refine ak ?_
 refine wz [(jQ b),nu wn c lv ke nn sp fd ws wb wl,kX r10,v55,kS r44,v257,bY k48,bY lg.length,bY k48,kN r265,bY r265.l.length,bY k267] H272 [] ?_ (kh hS273 [(8,3),(12,2)])
 refine bd ?_
 have hx275:k267<r265.l.length:=by omega
 refine ml k267 r265 hx275 ?_
 generalize hqx276:r265.l[k267]=x276
 refine bh ?_
 refine qd ?_
 refine bj ?_
 refine nF 4 hS273 ?_
 refine ni 4 hS273 ?_
 refine nX 4 hS273 v268 ?_
 refine bj ?_
 refine nF 4 hS273 ?_
 refine ni 4 hS273 ?_
 refine nX 4 hS273 v270 ?_
 refine aI ?_
 refine sm rfl rfl (kZ (H:=H272) (i:=0) (l:=l269) (enc:=j6) [x276] hS273 rfl rfl rfl rfl rfl rfl rfl rfl rfl (λ_=>rfl) (.inl rfl) eE (λ_=>rfl)) ?_
 rintro v277 H278 hS279
 refine ⟨λcall=>(ug (nB rfl rfl rfl (mj (H:=H278) (i:=4) (o:=17) (r:=v270) hS279 rfl rfl rfl rfl) rfl (wY (i:=1) hS279 rfl))),?_⟩
 refine lH rfl rfl (kZ (H:=H278) (i:=1) (l:=l271) (enc:=j6) [((k48:Int))] hS279 rfl rfl rfl rfl rfl rfl rfl rfl rfl (λ_=>rfl) (.inl rfl) eE (λ_=>rfl)) ?_
 rintro v280 H281 hS282
 refine nF 4 hS282 ?_
 refine ni 4 hS282 ?_
 refine lH rfl rfl (lY (H:=H281) (i:=4) (o:=16) (r:=v277) hS282 rfl rfl rfl rfl (mF rfl rfl (Sep.cell (i:=0) hS282 rfl)) (jU (Sep.cell (i:=0) hS282 rfl) kE) rfl) ?_
 rintro _ H283 ⟨rfl,hS284⟩
 refine nF 4 hS284 ?_
 refine ni 4 hS284 ?_
 refine lH rfl rfl (lY (H:=H283) (i:=4) (o:=17) (r:=v280) hS284 rfl rfl rfl rfl (mF rfl rfl (Sep.cell (i:=1) hS284 rfl)) (jU (Sep.cell (i:=1) hS284 rfl) kE) rfl) ?_
 rintro _ H285 ⟨rfl,hS286⟩
 refine rN ?_
 refine wz [(jQ b),nu wn c lv ke nn sp fd ws wb wl,kX r10,v55,kS r44,v257,bY k48,bY lg.length,bY k48,kN r265,bY r265.l.length,bY k267] H285 [] ?_ (kh hS286 [(8,3),(12,2)])
 refine qg ?_
 refine kD ?_
 refine ab ?_
 exact ⟨by omega,v277,((l269++[x276])),v280,((l271++[((k48:Int))])),H285,(by exact Ed hCa ez),(by exact DG hOe),eJ,eJ,fu,fu,hS286,(kh hS286 [(8,3),(12,2)])⟩
 refine aj ?_
 refine wz [(jQ b),nu wn c lv ke nn sp fd ws wb wl,kX r10,v55,kS r44,v257,bY lg.length,bY k48] H272 [] ?_ (kh hS273 [(8,3),(12,2)])
 refine qg ?_
 refine kD ?_
 refine ab ?_
 exact ⟨by omega,v268,l269,v270,l271,v257,((l54++[((k48:Int))])),v55,((l56.set k48 false)),H272,eO,eJ,eJ,eJ,eF,eF,eG,fo,eN,hS273,(kh hS273 [(8,3),(12,2)])⟩
 refine bj ?_
 refine cf ?_
 refine wz [(jQ b),nu wn c lv ke nn sp fd ws wb wl,kX r10,v55,kS r44,v53,bY lg.length,bY k48] H210 [] ?_ (kh hS211 [(8,3),(12,2)])
 refine qg ?_
 refine kD ?_
 refine ab ?_
 exact jm
 refine bW ?_
 refine cf ?_
 refine wz [(jQ b),nu wn c lv ke nn sp fd ws wb wl,kX r10,v55,kS r44,v53,bY lg.length,bY k48] H210 [] ?_ (kh hS211 [(8,3),(12,2)])
 refine qg ?_
 refine kD ?_
 refine ab ?_
 exact jm
 refine aj ?_
 refine wz [(jQ b),v55] H57 [] ?_ (kh hS58 [(8,3)])
 refine ai ?_
 refine uj 4 hS58 ?_
 refine od 4 hS58 ?_
 refine m5 4 hS58 v49 ?_
 refine rD hS58 0 λr287 hl288 hcv291 hln292 hz290=>?_
 have hsv293:ly r287=lM l50:=oI hl288 hcv291 fJ
 refine mM (args:=[v49]) (p:=[]) (r:=[]) (args':=[ly r287]) (R:=V9 r287) rfl rfl rfl rfl rfl (jU (Sep.arg (i:=0) hS58 rfl) kE) rfl fy (lx (by show kG (freeze true { H57 with cH:=[] } 8) [v49] = _; simp only [FZ,hz290]) (jU (Sep.qC (i:=0) hS58 rfl) kE)) (lx fk (jU rfl kE)) (λh=>t43 r287 ey h) ?_
 rintro _ ⟨r295,hc294,rfl⟩
 have hC115:=congrArg List.length hc294; try simp only [Row.mg] at hC115; have hIc:=hc294; try simp only [Row.mg] at hIc
 refine bO ?_
 have hS296:=Sep.pick hS58 [4,5,6,0,1,3] 9 eB eB
 exact ⟨.kq [kN r295,v55],(lL (vs:=[kN r295,v55]) rfl (jU rfl (jU (Sep.arg (i:=3) hS58 rfl) kE))),r295,v55,l56,v49,l50,v51,l52,(by exact ⟨by first | assumption | (simp_all; done),hOL,by omega,hOw,_,hRun.at_ eG⟩),Sep.cH hS296 _,rfl⟩
def WK (_a0:Row j4) (_a1:jS jY) (v:AV):Prop:=∃ r0:Int,((r0=0->(∀ t∈_a1.l,0<=t.j3/\t.j3<(_a0.l.length:Int))/\_a1.l.length<=8))/\v=iv r0
def Zi (a0:Row j4) (a1:jS jY) :Ct 61 [kj a0,jS.av jY.ag a1] (WK a0 a1):=by
 refine j9 HC ?_
 refine aY ?_
 have hL1:=a1.lk
 refine jP rfl (λ_=>m8 (r:=a1) (enc:=jY.ag) rfl rfl rfl rfl rfl rfl) ?_
 refine ma (λh2=>?_) (λh2=>?_)
 refine aW ?_
 exact xB ⟨3,fM,rfl⟩
 refine ah ?_
 refine wy [kj a0,jS.av jY.ag a1] [] ?_
 refine aY ?_
 have hL3:=a1.lk
 refine ee ?_
 have hNk4:=a1.lk
 refine jW a1.l.length (λk4 e h=>∃ n5:Int,∃ H6:aT,(∀ (i:Nat) (h:i<a1.l.length),i<k4->0<=(a1.l[i]).j3/\(a1.l[i]).j3<(a0.l.length:Int))/\Sep H6 ([])/\At [0,1,5,11,12,13] [kj a0,jS.av jY.ag a1,iv n5,jS.av jY.ag a1,bY a1.l.length,bY k4] H6 [] e h) ?_ (k0:=0) eG ⟨0,aT.empty,fT,kV,atR⟩
 rintro k4 e h hkk4 ⟨n5,H6,hU,hS7,hA⟩
 refine aA ?_
 refine kx (λh8=>?_) (λh8=>?_)
 refine d8 ?_
 refine aw ?_
 have hx9:k4<a1.l.length:=by omega
 refine jP rfl (λ_=>mJ (n:=k4) (r:=a1) (enc:=jY.ag) rfl rfl rfl rfl rfl hx9 rfl) ?_
 generalize hqx10:a1.l[k4]=x10
 refine oV ?_
 refine kn rfl (rz hS7 rfl rfl) ?_
 rintro _ H12 ⟨b11,rfl,hS13⟩
 refine dw ?_
 rintro _ H14 ⟨rfl,hS15⟩
 refine cL ?_
 refine oC (t127 x10.name) ?_
 rintro _ ⟨r17,⟨hc16,hc16r⟩,rfl⟩
 cases r17
 refine cg ?_
 refine cz ?_
 refine au ?_
 exact xB ⟨1,fM,rfl⟩
 refine bD ?_
 refine kx (λh18=>?_) (λh18=>?_)
 refine cz ?_
 refine au ?_
 exact xB ⟨1,fM,rfl⟩
 refine bD ?_
 refine oV ?_
 have hL19:=a0.lk
 refine lu a0 ?_
 refine mV (λh20=>?_) (λh20=>?_)
 refine au ?_
 exact xB ⟨1,fM,rfl⟩
 refine aH ?_
 refine dF ?_
 have hx21:k4<=a1.l.length:=by omega
 refine jP rfl (λ_=>B5 (k:=k4) (r:=a1) (enc:=jY.ag) (n:=5) rfl rfl rfl rfl rfl rfl hx21 (λ_=>rfl)) ?_
 refine jP rfl (λ_=>sf rfl rfl (rY rfl rfl)) ?_
 have hS22:=Sep.pick hS15 [0] 1 eB eB
 refine kI (H:=H14) (args:=[jS.av jY.ag (jS.take a1 k4),.kY 129 [] [(jQ b11)]]) (p:=[]) (r:=[]) rfl rfl rfl rfl rfl rfl rfl (Dl (jS.take a1 k4) b11 x10 ([]) hS22) ?_
 rintro _ H23 ⟨r26,hc25,hS24,rfl⟩
 have hCt:=hc25
 cases r26
 refine ah ?_
 refine wz [kj a0,jS.av jY.ag a1,iv n5,jS.av jY.ag a1,bY a1.l.length,bY k4] H23 [] ?_
 refine qg ?_
 refine kD ?_
 refine ab ?_
 have hS27:=Sep.pick hS24 [] 1 eB eB
 exact ⟨by omega,n5,H23,gG,hS27,atR⟩
 refine dm ?_
 refine ab ?_
 refine wz [kj a0,jS.av jY.ag a1,iv 4,jS.av jY.ag a1,bY a1.l.length,bY k4] H23 [] ?_
 refine qg ?_
 refine kD ?_
 refine ab ?_
 have hS28:=Sep.pick hS24 [] 1 eB eB
 exact ⟨by omega,4,H23,gG,hS28,atR⟩
 refine aj ?_
 refine wz [iv n5] H6 [] ?_
 refine bR ?_
 exact xB ⟨n5,fM,rfl⟩
def Nk {H:aT} (bw:Nat) (n:iS) (bx:AV) (fd:AV) (vs:AV) (sl:List j4) (vb:AV) (bl:List kr) (lm:AV) (i1:AV) (i2:AV) (i3:AV) (i4:AV) (i5:AV) (i6:AV) (i7:AV) (tr:jS jY) (F:List lC) (hS:Sep H (kO bw [.ip (iS.ag n) 0 false,bx,fd,vs,vb,lm,i1,i2,i3,i4,i5,i6,i7]::m6 j4.ag 5 vs sl::my kr.ag 5 vb bl::F)) (q1:bl=[]) (q2:sl.length=tr.l.length) (q5:n.p.elems.l.length<=40) (q7:tr.l.length<=8):∃ v H',ka cfg FT ko true 64 [(jQ bw),jS.av jY.ag tr] { H with cH:=[] } v H'/\(∃ r0:Int,∃ vbo:AV,∃ blo:List kr,(blo.length<=8/\∀ x∈blo,x.lJ.l.length<=1)/\Sep H' (kO bw [.ip (iS.ag n) 0 false,bx,fd,vs,vbo,lm,i1,i2,i3,i4,i5,i6,i7]::m6 j4.ag 5 vs sl::my kr.ag 5 vbo blo::F)/\v=iv r0):=by
 refine kW HA ?_
 refine aY ?_
 have hL1:=tr.lk
 refine ef ?_
 have hNk2:=tr.lk
 refine jW tr.l.length (λk2 e h=>∃ v3:AV,∃ l4:List kr,∃ H5:aT,(l4.length=k2)/\(∀ x∈(l4:List kr),x.lJ.l.length<=1/\∀ h∈x.lJ.l,0<=h.elem/\h.elem<(n.p.elems.l.length:Int))/\Sep H5 (kO bw [.ip (iS.ag n) 0 false,bx,fd,vs,v3,lm,i1,i2,i3,i4,i5,i6,i7]::m6 j4.ag 5 vs sl::my kr.ag 5 v3 l4::F)/\At [0,14,15,16] [(jQ bw),jS.av jY.ag tr,bY tr.l.length,bY k2] H5 [] e h) ?_ (k0:=0) eG ⟨vb,bl,H,(by (rw [q1]; rfl)),(by (subst q1; intro x hx; simp at hx)),hS,atR⟩
 rintro k2 e h hkk2 ⟨v3,l4,H5,hB,hT,hS6,hA⟩
 refine aA ?_
 refine kx (λh7=>?_) (λh7=>?_)
 refine d7 ?_
 have hx8:k2<tr.l.length:=by omega
 refine jP rfl (λ_=>mJ (n:=k2) (r:=tr) (enc:=jY.ag) rfl rfl rfl rfl rfl hx8 rfl) ?_
 generalize hqx9:tr.l[k2]=x9
 refine bZ ?_
 refine cG ?_
 have hx10:k2<sl.length:=by first | omega | (simp<;>omega) | (simp_all; omega)
 obtain ⟨x11,hqx11⟩:∃ x,sl[k2]=x:=⟨_,rfl⟩
 refine nk rfl rfl (lO (H:=H5) (i:=1) (m:=k2) (cs:=j4.ag x11) hS6 rfl rfl rfl rfl rfl rfl rfl (lA hx10 hqx11)) ?_
 rintro a12 ⟨ha13,hea14⟩
 refine cy ?_
 refine rC (t130 n x11.len x9) ?_
 rintro _ ⟨r16,r17,⟨hc15,hc15r⟩,rfl⟩
 have hSt:=hc15r; have hStt:=hc15
 refine bP ?_
 refine aq ?_
 refine lR (λh18=>?_) (λh18=>?_)
 refine aJ ?_
 have hS19:=Sep.pick hS6 [0,1,2] 3 eB eB
 exact ⟨iv r17,rfl,r17,v3,l4,gE,Sep.cH hS19 _,rfl⟩
 refine ah ?_
 refine dC ?_
 refine kp rfl rfl (λ_=>sA (xs:=[(kr.ag r16)]) rfl rfl rfl rfl (yp (jU rfl (jU (mZ _) (jU rfl (jU rfl (jU rfl kE))))) rfl)) ?_
 refine Wb 2 [r16] hS6 λv20 H21 hS22=>?_
 refine nF 0 hS22 ?_
 refine ni 0 hS22 ?_
 refine lH (H:=H21) rfl rfl (lY (H:=H21) (i:=0) (o:=4) (r:=v20) hS22 rfl rfl rfl rfl (mF rfl rfl (Sep.cell (i:=2) hS22 rfl)) (jU (Sep.cell (i:=2) hS22 rfl) kE) rfl) ?_
 rintro _ H23 ⟨rfl,hS24⟩
 refine rN ?_
 refine qg ?_
 refine kD ?_
 refine ab ?_
 exact ⟨by omega,v20,((l4++[r16])),H23,fu,(by exact pI hT (Lr (hStt eG))),hS24,atR⟩
 refine aj ?_
 refine ai ?_
 refine dx ?_
 rintro _ ⟨r26,hc25,rfl⟩
 have hk27:(((r26).toNat:Nat):Int)=r26:=Int.toNat_of_nonneg eC
 have hk28:(((r26).toNat:Nat):Int)=r26:=Int.toNat_of_nonneg eC
 refine kn (H:=H5) rfl (qn (m:=(r26).toNat) hS6 rfl (congrArg (AV.int .i64) hk27.symm) (congrArg (AV.int .i64) hk28.symm) rfl rfl eC eB) ?_
 rintro v29 H30 hS31
 have hS33:=Sep.wu (enc:=mI) (z:=false) hS31 rfl
 refine ao ?_
 refine uj 1 hS33 ?_
 refine od 1 hS33 ?_
 refine m5 1 hS33 v3 ?_
 refine jP rfl (λ_=>nb (H:=H30) (i:=3) (l:=l4) (enc:=kr.ag) hS33 rfl rfl rfl rfl rfl rfl rfl) ?_
 refine aC ?_
 refine jW l4.length (λk34 e h=>∃ v35:AV,∃ l36:List Bool,∃ H37:aT,(l36.length=n.p.elems.l.length)/\Sep H37 (my mI 1 v35 l36::kO bw [.ip (iS.ag n) 0 false,bx,fd,vs,v3,lm,i1,i2,i3,i4,i5,i6,i7]::m6 j4.ag 5 vs sl::my kr.ag 5 v3 l4::F)/\At [0,9,61,62,63] [(jQ bw),v35,v3,bY l4.length,bY k34] H37 [] e h) ?_ (k0:=0) eG ⟨v29,((List.replicate ((r26).toNat) false)),H30,fu,hS33,(kh hS33 [(9,0),(61,3)])⟩
 rintro k34 e h hkk34 ⟨v35,l36,H37,hM1,hS38,hA⟩
 refine aA ?_
 refine kx (λh39=>?_) (λh39=>?_)
 refine ak ?_
 refine wz [(jQ bw),v35,v3,bY l4.length,bY k34] H37 [] ?_ (kh hS38 [(9,0),(61,3)])
 refine bd ?_
 have hx40:k34<l4.length:=by first | omega | (simp<;>omega) | (simp_all; omega)
 obtain ⟨x41,hqx41⟩:∃ x,l4[k34]=x:=⟨_,rfl⟩
 have hinx41:x41∈l4:=by rw [<- hqx41]; exact List.getElem_mem _
 obtain ⟨hsx41,hgx41⟩:=hT x41 hinx41
 refine mv rfl (lO (H:=H37) (i:=3) (m:=k34) (cs:=kr.ag x41) hS38 rfl rfl rfl rfl rfl rfl rfl (lA hx40 hqx41)) ?_
 rintro a42 ⟨ha43,hea44⟩
 refine jP rfl (λ_=>mK (H:=H37) (i:=3) (m:=k34) (o:=0) (r:=.agg (kr.ag x41)) (cs:=kr.ag x41) hS38 rfl (lA hx40 hqx41) hea44 rfl rfl ha43) ?_
 refine bh ?_
 refine cF ?_
 refine nF 1 hS38 ?_
 refine ni 1 hS38 ?_
 refine nX 1 hS38 (.ip (iS.ag n) 0 false) ?_
 refine rV ?_
 refine rC (t131 n x41 ey) ?_
 rintro _ ⟨r46,hc45,rfl⟩
 have hLie:=hc45
 have hL47:=r46.lk
 refine vx r46 ?_
 refine aO ?_
 refine qb ?_
 have hNk48:=r46.lk
 refine jW r46.l.length (λk48 e h=>∃ v49:AV,∃ l50:List Bool,∃ H51:aT,(l50.length=n.p.elems.l.length)/\Sep H51 (my mI 1 v49 l50::kO bw [.ip (iS.ag n) 0 false,bx,fd,vs,v3,lm,i1,i2,i3,i4,i5,i6,i7]::m6 j4.ag 5 vs sl::my kr.ag 5 v3 l4::F)/\At [0,9,61,62,63,72,73,74] [(jQ bw),v49,v3,bY l4.length,bY k34,kN r46,bY r46.l.length,bY k48] H51 [] e h) ?_ (k0:=0) eG ⟨v35,l36,H37,eG,hS38,(kh hS38 [(9,0),(61,3)])⟩
 rintro k48 e h hkk48 ⟨v49,l50,H51,hM1,hS52,hA⟩
 refine aA ?_
 refine kx (λh53=>?_) (λh53=>?_)
 refine ak ?_
 refine wz [(jQ bw),v49,v3,bY l4.length,bY k34,kN r46,bY r46.l.length,bY k48] H51 [] ?_ (kh hS52 [(9,0),(61,3)])
 refine bd ?_
 have hx54:k48<r46.l.length:=by omega
 refine ml k48 r46 hx54 ?_
 generalize hqx55:r46.l[k48]=x55
 have hinx55:x55∈r46.l:=by rw [<- hqx55]; exact List.getElem_mem _
 have hzx55:=My hLie ez x55 hinx55
 refine bh ?_
 refine aX ?_
 have hk56:(((x55).toNat:Nat):Int)=x55:=Int.toNat_of_nonneg eC
 have hx57:(x55).toNat<l50.length:=by first | omega | (simp<;>omega) | (simp_all; omega)
 obtain ⟨x58,hqx58⟩:∃ x,l50[(x55).toNat]=x:=⟨_,rfl⟩
 refine mv rfl (lO (H:=H51) (i:=0) (m:=(x55).toNat) (cs:=mI x58) hS52 rfl rfl rfl rfl rfl rfl (congrArg (AV.int .i64) hk56.symm) (lA hx57 hqx58)) ?_
 rintro a59 ⟨ha60,hea61⟩
 refine lS (b:=x58) rfl (λ_=>mK (H:=H51) (i:=0) (m:=(x55).toNat) (o:=0) (r:=.bool x58) (cs:=mI x58) hS52 rfl (lA hx57 hqx58) hea61 rfl rfl ha60) (λh62=>?_) (λh62=>?_)
 refine aW ?_
 have hS63:=Sep.pick hS52 [1,2,3] 4 eB eB
 exact ⟨iv 18,rfl,18,v3,l4,gE,Sep.cH hS63 _,rfl⟩
 refine ah ?_
 refine wz [(jQ bw),v49,iv x55,v3,bY l4.length,bY k34,kN r46,bY r46.l.length,bY k48] H51 [] ?_ (kh hS52 [(9,0),(61,3)])
 refine cu ?_
 have hk64:(((x55).toNat:Nat):Int)=x55:=Int.toNat_of_nonneg eC
 have hx65:(x55).toNat<l50.length:=by first | omega | (simp<;>omega) | (simp_all; omega)
 refine mv rfl (lO (H:=H51) (i:=0) (m:=(x55).toNat) (cs:=mI x58) hS52 rfl rfl rfl rfl rfl rfl (congrArg (AV.int .i64) hk64.symm) (lA hx65 hqx58)) ?_
 rintro a66 ⟨ha67,hea68⟩
 refine kn (H:=H51) rfl (nH (H:=H51) (i:=0) (m:=(x55).toNat) (o:=0) x58 true hS52 rfl hx65 hqx58 hea68 rfl ha67 rfl rfl rfl rfl) ?_
 rintro _ H69 ⟨rfl,hS70⟩
 refine oN ?_
 refine wz [(jQ bw),v49,v3,bY l4.length,bY k34,kN r46,bY r46.l.length,bY k48] H69 [] ?_ (kh hS70 [(9,0),(61,3)])
 refine qg ?_
 refine kD ?_
 refine ab ?_
 exact ⟨by omega,v49,((l50.set ((x55).toNat) true)),H69,eF,hS70,(kh hS70 [(9,0),(61,3)])⟩
 refine aj ?_
 refine wz [(jQ bw),v49,v3,bY l4.length,bY k34] H51 [] ?_ (kh hS52 [(9,0),(61,3)])
 refine qg ?_
 refine kD ?_
 refine ab ?_
 exact ⟨by omega,v49,l50,H51,eF,hS52,(kh hS52 [(9,0),(61,3)])⟩
 refine aS ?_
 have hS71:=Sep.pick hS38 [1,2,3] 4 eB eB
 exact ⟨iv 0,rfl,0,v3,l4,gE,Sep.cH hS71 _,rfl⟩
def QX (_a0:j5) (_a1:Row j4) (_a2:jS jY) (v:AV):Prop:=(∃ wn:iS,∃ c:j5,∃ lv:Row lF,∃ ke:Int,∃ nn:iS,∃ sp:Row Int,∃ fd:AV,∃ ws:Row j4,∃ wb:Row kr,∃ wl:Row Int,(True)/\v=.kq [nu wn c lv ke nn sp fd ws wb wl,iv 0])\/(∃ e:Int,(e≠0)/\v=.kq [.mn,iv e])
def aaa (a0:j5) (a1:Row j4) (a2:jS jY) (p1:mB a0.dO) (p2:rs 57 [.agg (iF.ag a0.dO)]=.kq [.agg (j5.ag a0),iv 0]) (p3:∃ nx:iS,ot nx a0.dO/\rs 31 [.agg (iF.ag a0.dO)]=.kq [.ip (iS.ag nx) 0 false,iv 0]) (p4:a0.roads.l.length<=64):Ct 25 [.agg (j5.ag a0),kj a1,jS.av jY.ag a2] (QX a0 a1 a2):=by
 refine j9 GG ?_
 obtain ⟨nx,hnk,hnx⟩:=p3; have hPx:∃ nx:iS,ot nx a0.dO/\rs 31 [.agg (iF.ag a0.dO)]=.kq [.ip (iS.ag nx) 0 false,iv 0]:=⟨nx,hnk,hnx⟩; have hFw:=hnk.vD; have hFs:=hnk.vD.signals; have hF4:=hnk.Wf
 refine ae ?_
 refine aZ ?_
 refine oC (t59 a0 ey ey ey ey) ?_
 rintro _ (⟨r2,r3,r4,r5,r6,⟨hc1,hc1r⟩,rfl⟩)
 have hBx:=hc1
 refine bV ?_
 refine oV ?_
 refine cM ?_
 refine cW ?_
 refine oC (t60 a0.dO a1) ?_
 rintro _ ⟨r8,⟨hc7,hc7r⟩,rfl⟩
 have hSC:=hc7r
 refine aZ ?_
 refine lR (λh9=>?_) (λh9=>?_)
 refine cJ ?_
 refine xG (.inr (⟨r8,ga,rfl⟩))
 refine cM ?_
 refine aX ?_
 refine oC (Zi a1 a2) ?_
 rintro _ ⟨r11,hc10,rfl⟩
 have hNm:=hc10
 refine aZ ?_
 refine lR (λh12=>?_) (λh12=>?_)
 refine cJ ?_
 refine xG (.inr (⟨r11,ga,rfl⟩))
 refine cM ?_
 refine ae ?_
 refine oC (Ml a0.dO ey hnx) ?_
 rintro _ rfl
 refine bV ?_
 refine aH ?_
 refine eg ?_
 refine oC (t62 nx ey) ?_
 rintro _ (⟨r15,hc14,rfl⟩)
 refine oV ?_
 refine oC (t63 nx) ?_
 rintro _ ⟨r17,hc16,rfl⟩
 have hC91:=hc16
 have hk18:(((r17).toNat:Nat):Int)=r17:=Int.toNat_of_nonneg eC
 have hk19:(((r17).toNat:Nat):Int)=r17:=Int.toNat_of_nonneg eC
 refine kn rfl (qn (m:=(r17).toNat) kV rfl (congrArg (AV.int .i64) hk18.symm) (congrArg (AV.int .i64) hk19.symm) rfl rfl eC eB) ?_
 rintro v20 H21 hS22
 have hS24:=Sep.wu (enc:=j6) (z:=(0)) hS22 rfl
 rcases Sep.vQ (i:=0) hS24 rfl with ⟨rfl,hx27⟩ | ⟨rfl,hx27⟩ | ⟨b25,g26,rfl⟩
 refine oV ?_
 refine kn rfl (mP (cs:=[.ip (iS.ag nx) 0 false,nT r2 r3 r4 r5 r6,(.ip r15 0 false),iN,iN,iN,iN,iN,iN,iN,jZ,iv 0,jZ]) hS24 rfl rfl rfl rfl rfl) ?_
 rintro _ H29 ⟨b28,rfl,hS30⟩
 refine ao ?_
 have hL31:=a2.lk
 refine bH ?_
 have hS32:=Sep.mf hS30 5
 have hNk33:=a2.lk
 refine jW a2.l.length (λk33 e h=>∃ v34:AV,∃ l35:List j4,∃ H36:aT,(l35.length=k33)/\Sep H36 (my j4.ag 5 v34 l35::kO b28 [.ip (iS.ag nx) 0 false,nT r2 r3 r4 r5 r6,(.ip r15 0 false),v34,iN,iN,iN,iN,iN,iN,jZ,iv 0,jZ]::lG iN ((List.replicate ((r17).toNat) 0))::[])/\At [1,2,11,53,54,55] [kj a1,jS.av jY.ag a2,(jQ b28),jS.av jY.ag a2,bY a2.l.length,bY k33] H36 [] e h) ?_ (k0:=0) eG ⟨iN,(([]:List j4)),H29,gm,hS32,atR⟩
 rintro k33 e h hkk33 ⟨v34,l35,H36,hKl,hS37,hA⟩
 refine aA ?_
 refine kx (λh38=>?_) (λh38=>?_)
 refine ak ?_
 refine wz [kj a1,jS.av jY.ag a2,(jQ b28),jS.av jY.ag a2,bY a2.l.length,bY k33] H36 [] ?_
 refine bd ?_
 have hx39:k33<a2.l.length:=by omega
 refine jP rfl (λ_=>mJ (n:=k33) (r:=a2) (enc:=jY.ag) rfl rfl rfl rfl rfl hx39 rfl) ?_
 generalize hqx40:a2.l[k33]=x40
 have hinx40:x40∈a2.l:=by rw [<- hqx40]; exact List.getElem_mem _
 have hsx40:=(hNm eG).1 x40 hinx40; have hpL:=(hNm eG).2
 refine dn ?_
 refine nF 1 hS37 ?_
 refine ni 1 hS37 ?_
 refine nX 1 hS37 v34 ?_
 refine bj ?_
 have hx41:(x40.j3).toNat<a1.l.length:=by omega
 refine kp rfl rfl (λ_=>ld (n:=x40.j3) (r:=a1) (enc:=j4.ag) rfl rfl rfl rfl rfl eG hx41 rfl) ?_
 generalize hqx42:a1.l[(x40.j3).toNat]=x42
 refine aI ?_
 refine lH rfl rfl (kZ (H:=H36) (i:=0) (l:=l35) (enc:=j4.ag) [x42] hS37 rfl rfl rfl rfl rfl rfl rfl rfl rfl (λ_=>rfl) (.inl rfl) eE (λ_=>rfl)) ?_
 rintro v43 H44 hS45
 refine nF 1 hS45 ?_
 refine ni 1 hS45 ?_
 refine lH rfl rfl (lY (H:=H44) (i:=1) (o:=3) (r:=v43) hS45 rfl rfl rfl rfl (mF rfl rfl (Sep.cell (i:=0) hS45 rfl)) (jU (Sep.cell (i:=0) hS45 rfl) kE) rfl) ?_
 rintro _ H46 ⟨rfl,hS47⟩
 refine rN ?_
 refine wz [kj a1,jS.av jY.ag a2,(jQ b28),jS.av jY.ag a2,bY a2.l.length,bY k33] H46 [] ?_
 refine qg ?_
 refine kD ?_
 refine ab ?_
 exact ⟨by omega,v43,((l35++[x42])),H46,fu,hS47,atR⟩
 refine aj ?_
 refine wz [jS.av jY.ag a2,(jQ b28)] H36 [] ?_
 refine aX ?_
 have hS48:=Sep.pf (i:=0) hS37 rfl
 have hS49:=Sep.mf hS48 5
 have hS50:=Sep.pick hS49 [2,1,0,3] 4 eB eB
 refine kI (H:=H36) (args:=[(jQ b28),jS.av jY.ag a2]) (p:=[]) (r:=[]) rfl rfl rfl rfl rfl rfl rfl (Nk b28 nx ((nT r2 r3 r4 r5 r6)) (.ip r15 0 false) v34 l35 iN ([]:List kr) iN iN iN iN iN (.bool false) (iv 0) (.bool false) a2 (lG iN ((List.replicate ((r17).toNat) 0))::[]) hS50 ey ey ey ey) ?_
 rintro _ H51 ⟨r56,vbo54,blo55,hc53,hS52,rfl⟩
 refine aZ ?_
 refine lR (λh57=>?_) (λh57=>?_)
 refine cJ ?_
 refine xG (.inr (⟨r56,ga,rfl⟩))
 refine ah ?_
 refine wz [(jQ b28)] H51 [] ?_
 refine dh ?_
 obtain ⟨r58,hl59,hf60⟩:=lK (H:=H51) (i:=1) (l:=l35) (enc:=j4.ag) hS52 rfl eA
 have hlq:=hl59; have hln62:=congrArg List.length hl59
 have hz61:∀ ls m,freeze false { H51 with cH:=ls } (m+2) v34=some (kj r58):=λls m=>hf60 _ _ (λ_=>rfl)
 obtain ⟨r63,hl64,hf65⟩:=lK (H:=H51) (i:=2) (l:=blo55) (enc:=kr.ag) hS52 rfl eA
 have hlq:=hl64; have hln67:=congrArg List.length hl64
 have hz66:∀ ls m,freeze false { H51 with cH:=ls } (m+2) vbo54=some (kX r63):=λls m=>hf65 _ _ (λ_=>by simp only [kr.ag,kG,m0,nf,np,mY,nj])
 have hz68:∀ ls m,freeze false { H51 with cH:=ls } (m+4) (jQ b28)=some (.ip [.ip (iS.ag nx) 0 false,nT r2 r3 r4 r5 r6,(.ip r15 0 false),kj r58,kX r63,iN,iN,iN,iN,iN,jZ,iv 0,jZ] 0 false):=λls m=>mh (i:=0) hS52 rfl _ _ (by simp only [FZ,hz61,hz66])
 have hff69:freeze false { H51 with cH:=[] } 8 (.kq [(jQ b28),iv 0])=some (.kq [.ip [.ip (iS.ag nx) 0 false,nT r2 r3 r4 r5 r6,(.ip r15 0 false),kj r58,kX r63,iN,iN,iN,iN,iN,jZ,iv 0,jZ] 0 false,iv 0]):=by simp only [FZ,hz61,hz66,hz68]
 refine ⟨.kq [(jQ b28),iv 0],rfl,.kq [.ip [.ip (iS.ag nx) 0 false,nT r2 r3 r4 r5 r6,(.ip r15 0 false),kj r58,kX r63,iN,iN,iN,iN,iN,jZ,iv 0,jZ] 0 false,iv 0],hff69,.inl ⟨nx,r2,r3,r4,r5,r6,(.ip r15 0 false),r58,r63,(lZ:Row Int),zt⟩⟩
 refine oV ?_
 refine kn rfl (mP (cs:=[.ip (iS.ag nx) 0 false,nT r2 r3 r4 r5 r6,(.ip r15 0 false),iN,iN,(.sl [] (.exact 0)),iN,iN,iN,iN,jZ,iv 0,jZ]) hS24 rfl rfl rfl rfl rfl) ?_
 rintro _ H71 ⟨b70,rfl,hS72⟩
 refine ao ?_
 have hL73:=a2.lk
 refine bH ?_
 have hS74:=Sep.mf hS72 5
 have hNk75:=a2.lk
 refine jW a2.l.length (λk75 e h=>∃ v76:AV,∃ l77:List j4,∃ H78:aT,(l77.length=k75)/\Sep H78 (my j4.ag 5 v76 l77::kO b70 [.ip (iS.ag nx) 0 false,nT r2 r3 r4 r5 r6,(.ip r15 0 false),v76,iN,(.sl [] (.exact 0)),iN,iN,iN,iN,jZ,iv 0,jZ]::lG (.sl [] (.exact 0)) ((List.replicate ((r17).toNat) 0))::[])/\At [1,2,11,53,54,55] [kj a1,jS.av jY.ag a2,(jQ b70),jS.av jY.ag a2,bY a2.l.length,bY k75] H78 [] e h) ?_ (k0:=0) eG ⟨iN,(([]:List j4)),H71,gm,hS74,atR⟩
 rintro k75 e h hkk75 ⟨v76,l77,H78,hKl,hS79,hA⟩
 refine aA ?_
 refine kx (λh80=>?_) (λh80=>?_)
 refine ak ?_
 refine wz [kj a1,jS.av jY.ag a2,(jQ b70),jS.av jY.ag a2,bY a2.l.length,bY k75] H78 [] ?_
 refine bd ?_
 have hx81:k75<a2.l.length:=by omega
 refine jP rfl (λ_=>mJ (n:=k75) (r:=a2) (enc:=jY.ag) rfl rfl rfl rfl rfl hx81 rfl) ?_
 generalize hqx82:a2.l[k75]=x82
 have hinx82:x82∈a2.l:=by rw [<- hqx82]; exact List.getElem_mem _
 have hsx82:=(hNm eG).1 x82 hinx82; have hpL:=(hNm eG).2
 refine dn ?_
 refine nF 1 hS79 ?_
 refine ni 1 hS79 ?_
 refine nX 1 hS79 v76 ?_
 refine bj ?_
 have hx83:(x82.j3).toNat<a1.l.length:=by omega
 refine kp rfl rfl (λ_=>ld (n:=x82.j3) (r:=a1) (enc:=j4.ag) rfl rfl rfl rfl rfl eG hx83 rfl) ?_
 generalize hqx84:a1.l[(x82.j3).toNat]=x84
 refine aI ?_
 refine lH rfl rfl (kZ (H:=H78) (i:=0) (l:=l77) (enc:=j4.ag) [x84] hS79 rfl rfl rfl rfl rfl rfl rfl rfl rfl (λ_=>rfl) (.inl rfl) eE (λ_=>rfl)) ?_
 rintro v85 H86 hS87
 refine nF 1 hS87 ?_
 refine ni 1 hS87 ?_
 refine lH rfl rfl (lY (H:=H86) (i:=1) (o:=3) (r:=v85) hS87 rfl rfl rfl rfl (mF rfl rfl (Sep.cell (i:=0) hS87 rfl)) (jU (Sep.cell (i:=0) hS87 rfl) kE) rfl) ?_
 rintro _ H88 ⟨rfl,hS89⟩
 refine rN ?_
 refine wz [kj a1,jS.av jY.ag a2,(jQ b70),jS.av jY.ag a2,bY a2.l.length,bY k75] H88 [] ?_
 refine qg ?_
 refine kD ?_
 refine ab ?_
 exact ⟨by omega,v85,((l77++[x84])),H88,fu,hS89,atR⟩
 refine aj ?_
 refine wz [jS.av jY.ag a2,(jQ b70)] H78 [] ?_
 refine aX ?_
 have hS90:=Sep.pf (i:=0) hS79 rfl
 have hS91:=Sep.mf hS90 5
 have hS92:=Sep.pick hS91 [2,1,0,3] 4 eB eB
 refine kI (H:=H78) (args:=[(jQ b70),jS.av jY.ag a2]) (p:=[]) (r:=[]) rfl rfl rfl rfl rfl rfl rfl (Nk b70 nx ((nT r2 r3 r4 r5 r6)) (.ip r15 0 false) v76 l77 iN ([]:List kr) (.sl [] (.exact 0)) iN iN iN iN (.bool false) (iv 0) (.bool false) a2 (lG (.sl [] (.exact 0)) ((List.replicate ((r17).toNat) 0))::[]) hS92 ey ey ey ey) ?_
 rintro _ H93 ⟨r98,vbo96,blo97,hc95,hS94,rfl⟩
 refine aZ ?_
 refine lR (λh99=>?_) (λh99=>?_)
 refine cJ ?_
 refine xG (.inr (⟨r98,ga,rfl⟩))
 refine ah ?_
 refine wz [(jQ b70)] H93 [] ?_
 refine dh ?_
 obtain ⟨r100,hl101,hf102⟩:=lK (H:=H93) (i:=1) (l:=l77) (enc:=j4.ag) hS94 rfl eA
 have hlq:=hl101; have hln104:=congrArg List.length hl101
 have hz103:∀ ls m,freeze false { H93 with cH:=ls } (m+2) v76=some (kj r100):=λls m=>hf102 _ _ (λ_=>rfl)
 obtain ⟨r105,hl106,hf107⟩:=lK (H:=H93) (i:=2) (l:=blo97) (enc:=kr.ag) hS94 rfl eA
 have hlq:=hl106; have hln109:=congrArg List.length hl106
 have hz108:∀ ls m,freeze false { H93 with cH:=ls } (m+2) vbo96=some (kX r105):=λls m=>hf107 _ _ (λ_=>by simp only [kr.ag,kG,m0,nf,np,mY,nj])
 have hz110:∀ ls m,freeze false { H93 with cH:=ls } (m+4) (jQ b70)=some (.ip [.ip (iS.ag nx) 0 false,nT r2 r3 r4 r5 r6,(.ip r15 0 false),kj r100,kX r105,.sl [] (.exact 0),iN,iN,iN,iN,jZ,iv 0,jZ] 0 false):=λls m=>mh (i:=0) hS94 rfl _ _ (by simp only [FZ,hz103,hz108])
 have hff111:freeze false { H93 with cH:=[] } 8 (.kq [(jQ b70),iv 0])=some (.kq [.ip [.ip (iS.ag nx) 0 false,nT r2 r3 r4 r5 r6,(.ip r15 0 false),kj r100,kX r105,.sl [] (.exact 0),iN,iN,iN,iN,jZ,iv 0,jZ] 0 false,iv 0]):=by simp only [FZ,hz103,hz108,hz110]
 refine ⟨.kq [(jQ b70),iv 0],rfl,.kq [.ip [.ip (iS.ag nx) 0 false,nT r2 r3 r4 r5 r6,(.ip r15 0 false),kj r100,kX r105,.sl [] (.exact 0),iN,iN,iN,iN,jZ,iv 0,jZ] 0 false,iv 0],hff111,.inl ⟨nx,r2,r3,r4,r5,r6,(.ip r15 0 false),r100,r105,(⟨[],.exact 0,pR,rfl,nE⟩:Row Int),zt⟩⟩
 refine oV ?_
 refine kn rfl (mP (cs:=[.ip (iS.ag nx) 0 false,nT r2 r3 r4 r5 r6,(.ip r15 0 false),iN,iN,(.hs b25 g26 0 (List.map j6 ((List.replicate ((r17).toNat) 0))).length),iN,iN,iN,iN,jZ,iv 0,jZ]) hS24 rfl rfl rfl rfl rfl) ?_
 rintro _ H113 ⟨b112,rfl,hS114⟩
 refine ao ?_
 have hL115:=a2.lk
 refine bH ?_
 have hS116:=Sep.mf hS114 5
 have hNk117:=a2.lk
 refine jW a2.l.length (λk117 e h=>∃ v118:AV,∃ l119:List j4,∃ H120:aT,(l119.length=k117)/\Sep H120 (my j4.ag 5 v118 l119::kO b112 [.ip (iS.ag nx) 0 false,nT r2 r3 r4 r5 r6,(.ip r15 0 false),v118,iN,(.hs b25 g26 0 (List.map j6 ((List.replicate ((r17).toNat) 0))).length),iN,iN,iN,iN,jZ,iv 0,jZ]::lG (.hs b25 g26 0 (List.map j6 ((List.replicate ((r17).toNat) 0))).length) ((List.replicate ((r17).toNat) 0))::[])/\At [1,2,11,53,54,55] [kj a1,jS.av jY.ag a2,(jQ b112),jS.av jY.ag a2,bY a2.l.length,bY k117] H120 [] e h) ?_ (k0:=0) eG ⟨iN,(([]:List j4)),H113,gm,hS116,atR⟩
 rintro k117 e h hkk117 ⟨v118,l119,H120,hKl,hS121,hA⟩
 refine aA ?_
 refine kx (λh122=>?_) (λh122=>?_)
 refine ak ?_
 refine wz [kj a1,jS.av jY.ag a2,(jQ b112),jS.av jY.ag a2,bY a2.l.length,bY k117] H120 [] ?_
 refine bd ?_
 have hx123:k117<a2.l.length:=by omega
 refine jP rfl (λ_=>mJ (n:=k117) (r:=a2) (enc:=jY.ag) rfl rfl rfl rfl rfl hx123 rfl) ?_
 generalize hqx124:a2.l[k117]=x124
 have hinx124:x124∈a2.l:=by rw [<- hqx124]; exact List.getElem_mem _
 have hsx124:=(hNm eG).1 x124 hinx124; have hpL:=(hNm eG).2
 refine dn ?_
 refine nF 1 hS121 ?_
 refine ni 1 hS121 ?_
 refine nX 1 hS121 v118 ?_
 refine bj ?_
 have hx125:(x124.j3).toNat<a1.l.length:=by omega
 refine kp rfl rfl (λ_=>ld (n:=x124.j3) (r:=a1) (enc:=j4.ag) rfl rfl rfl rfl rfl eG hx125 rfl) ?_
 generalize hqx126:a1.l[(x124.j3).toNat]=x126
 refine aI ?_
 refine lH rfl rfl (kZ (H:=H120) (i:=0) (l:=l119) (enc:=j4.ag) [x126] hS121 rfl rfl rfl rfl rfl rfl rfl rfl rfl (λ_=>rfl) (.inl rfl) eE (λ_=>rfl)) ?_
 rintro v127 H128 hS129
 refine nF 1 hS129 ?_
 refine ni 1 hS129 ?_
 refine lH rfl rfl (lY (H:=H128) (i:=1) (o:=3) (r:=v127) hS129 rfl rfl rfl rfl (mF rfl rfl (Sep.cell (i:=0) hS129 rfl)) (jU (Sep.cell (i:=0) hS129 rfl) kE) rfl) ?_
 rintro _ H130 ⟨rfl,hS131⟩
 refine rN ?_
 refine wz [kj a1,jS.av jY.ag a2,(jQ b112),jS.av jY.ag a2,bY a2.l.length,bY k117] H130 [] ?_
 refine qg ?_
 refine kD ?_
 refine ab ?_
 exact ⟨by omega,v127,((l119++[x126])),H130,fu,hS131,atR⟩
 refine aj ?_
 refine wz [jS.av jY.ag a2,(jQ b112)] H120 [] ?_
 refine aX ?_
 have hS132:=Sep.pf (i:=0) hS121 rfl
 have hS133:=Sep.mf hS132 5
 have hS134:=Sep.pick hS133 [2,1,0,3] 4 eB eB
 refine kI (H:=H120) (args:=[(jQ b112),jS.av jY.ag a2]) (p:=[]) (r:=[]) rfl rfl rfl rfl rfl rfl rfl (Nk b112 nx ((nT r2 r3 r4 r5 r6)) (.ip r15 0 false) v118 l119 iN ([]:List kr) (((.hs b25 g26 0 (List.map j6 ((List.replicate ((r17).toNat) 0))).length))) iN iN iN iN (.bool false) (iv 0) (.bool false) a2 (lG (.hs b25 g26 0 (List.map j6 ((List.replicate ((r17).toNat) 0))).length) ((List.replicate ((r17).toNat) 0))::[]) hS134 ey ey ey ey) ?_
 rintro _ H135 ⟨r140,vbo138,blo139,hc137,hS136,rfl⟩
 refine aZ ?_
 refine lR (λh141=>?_) (λh141=>?_)
 refine cJ ?_
 refine xG (.inr (⟨r140,ga,rfl⟩))
 refine ah ?_
 refine wz [(jQ b112)] H135 [] ?_
 refine dh ?_
 obtain ⟨r142,hl143,hf144⟩:=lK (H:=H135) (i:=1) (l:=l119) (enc:=j4.ag) hS136 rfl eA
 have hlq:=hl143; have hln146:=congrArg List.length hl143
 have hz145:∀ ls m,freeze false { H135 with cH:=ls } (m+2) v118=some (kj r142):=λls m=>hf144 _ _ (λ_=>rfl)
 obtain ⟨r147,hl148,hf149⟩:=lK (H:=H135) (i:=2) (l:=blo139) (enc:=kr.ag) hS136 rfl eA
 have hlq:=hl148; have hln151:=congrArg List.length hl148
 have hz150:∀ ls m,freeze false { H135 with cH:=ls } (m+2) vbo138=some (kX r147):=λls m=>hf149 _ _ (λ_=>by simp only [kr.ag,kG,m0,nf,np,mY,nj])
 obtain ⟨r152,hl153,hf154⟩:=lK (H:=H135) (i:=3) (l:=(List.replicate ((r17).toNat) 0)) (enc:=j6) hS136 rfl eA
 have hlq:=hl153; have hln156:=congrArg List.length hl153
 have hz155:∀ ls m,freeze false { H135 with cH:=ls } (m+2) ((.hs b25 g26 0 (List.map j6 ((List.replicate ((r17).toNat) 0))).length))=some (kN r152):=λls m=>hf154 _ _ (λ_=>rfl)
 have hz157:∀ ls m,freeze false { H135 with cH:=ls } (m+4) (jQ b112)=some (nu nx r2 r3 r4 r5 r6 (.ip r15 0 false) r142 r147 r152):=λls m=>mh (i:=0) hS136 rfl _ _ (by simp only [FZ,hz145,hz150,hz155])
 have hff158:freeze false { H135 with cH:=[] } 8 (.kq [(jQ b112),iv 0])=some (.kq [nu nx r2 r3 r4 r5 r6 (.ip r15 0 false) r142 r147 r152,iv 0]):=by simp only [FZ,hz145,hz150,hz155,hz157]
 refine ⟨.kq [(jQ b112),iv 0],rfl,.kq [nu nx r2 r3 r4 r5 r6 (.ip r15 0 false) r142 r147 r152,iv 0],hff158,.inl ⟨nx,r2,r3,r4,r5,r6,(.ip r15 0 false),r142,r147,r152,zt⟩⟩
def Yx (_a0:j5) (_a1:iS) (_a2:jV) (v:AV):Prop:=(∃ wn:iS,∃ c:j5,∃ lv:Row lF,∃ ke:Int,∃ nn:iS,∃ sp:Row Int,∃ fd:AV,∃ ws:Row j4,∃ wb:Row kr,∃ wl:Row Int,(True)/\v=nu wn c lv ke nn sp fd ws wb wl)\/((True)/\v=.mn)
def aak (a0:j5) (a1:iS) (a2:jV) (p1:mB a0.dO) (p2:rs 57 [.agg (iF.ag a0.dO)]=.kq [.agg (j5.ag a0),iv 0]) (p3:∃ nx:iS,ot nx a0.dO/\rs 31 [.agg (iF.ag a0.dO)]=.kq [.ip (iS.ag nx) 0 false,iv 0]) (p4:a0.roads.l.length<=64) (p5:a2.runs.l.length<=8):Ct 18 [.agg (j5.ag a0),.ip (iS.ag a1) 0 false,.agg (jV.ag a2)] (Yx a0 a1 a2):=by
 refine j9 GM ?_
 refine co ?_
 refine dJ ?_
 have hL1:=a2.runs.lk
 refine eb ?_
 have hS2:=Sep.mf kV 5
 have hNk3:=a2.runs.lk
 refine jW a2.runs.l.length (λk3 e h=>∃ v4:AV,∃ l5:List jY,∃ H6:aT,(l5.length=k3)/\Sep H6 (my jY.ag 5 v4 l5::[])/\At [1,3,5,7,15,16] [.ip (iS.ag a1) 0 false,.la 3 0,.la 5 0,v4,bY a2.runs.l.length,bY k3] H6 [(3,(j5.ag a0)),(5,(jV.ag a2))] e h) ?_ (k0:=0) eG ⟨iN,(([]:List jY)),aT.empty,gm,hS2,atR⟩
 rintro k3 e h hkk3 ⟨v4,l5,H6,hTl,hS7,hA⟩
 refine aA ?_
 refine kx (λh8=>?_) (λh8=>?_)
 refine ak ?_
 refine wz [.ip (iS.ag a1) 0 false,.la 3 0,.la 5 0,v4,bY a2.runs.l.length,bY k3] H6 [(3,(j5.ag a0)),(5,(jV.ag a2))] ?_ (kh hS7 [(7,0)])
 refine dA ?_
 refine a6 ?_
 refine oC (t47 a1 a2 ((k3:Int))) ?_
 rintro _ ⟨r10,r11,hc9,rfl⟩
 have hTr:=hc9
 cases r11
 refine dl ?_
 refine bz ?_
 refine kn rfl (kZ (H:=H6) (i:=0) (l:=l5) (enc:=jY.ag) [r10] hS7 rfl rfl rfl rfl rfl rfl rfl rfl rfl (λ_=>rfl) (.inl rfl) eE (λ_=>rfl)) ?_
 rintro v12 H13 hS14
 refine ab ?_
 refine wz [.ip (iS.ag a1) 0 false,.la 3 0,.la 5 0,v12,bY a2.runs.l.length,bY k3] H13 [(3,(j5.ag a0)),(5,(jV.ag a2))] ?_ (kh hS14 [(7,0)])
 refine qg ?_
 refine kD ?_
 refine ab ?_
 exact ⟨by omega,v12,((l5++[r10])),H13,fu,hS14,(kh hS14 [(7,0)])⟩
 refine dl ?_
 refine bz ?_
 refine kn rfl (kZ (H:=H6) (i:=0) (l:=l5) (enc:=jY.ag) [r10] hS7 rfl rfl rfl rfl rfl rfl rfl rfl rfl (λ_=>rfl) (.inl rfl) eE (λ_=>rfl)) ?_
 rintro v15 H16 hS17
 refine ab ?_
 refine wz [.ip (iS.ag a1) 0 false,.la 3 0,.la 5 0,v15,bY a2.runs.l.length,bY k3] H16 [(3,(j5.ag a0)),(5,(jV.ag a2))] ?_ (kh hS17 [(7,0)])
 refine qg ?_
 refine kD ?_
 refine ab ?_
 exact ⟨by omega,v15,((l5++[r10])),H16,fu,hS17,(kh hS17 [(7,0)])⟩
 refine aj ?_
 refine wz [.la 3 0,.la 5 0,v4] H6 [(3,(j5.ag a0)),(5,(jV.ag a2))] ?_ (kh hS7 [(7,0)])
 refine bL ?_
 refine nU hS7 0 λr18 hl19 hln22 hz21=>?_
 refine mM (args:=[.agg (j5.ag a0),kj a2.j3,v4]) (p:=[]) (r:=[]) (args':=[.agg (j5.ag a0),kj a2.j3,jS.av jY.ag r18]) (R:=QX a0 a2.j3 r18) rfl rfl rfl rfl rfl (jU rfl (jU rfl (jU (Sep.arg (i:=0) hS7 rfl) kE))) rfl fy (lx gv (jU rfl (jU rfl (jU (Sep.qC (i:=0) hS7 rfl) kE)))) (lx fk (jU rfl (jU rfl (jU rfl kE)))) (λh=>aaa a0 a2.j3 r18 ey ey ey ey h) ?_
 rintro _ (⟨r24,r25,r26,r27,r28,r29,r30,r31,r32,r33,hc23,rfl⟩ | ⟨r34,hc23,rfl⟩)
 have hWn:=hc23
 refine bV ?_
 refine aH ?_
 refine bR ?_
 refine xG (.inl ⟨r24,r25,r26,r27,r28,r29,r30,r31,r32,r33,zt⟩)
 refine bV ?_
 refine lR (λh35=>?_) (λh35=>?_)
 refine aW ?_
 refine xB (.inr (⟨zT,rfl⟩))
 refine ah ?_
 refine bR ?_
 refine xB (.inr (⟨zT,rfl⟩))
def P5 (v:AV):Prop:=∃ r0:Bool,(r0=true)/\v=.bool r0
def t5 (h:aT):∃ v,ka cfg FT ko false 5 [] h v h/\P5 v:=by
 refine ⟨.bool true,⟨1,λk hk=>?_⟩,true,rfl,rfl⟩
 obtain ⟨k,rfl⟩:∃ k',k=k'+1:=⟨k - 1,by omega⟩
 rfl
end Go.Sx
