/- Proves what some functions of the program answer, by walking through them. -/
import Derived.Test.YtihofefpkjfmnaaGreatTaj
import Derived.Test.YtihofefpkjfmnaaGreatTam
import Derived.Test.YtihofefpkjfmnaaGreatTan
import Derived.Test.YtihofefpkjfmnaaGreatTao
set_option linter.all false
set_option maxRecDepth 100000
set_option maxHeartbeats 0
namespace Go.Sx
open Go Go.Proofs
def P84 (_a0:jS kP) (v:AV):Prop:=∃ r0:Row Int,∃ r1:Bool,(True)/\v=.kq [kN r0,.bool r1]
def t84 (a0:jS kP) (q1:a0.l.length<=8):Ct 84 [jS.av kP.ag a0] (P84 a0):=by
 refine j9 MS ?_
 refine ai ?_
 refine aZ ?_
 refine kI (H:=aT.empty) (args:=[jS.av kP.ag a0]) (p:=[]) (r:=[]) rfl rfl rfl rfl rfl rfl rfl (Q0 a0 ([]) kV ey) ?_
 rintro ov5 H2 ⟨_,ol6,hc4,hS3,rfl⟩
 have hqF:ol6.length=a0.l.length:=by rw [hc4]
 try simp only [Row.mg] at hqF
 have hOl:=hc4
 refine aZ ?_
 have hL7:=a0.lk
 refine jP rfl (λ_=>m8 (r:=a0) (enc:=kP.ag) rfl rfl rfl rfl rfl rfl) ?_
 refine kn rfl (qn (m:=a0.l.length) hS3 rfl rfl rfl rfl rfl eC eB) ?_
 rintro v8 H9 hS10
 have hS12:=Sep.wu (enc:=mI) (z:=false) hS10 rfl
 refine ab ?_
 refine aY ?_
 have hL13:=a0.lk
 refine ed ?_
 have hS14:=Sep.mf hS12 1
 have hNk15:=a0.lk
 refine jW a0.l.length (λk15 e h=>∃ v16:AV,∃ l17:List Int,∃ v18:AV,∃ l19:List Bool,∃ v20:AV,∃ l21:List kP,∃ H22:aT,(l19.length=a0.l.length)/\(l21.length=a0.l.length)/\(l19.count true=k15)/\(l17.length<=k15)/\Sep H22 (lG v16 l17::my mI 1 v18 l19::my kP.ag 2 v20 l21::[])/\At [0,4,5,6,14,15] [jS.av kP.ag a0,v20,v18,v16,bY a0.l.length,bY k15] H22 [] e h) ?_ (k0:=0) eG ⟨iN,(([]:List Int)),v8,((List.replicate a0.l.length false)),ov5,ol6,H9,g8,(by (rw [hOl])),(by (first | exact List.count_replicate_self | simp [List.count_replicate])),gU,hS14,(kh hS14 [(4,2),(5,1)])⟩
 rintro k15 e h hkk15 ⟨v16,l17,v18,l19,v20,l21,H22,hL5,hL4,hC,hL6,hS23,hA⟩
 refine aA ?_
 refine kx (λh24=>?_) (λh24=>?_)
 refine ak ?_
 refine wz [jS.av kP.ag a0,v20,v18,v16,bY a0.l.length,bY k15] H22 [] ?_ (kh hS23 [(4,2),(5,1),(6,0)])
 refine aw ?_
 have hS25:=Sep.pick hS23 [1,0,2] 3 eB eB
 refine kI (H:=H22) (args:=[v18,.kY 163 [] []]) (p:=[]) (r:=[]) rfl rfl rfl rfl rfl (jU (Sep.arg (i:=1) hS23 rfl) (jU rfl kE)) rfl (Yw v18 l19 (lG v16 l17::my kP.ag 2 v20 l21::[]) hS25 ey) ?_
 rintro _ H26 ⟨r29,hc28,hS27,rfl⟩
 have hIb:=hc28
 refine ab ?_
 refine ay ?_
 refine oe (λm31 e h=>∃ n30:Int,m31=((a0.l.length:Int) - n30).toNat/\(0<=n30)/\(n30<=(a0.l.length:Int))/\At [0,4,5,6,7,14,15] [jS.av kP.ag a0,v20,v18,v16,iv n30,bY a0.l.length,bY k15] H26 [] e h) ?_ _ _ _ ⟨r29,rfl,(by exact Rf hIb.2.1 hC eG),eG,(kh hS27 [(4,2),(5,0),(6,1)])⟩
 rintro m31 e h ⟨n30,hmm31,hx0,hx1,hA⟩
 refine rP hA ?_
 refine qs ?_
 refine bS ?_
 have hL32:=a0.lk
 refine kp rfl rfl (λ_=>m8 (r:=a0) (enc:=kP.ag) rfl rfl rfl rfl rfl rfl) ?_
 refine qO (λh33=>?_) (λh33=>?_)
 refine bj ?_
 have hk34:(((n30).toNat:Nat):Int)=n30:=Int.toNat_of_nonneg eC
 have hx35:(n30).toNat<l19.length:=by first | omega | (simp<;>omega) | (simp_all; omega)
 obtain ⟨x36,hqx36⟩:∃ x,l19[(n30).toNat]=x:=⟨_,rfl⟩
 refine nk rfl rfl (lO (i:=0) (m:=(n30).toNat) (cs:=mI x36) hS27 rfl rfl rfl rfl rfl rfl (congrArg (AV.int .i64) hk34.symm) (lA hx35 hqx36)) ?_
 rintro a37 ⟨ha38,hea39⟩
 refine Em (b:=x36) rfl rfl (λ_=>mK (i:=0) (m:=(n30).toNat) (o:=0) (r:=.bool x36) (cs:=mI x36) hS27 rfl (lA hx35 hqx36) hea39 rfl rfl ha38) (λh40=>?_) (λh40=>?_)
 refine d5 ?_
 refine dW ?_
 refine rV ?_
 refine c8 ?_
 refine qk ?_
 refine wz [jS.av kP.ag a0,v20,v18,v16,iv n30,bY a0.l.length,bY k15] H26 [] ?_ (kh hS27 [(4,2),(5,0),(6,1)])
 refine qb ?_
 refine aM ?_
 refine kD ?_
 refine ab ?_
 refine ⟨_,?_,(n30+1),rfl,eG,eG,(kh hS27 [(4,2),(5,0),(6,1)])⟩
 omega
 refine bj ?_
 refine nU hS27 2 λr41 hl42 hln45 hz44=>?_
 refine rk (args:=[v20,iv n30]) (p:=[]) (r:=[]) (args':=[jS.av kP.ag r41,iv n30]) (R:=Qm r41 n30) rfl rfl rfl rfl rfl rfl (jU (Sep.arg (i:=2) hS27 rfl) (jU rfl kE)) rfl fy (lx (by show kG (freeze true { H26 with cH:=[] } 8) [v20,iv n30] = _; simp only [FZ,hz44]) (jU (Sep.qC (i:=2) hS27 rfl) (jU rfl kE))) (lx fk (jU rfl (jU rfl kE))) (λh=>t164 r41 n30  h) ?_
 rintro _ ⟨r47,hc46,rfl⟩
 refine aI ?_
 have hk48:(((n30).toNat:Nat):Int)=n30:=Int.toNat_of_nonneg eC
 have hx49:(n30).toNat<l21.length:=by first | omega | (simp<;>omega) | (simp_all; omega)
 obtain ⟨x50,hqx50⟩:∃ x,l21[(n30).toNat]=x:=⟨_,rfl⟩
 refine nk rfl rfl (lO (i:=2) (m:=(n30).toNat) (cs:=kP.ag x50) hS27 rfl rfl rfl rfl rfl rfl (congrArg (AV.int .i64) hk48.symm) (lA hx49 hqx50)) ?_
 rintro a51 ⟨ha52,hea53⟩
 refine kp rfl rfl (λ_=>mK (i:=2) (m:=(n30).toNat) (o:=0) (r:=.agg (kP.ag x50)) (cs:=kP.ag x50) hS27 rfl (lA hx49 hqx50) hea53 rfl rfl ha52) ?_
 refine rC (t165 x50) ?_
 rintro _ ⟨r55,hc54,rfl⟩
 obtain ⟨z56,hz57⟩:=Bx .u64 r47 (r55)
 refine kp rfl rfl (λ_=>me rfl rfl rfl hz57) ?_
 refine u6 (λh58=>?_) (λh58=>?_)
 refine rV ?_
 refine c8 ?_
 refine qk ?_
 refine wz [jS.av kP.ag a0,v20,v18,v16,iv n30,bY a0.l.length,bY k15] H26 [] ?_ (kh hS27 [(4,2),(5,0),(6,1)])
 refine qb ?_
 refine aM ?_
 refine kD ?_
 refine ab ?_
 refine ⟨_,?_,(n30+1),rfl,eG,eG,(kh hS27 [(4,2),(5,0),(6,1)])⟩
 omega
 refine rV ?_
 refine aO ?_
 refine qF ?_
 refine qe ?_
 refine wz [jS.av kP.ag a0,v20,v18,v16,iv n30,bY a0.l.length,bY k15] H26 [] ?_ (kh hS27 [(4,2),(5,0),(6,1)])
 refine aX ?_
 have hL59:=a0.lk
 refine jP rfl (λ_=>m8 (r:=a0) (enc:=kP.ag) rfl rfl rfl rfl rfl rfl) ?_
 refine kR (λh60=>?_) (λh60=>?_)
 refine aJ ?_
 exact jk
 refine ah ?_
 refine wz [jS.av kP.ag a0,v20,v18,v16,iv n30,bY a0.l.length,bY k15] H26 [] ?_ (kh hS27 [(4,2),(5,0),(6,1)])
 refine dD ?_
 have hk61:(((n30).toNat:Nat):Int)=n30:=Int.toNat_of_nonneg eC
 have hx62:(n30).toNat<l19.length:=by first | omega | (simp<;>omega) | (simp_all; omega)
 refine mv rfl (lO (i:=0) (m:=(n30).toNat) (cs:=mI x36) hS27 rfl rfl rfl rfl rfl rfl (congrArg (AV.int .i64) hk61.symm) (lA hx62 hqx36)) ?_
 rintro a63 ⟨ha64,hea65⟩
 refine kn rfl (nH (i:=0) (m:=(n30).toNat) (o:=0) x36 true hS27 rfl hx62 hqx36 hea65 rfl ha64 rfl rfl rfl rfl) ?_
 rintro _ H66 ⟨rfl,hS67⟩
 have hk68:(((n30).toNat:Nat):Int)=n30:=Int.toNat_of_nonneg eC
 have hx69:(n30).toNat<l21.length:=by first | omega | (simp<;>omega) | (simp_all; omega)
 refine mv rfl (lO (i:=2) (m:=(n30).toNat) (cs:=kP.ag x50) hS67 rfl rfl rfl rfl rfl rfl (congrArg (AV.int .i64) hk68.symm) (lA hx69 hqx50)) ?_
 rintro a70 ⟨ha71,hea72⟩
 refine kn rfl (nH (i:=2) (m:=(n30).toNat) (o:=0) x50 (⟨(lZ:Row Int),(lZ:Row mq)⟩:kP) hS67 rfl hx69 hqx50 hea72 rfl ha71 rfl rfl rfl rfl) ?_
 rintro _ H73 ⟨rfl,hS74⟩
 refine oN ?_
 refine bz ?_
 refine kn rfl (kZ (i:=1) [n30] hS74 rfl rfl rfl rfl rfl rfl rfl rfl rfl (λ_=>rfl) (.inl rfl) eE (λ_=>rfl)) ?_
 rintro v75 H76 hS77
 refine ab ?_
 refine wz [jS.av kP.ag a0,v20,v18,v75,bY a0.l.length,bY k15] H76 [] ?_ (kh hS77 [(4,2),(5,0),(6,1)])
 refine qg ?_
 refine kD ?_
 refine ab ?_
 have hS78:=Sep.pick hS77 [1,0,2] 3 eB eB
 exact ⟨by omega,v75,((l17++[n30])),v18,((l19.set ((n30).toNat) true)),v20,((l21.set ((n30).toNat) (⟨(lZ:Row Int),(lZ:Row mq)⟩:kP))),H76,gf,gf,g5,fu,hS78,(kh hS78 [(4,2),(5,1),(6,0)])⟩
 refine rV ?_
 iterate 16 refine rS ?_
 refine aO ?_
 refine qF ?_
 refine qe ?_
 refine wz [jS.av kP.ag a0,v20,v18,v16,iv n30,bY a0.l.length,bY k15] H26 [] ?_ (kh hS27 [(4,2),(5,0),(6,1)])
 refine aX ?_
 have hL79:=a0.lk
 refine jP rfl (λ_=>m8 (r:=a0) (enc:=kP.ag) rfl rfl rfl rfl rfl rfl) ?_
 refine kR (λh80=>?_) (λh80=>?_)
 refine aJ ?_
 exact jk
 refine ah ?_
 refine wz [jS.av kP.ag a0,v20,v18,v16,iv n30,bY a0.l.length,bY k15] H26 [] ?_ (kh hS27 [(4,2),(5,0),(6,1)])
 refine dD ?_
 have hk81:(((n30).toNat:Nat):Int)=n30:=Int.toNat_of_nonneg eC
 have hx82:(n30).toNat<l19.length:=by first | omega | (simp<;>omega) | (simp_all; omega)
 obtain ⟨x83,hqx83⟩:∃ x,l19[(n30).toNat]=x:=⟨_,rfl⟩
 refine mv rfl (lO (i:=0) (m:=(n30).toNat) (cs:=mI x83) hS27 rfl rfl rfl rfl rfl rfl (congrArg (AV.int .i64) hk81.symm) (lA hx82 hqx83)) ?_
 rintro a84 ⟨ha85,hea86⟩
 refine kn rfl (nH (i:=0) (m:=(n30).toNat) (o:=0) x83 true hS27 rfl hx82 hqx83 hea86 rfl ha85 rfl rfl rfl rfl) ?_
 rintro _ H87 ⟨rfl,hS88⟩
 have hk89:(((n30).toNat:Nat):Int)=n30:=Int.toNat_of_nonneg eC
 have hx90:(n30).toNat<l21.length:=by first | omega | (simp<;>omega) | (simp_all; omega)
 obtain ⟨x91,hqx91⟩:∃ x,l21[(n30).toNat]=x:=⟨_,rfl⟩
 refine mv rfl (lO (i:=2) (m:=(n30).toNat) (cs:=kP.ag x91) hS88 rfl rfl rfl rfl rfl rfl (congrArg (AV.int .i64) hk89.symm) (lA hx90 hqx91)) ?_
 rintro a92 ⟨ha93,hea94⟩
 refine kn rfl (nH (i:=2) (m:=(n30).toNat) (o:=0) x91 (⟨(lZ:Row Int),(lZ:Row mq)⟩:kP) hS88 rfl hx90 hqx91 hea94 rfl ha93 rfl rfl rfl rfl) ?_
 rintro _ H95 ⟨rfl,hS96⟩
 refine oN ?_
 refine bz ?_
 refine kn rfl (kZ (i:=1) [n30] hS96 rfl rfl rfl rfl rfl rfl rfl rfl rfl (λ_=>rfl) (.inl rfl) eE (λ_=>rfl)) ?_
 rintro v97 H98 hS99
 refine ab ?_
 refine wz [jS.av kP.ag a0,v20,v18,v97,bY a0.l.length,bY k15] H98 [] ?_ (kh hS99 [(4,2),(5,0),(6,1)])
 refine qg ?_
 refine kD ?_
 refine ab ?_
 have hS100:=Sep.pick hS99 [1,0,2] 3 eB eB
 exact ⟨by omega,v97,((l17++[n30])),v18,((l19.set ((n30).toNat) true)),v20,((l21.set ((n30).toNat) (⟨(lZ:Row Int),(lZ:Row mq)⟩:kP))),H98,gf,gf,g5,fu,hS100,(kh hS100 [(4,2),(5,1),(6,0)])⟩
 refine aj ?_
 refine wz [v16] H22 [] ?_ (kh hS23 [(6,0)])
 refine dh ?_
 obtain ⟨r101,hl102,hf103⟩:=lK (H:=H22) (i:=0) (l:=l17) (enc:=j6) hS23 rfl eA
 have hlq:=hl102; have hln105:=congrArg List.length hl102
 have hz104:∀ m,freeze false { H22 with cH:=[] } (m+2) v16=some (kN r101):=λm=>hf103 _ _ (λ_=>rfl)
 exact ⟨.kq [v16,.bool true],(lL (vs:=[v16,.bool true]) rfl (jU (Sep.arg (i:=0) hS23 rfl) (jU rfl kE))),.kq [kN r101,.bool true],(show freeze false { H22 with cH:=[] } 8 (.kq [v16,.bool true])=some (.kq [kN r101,.bool true]) by simp only [FZ,hz104]),r101,true,zt⟩
def Wi (_a0:jS kP) (v:AV):Prop:=∃ r0:Bool,(True)/\v=.bool r0
def t35 (a0:jS kP) (q1:a0.l.length<=8):Ct 35 [jS.av kP.ag a0] (Wi a0):=by
 refine j9 Nx ?_
 refine aa ?_
 refine aZ ?_
 refine oC (t84 a0 ey) ?_
 rintro _ ⟨r2,r3,hc1,rfl⟩
 cases r3
 refine oV ?_
 refine bZ ?_
 refine bR ?_
 exact iq
 refine oV ?_
 refine bZ ?_
 refine bR ?_
 exact io
def u7 {H:aT} (a0:j5) (a1:jV) (F:List lC) (hS:Sep H F) (q1:mB a0.dO) (q2:a0.roads.l.length<=64) (q3:(∀ r∈(a0.roads.l:List kz),rb r)) (q4:tv a1) (q5:a1.j3.l.length<=10):∃ v H',ka cfg FT ko true 7 [.agg (j5.ag a0),.agg (jV.ag a1)] { H with cH:=[] } v H'/\((∃ e:Int,(e≠0)/\Sep H' (F)/\v=.kq [.mn,iv e])\/(∃ b:Nat,∃ nt:iS,∃ cc:j5,∃ dd:jV,∃ vl:AV,∃ lg:List Int,∃ rd:Row Int,(mB nt.p/\cc.roads.l.length<=64/\(∀ r∈(cc.roads.l:List kz),rb r)/\(∀ r∈dd.runs.l,r.kH.l.length<=12)/\rd.l.length=lg.length/\lg.length=a1.runs.l.length/\lg.length<=8/\(∀ x∈lg,x=0)/\(∀ x∈rd.l,x = -1)/\dd.runs.l.length=lg.length/\rs 30 [.agg (j5.ag a0),.agg (jV.ag a1)]=iv 0)/\Sep H' (kO b (mE nt cc dd vl (kN rd) iN iN)::lG vl lg::F)/\v=.kq [(jQ b),iv 0])):=by
 refine kW PV ?_
 have q6:=q4.1
 refine aa ?_
 refine bZ ?_
 refine aX ?_
 refine oC (t30 a0 a1 ey ey) ?_
 rintro _ ⟨r2,⟨hc1,hc1r⟩,rfl⟩
 have hCkr:=hc1r
 refine aZ ?_
 refine lR (λh3=>?_) (λh3=>?_)
 refine cJ ?_
 have hS4:=Sep.pick hS [] 0 eB eB
 exact ⟨.kq [.mn,iv r2],rfl,.inl ⟨r2,ga,Sep.cH hS4 _,rfl⟩⟩
 refine ah ?_
 refine wz [.la 2 0,.la 3 0] H [(2,(j5.ag a0)),(3,(jV.ag a1))] ?_
 refine ae ?_
 refine oC (t31 a0.dO ey) ?_
 rintro _ (⟨r6,⟨hc5,hc5r⟩,rfl⟩ | ⟨r7,⟨hc5,hc5r⟩,rfl⟩)
 have hFw:=hc5.vD; have hFs:=hc5.vD.signals; have hFl:=hc5.len; have hRg:=hc5.rg; have hNe:=hc5; have hNr:=hc5r
 refine bV ?_
 refine aH ?_
 refine wz [.la 2 0,.la 3 0,.ip (iS.ag r6) 0 false] H [(2,(j5.ag a0)),(3,(jV.ag a1))] ?_
 refine bS ?_
 refine rC (t32 a0 ey ey) ?_
 rintro _ ⟨r9,hc8,rfl⟩
 have hCpL:=hc8.2.1; have hCpR:=hc8.2.2
 refine rV ?_
 refine rC (t33 a1 ey ey) ?_
 rintro _ ⟨r11,hc10,rfl⟩
 have hCdl:=hc10.1; have hCdL:=hc10.2
 refine rV ?_
 refine lH rfl rfl (mP (cs:=(mE r6 r9 r11 iN iN iN iN)) hS rfl rfl rfl rfl rfl) ?_
 rintro _ H13 ⟨b12,rfl,hS14⟩
 refine aO ?_
 refine a6 ?_
 have hL15:=a1.runs.lk
 refine lu a1.runs ?_
 refine kn rfl (qn (m:=a1.runs.l.length) hS14 rfl rfl rfl rfl rfl eC eB) ?_
 rintro v16 H17 hS18
 have hS20:=Sep.wu (enc:=j6) (z:=(0)) hS18 rfl
 refine jP rfl (λ_=>oG (i:=1) hS20 rfl rfl) ?_
 refine jP rfl (λ_=>nw (i:=1) hS20 rfl rfl rfl rfl rfl) ?_
 refine kn rfl (lY (i:=1) (o:=14) (r:=v16) hS20 rfl rfl rfl rfl (mF rfl rfl (Sep.cell (i:=0) hS20 rfl)) (jU (Sep.cell (i:=0) hS20 rfl) kE) rfl) ?_
 rintro _ H21 ⟨rfl,hS22⟩
 refine oN ?_
 refine bL ?_
 have hL23:=a1.runs.lk
 refine lu a1.runs ?_
 refine oC (t34 a1.runs.l.length ey) ?_
 rintro _ ⟨r25,hc24,rfl⟩
 have hRp:=hc24
 refine jP rfl (λ_=>oG (i:=1) hS22 rfl rfl) ?_
 refine jP rfl (λ_=>nw (i:=1) hS22 rfl rfl rfl rfl rfl) ?_
 refine kn rfl (lY (i:=1) (o:=15) (r:=kN r25) hS22 rfl rfl rfl rfl rfl rfl rfl) ?_
 rintro _ H26 ⟨rfl,hS27⟩
 refine oN ?_
 refine aq ?_
 refine nU hS27 0 λr28 hl29 hln32 hz31=>?_
 have hz33:∀ m,freeze true { H26 with cH:=[] } (m+4) (jQ b12)=some (.ip (mE r6 r9 r11 (ly r28) (kN r25) iN iN) 0 true):=λm=>mh (i:=1) hS27 rfl [] _ (by simp only [FZ,hz31]; try rfl)
 have hr6:r28.l.length<=8:=by rw [hl29,List.length_replicate]; omega
 have hr5:(Row.mg r25).l.length=r28.l.length:=(congrArg List.length hRp).trans (by rw [hl29,List.length_replicate,List.length_replicate])
 have hr7:∀ x∈r28.l,x=0:=by rw [hl29]; exact λx hx=>(List.mem_replicate.mp hx).2
 have hr8:∀ x∈(Row.mg r25).l,x = -1:=λx hx=>(List.mem_replicate.mp ((hRp▸(show x∈r25.l from hx):x∈List.replicate _ _))).2
 refine mM (args:=[(jQ b12)]) (p:=[]) (r:=[]) (args':=[.ip (mE r6 r9 r11 (ly r28) (kN r25) iN iN) 0 true]) (R:=Rv r6 r9 r11 r28 (Row.mg r25) (⟨[],.nil,Nat.zero_le _,λ_=>rfl⟩:jS Int) (⟨[],.nil,Nat.zero_le _,λ_=>rfl⟩:jS Int)) rfl rfl rfl rfl rfl rfl rfl fy (lx (by show kG (freeze true { H26 with cH:=[] } 8) [(jQ b12)] = _; simp only [FZ,hz31,hz33]) (jU rfl kE)) (lx fk (jU rfl kE)) (λh=>t15 r6 r9 r11 r28 (Row.mg r25) (⟨[],.nil,Nat.zero_le _,λ_=>rfl⟩:jS Int) (⟨[],.nil,Nat.zero_le _,λ_=>rfl⟩:jS Int) ey ey ey ey ey ey ey ey h) ?_
 rintro _ ⟨r35,⟨hc34,hc34r⟩,rfl⟩
 have hClL:=hc34.1
 refine oC (t35 (Row.mg r35) ey) ?_
 rintro _ ⟨r37,hc36,rfl⟩
 cases r37
 refine cO ?_
 have hS38:=Sep.pick hS27 [] 2 eB eB
 exact ⟨.kq [.mn,iv 19],rfl,.inl ⟨19,ga,Sep.cH hS38 _,rfl⟩⟩
 refine aH ?_
 refine wz [(jQ b12)] H26 [] ?_
 refine dh ?_
 have hS39:=Sep.pick hS27 [1,0] 2 eB eB
 exact ⟨.kq [(jQ b12),iv 0],rfl,.inr (⟨b12,r6,r9,r11,v16,(List.replicate a1.runs.l.length 0),r25,(by exact ⟨hFw,by omega,hCpR,hCdL,by rw [hRp]; simp,by simp,by simp<;>omega,by simp,by rw [hRp]; simp,by simp; omega,hCkr.trans (congrArg (AV.int .i64) eG)⟩),Sep.cH hS39 _,rfl⟩)⟩
 refine bV ?_
 refine lR (λh40=>?_) (λh40=>?_)
 refine cJ ?_
 have hS41:=Sep.pick hS [] 0 eB eB
 exact ⟨.kq [.mn,iv r7],rfl,.inl ⟨r7,ga,Sep.cH hS41 _,rfl⟩⟩
 exfalso; omega
def P11 (_a0:Row Int) (_a1:Row Int) (v:AV):Prop:=∃ r0:Bool,((_a0.l = _a1.l->r0=true))/\v=.bool r0
def t11 (a0:Row Int) (a1:Row Int) :Ct 11 [kN a0,kN a1] (P11 a0 a1):=by
 refine j9 L0 ?_
 refine aY ?_
 have hL1:=a0.lk
 refine dr ?_
 have hL2:=a1.lk
 refine lu a1 ?_
 refine lR (λh3=>?_) (λh3=>?_)
 refine aW ?_
 exact xB ⟨false,f9,rfl⟩
 refine ah ?_
 refine bG ?_
 have hNk4:=a0.lk
 refine jW a0.l.length (λk4 e h=>At [0,1,5] [kN a0,kN a1,bY k4] aT.empty [] e h) ?_ (k0:=0) eG atR
 rintro k4 e h hkk4 hA
 refine cC ?_
 have hL5:=a0.lk
 refine lu a0 ?_
 refine kx (λh6=>?_) (λh6=>?_)
 refine bg ?_
 refine bS ?_
 have hx7:k4<a0.l.length:=by omega
 refine ph k4 a0 hx7 ?_
 generalize hqx8:a0.l[k4]=x8
 refine bj ?_
 have hx9:k4<a1.l.length:=by omega
 refine ph k4 a1 hx9 ?_
 generalize hqx10:a1.l[k4]=x10
 refine rV ?_
 refine u6 (λh11=>?_) (λh11=>?_)
 refine rN ?_
 refine ac ?_
 exact xB ⟨false,f9,rfl⟩
 refine c7 ?_
 refine aM ?_
 refine kD ?_
 refine ab ?_
 exact ic
 refine dB ?_
 exact xB ⟨true,f9,rfl⟩
def DU (n:iS) (c:j5) (d:jV) (lg:jS Int) (rd:jS Int) (ca:jS Int) (ow:jS Int) (v:AV):Prop:=∃ r0:Row Int,(r0.l=rd.l)/\v=kN r0
def t13 (n:iS) (c:j5) (d:jV) (lg:jS Int) (rd:jS Int) (ca:jS Int) (ow:jS Int) (o8:rd.l.length<=1000):Ct 13 [.ip (mE n c d (ly lg) (ly rd) (ly ca) (ly ow)) 0 true] (DU n c d lg rd ca ow):=by
 refine j9 MI ?_
 refine bI ?_
 refine bL ?_
 refine oC (t43 rd ey) ?_
 rintro _ ⟨r2,hc1,rfl⟩
 have hC115:=congrArg List.length hc1; try simp only [Row.mg] at hC115; have hIc:=hc1; try simp only [Row.mg] at hIc
 refine af ?_
 exact xG ⟨r2,gJ,rfl⟩
def P65 (_a0:iF) (v:AV):Prop:=∃ r0:Bool,((r0=true->mB _a0))/\v=.bool r0
def t65 (a0:iF) (hJg:JG a0):Ct 65 [.agg (iF.ag a0)] (P65 a0):=by
 refine j9 Me ?_
 refine bT ?_
 refine aX ?_
 have hL1:=a0.elems.lk
 refine lu a0.elems ?_
 refine ma (λh2=>?_) (λh2=>?_)
 refine bp ?_
 refine aQ ?_
 refine ce ?_
 exact jJ
 refine aF ?_
 have hL3:=a0.kg.lk
 refine lu a0.kg ?_
 refine ma (λh4=>?_) (λh4=>?_)
 refine aQ ?_
 refine ce ?_
 exact jJ
 refine aK ?_
 have hL5:=a0.signals.lk
 refine lu a0.signals ?_
 refine ma (λh6=>?_) (λh6=>?_)
 refine ce ?_
 exact jJ
 refine aK ?_
 have hL7:=a0.lines.lk
 refine lu a0.lines ?_
 refine ma (λh8=>?_) (λh8=>?_)
 refine au ?_
 exact jJ
 refine aH ?_
 refine bG ?_
 have hNk9:=a0.lines.lk
 refine jW a0.lines.l.length (λk9 e h=>(∀ (i:Nat) (h:i<a0.lines.l.length),i<k9->(a0.lines.l[i]).elems.l.length<=60)/\At [1,3] [.la 1 0,bY k9] aT.empty [(1,(iF.ag a0))] e h) ?_ (k0:=0) eG ⟨fT,atR⟩
 rintro k9 e h hkk9 ⟨hI,hA⟩
 refine bo ?_
 have hL10:=a0.lines.lk
 refine lu a0.lines ?_
 refine kx (λh11=>?_) (λh11=>?_)
 refine bg ?_
 refine a6 ?_
 have hx12:k9<a0.lines.l.length:=by omega
 refine ml k9 a0.lines hx12 ?_
 generalize hqx13:a0.lines.l[k9]=x13
 refine am ?_
 have hL14:=x13.elems.lk
 refine lu x13.elems ?_
 refine ma (λh15=>?_) (λh15=>?_)
 refine oV ?_
 refine cw ?_
 refine au ?_
 exact jJ
 refine aK ?_
 have hx16:k9<a0.lines.l.length:=by omega
 refine ml k9 a0.lines hx16 ?_
 rw [hqx13]
 refine aF ?_
 refine ma (λh18=>?_) (λh18=>?_)
 refine au ?_
 exact jJ
 refine cq ?_
 refine kD ?_
 refine ab ?_
 exact ⟨by omega,(by (intro i h h2; rcases Nat.lt_succ_iff_lt_or_eq.mp h2 with h3 | h3; exact hI i h h3; subst h3; simp_all; try omega)),atR⟩
 refine aN ?_
 refine bG ?_
 have hNk19:=a0.elems.lk
 refine jW a0.elems.l.length (λk19 e h=>At [1,4] [.la 1 0,bY k19] aT.empty [(1,(iF.ag a0))] e h) ?_ (k0:=0) eG atR
 rintro k19 e h hkk19 hA
 refine bo ?_
 have hL20:=a0.elems.lk
 refine lu a0.elems ?_
 refine kx (λh21=>?_) (λh21=>?_)
 refine bg ?_
 refine a6 ?_
 have hx22:k19<a0.elems.l.length:=by omega
 refine ml k19 a0.elems hx22 ?_
 generalize hqx23:a0.elems.l[k19]=x23
 refine aF ?_
 refine ma (λh24=>?_) (λh24=>?_)
 refine aW ?_
 exact jJ
 refine ah ?_
 refine aM ?_
 refine kD ?_
 refine ab ?_
 exact ic
 refine aN ?_
 refine bG ?_
 have hNk25:=a0.signals.lk
 refine jW a0.signals.l.length (λk25 e h=>At [1,5] [.la 1 0,bY k25] aT.empty [(1,(iF.ag a0))] e h) ?_ (k0:=0) eG atR
 rintro k25 e h hkk25 hA
 refine bo ?_
 have hL26:=a0.signals.lk
 refine lu a0.signals ?_
 refine kx (λh27=>?_) (λh27=>?_)
 refine bg ?_
 refine a6 ?_
 have hx28:k25<a0.signals.l.length:=by omega
 refine ml k25 a0.signals hx28 ?_
 generalize hqx29:a0.signals.l[k25]=x29
 refine aF ?_
 refine ma (λh30=>?_) (λh30=>?_)
 refine aW ?_
 exact jJ
 refine ah ?_
 refine aM ?_
 refine kD ?_
 refine ab ?_
 exact ic
 refine dB ?_
 exact xB ⟨true,eU,rfl⟩
def ZJ (_a0:iF) (v:AV):Prop:=∃ r0:Row pv,∃ r1:Row pv,∃ r2:Row pv,(True)/\v=.kq [Row.av oL r0,Row.av oL r1,Row.av oL r2]
def t132 (a0:iF) (q1:mB a0):Ct 132 [.agg (iF.ag a0)] (ZJ a0):=by
 refine j9 FY ?_
 have q2:=q1.elems; have q3:=q1.signals; have q4:=q1.lines
 refine aa ?_
 refine bZ ?_
 refine co ?_
 refine bG ?_
 have hS1:=Sep.mf kV 1
 have hNk2:=a0.elems.lk
 refine jW a0.elems.l.length (λk2 e h=>∃ v3:AV,∃ l4:List pv,∃ H5:aT,(l4.length<=0+k2)/\Sep H5 (my oL 1 v3 l4::[])/\At [1,5,6,7,8] [.la 1 0,v3,iN,iN,bY k2] H5 [(1,(iF.ag a0))] e h) ?_ (k0:=0) eG ⟨iN,(([]:List pv)),aT.empty,ff,hS1,atR⟩
 rintro k2 e h hkk2 ⟨v3,l4,H5,hl7,hS6,hA⟩
 refine bo ?_
 have hL8:=a0.elems.lk
 refine lu a0.elems ?_
 refine kx (λh9=>?_) (λh9=>?_)
 refine cE ?_
 refine wz [.la 1 0,v3,iN,iN,bY k2] H5 [(1,(iF.ag a0))] ?_ (kh hS6 [(5,0)])
 refine ay ?_
 refine qg ?_
 refine aK ?_
 have hx10:k2<a0.elems.l.length:=by omega
 refine ml k2 a0.elems hx10 ?_
 generalize hqx11:a0.elems.l[k2]=x11
 refine aF ?_
 refine kn rfl (kZ (i:=0) [x11.name] hS6 rfl rfl rfl rfl rfl rfl rfl rfl rfl (λ_=>rfl) (.inl rfl) eE (λ_=>rfl)) ?_
 rintro v12 H13 hS14
 refine ab ?_
 refine wz [.la 1 0,v12,iN,iN,bY k2] H13 [(1,(iF.ag a0))] ?_ (kh hS14 [(5,0)])
 refine aM ?_
 refine kD ?_
 refine ab ?_
 exact ⟨by omega,v12,((l4++[x11.name])),H13,eC,hS14,(kh hS14 [(5,0)])⟩
 refine aN ?_
 refine wz [.la 1 0,v3,iN,iN] H5 [(1,(iF.ag a0))] ?_ (kh hS6 [(5,0)])
 refine bG ?_
 have hS15:=Sep.mf hS6 1
 have hNk16:=a0.signals.lk
 refine jW a0.signals.l.length (λk16 e h=>∃ v17:AV,∃ l18:List pv,∃ H19:aT,(l18.length<=0+k16)/\Sep H19 (my oL 1 v17 l18::my oL 1 v3 l4::[])/\At [1,5,6,7,9] [.la 1 0,v3,v17,iN,bY k16] H19 [(1,(iF.ag a0))] e h) ?_ (k0:=0) eG ⟨iN,(([]:List pv)),H5,ff,hS15,(kh hS15 [(5,1)])⟩
 rintro k16 e h hkk16 ⟨v17,l18,H19,hl21,hS20,hA⟩
 refine bo ?_
 have hL22:=a0.signals.lk
 refine lu a0.signals ?_
 refine kx (λh23=>?_) (λh23=>?_)
 refine cE ?_
 refine wz [.la 1 0,v3,v17,iN,bY k16] H19 [(1,(iF.ag a0))] ?_ (kh hS20 [(5,1),(6,0)])
 refine ay ?_
 refine qg ?_
 refine aK ?_
 have hx24:k16<a0.signals.l.length:=by omega
 refine ml k16 a0.signals hx24 ?_
 generalize hqx25:a0.signals.l[k16]=x25
 refine aF ?_
 refine kn rfl (kZ (i:=0) [x25.name] hS20 rfl rfl rfl rfl rfl rfl rfl rfl rfl (λ_=>rfl) (.inl rfl) eE (λ_=>rfl)) ?_
 rintro v26 H27 hS28
 refine ab ?_
 refine wz [.la 1 0,v3,v26,iN,bY k16] H27 [(1,(iF.ag a0))] ?_ (kh hS28 [(5,1),(6,0)])
 refine aM ?_
 refine kD ?_
 refine ab ?_
 exact ⟨by omega,v26,((l18++[x25.name])),H27,eC,hS28,(kh hS28 [(5,1),(6,0)])⟩
 refine aN ?_
 refine wz [.la 1 0,v3,v17,iN] H19 [(1,(iF.ag a0))] ?_ (kh hS20 [(5,1),(6,0)])
 refine bG ?_
 have hS29:=Sep.mf hS20 1
 have hNk30:=a0.lines.lk
 refine jW a0.lines.l.length (λk30 e h=>∃ v31:AV,∃ l32:List pv,∃ H33:aT,(l32.length<=0+k30)/\Sep H33 (my oL 1 v31 l32::my oL 1 v17 l18::my oL 1 v3 l4::[])/\At [1,5,6,7,10] [.la 1 0,v3,v17,v31,bY k30] H33 [(1,(iF.ag a0))] e h) ?_ (k0:=0) eG ⟨iN,(([]:List pv)),H19,ff,hS29,(kh hS29 [(5,2),(6,1)])⟩
 rintro k30 e h hkk30 ⟨v31,l32,H33,hl35,hS34,hA⟩
 refine bo ?_
 have hL36:=a0.lines.lk
 refine lu a0.lines ?_
 refine kx (λh37=>?_) (λh37=>?_)
 refine cE ?_
 refine wz [.la 1 0,v3,v17,v31,bY k30] H33 [(1,(iF.ag a0))] ?_ (kh hS34 [(5,2),(6,1),(7,0)])
 refine ay ?_
 refine qg ?_
 refine aK ?_
 have hx38:k30<a0.lines.l.length:=by omega
 refine ml k30 a0.lines hx38 ?_
 generalize hqx39:a0.lines.l[k30]=x39
 refine aF ?_
 refine kn rfl (kZ (i:=0) [x39.name] hS34 rfl rfl rfl rfl rfl rfl rfl rfl rfl (λ_=>rfl) (.inl rfl) eE (λ_=>rfl)) ?_
 rintro v40 H41 hS42
 refine ab ?_
 refine wz [.la 1 0,v3,v17,v40,bY k30] H41 [(1,(iF.ag a0))] ?_ (kh hS42 [(5,2),(6,1),(7,0)])
 refine aM ?_
 refine kD ?_
 refine ab ?_
 exact ⟨by omega,v40,((l32++[x39.name])),H41,eC,hS42,(kh hS42 [(5,2),(6,1),(7,0)])⟩
 refine aN ?_
 refine wz [v3,v17,v31] H33 [] ?_ (kh hS34 [(5,2),(6,1),(7,0)])
 refine ae ?_
 refine ci ?_
 obtain ⟨r43,hl44,hf45⟩:=lK (H:=H33) (i:=2) (l:=l4) (enc:=oL) hS34 rfl eA
 have hlq:=hl44; have hln47:=congrArg List.length hl44
 have hz46:∀ m,freeze false { H33 with cH:=[] } (m+2) v3=some (Row.av oL r43):=λm=>hf45 _ _ (λ_=>rfl)
 obtain ⟨r48,hl49,hf50⟩:=lK (H:=H33) (i:=1) (l:=l18) (enc:=oL) hS34 rfl eA
 have hlq:=hl49; have hln52:=congrArg List.length hl49
 have hz51:∀ m,freeze false { H33 with cH:=[] } (m+2) v17=some (Row.av oL r48):=λm=>hf50 _ _ (λ_=>rfl)
 obtain ⟨r53,hl54,hf55⟩:=lK (H:=H33) (i:=0) (l:=l32) (enc:=oL) hS34 rfl eA
 have hlq:=hl54; have hln57:=congrArg List.length hl54
 have hz56:∀ m,freeze false { H33 with cH:=[] } (m+2) v31=some (Row.av oL r53):=λm=>hf55 _ _ (λ_=>rfl)
 exact ⟨.kq [v3,v17,v31],(lL (vs:=[v3,v17,v31]) rfl (jU (Sep.arg (i:=2) hS34 rfl) (jU (Sep.arg (i:=1) hS34 rfl) (jU (Sep.arg (i:=0) hS34 rfl) kE)))),.kq [Row.av oL r43,Row.av oL r48,Row.av oL r53],(show freeze false { H33 with cH:=[] } 8 (.kq [v3,v17,v31])=some (.kq [Row.av oL r43,Row.av oL r48,Row.av oL r53]) by simp only [FZ,hz46,hz51,hz56]),r43,r48,r53,zt⟩
def P69 (_a0:pv) (v:AV):Prop:=∃ r0:Bool,(True)/\v=.bool r0
def t69 (a0:pv) :Ct 69 [.str a0.l] (P69 a0):=by
 refine j9 Mz ?_
 refine bI ?_
 refine bG ?_
 have hNk1:=a0.lk
 refine jW a0.l.length (λk1 e h=>At [0,3] [.str a0.l,bY k1] aT.empty [] e h) ?_ (k0:=0) eG atR
 rintro k1 e h hkk1 hA
 refine bo ?_
 refine kx (λh2=>?_) (λh2=>?_)
 refine bg ?_
 refine ae ?_
 have hx3:k1<a0.l.length:=by omega
 refine jP rfl (λ_=>yy (n:=k1) (s:=a0.l) rfl rfl rfl rfl hx3) ?_
 generalize hqc4:a0.l[k1]=c4
 refine aZ ?_
 refine mV (λh5=>?_) (λh5=>?_)
 refine am ?_
 refine s5 (λh6=>?_) (λh6=>?_)
 refine oV ?_
 refine db ?_
 refine bh ?_
 refine a6 ?_
 iterate 10 refine oS ?_
 refine cq ?_
 refine kD ?_
 refine ab ?_
 exact ic
 refine aF ?_
 refine mV (λh7=>?_) (λh7=>?_)
 refine am ?_
 refine s5 (λh8=>?_) (λh8=>?_)
 refine dM ?_
 refine bv ?_
 refine cw ?_
 refine cq ?_
 refine kD ?_
 refine ab ?_
 exact ic
 refine bu ?_
 refine bL ?_
 refine kR (λh9=>?_) (λh9=>?_)
 refine bv ?_
 refine bi ?_
 refine bJ ?_
 exact iq
 refine am ?_
 refine kx (λh10=>?_) (λh10=>?_)
 refine bi ?_
 refine bJ ?_
 exact iq
 refine aF ?_
 refine ma (λh11=>?_) (λh11=>?_)
 refine bJ ?_
 exact iq
 refine oV ?_
 refine cq ?_
 refine kD ?_
 refine ab ?_
 exact ic
 refine bv ?_
 refine bu ?_
 refine bL ?_
 refine kR (λh12=>?_) (λh12=>?_)
 refine bv ?_
 refine bi ?_
 refine bJ ?_
 exact iq
 refine am ?_
 refine kx (λh13=>?_) (λh13=>?_)
 refine bi ?_
 refine bJ ?_
 exact iq
 refine aF ?_
 refine ma (λh14=>?_) (λh14=>?_)
 refine bJ ?_
 exact iq
 refine oV ?_
 refine cq ?_
 refine kD ?_
 refine ab ?_
 exact ic
 refine bv ?_
 refine aF ?_
 refine mV (λh15=>?_) (λh15=>?_)
 refine am ?_
 refine s5 (λh16=>?_) (λh16=>?_)
 refine dM ?_
 refine bv ?_
 refine cw ?_
 refine cq ?_
 refine kD ?_
 refine ab ?_
 exact ic
 refine bu ?_
 refine bL ?_
 refine kR (λh17=>?_) (λh17=>?_)
 refine bv ?_
 refine bi ?_
 refine bJ ?_
 exact iq
 refine am ?_
 refine kx (λh18=>?_) (λh18=>?_)
 refine bi ?_
 refine bJ ?_
 exact iq
 refine aF ?_
 refine ma (λh19=>?_) (λh19=>?_)
 refine bJ ?_
 exact iq
 refine oV ?_
 refine cq ?_
 refine kD ?_
 refine ab ?_
 exact ic
 refine bv ?_
 refine bu ?_
 refine bL ?_
 refine kR (λh20=>?_) (λh20=>?_)
 refine bv ?_
 refine bi ?_
 refine bJ ?_
 exact iq
 refine am ?_
 refine kx (λh21=>?_) (λh21=>?_)
 refine bi ?_
 refine bJ ?_
 exact iq
 refine aF ?_
 refine ma (λh22=>?_) (λh22=>?_)
 refine bJ ?_
 exact iq
 refine oV ?_
 refine cq ?_
 refine kD ?_
 refine ab ?_
 exact ic
 refine aN ?_
 refine ae ?_
 refine mV (λh23=>?_) (λh23=>?_)
 refine aF ?_
 refine s5 (λh24=>?_) (λh24=>?_)
 refine aR ?_
 exact io
 refine aR ?_
 exact iq
 refine cm ?_
 refine aR ?_
 exact iq
def P86 (_a0:Int) (v:AV):Prop:=∃ r0:Int,(((_a0=1->r0=2)/\(_a0=2->r0=3)/\(_a0=3->r0=4)/\(_a0=4->r0=1)/\0<=r0/\r0<=4))/\v=iv r0
def t86 (a0:Int) :Ct 86 [iv a0] (P86 a0):=by
 refine j9 Mb ?_
 refine aY ?_
 refine dv ?_
 refine kR (λh1=>?_) (λh1=>?_)
 refine au ?_
 exact xB ⟨2,eG,rfl⟩
 refine br ?_
 refine kR (λh2=>?_) (λh2=>?_)
 refine au ?_
 exact xB ⟨3,eG,rfl⟩
 refine br ?_
 refine kR (λh3=>?_) (λh3=>?_)
 refine au ?_
 exact xB ⟨4,eG,rfl⟩
 refine br ?_
 refine kR (λh4=>?_) (λh4=>?_)
 refine au ?_
 exact xB ⟨1,eG,rfl⟩
 refine aH ?_
 refine aU ?_
 exact xB ⟨0,eG,rfl⟩
def ZB (_a0:Int) (_a1:Int) (_a2:Int) (v:AV):Prop:=∃ r0:Bool,(True)/\v=.bool r0
def t204 (a0:Int) (a1:Int) (a2:Int) :Ct 204 [iv a0,iv a1,iv a2] (ZB a0 a1 a2):=by
 refine j9 Jk ?_
 refine cX ?_
 refine mV (λh1=>?_) (λh1=>?_)
 refine aF ?_
 refine s5 (λh2=>?_) (λh2=>?_)
 refine aR ?_
 exact io
 refine aR ?_
 exact iq
 refine cm ?_
 refine aR ?_
 exact iq
def aar (_a0:iF) (v:AV):Prop:=∃ r0:Bool,(True)/\v=.bool r0
def t133 (a0:iF) :Ct 133 [.agg (iF.ag a0)] (aar a0):=by
 refine j9 Gf ?_
 refine bT ?_
 refine aX ?_
 refine oC (t204 a0.top 1 60) ?_
 rintro _ ⟨r2,hc1,rfl⟩
 cases r2
 refine aQ ?_
 refine aQ ?_
 refine aQ ?_
 refine ce ?_
 exact iq
 refine aK ?_
 refine oC (t204 a0.kU 1 10) ?_
 rintro _ ⟨r4,hc3,rfl⟩
 cases r4
 refine oV ?_
 refine aQ ?_
 refine aQ ?_
 refine ce ?_
 exact iq
 refine aP ?_
 refine oC (t204 a0.kK 1 4000) ?_
 rintro _ ⟨r6,hc5,rfl⟩
 cases r6
 refine oV ?_
 refine aQ ?_
 refine ce ?_
 exact iq
 refine aP ?_
 refine oC (t204 a0.kM 1 20) ?_
 rintro _ ⟨r8,hc7,rfl⟩
 cases r8
 refine oV ?_
 refine ce ?_
 exact iq
 refine aP ?_
 have hL9:=a0.elems.lk
 refine lu a0.elems ?_
 refine kR (λh10=>?_) (λh10=>?_)
 refine au ?_
 exact iq
 refine aH ?_
 refine bG ?_
 have hNk11:=a0.elems.lk
 refine jW a0.elems.l.length (λk11 e h=>At [1,3] [.la 1 0,bY k11] aT.empty [(1,(iF.ag a0))] e h) ?_ (k0:=0) eG atR
 rintro k11 e h hkk11 hA
 refine bo ?_
 have hL12:=a0.elems.lk
 refine lu a0.elems ?_
 refine kx (λh13=>?_) (λh13=>?_)
 refine bg ?_
 refine a6 ?_
 have hx14:k11<a0.elems.l.length:=by omega
 refine ml k11 a0.elems hx14 ?_
 generalize hqx15:a0.elems.l[k11]=x15
 refine dM ?_
 refine oC (t69 x15.name) ?_
 rintro _ ⟨r17,hc16,rfl⟩
 cases r17
 refine aQ ?_
 refine cY ?_
 refine cD ?_
 refine au ?_
 exact iq
 refine aK ?_
 refine oC (t86 x15.kind) ?_
 rintro _ ⟨r19,hc18,rfl⟩
 refine kR (λh20=>?_) (λh20=>?_)
 refine cY ?_
 refine cD ?_
 refine au ?_
 exact iq
 refine aK ?_
 refine kR (λh21=>?_) (λh21=>?_)
 refine aF ?_
 refine lR (λh22=>?_) (λh22=>?_)
 refine oV ?_
 refine cD ?_
 refine au ?_
 exact iq
 refine aP ?_
 refine lR (λh23=>?_) (λh23=>?_)
 refine aF ?_
 refine oC (t204 x15.len 1 4000) ?_
 rintro _ ⟨r25,hc24,rfl⟩
 cases r25
 refine oV ?_
 refine bJ ?_
 exact iq
 refine am ?_
 refine cq ?_
 refine kD ?_
 refine ab ?_
 exact ic
 refine bp ?_
 refine oV ?_
 refine cq ?_
 refine kD ?_
 refine ab ?_
 exact ic
 refine cm ?_
 refine aP ?_
 refine lR (λh26=>?_) (λh26=>?_)
 refine aF ?_
 refine oC (t204 x15.len 1 4000) ?_
 rintro _ ⟨r28,hc27,rfl⟩
 cases r28
 refine oV ?_
 refine bJ ?_
 exact iq
 refine am ?_
 refine cq ?_
 refine kD ?_
 refine ab ?_
 exact ic
 refine bp ?_
 refine oV ?_
 refine cq ?_
 refine kD ?_
 refine ab ?_
 exact ic
 refine aN ?_
 refine bG ?_
 have hNk29:=a0.signals.lk
 refine jW a0.signals.l.length (λk29 e h=>At [1,5] [.la 1 0,bY k29] aT.empty [(1,(iF.ag a0))] e h) ?_ (k0:=0) eG atR
 rintro k29 e h hkk29 hA
 refine bo ?_
 have hL30:=a0.signals.lk
 refine lu a0.signals ?_
 refine kx (λh31=>?_) (λh31=>?_)
 refine bg ?_
 refine a6 ?_
 have hx32:k29<a0.signals.l.length:=by omega
 refine ml k29 a0.signals hx32 ?_
 generalize hqx33:a0.signals.l[k29]=x33
 refine am ?_
 refine oC (t69 x33.name) ?_
 rintro _ ⟨r35,hc34,rfl⟩
 cases r35
 refine au ?_
 exact iq
 refine cq ?_
 refine kD ?_
 refine ab ?_
 exact ic
 refine aN ?_
 refine bG ?_
 have hNk36:=a0.lines.lk
 refine jW a0.lines.l.length (λk36 e h=>At [1,6] [.la 1 0,bY k36] aT.empty [(1,(iF.ag a0))] e h) ?_ (k0:=0) eG atR
 rintro k36 e h hkk36 hA
 refine bo ?_
 have hL37:=a0.lines.lk
 refine lu a0.lines ?_
 refine kx (λh38=>?_) (λh38=>?_)
 refine bg ?_
 refine a6 ?_
 have hx39:k36<a0.lines.l.length:=by omega
 refine ml k36 a0.lines hx39 ?_
 generalize hqx40:a0.lines.l[k36]=x40
 refine am ?_
 refine oC (t69 x40.name) ?_
 rintro _ ⟨r42,hc41,rfl⟩
 cases r42
 refine au ?_
 exact iq
 refine cq ?_
 refine kD ?_
 refine ab ?_
 exact ic
 refine dB ?_
 exact io
def Yg (_a0:Row pv) (v:AV):Prop:=∃ r0:Bool,(True)/\v=.bool r0
def t134 (a0:Row pv) :Ct 134 [Row.av oL a0] (Yg a0):=by
 refine j9 II ?_
 refine bI ?_
 refine bG ?_
 have hNk1:=a0.lk
 refine jW a0.l.length (λk1 e h=>At [0,3] [Row.av oL a0,bY k1] aT.empty [] e h) ?_ (k0:=0) eG atR
 rintro k1 e h hkk1 hA
 refine cC ?_
 have hL2:=a0.lk
 refine lu a0 ?_
 refine kx (λh3=>?_) (λh3=>?_)
 refine cE ?_
 refine bd ?_
 refine aC ?_
 refine jW k1 (λk4 e h=>At [0,3,4] [Row.av oL a0,bY k1,bY k4] aT.empty [] e h) ?_ (k0:=0) eG atR
 rintro k4 e h hkk4 hA
 refine cC ?_
 refine kx (λh5=>?_) (λh5=>?_)
 refine bg ?_
 refine bS ?_
 have hx6:k1<a0.l.length:=by omega
 refine ph k1 a0 hx6 ?_
 generalize hqx7:a0.l[k1]=x7
 refine bj ?_
 have hx8:k4<a0.l.length:=by omega
 refine ph k4 a0 hx8 ?_
 generalize hqx9:a0.l[k4]=x9
 refine rV ?_
 refine p9 rfl rfl (λ_=>sv rfl rfl) (λh10=>?_) (λh10=>?_)
 refine rN ?_
 refine ac ?_
 exact io
 refine c7 ?_
 refine aM ?_
 refine kD ?_
 refine ab ?_
 exact ic
 refine aN ?_
 refine aM ?_
 refine kD ?_
 refine ab ?_
 exact ic
 refine dB ?_
 exact iq
def P89 (_a0:iF) (_a1:Int) (v:AV):Prop:=∃ r0:Int,(r0=qh _a0 _a1)/\v=iv r0
def t89 (a0:iF) (a1:Int) :Ct 89 [.agg (iF.ag a0),iv a1] (P89 a0 a1):=by
 refine j9 Le ?_
 refine ai ?_
 refine ao ?_
 refine kx (λh1=>?_) (λh1=>?_)
 refine ck ?_
 refine au ?_
 exact xB ⟨0,fC,rfl⟩
 refine aK ?_
 have hL2:=a0.elems.lk
 refine lu a0.elems ?_
 refine mV (λh3=>?_) (λh3=>?_)
 refine au ?_
 exact xB ⟨0,fC,rfl⟩
 refine aH ?_
 refine a6 ?_
 have hx4:(a1).toNat<a0.elems.l.length:=by omega
 refine jP rfl (λ_=>ld (n:=a1) (r:=a0.elems) (enc:=lV.ag) rfl rfl rfl rfl rfl eG hx4 rfl) ?_
 generalize hqx5:a0.elems.l[(a1).toNat]=x5
 refine bO ?_
 exact xB ⟨x5.kind,fC,rfl⟩
def WE (_a0:iF) (_a1:jT) (v:AV):Prop:=∃ r0:Bool,((r0=true->0<=_a1.elem/\_a1.elem<(_a0.elems.l.length:Int)/\0<=_a1.en/\_a1.en<4))/\v=.bool r0
def t205 (a0:iF) (a1:jT) :Ct 205 [.agg (iF.ag a0),.agg (jT.ag a1)] (WE a0 a1):=by
 refine j9 G7 ?_
 refine co ?_
 refine bS ?_
 refine uO (λh1=>?_) (λh1=>?_)
 refine bQ ?_
 have hL2:=a0.elems.lk
 refine vx a0.elems ?_
 refine qO (λh3=>?_) (λh3=>?_)
 refine cZ ?_
 refine uO (λh4=>?_) (λh4=>?_)
 iterate 8 refine rV ?_
 have hx5:(a1.elem).toNat<a0.elems.l.length:=by omega
 refine kp rfl rfl (λ_=>ld (n:=a1.elem) (r:=a0.elems) (enc:=lV.ag) rfl rfl rfl rfl rfl eG hx5 rfl) ?_
 generalize hqx6:a0.elems.l[(a1.elem).toNat]=x6
 refine aI ?_
 refine rC (t86 x6.kind) ?_
 rintro _ ⟨r8,hc7,rfl⟩
 refine qO (λh9=>?_) (λh9=>?_)
 refine aV ?_
 exact iu
 refine aV ?_
 exact ir
 refine dc ?_
 iterate 5 refine rS ?_
 refine aV ?_
 exact ir
 refine bW ?_
 iterate 11 refine rS ?_
 refine aV ?_
 exact ir
 refine d5 ?_
 refine bW ?_
 iterate 11 refine rS ?_
 refine aV ?_
 exact ir
def Zd (_a0:iF) (_a1:jT) (v:AV):Prop:=∃ r0:jT,∃ r1:Bool,(((r1=true->nN _a0.kg.l _a1=some r0)/\(r1=false->nN _a0.kg.l _a1=none)))/\v=.kq [.agg (jT.ag r0),.bool r1]
def t206 (a0:iF) (a1:jT) :Ct 206 [.agg (iF.ag a0),.agg (jT.ag a1)] (Zd a0 a1):=by
 refine j9 Hm ?_
 refine aa ?_
 refine bZ ?_
 refine bG ?_
 have hNk1:=a0.kg.lk
 refine jW a0.kg.l.length (λk1 e h=>(nN (a0.kg.l.drop k1) a1=nN a0.kg.l a1)/\At [2,3,4,6] [.la 2 0,.la 3 0,.la 4 0,bY k1] aT.empty [(2,(iF.ag a0)),(3,(jT.ag a1)),(4,[iv 0,iv 0])] e h) ?_ (k0:=0) eG ⟨gm,atR⟩
 rintro k1 e h hkk1 ⟨hI,hA⟩
 refine bo ?_
 have hL2:=a0.kg.lk
 refine lu a0.kg ?_
 refine kx (λh3=>?_) (λh3=>?_)
 refine bg ?_
 refine qs ?_
 refine da ?_
 have hx4:k1<a0.kg.l.length:=by omega
 refine ph k1 a0.kg hx4 ?_
 generalize hqx5:a0.kg.l[k1]=x5
 refine bj ?_
 refine p9 rfl rfl (λ_=>tY rfl rfl rfl (λ_ _=>rfl)) (λh6=>?_) (λh6=>?_)
 refine dZ ?_
 refine a6 ?_
 have hx7:k1<a0.kg.l.length:=by omega
 refine ml k1 a0.kg hx7 ?_
 rw [hqx5]
 refine ci ?_
 exact xG ⟨x5.b,true,fG,rfl⟩
 refine c7 ?_
 refine da ?_
 have hx9:k1<a0.kg.l.length:=by omega
 refine ph k1 a0.kg hx9 ?_
 rw [hqx5]
 refine bj ?_
 refine p9 rfl rfl (λ_=>tY rfl rfl rfl (λ_ _=>rfl)) (λh11=>?_) (λh11=>?_)
 refine dZ ?_
 refine a6 ?_
 have hx12:k1<a0.kg.l.length:=by omega
 refine ml k1 a0.kg hx12 ?_
 rw [hqx5]
 refine ci ?_
 exact xG ⟨x5.a,true,fG,rfl⟩
 refine c7 ?_
 refine aM ?_
 refine kD ?_
 refine ab ?_
 exact ⟨by omega,(by (exact (Kg ez ez ez ez).trans hI)),atR⟩
 refine aN ?_
 refine dh ?_
 exact xG ⟨(⟨0,0⟩:jT),false,fG,rfl⟩
def YG (_a0:iF) (v:AV):Prop:=∃ r0:Bool,(True)/\v=.bool r0
def t135 (a0:iF) (q1:mB a0):Ct 135 [.agg (iF.ag a0)] (YG a0):=by
 refine j9 Jw ?_
 have q2:=q1.elems; have q3:=q1.kg
 refine bT ?_
 refine bI ?_
 refine bG ?_
 have hS1:=Sep.mf kV 2
 have hNk2:=a0.kg.lk
 refine jW a0.kg.l.length (λk2 e h=>∃ v3:AV,∃ l4:List jT,∃ H5:aT,(l4.length<=0+2*k2)/\Sep H5 (my jT.ag 2 v3 l4::[])/\At [1,3,4] [.la 1 0,v3,bY k2] H5 [(1,(iF.ag a0))] e h) ?_ (k0:=0) eG ⟨iN,(([]:List jT)),aT.empty,ff,hS1,atR⟩
 rintro k2 e h hkk2 ⟨v3,l4,H5,hl7,hS6,hA⟩
 refine bo ?_
 have hL8:=a0.kg.lk
 refine lu a0.kg ?_
 refine kx (λh9=>?_) (λh9=>?_)
 refine cE ?_
 refine wz [.la 1 0,v3,bY k2] H5 [(1,(iF.ag a0))] ?_ (kh hS6 [(3,0)])
 refine ay ?_
 refine qd ?_
 refine cZ ?_
 have hx10:k2<a0.kg.l.length:=by omega
 refine ph k2 a0.kg hx10 ?_
 generalize hqx11:a0.kg.l[k2]=x11
 refine bQ ?_
 have hx12:k2<a0.kg.l.length:=by omega
 refine ph k2 a0.kg hx12 ?_
 rw [hqx11]
 refine bj ?_
 refine lH rfl rfl (kZ (i:=0) [x11.a,x11.b] hS6 rfl rfl rfl rfl rfl rfl rfl rfl rfl (λ_=>rfl) (.inl rfl) eE (λ_=>rfl)) ?_
 rintro v14 H15 hS16
 refine aO ?_
 refine wz [.la 1 0,v14,bY k2] H15 [(1,(iF.ag a0))] ?_ (kh hS16 [(3,0)])
 refine aM ?_
 refine kD ?_
 refine ab ?_
 exact ⟨by omega,v14,((l4++[x11.a,x11.b])),H15,eC,hS16,(kh hS16 [(3,0)])⟩
 refine aN ?_
 refine wz [.la 1 0,v3] H5 [(1,(iF.ag a0))] ?_ (kh hS6 [(3,0)])
 refine bG ?_
 refine jW l4.length (λk17 e h=>At [1,3,5] [.la 1 0,v3,bY k17] H5 [(1,(iF.ag a0))] e h) ?_ (k0:=0) eG (kh hS6 [(3,0)])
 rintro k17 e h hkk17 hA
 refine cC ?_
 refine jP rfl (λ_=>nb (i:=0) hS6 rfl rfl rfl rfl rfl rfl rfl) ?_
 refine kx (λh18=>?_) (λh18=>?_)
 refine cE ?_
 refine wz [.la 1 0,v3,bY k17] H5 [(1,(iF.ag a0))] ?_ (kh hS6 [(3,0)])
 refine ay ?_
 refine qs ?_
 refine da ?_
 have hx19:k17<l4.length:=by first | omega | (simp<;>omega) | (simp_all; omega)
 obtain ⟨x20,hqx20⟩:∃ x,l4[k17]=x:=⟨_,rfl⟩
 refine nk rfl rfl (lO (i:=0) (m:=k17) (cs:=jT.ag x20) hS6 rfl rfl rfl rfl rfl rfl rfl (lA hx19 hqx20)) ?_
 rintro a21 ⟨ha22,hea23⟩
 refine kp rfl rfl (λ_=>mK (i:=0) (m:=k17) (o:=0) (r:=.agg (jT.ag x20)) (cs:=jT.ag x20) hS6 rfl (lA hx19 hqx20) hea23 rfl rfl ha22) ?_
 refine rC (t205 a0 x20) ?_
 rintro _ ⟨r25,hc24,rfl⟩
 cases r25
 clear hc24
 refine aO ?_
 refine ac ?_
 exact iq
 have hc24t:=hc24 rfl
 refine bA ?_
 refine wz [.la 1 0,v3,bY k17] H5 [(1,(iF.ag a0))] ?_ (kh hS6 [(3,0)])
 refine aa ?_
 refine aC ?_
 refine jW k17 (λk26 e h=>At [1,3,5,6] [.la 1 0,v3,bY k17,bY k26] H5 [(1,(iF.ag a0))] e h) ?_ (k0:=0) eG (kh hS6 [(3,0)])
 rintro k26 e h hkk26 hA
 refine cC ?_
 refine kx (λh27=>?_) (λh27=>?_)
 refine cE ?_
 refine wz [.la 1 0,v3,bY k17,bY k26] H5 [(1,(iF.ag a0))] ?_ (kh hS6 [(3,0)])
 refine ay ?_
 refine bS ?_
 have hx28:k26<l4.length:=by first | omega | (simp<;>omega) | (simp_all; omega)
 obtain ⟨x29,hqx29⟩:∃ x,l4[k26]=x:=⟨_,rfl⟩
 refine nk rfl rfl (lO (i:=0) (m:=k26) (cs:=jT.ag x29) hS6 rfl rfl rfl rfl rfl rfl rfl (lA hx28 hqx29)) ?_
 rintro a30 ⟨ha31,hea32⟩
 refine kp rfl rfl (λ_=>mK (i:=0) (m:=k26) (o:=0) (r:=.agg (jT.ag x29)) (cs:=jT.ag x29) hS6 rfl (lA hx28 hqx29) hea32 rfl rfl ha31) ?_
 refine aI ?_
 have hx33:k17<l4.length:=by first | omega | (simp<;>omega) | (simp_all; omega)
 refine nk rfl rfl (lO (i:=0) (m:=k17) (cs:=jT.ag x20) hS6 rfl rfl rfl rfl rfl rfl rfl (lA hx33 hqx20)) ?_
 rintro a34 ⟨ha35,hea36⟩
 refine kp rfl rfl (λ_=>mK (i:=0) (m:=k17) (o:=0) (r:=.agg (jT.ag x20)) (cs:=jT.ag x20) hS6 rfl (lA hx33 hqx20) hea36 rfl rfl ha35) ?_
 refine p9 rfl rfl (λ_=>tY rfl rfl rfl (λ_ _=>rfl)) (λh37=>?_) (λh37=>?_)
 refine rN ?_
 refine ac ?_
 exact iq
 refine c7 ?_
 refine wz [.la 1 0,v3,bY k17,bY k26] H5 [(1,(iF.ag a0))] ?_ (kh hS6 [(3,0)])
 refine aM ?_
 refine kD ?_
 refine ab ?_
 exact ⟨by omega,(kh hS6 [(3,0)])⟩
 refine aN ?_
 refine wz [.la 1 0,v3,bY k17] H5 [(1,(iF.ag a0))] ?_ (kh hS6 [(3,0)])
 refine aM ?_
 refine kD ?_
 refine ab ?_
 exact ⟨by omega,(kh hS6 [(3,0)])⟩
 refine aN ?_
 refine bG ?_
 have hNk38:=a0.elems.lk
 refine jW a0.elems.l.length (λk38 e h=>At [1,7] [.la 1 0,bY k38] H5 [(1,(iF.ag a0))] e h) ?_ (k0:=0) eG atR
 rintro k38 e h hkk38 hA
 refine bo ?_
 have hL39:=a0.elems.lk
 refine lu a0.elems ?_
 refine kx (λh40=>?_) (λh40=>?_)
 refine bg ?_
 refine a6 ?_
 have hx41:k38<a0.elems.l.length:=by omega
 refine ml k38 a0.elems hx41 ?_
 generalize hqx42:a0.elems.l[k38]=x42
 refine am ?_
 refine kR (λh43=>?_) (λh43=>?_)
 refine az ?_
 refine a6 ?_
 refine oC (t206 a0 (⟨((k38:Int)),0⟩:jT)) ?_
 rintro _ ⟨r45,r46,hc44,rfl⟩
 have hN:=hc44
 cases r46
 refine bM ?_
 refine cz ?_
 refine au ?_
 exact iq
 refine bM ?_
 refine aP ?_
 refine oC (t89 a0 r45.elem) ?_
 rintro _ ⟨r48,hc47,rfl⟩
 refine kR (λh49=>?_) (λh49=>?_)
 refine au ?_
 exact iq
 refine cq ?_
 refine kD ?_
 refine ab ?_
 exact ic
 refine ah ?_
 refine aM ?_
 refine kD ?_
 refine ab ?_
 exact ic
 refine dB ?_
 exact io
def P87 (_a0:iF) (_a1:jT) (v:AV):Prop:=∃ r0:Int,(r0=(rE _a0.signals.l _a1).getD (-1))/\v=iv r0
def t87 (a0:iF) (a1:jT) :Ct 87 [.agg (iF.ag a0),.agg (jT.ag a1)] (P87 a0 a1):=by
 refine j9 No ?_
 refine co ?_
 refine bG ?_
 have hNk1:=a0.signals.lk
 refine jW a0.signals.l.length (λk1 e h=>(om a1 k1 (a0.signals.l.drop k1)=rE a0.signals.l a1)/\At [2,3,5] [.la 2 0,.la 3 0,bY k1] aT.empty [(2,(iF.ag a0)),(3,(jT.ag a1))] e h) ?_ (k0:=0) eG ⟨gm,atR⟩
 rintro k1 e h hkk1 ⟨hI,hA⟩
 refine bo ?_
 have hL2:=a0.signals.lk
 refine lu a0.signals ?_
 refine kx (λh3=>?_) (λh3=>?_)
 refine bg ?_
 refine da ?_
 have hx4:k1<a0.signals.l.length:=by omega
 refine ph k1 a0.signals hx4 ?_
 generalize hqx5:a0.signals.l[k1]=x5
 refine bj ?_
 refine p9 rfl rfl (λ_=>tY rfl rfl rfl (λ_ _=>rfl)) (λh6=>?_) (λh6=>?_)
 refine dZ ?_
 refine bR ?_
 exact xB ⟨((k1:Int)),gF,rfl⟩
 refine c7 ?_
 refine aM ?_
 refine kD ?_
 refine ab ?_
 exact ⟨by omega,(by (exact (BN ez ez ez).trans hI)),atR⟩
 refine dB ?_
 exact xB ⟨(-1),gF,rfl⟩
def Y1 (_a0:iF) (v:AV):Prop:=∃ r0:Bool,(True)/\v=.bool r0
def t136 (a0:iF) :Ct 136 [.agg (iF.ag a0)] (Y1 a0):=by
 refine j9 HF ?_
 refine bT ?_
 refine bG ?_
 have hNk1:=a0.signals.lk
 refine jW a0.signals.l.length (λk1 e h=>At [1,3] [.la 1 0,bY k1] aT.empty [(1,(iF.ag a0))] e h) ?_ (k0:=0) eG atR
 rintro k1 e h hkk1 hA
 refine bo ?_
 have hL2:=a0.signals.lk
 refine lu a0.signals ?_
 refine kx (λh3=>?_) (λh3=>?_)
 refine bg ?_
 refine a6 ?_
 have hx4:k1<a0.signals.l.length:=by omega
 refine ml k1 a0.signals hx4 ?_
 generalize hqx5:a0.signals.l[k1]=x5
 refine bZ ?_
 refine a6 ?_
 refine oC (t89 a0 x5.at_.elem) ?_
 rintro _ ⟨r7,hc6,rfl⟩
 refine ab ?_
 refine aX ?_
 refine oC (t205 a0 x5.at_) ?_
 rintro _ ⟨r9,hc8,rfl⟩
 cases r9
 clear hc8
 refine oV ?_
 refine db ?_
 refine au ?_
 exact iq
 have hc8t:=hc8 rfl
 refine aF ?_
 refine lR (λh10=>?_) (λh10=>?_)
 refine am ?_
 refine lR (λh11=>?_) (λh11=>?_)
 refine bJ ?_
 exact iq
 refine am ?_
 refine dz ?_
 refine oC (t206 a0 x5.at_) ?_
 rintro _ ⟨r13,r14,hc12,rfl⟩
 have hN:=hc12
 cases r14
 refine bM ?_
 refine aD ?_
 refine au ?_
 exact iq
 refine bM ?_
 refine aP ?_
 refine oC (t89 a0 r13.elem) ?_
 rintro _ ⟨r16,hc15,rfl⟩
 refine kR (λh17=>?_) (λh17=>?_)
 refine cz ?_
 refine au ?_
 exact iq
 refine aK ?_
 refine oC (t87 a0 x5.at_) ?_
 rintro _ ⟨r19,hc18,rfl⟩
 have hR:=hc18
 refine oV ?_
 refine lR (λh20=>?_) (λh20=>?_)
 refine au ?_
 exact iq
 refine cq ?_
 refine kD ?_
 refine ab ?_
 exact ic
 refine bv ?_
 refine am ?_
 refine dz ?_
 refine oC (t206 a0 x5.at_) ?_
 rintro _ ⟨r22,r23,hc21,rfl⟩
 have hN:=hc21
 cases r23
 refine bM ?_
 refine aD ?_
 refine au ?_
 exact iq
 refine bM ?_
 refine aP ?_
 refine oC (t89 a0 r22.elem) ?_
 rintro _ ⟨r25,hc24,rfl⟩
 refine kR (λh26=>?_) (λh26=>?_)
 refine cz ?_
 refine au ?_
 exact iq
 refine aK ?_
 refine oC (t87 a0 x5.at_) ?_
 rintro _ ⟨r28,hc27,rfl⟩
 have hR:=hc27
 refine oV ?_
 refine lR (λh29=>?_) (λh29=>?_)
 refine au ?_
 exact iq
 refine cq ?_
 refine kD ?_
 refine ab ?_
 exact ic
 refine aN ?_
 refine bG ?_
 have hNk30:=a0.elems.lk
 refine jW a0.elems.l.length (λk30 e h=>At [1,8] [.la 1 0,bY k30] aT.empty [(1,(iF.ag a0))] e h) ?_ (k0:=0) eG atR
 rintro k30 e h hkk30 hA
 refine bo ?_
 have hL31:=a0.elems.lk
 refine lu a0.elems ?_
 refine kx (λh32=>?_) (λh32=>?_)
 refine bg ?_
 refine a6 ?_
 have hx33:k30<a0.elems.l.length:=by omega
 refine ml k30 a0.elems hx33 ?_
 generalize hqx34:a0.elems.l[k30]=x34
 refine am ?_
 refine kR (λh35=>?_) (λh35=>?_)
 refine aK ?_
 refine oC (t87 a0 (⟨((k30:Int)),0⟩:jT)) ?_
 rintro _ ⟨r37,hc36,rfl⟩
 have hR:=hc36
 refine kx (λh38=>?_) (λh38=>?_)
 refine au ?_
 exact iq
 refine cq ?_
 refine kD ?_
 refine ab ?_
 exact ic
 refine ck ?_
 refine cq ?_
 refine kD ?_
 refine ab ?_
 exact ic
 refine dB ?_
 exact io
def Oo (_a0:jS Int) (_a1:Int) (v:AV):Prop:=∃ r0:Bool,(True)/\v=.bool r0
def t39 (a0:jS Int) (a1:Int) :Ct 39 [ly a0,iv a1] (Oo a0 a1):=by
 refine j9 Ni ?_
 refine bI ?_
 refine bG ?_
 have hNk1:=a0.lk
 refine jW a0.l.length (λk1 e h=>At [0,1,5] [ly a0,iv a1,bY k1] aT.empty [] e h) ?_ (k0:=0) eG atR
 rintro k1 e h hkk1 hA
 refine cC ?_
 have hL2:=a0.lk
 refine jP rfl (λ_=>m8 (r:=a0) (enc:=j6) rfl rfl rfl rfl rfl rfl) ?_
 refine kx (λh3=>?_) (λh3=>?_)
 refine bg ?_
 refine ae ?_
 have hx4:k1<a0.l.length:=by omega
 refine jP rfl (λ_=>mJ (n:=k1) (r:=a0) (enc:=j6) rfl rfl rfl rfl rfl hx4 rfl) ?_
 generalize hqx5:a0.l[k1]=x5
 refine am ?_
 refine kR (λh6=>?_) (λh6=>?_)
 refine aW ?_
 exact io
 refine ah ?_
 refine aM ?_
 refine kD ?_
 refine ab ?_
 exact ic
 refine dB ?_
 exact iq
def X7 (_a0:iF) (_a1:Row Int) (v:AV):Prop:=∃ r0:Row Int,∃ r1:Bool,(True)/\v=.kq [kN r0,.bool r1]
def t207 (a0:iF) (a1:Row Int) (q1:a1.l.length<=1000):Ct 207 [.agg (iF.ag a0),kN a1] (X7 a0 a1):=by
 refine j9 I4 ?_
 refine ae ?_
 refine ao ?_
 have hL1:=a1.lk
 refine lu a1 ?_
 refine kR (λh2=>?_) (λh2=>?_)
 refine aJ ?_
 exact jk
 refine ah ?_
 refine bG ?_
 have hNk3:=a1.lk
 refine jW a1.l.length (λk3 e h=>At [1,2,6] [kN a1,.la 2 0,bY k3] aT.empty [(2,(iF.ag a0))] e h) ?_ (k0:=0) eG atR
 rintro k3 e h hkk3 hA
 refine cC ?_
 have hL4:=a1.lk
 refine lu a1 ?_
 refine kx (λh5=>?_) (λh5=>?_)
 refine bg ?_
 refine da ?_
 have hx6:k3<a1.l.length:=by omega
 refine ph k3 a1 hx6 ?_
 generalize hqx7:a1.l[k3]=x7
 refine rV ?_
 refine rC (t89 a0 x7) ?_
 rintro _ ⟨r9,hc8,rfl⟩
 refine u6 (λh10=>?_) (λh10=>?_)
 refine dZ ?_
 refine bR ?_
 exact jk
 refine c7 ?_
 refine aM ?_
 refine kD ?_
 refine ab ?_
 exact ic
 refine aN ?_
 refine aq ?_
 have hL11:=a1.lk
 refine lu a1 ?_
 refine kR (λh12=>?_) (λh12=>?_)
 refine cJ ?_
 exact xG ⟨(⟨[0],.exact 1,pR,rfl,nE⟩:Row Int),true,zt⟩
 refine ah ?_
 refine bI ?_
 refine bG ?_
 refine oe (λm17 e h=>∃ n13:Int,∃ n14:Int,m17=(n14+1).toNat/\(-1<=n14)/\(n14<=1)/\At [1,2,7,8] [kN a1,.la 2 0,iv n13,iv n14] aT.empty [(2,(iF.ag a0))] e h) ?_ _ _ _ ⟨(-1),1,rfl,eG,eG,atR⟩
 rintro m17 e h ⟨n13,n14,hmm17,hi15,hi16,hA⟩
 refine rP hA ?_
 refine aq ?_
 refine mV (λh18=>?_) (λh18=>?_)
 refine bg ?_
 refine bS ?_
 have hx19:0<a1.l.length:=by omega
 refine ph 0 a1 hx19 ?_
 generalize hqx20:a1.l[0]=x20
 refine bj ?_
 refine rC (t206 a0 (⟨x20,n14⟩:jT)) ?_
 rintro _ ⟨r22,r23,hc21,rfl⟩
 have hN:=hc21
 cases r23
 refine bP ?_
 refine aL ?_
 refine dc ?_
 refine bA ?_
 refine aM ?_
 refine pL ?_
 refine ab ?_
 refine ⟨_,?_,n13,(n14 - 1),rfl,eG,eG,atR⟩
 omega
 refine bP ?_
 refine dj ?_
 have hx24:1<a1.l.length:=by omega
 refine ph 1 a1 hx24 ?_
 generalize hqx25:a1.l[1]=x25
 refine rV ?_
 refine xA (λh26=>?_) (λh26=>?_)
 refine c8 ?_
 refine qg ?_
 refine bh ?_
 refine aM ?_
 refine pL ?_
 refine ab ?_
 refine ⟨_,?_,n14,(n14 - 1),rfl,eG,eG,atR⟩
 omega
 refine bA ?_
 refine aM ?_
 refine pL ?_
 refine ab ?_
 refine ⟨_,?_,n13,(n14 - 1),rfl,eG,eG,atR⟩
 omega
 refine aN ?_
 refine aq ?_
 refine kx (λh27=>?_) (λh27=>?_)
 refine aJ ?_
 exact jk
 refine ah ?_
 refine ai ?_
 refine jP rfl (λ_=>me rfl rfl rfl (ru .i64 1 n13)) ?_
 refine bh ?_
 refine bG ?_
 have hS28:=Sep.OP kV 1 (List.map j6 [(IntKind.i64.wrap (1 - n13))]) gX (k:=1) rfl
 have hNk29:=a1.lk
 refine jW a1.l.length (λk29 e h=>∃ v30:AV,∃ l31:List Int,∃ n32:Int,∃ H33:aT,(1<=k29)/\(l31.length<=1+k29)/\Sep H33 (JS j6 1 v30 l31::[])/\At [1,2,7,11,12] [kN a1,.la 2 0,iv n32,v30,bY k29] H33 [(2,(iF.ag a0))] e h) ?_ (k0:=1) eG ⟨((.sl (List.map j6 [(IntKind.i64.wrap (1 - n13))]) (.exact 1))),([(IntKind.i64.wrap (1 - n13))]),n13,aT.empty,eG,ff,hS28,atR⟩
 rintro k29 e h hkk29 ⟨v30,l31,n32,H33,hw35,hl36,hS34,hA⟩
 refine cC ?_
 have hL37:=a1.lk
 refine lu a1 ?_
 refine kx (λh38=>?_) (λh38=>?_)
 refine cE ?_
 refine wz [kN a1,.la 2 0,iv n32,v30,bY k29] H33 [(2,(iF.ag a0))] ?_ (kh hS34 [(11,0)])
 refine ay ?_
 refine da ?_
 refine Ru ?_
 have hx39:((k29:Int) - 1).toNat<a1.l.length:=by omega
 refine kp rfl rfl (λ_=>ld (n:=(k29:Int) - 1) (r:=a1) (enc:=j6) rfl rfl rfl rfl rfl eG hx39 rfl) ?_
 generalize hqx40:a1.l[((k29:Int) - 1).toNat]=x40
 refine bj ?_
 refine rC (t206 a0 (⟨x40,n32⟩:jT)) ?_
 rintro _ ⟨r42,r43,hc41,rfl⟩
 have hN:=hc41
 cases r43
 refine bP ?_
 refine qs ?_
 refine da ?_
 iterate 7 refine rS ?_
 refine c8 ?_
 refine bR ?_
 exact jk
 refine bP ?_
 refine qs ?_
 refine cF ?_
 refine dp ?_
 have hx44:k29<a1.l.length:=by omega
 refine ph k29 a1 hx44 ?_
 generalize hqx45:a1.l[k29]=x45
 refine rV ?_
 refine u6 (λh46=>?_) (λh46=>?_)
 refine c8 ?_
 refine bR ?_
 exact jk
 refine bA ?_
 refine wz [kN a1,.la 2 0,v30,bY k29,.la 13 0] H33 [(2,(iF.ag a0)),(13,(jT.ag r42))] ?_ (kh hS34 [(11,0)])
 refine bL ?_
 refine kn rfl (kZ (i:=0) [r42.en] hS34 rfl rfl rfl rfl rfl rfl rfl rfl rfl (λ_=>rfl) (.inl rfl) eE (λ_=>rfl)) ?_
 rintro v47 H48 hS49
 refine ab ?_
 refine cu ?_
 refine jP rfl (λ_=>me rfl rfl rfl (ru .i64 1 r42.en)) ?_
 refine ab ?_
 refine wz [kN a1,.la 2 0,iv (IntKind.i64.wrap (1 - r42.en)),v47,bY k29] H48 [(2,(iF.ag a0))] ?_ (kh hS49 [(11,0)])
 refine aM ?_
 refine kD ?_
 refine ab ?_
 exact ⟨by omega,v47,((l31++[r42.en])),(IntKind.i64.wrap (1 - r42.en)),H48,eG,eC,hS49,(kh hS49 [(11,0)])⟩
 refine aN ?_
 refine wz [v30] H33 [] ?_ (kh hS34 [(11,0)])
 refine dh ?_
 obtain ⟨r50,hl51,hf52⟩:=lK (H:=H33) (i:=0) (l:=l31) (enc:=j6) hS34 rfl eA
 have hlq:=hl51; have hln54:=congrArg List.length hl51
 have hz53:∀ m,freeze false { H33 with cH:=[] } (m+2) v30=some (kN r50):=λm=>hf52 _ _ (λ_=>rfl)
 exact ⟨.kq [v30,.bool true],(lL (vs:=[v30,.bool true]) rfl (jU (Sep.arg (i:=0) hS34 rfl) (jU rfl kE))),.kq [kN r50,.bool true],(show freeze false { H33 with cH:=[] } 8 (.kq [v30,.bool true])=some (.kq [kN r50,.bool true]) by simp only [FZ,hz53]),r50,true,zt⟩
def Zw (_a0:iF) (v:AV):Prop:=∃ r0:Bool,(True)/\v=.bool r0
def t137 (a0:iF) (q1:mB a0):Ct 137 [.agg (iF.ag a0)] (Zw a0):=by
 refine j9 HE ?_
 have q2:=q1.lines
 refine bT ?_
 refine bI ?_
 refine bG ?_
 have hS1:=Sep.mf kV 1
 have hNk2:=a0.lines.lk
 refine jW a0.lines.l.length (λk2 e h=>∃ v3:AV,∃ l4:List Int,∃ H5:aT,(l4.length<=60*k2)/\Sep H5 (lG v3 l4::[])/\At [1,3,4] [.la 1 0,v3,bY k2] H5 [(1,(iF.ag a0))] e h) ?_ (k0:=0) eG ⟨iN,(([]:List Int)),aT.empty,fS,hS1,atR⟩
 rintro k2 e h hkk2 ⟨v3,l4,H5,hI,hS6,hA⟩
 refine bo ?_
 have hL7:=a0.lines.lk
 refine lu a0.lines ?_
 refine kx (λh8=>?_) (λh8=>?_)
 refine cE ?_
 refine wz [.la 1 0,v3,bY k2] H5 [(1,(iF.ag a0))] ?_ (kh hS6 [(3,0)])
 refine ay ?_
 refine a6 ?_
 have hx9:k2<a0.lines.l.length:=by omega
 refine ml k2 a0.lines hx9 ?_
 generalize hqx10:a0.lines.l[k2]=x10
 have hinx10:x10∈a0.lines.l:=by rw [<- hqx10]; exact List.getElem_mem _
 have hsx10:=q1.line x10 hinx10
 refine bu ?_
 refine bG ?_
 have hNk11:=x10.elems.lk
 refine jW x10.elems.l.length (λk11 e h=>∃ v12:AV,∃ l13:List Int,∃ H14:aT,(l13.length<=l4.length+k11)/\Sep H14 (lG v12 l13::[])/\At [1,3,4,5,6] [.la 1 0,v12,bY k2,kN x10.elems,bY k11] H14 [(1,(iF.ag a0))] e h) ?_ (k0:=0) eG ⟨v3,l4,H5,ff,hS6,(kh hS6 [(3,0)])⟩
 rintro k11 e h hkk11 ⟨v12,l13,H14,hl16,hS15,hA⟩
 refine cC ?_
 have hL17:=x10.elems.lk
 refine lu x10.elems ?_
 refine kx (λh18=>?_) (λh18=>?_)
 refine cE ?_
 refine wz [.la 1 0,v12,bY k2,kN x10.elems,bY k11] H14 [(1,(iF.ag a0))] ?_ (kh hS15 [(3,0)])
 refine ay ?_
 refine cW ?_
 have hx19:k11<x10.elems.l.length:=by omega
 refine ml k11 x10.elems hx19 ?_
 generalize hqx20:x10.elems.l[k11]=x20
 refine oV ?_
 refine nU hS15 0 λr21 hl22 hln25 hz24=>?_
 refine mM (args:=[v12,iv x20]) (p:=[]) (r:=[]) (args':=[ly r21,iv x20]) (R:=Oo r21 x20) rfl rfl rfl rfl rfl (jU (Sep.arg (i:=0) hS15 rfl) (jU rfl kE)) rfl fy (lx (by show kG (freeze true { H14 with cH:=[] } 8) [v12,iv x20] = _; simp only [FZ,hz24]) (jU (Sep.qC (i:=0) hS15 rfl) (jU rfl kE))) (lx fk (jU rfl (jU rfl kE))) (λh=>t39 r21 x20  h) ?_
 rintro _ ⟨r27,hc26,rfl⟩
 cases r27
 refine ah ?_
 refine wz [.la 1 0,v12,bY k2,kN x10.elems,bY k11] H14 [(1,(iF.ag a0))] ?_ (kh hS15 [(3,0)])
 refine bz ?_
 have hx28:k11<x10.elems.l.length:=by omega
 refine ml k11 x10.elems hx28 ?_
 rw [hqx20]
 refine am ?_
 refine kn rfl (kZ (i:=0) [x20] hS15 rfl rfl rfl rfl rfl rfl rfl rfl rfl (λ_=>rfl) (.inl rfl) eE (λ_=>rfl)) ?_
 rintro v30 H31 hS32
 refine ab ?_
 refine wz [.la 1 0,v30,bY k2,kN x10.elems,bY k11] H31 [(1,(iF.ag a0))] ?_ (kh hS32 [(3,0)])
 refine aM ?_
 refine kD ?_
 refine ab ?_
 exact ⟨by omega,v30,((l13++[x20])),H31,eC,hS32,(kh hS32 [(3,0)])⟩
 refine aW ?_
 exact iq
 refine aN ?_
 refine wz [.la 1 0,v12,bY k2,kN x10.elems] H14 [(1,(iF.ag a0))] ?_ (kh hS15 [(3,0)])
 refine ae ?_
 refine oC (t207 a0 x10.elems ey) ?_
 rintro _ ⟨r34,r35,hc33,rfl⟩
 cases r35
 refine aK ?_
 refine aZ ?_
 refine au ?_
 exact iq
 refine aK ?_
 refine aZ ?_
 refine aH ?_
 refine wz [.la 1 0,v12,bY k2] H14 [(1,(iF.ag a0))] ?_ (kh hS15 [(3,0)])
 refine aM ?_
 refine kD ?_
 refine ab ?_
 exact ⟨by omega,v12,l13,H14,eF,hS15,(kh hS15 [(3,0)])⟩
 refine dB ?_
 exact io
def P88 (_a0:iF) (_a1:Int) (v:AV):Prop:=∃ r0:Int,(True)/\v=iv r0
def t88 (a0:iF) (a1:Int) :Ct 88 [.agg (iF.ag a0),iv a1] (P88 a0 a1):=by
 refine j9 M0 ?_
 refine ai ?_
 refine ao ?_
 refine kx (λh1=>?_) (λh1=>?_)
 refine ck ?_
 refine au ?_
 exact iQ
 refine aK ?_
 have hL2:=a0.elems.lk
 refine lu a0.elems ?_
 refine mV (λh3=>?_) (λh3=>?_)
 refine au ?_
 exact iQ
 refine aH ?_
 refine a6 ?_
 have hx4:(a1).toNat<a0.elems.l.length:=by omega
 refine jP rfl (λ_=>ld (n:=a1) (r:=a0.elems) (enc:=lV.ag) rfl rfl rfl rfl rfl eG hx4 rfl) ?_
 generalize hqx5:a0.elems.l[(a1).toNat]=x5
 refine bO ?_
 exact xB ⟨x5.len,zt⟩
def Zh (_a0:Int) (_a1:Int) (v:AV):Prop:=∃ r0:Int,(True)/\v=iv r0
def t208 (a0:Int) (a1:Int) :Ct 208 [iv a0,iv a1] (Zh a0 a1):=by
 refine j9 ID ?_
 refine aY ?_
 refine kx (λh1=>?_) (λh1=>?_)
 refine bv ?_
 refine bi ?_
 refine bi ?_
 refine au ?_
 exact iQ
 refine am ?_
 refine ma (λh2=>?_) (λh2=>?_)
 refine bi ?_
 refine bi ?_
 refine au ?_
 exact iQ
 refine aF ?_
 refine kx (λh3=>?_) (λh3=>?_)
 refine bi ?_
 refine au ?_
 exact iQ
 refine aF ?_
 refine ma (λh4=>?_) (λh4=>?_)
 refine au ?_
 exact iQ
 refine aH ?_
 refine dJ ?_
 refine pL ?_
 refine aC ?_
 refine oe (λm9 e h=>∃ n5:Int,∃ n6:Int,m9=(n5+10).toNat/\(-10<=n5)/\(n5<=60)/\At [0,1,5] [iv n5,iv a1,iv n6] aT.empty [] e h) ?_ _ _ _ ⟨(a0 - a1),0,rfl,eG,eG,atR⟩
 rintro m9 e h ⟨n5,n6,hmm9,hi7,hi8,hA⟩
 refine rP hA ?_
 refine aq ?_
 refine ma (λh10=>?_) (λh10=>?_)
 refine bg ?_
 refine cu ?_
 refine jP rfl (λ_=>me rfl rfl rfl (tR .i64 n6 n5)) ?_
 refine ab ?_
 refine cu ?_
 refine pL ?_
 refine ab ?_
 refine ⟨_,?_,(n5 - a1),(IntKind.i64.wrap (n6+(n5))),rfl,eG,eG,atR⟩
 omega
 refine aN ?_
 refine bR ?_
 exact xB ⟨n6,zt⟩
def aad (_a0:iF) (v:AV):Prop:=∃ r0:Bool,(True)/\v=.bool r0
def t138 (a0:iF) :Ct 138 [.agg (iF.ag a0)] (aad a0):=by
 refine j9 Gx ?_
 refine ai ?_
 refine ap ?_
 refine bS ?_
 refine dp ?_
 refine rC (t208 a0.top a0.kU) ?_
 rintro _ ⟨r2,hc1,rfl⟩
 refine kp rfl rfl (λ_=>me rfl rfl rfl (tR .i64 a0.top r2)) ?_
 refine qO (λh3=>?_) (λh3=>?_)
 refine rN ?_
 refine ac ?_
 exact iq
 refine c7 ?_
 refine bG ?_
 have hNk4:=a0.signals.lk
 refine jW a0.signals.l.length (λk4 e h=>At [1,3] [.la 1 0,bY k4] aT.empty [(1,(iF.ag a0))] e h) ?_ (k0:=0) eG atR
 rintro k4 e h hkk4 hA
 refine bo ?_
 have hL5:=a0.signals.lk
 refine lu a0.signals ?_
 refine kx (λh6=>?_) (λh6=>?_)
 refine bg ?_
 refine a6 ?_
 have hx7:k4<a0.signals.l.length:=by omega
 refine ml k4 a0.signals hx7 ?_
 generalize hqx8:a0.signals.l[k4]=x8
 refine bZ ?_
 refine bS ?_
 refine rC (t89 a0 x8.at_.elem) ?_
 rintro _ ⟨r10,hc9,rfl⟩
 refine xA (λh11=>?_) (λh11=>?_)
 refine bj ?_
 refine rC (t88 a0 x8.at_.elem) ?_
 rintro _ ⟨r13,hc12,rfl⟩
 refine aI ?_
 refine qO (λh14=>?_) (λh14=>?_)
 refine aO ?_
 refine ac ?_
 exact iq
 refine bA ?_
 refine aM ?_
 refine kD ?_
 refine ab ?_
 exact ic
 refine d5 ?_
 refine bA ?_
 refine aM ?_
 refine kD ?_
 refine ab ?_
 exact ic
 refine aN ?_
 refine bG ?_
 have hNk15:=a0.elems.lk
 refine jW a0.elems.l.length (λk15 e h=>At [1,5] [.la 1 0,bY k15] aT.empty [(1,(iF.ag a0))] e h) ?_ (k0:=0) eG atR
 rintro k15 e h hkk15 hA
 refine bo ?_
 have hL16:=a0.elems.lk
 refine lu a0.elems ?_
 refine kx (λh17=>?_) (λh17=>?_)
 refine bg ?_
 refine da ?_
 have hx18:k15<a0.elems.l.length:=by omega
 refine ph k15 a0.elems hx18 ?_
 generalize hqx19:a0.elems.l[k15]=x19
 refine aI ?_
 refine u6 (λh20=>?_) (λh20=>?_)
 refine cZ ?_
 have hx21:k15<a0.elems.l.length:=by omega
 refine ph k15 a0.elems hx21 ?_
 rw [hqx19]
 refine cZ ?_
 refine qO (λh23=>?_) (λh23=>?_)
 refine aO ?_
 refine ac ?_
 exact iq
 refine bA ?_
 refine aM ?_
 refine kD ?_
 refine ab ?_
 exact ic
 refine rV ?_
 iterate 9 refine rS ?_
 refine bA ?_
 refine aM ?_
 refine kD ?_
 refine ab ?_
 exact ic
 refine dB ?_
 exact io
def P66 (_a0:iF) (v:AV):Prop:=∃ r0:Int,(True)/\v=iv r0
def t66 (a0:iF) (q1:mB a0):Ct 66 [.agg (iF.ag a0)] (P66 a0):=by
 refine j9 LB ?_
 have q2:=q1.elems; have q3:=q1.signals; have q4:=q1.lines
 refine bT ?_
 refine aX ?_
 have hL1:=a0.elems.lk
 refine lu a0.elems ?_
 refine ma (λh2=>?_) (λh2=>?_)
 refine bp ?_
 refine aQ ?_
 refine ce ?_
 exact iw
 refine aF ?_
 have hL3:=a0.signals.lk
 refine lu a0.signals ?_
 refine ma (λh4=>?_) (λh4=>?_)
 refine aQ ?_
 refine ce ?_
 exact iw
 refine aK ?_
 have hL5:=a0.lines.lk
 refine lu a0.lines ?_
 refine ma (λh6=>?_) (λh6=>?_)
 refine ce ?_
 exact iw
 refine aK ?_
 have hL7:=a0.kg.lk
 refine lu a0.kg ?_
 refine ma (λh8=>?_) (λh8=>?_)
 refine au ?_
 exact iw
 refine aH ?_
 refine ai ?_
 refine oC (t132 a0 ey) ?_
 rintro _ ⟨r10,r11,r12,hc9,rfl⟩
 refine oV ?_
 refine dl ?_
 refine aw ?_
 refine oC (t133 a0) ?_
 rintro _ ⟨r14,hc13,rfl⟩
 cases r14
 refine bJ ?_
 exact xB ⟨1,zt⟩
 refine bh ?_
 refine dH ?_
 refine oC (t134 r10) ?_
 rintro _ ⟨r16,hc15,rfl⟩
 cases r16
 refine am ?_
 refine oC (t134 r11) ?_
 rintro _ ⟨r18,hc17,rfl⟩
 cases r18
 refine aF ?_
 refine oC (t134 r12) ?_
 rintro _ ⟨r20,hc19,rfl⟩
 cases r20
 refine bh ?_
 refine dH ?_
 refine oC (t135 a0 ey) ?_
 rintro _ ⟨r22,hc21,rfl⟩
 cases r22
 refine bJ ?_
 exact xB ⟨6,zt⟩
 refine bh ?_
 refine dH ?_
 refine oC (t136 a0) ?_
 rintro _ ⟨r24,hc23,rfl⟩
 cases r24
 refine bJ ?_
 exact xB ⟨7,zt⟩
 refine bh ?_
 refine dH ?_
 refine oC (t137 a0 ey) ?_
 rintro _ ⟨r26,hc25,rfl⟩
 cases r26
 refine bJ ?_
 exact xB ⟨8,zt⟩
 refine bh ?_
 refine dH ?_
 refine oC (t138 a0) ?_
 rintro _ ⟨r28,hc27,rfl⟩
 cases r28
 refine bJ ?_
 exact xB ⟨9,zt⟩
 refine dt ?_
 refine aU ?_
 exact iQ
 refine bJ ?_
 exact xB ⟨4,zt⟩
 refine bi ?_
 refine bJ ?_
 exact xB ⟨4,zt⟩
 refine bv ?_
 refine bi ?_
 refine bJ ?_
 exact xB ⟨4,zt⟩
def WJ (_a0:iF) (v:AV):Prop:=∃ r0:Bool,((r0=true->mB _a0))/\v=.bool r0
def ZV (a0:iF) (hJg:JG a0):Ct 27 [.agg (iF.ag a0)] (WJ a0):=by
 refine j9 LV ?_
 refine ai ?_
 refine aZ ?_
 refine oC (t65 a0 ey) ?_
 rintro _ ⟨r2,hc1,rfl⟩
 cases r2
 clear hc1
 refine cm ?_
 refine aR ?_
 exact xB ⟨false,gA,rfl⟩
 have hc1t:=hc1 rfl
 refine am ?_
 refine oC (t66 a0 ey) ?_
 rintro _ ⟨r4,hc3,rfl⟩
 refine kR (λh5=>?_) (λh5=>?_)
 refine aR ?_
 exact xB ⟨true,gA,rfl⟩
 refine aR ?_
 exact xB ⟨false,gA,rfl⟩
def P27 (_a0:iF) (v:AV):Prop:=∃ r0:Bool,(((r0=true->mB _a0))/\rs 27 [.agg (iF.ag _a0)]=.bool r0)/\v=.bool r0
def t27 (a0:iF) (hJg:JG a0) (h:aT):∃ v,ka cfg FT ko false 27 [.agg (iF.ag a0)] h v h/\P27 a0 v:=by
 obtain ⟨v,hc,hP,hr⟩:=nC pF (ZV a0 hJg) h
 obtain ⟨r0,hp,rfl⟩:=hP
 exact iB
def P63 (_a0:iS) (v:AV):Prop:=∃ r0:Int,(r0=(_a0.p.signals.l.length:Int))/\v=iv r0
def t63 (a0:iS) :Ct 63 [.ip (iS.ag a0) 0 false] (P63 a0):=by
 refine j9 LN ?_
 refine bI ?_
 refine dD ?_
 have hL1:=a0.p.signals.lk
 refine lu a0.p.signals ?_
 refine af ?_
 exact xB ⟨((a0.p.signals.l.length:Int)),gm,rfl⟩
def XV {H:aT} (b:Nat) (x:kL) (en:Int) (F:List lC) (hS:Sep H (kO b [iv en]::F)) :∃ v H',ka cfg FT ko true 228 [.agg (kL.ag x),(jQ b)] { H with cH:=[] } v H'/\(∃ r0:Bool,(True)/\Sep H' (kO b [iv en]::F)/\v=.bool r0):=by
 refine kW IE ?_
 refine dE ?_
 refine m5 0 hS (iv en) ?_
 refine kR (λh1=>?_) (λh1=>?_)
 refine af ?_
 have hS2:=Sep.pick hS [0] 1 eB eB
 exact iy
 refine af ?_
 have hS3:=Sep.pick hS [0] 1 eB eB
 exact jn
def Xl {H:aT} (b:Nat) (x:kL) (en:Int) (F:List lC) (hS:Sep H (kO b [iv en]::F)) :∃ v H',ka cfg FT ko true 248 [.agg (kL.ag x),(jQ b)] { H with cH:=[] } v H'/\(∃ r0:Bool,(True)/\Sep H' (kO b [iv en]::F)/\v=.bool r0):=by
 refine kW Hd ?_
 refine dE ?_
 refine m5 0 hS (iv en) ?_
 refine kR (λh1=>?_) (λh1=>?_)
 refine af ?_
 have hS2:=Sep.pick hS [0] 1 eB eB
 exact iy
 refine af ?_
 have hS3:=Sep.pick hS [0] 1 eB eB
 exact jn
def Mo {H:aT} (l:jS kL) (b:Nat) (en:Int) (F:List lC) (hS:Sep H (kO b [iv en]::F)) :∃ v H',ka cfg FT ko true 250 [jS.av kL.ag l,.kY 248 [] [(jQ b)]] { H with cH:=[] } v H'/\(∃ r0:Int,(True)/\Sep H' (kO b [iv en]::F)/\v=iv r0):=by
 refine kW CB ?_
 refine aY ?_
 have hL1:=l.lk
 refine jP rfl (λ_=>m8 (r:=l) (enc:=kL.ag) rfl rfl rfl rfl rfl rfl) ?_
 refine aC ?_
 have hNk2:=l.lk
 refine jW l.l.length (λk2 e h=>∃ H3:aT,Sep H3 (kO b [iv en]::F)/\At [0,1,7,8] [jS.av kL.ag l,.kY 248 [] [(jQ b)],bY l.l.length,bY k2] H3 [] e h) ?_ (k0:=0) eG ⟨H,hS,atR⟩
 rintro k2 e h hkk2 ⟨H3,hS4,hA⟩
 refine aA ?_
 refine kx (λh5=>?_) (λh5=>?_)
 refine cT ?_
 refine a6 ?_
 have hx6:k2<l.l.length:=by omega
 refine jP rfl (λ_=>mJ (n:=k2) (r:=l) (enc:=kL.ag) rfl rfl rfl rfl rfl hx6 rfl) ?_
 generalize hqx7:l.l[k2]=x7
 refine oV ?_
 have hS8:=Sep.pick hS4 [0] 1 eB eB
 refine kI (H:=H3) (args:=[.agg (kL.ag x7)]) (p:=[]) (r:=[(jQ b)]) rfl rfl rfl rfl rfl rfl rfl (Xl b x7 en F hS8) ?_
 rintro _ H9 ⟨r12,hc11,hS10,rfl⟩
 cases r12
 refine bU ?_
 refine kD ?_
 refine ab ?_
 exact iR
 refine aJ ?_
 have hS13:=Sep.pick hS10 [0] 1 eB eB
 exact iT
 refine aS ?_
 have hS14:=Sep.pick hS4 [0] 1 eB eB
 exact iU
def MC {H:aT} (l:jS kL) (b:Nat) (en:Int) (F:List lC) (hS:Sep H (kO b [iv en]::F)) :∃ v H',ka cfg FT ko true 250 [jS.av kL.ag l,.kY 228 [] [(jQ b)]] { H with cH:=[] } v H'/\(∃ r0:Int,(True)/\Sep H' (kO b [iv en]::F)/\v=iv r0):=by
 refine kW CB ?_
 refine aY ?_
 have hL1:=l.lk
 refine jP rfl (λ_=>m8 (r:=l) (enc:=kL.ag) rfl rfl rfl rfl rfl rfl) ?_
 refine aC ?_
 have hNk2:=l.lk
 refine jW l.l.length (λk2 e h=>∃ H3:aT,Sep H3 (kO b [iv en]::F)/\At [0,1,7,8] [jS.av kL.ag l,.kY 228 [] [(jQ b)],bY l.l.length,bY k2] H3 [] e h) ?_ (k0:=0) eG ⟨H,hS,atR⟩
 rintro k2 e h hkk2 ⟨H3,hS4,hA⟩
 refine aA ?_
 refine kx (λh5=>?_) (λh5=>?_)
 refine cT ?_
 refine a6 ?_
 have hx6:k2<l.l.length:=by omega
 refine jP rfl (λ_=>mJ (n:=k2) (r:=l) (enc:=kL.ag) rfl rfl rfl rfl rfl hx6 rfl) ?_
 generalize hqx7:l.l[k2]=x7
 refine oV ?_
 have hS8:=Sep.pick hS4 [0] 1 eB eB
 refine kI (H:=H3) (args:=[.agg (kL.ag x7)]) (p:=[]) (r:=[(jQ b)]) rfl rfl rfl rfl rfl rfl rfl (XV b x7 en F hS8) ?_
 rintro _ H9 ⟨r12,hc11,hS10,rfl⟩
 cases r12
 refine bU ?_
 refine kD ?_
 refine ab ?_
 exact iR
 refine aJ ?_
 have hS13:=Sep.pick hS10 [0] 1 eB eB
 exact iT
 refine aS ?_
 have hS14:=Sep.pick hS4 [0] 1 eB eB
 exact iU
def MM {H:aT} (l:jS kL) (b:Nat) (en:Int) (F:List lC) (hS:Sep H (kO b [iv en]::F)) :∃ v H',ka cfg FT ko true 227 [jS.av kL.ag l,.kY 248 [] [(jQ b)]] { H with cH:=[] } v H'/\(∃ r0:Bool,(True)/\Sep H' (kO b [iv en]::F)/\v=.bool r0):=by
 refine kW CU ?_
 refine cX ?_
 have hS1:=Sep.pick hS [0] 1 eB eB
 refine kI (H:=H) (args:=[jS.av kL.ag l,.kY 248 [] [(jQ b)]]) (p:=[]) (r:=[]) rfl rfl rfl rfl rfl rfl rfl (Mo l b en F hS1) ?_
 rintro _ H2 ⟨r5,hc4,hS3,rfl⟩
 refine mV (λh6=>?_) (λh6=>?_)
 refine af ?_
 have hS7:=Sep.pick hS3 [0] 1 eB eB
 exact ij
 refine af ?_
 have hS8:=Sep.pick hS3 [0] 1 eB eB
 exact ik
def NF {H:aT} (l:jS kL) (b:Nat) (en:Int) (F:List lC) (hS:Sep H (kO b [iv en]::F)) :∃ v H',ka cfg FT ko true 227 [jS.av kL.ag l,.kY 228 [] [(jQ b)]] { H with cH:=[] } v H'/\(∃ r0:Bool,(True)/\Sep H' (kO b [iv en]::F)/\v=.bool r0):=by
 refine kW CU ?_
 refine cX ?_
 have hS1:=Sep.pick hS [0] 1 eB eB
 refine kI (H:=H) (args:=[jS.av kL.ag l,.kY 228 [] [(jQ b)]]) (p:=[]) (r:=[]) rfl rfl rfl rfl rfl rfl rfl (MC l b en F hS1) ?_
 rintro _ H2 ⟨r5,hc4,hS3,rfl⟩
 refine mV (λh6=>?_) (λh6=>?_)
 refine af ?_
 have hS7:=Sep.pick hS3 [0] 1 eB eB
 exact ij
 refine af ?_
 have hS8:=Sep.pick hS3 [0] 1 eB eB
 exact ik
def QC (_a0:pP) (_a1:Int) (v:AV):Prop:=∃ r0:Bool,((r0=true->_a0.steps.l.length<12))/\v=.bool r0
def t223 (a0:pP) (a1:Int) :Ct 223 [.ip (pP.ag a0) 0 true,iv a1] (QC a0 a1):=by
 refine j9 Hw ?_
 refine cb ?_
 rintro _ H2 ⟨b1,rfl,hS3⟩
 refine ab ?_
 refine aL ?_
 refine cZ ?_
 have hL4:=a0.steps.lk
 refine kp rfl rfl (λ_=>m8 (r:=a0.steps) (enc:=kL.ag) rfl rfl rfl rfl rfl rfl) ?_
 refine qO (λh5=>?_) (λh5=>?_)
 refine rV ?_
 refine nX 0 hS3 (iv a1) ?_
 refine cZ ?_
 refine u6 (λh6=>?_) (λh6=>?_)
 refine dp ?_
 refine kp rfl rfl (λ_=>sf rfl rfl (rY rfl rfl)) ?_
 have hS7:=Sep.pick hS3 [0] 1 eB eB
 refine BJ (H:=H2) (args:=[jS.av kL.ag a0.steps,.kY 248 [] [(jQ b1)]]) (p:=[]) (r:=[]) rfl rfl rfl rfl rfl rfl rfl rfl (MM a0.steps b1 a1 ([]) hS7) ?_
 rintro _ H8 ⟨r11,hc10,hS9,rfl⟩
 cases r11
 refine rV ?_
 refine aV ?_
 exact iu
 refine rV ?_
 refine aV ?_
 exact ir
 refine dc ?_
 refine rS ?_
 refine aV ?_
 exact ir
 refine d5 ?_
 refine dc ?_
 refine rS ?_
 refine aV ?_
 exact ir
def aac (_a0:iS) (_a1:Int) (_a2:Int) (v:AV):Prop:=∃ r0:Row lX,(r0.l.length<=2)/\v=uI r0
def t249 (a0:iS) (a1:Int) (a2:Int) :Ct 249 [.ip (iS.ag a0) 0 false,iv a1,iv a2] (aac a0 a1 a2):=by
 refine j9 Hk ?_
 refine aY ?_
 refine kx (λh1=>?_) (λh1=>?_)
 refine db ?_
 refine au ?_
 exact jo
 refine aK ?_
 refine oC (t102 a0 a1) ?_
 rintro _ ⟨r3,hc2,rfl⟩
 have hK:=hc2
 refine oC (t213 r3) ?_
 rintro _ ⟨r5,hc4,rfl⟩
 refine mV (λh6=>?_) (λh6=>?_)
 refine au ?_
 exact jo
 refine aH ?_
 refine aX ?_
 refine oC (t102 a0 a1) ?_
 rintro _ ⟨r8,hc7,rfl⟩
 have hK:=hc7
 refine dv ?_
 refine kR (λh9=>?_) (λh9=>?_)
 refine be ?_
 refine ai ?_
 refine jP rfl (λ_=>me rfl rfl rfl (ru .i64 1 a2)) ?_
 refine bO ?_
 exact xG ⟨(⟨[(⟨(IntKind.i64.wrap (1 - a2)),0⟩:lX)],.exact 1,pR,rfl,nE⟩:Row lX),fA,rfl⟩
 refine br ?_
 refine kR (λh10=>?_) (λh10=>?_)
 refine be ?_
 refine ae ?_
 refine aZ ?_
 have hd11:a2=0\/a2=1\/a2=2\/a2=3:=by omega
 rcases hd11 with rfl | rfl | rfl | rfl
 refine oV ?_
 refine ci ?_
 exact xG ⟨(⟨[(⟨1,0⟩:lX)],.exact 1,pR,rfl,nE⟩:Row lX),fA,rfl⟩
 refine oV ?_
 refine ci ?_
 exact jp
 refine oV ?_
 refine ci ?_
 exact xG ⟨(⟨[(⟨3,0⟩:lX)],.exact 1,pR,rfl,nE⟩:Row lX),fA,rfl⟩
 refine oV ?_
 refine ci ?_
 exact xG ⟨(⟨[(⟨2,0⟩:lX)],.exact 1,pR,rfl,nE⟩:Row lX),fA,rfl⟩
 refine br ?_
 refine kR (λh12=>?_) (λh12=>?_)
 refine be ?_
 refine aq ?_
 refine kR (λh13=>?_) (λh13=>?_)
 refine az ?_
 refine dq ?_
 exact xG ⟨(⟨[(⟨1,1⟩:lX),(⟨2,2⟩:lX)],.exact 2,pR,rfl,nE⟩:Row lX),fA,rfl⟩
 refine dz ?_
 have hd14:a2=0\/a2=1\/a2=2:=by omega
 rcases hd14 with rfl | rfl | rfl
 refine ci ?_
 exact jp
 refine ci ?_
 exact xG ⟨(⟨[(⟨0,1⟩:lX)],.exact 1,pR,rfl,nE⟩:Row lX),fA,rfl⟩
 refine ci ?_
 exact xG ⟨(⟨[(⟨0,2⟩:lX)],.exact 1,pR,rfl,nE⟩:Row lX),fA,rfl⟩
 refine aH ?_
 refine aU ?_
 exact jo
def XX {H:aT} (p:Nat) (wj:Int) (vs:AV) (steps:List kL) (vp:AV) (pos:List Int) (vl:AV) (left:List (Row lX)) (nn:iS) (x:jT) (F:List lC) (hS:Sep H (kO p [iv wj,vs,vp,vl]::m6 kL.ag 3 vs steps::m6 j6 1 vp pos::m6 (nZ lX.ag) 1 vl left::F)) (q1:steps.length<=11) (q2:pos.length=steps.length) (q3:left.length=steps.length):∃ v H',ka cfg FT ko true 224 [(jQ p),.ip (iS.ag nn) 0 false,.agg (jT.ag x)] { H with cH:=[] } v H'/\(∃ vso:AV,∃ stepso:List kL,∃ vpo:AV,∃ poso:List Int,∃ vlo:AV,∃ lefto:List (Row lX),(stepso.length=steps.length+1/\poso.length=stepso.length/\(m4 x.elem->(∀ s∈steps,m4 s.elem)->∀ s∈stepso,m4 s.elem)/\∃ w:Row lX,w.l.length<=2/\lefto=left++[w])/\Sep H' (kO p [iv wj,vso,vpo,vlo]::m6 kL.ag 3 vso stepso::m6 j6 1 vpo poso::m6 (nZ lX.ag) 1 vlo lefto::F)/\v=.kq []):=by
 refine kW GQ ?_
 refine bI ?_
 refine bS ?_
 refine nF 0 hS ?_
 refine ni 0 hS ?_
 refine nX 0 hS vs ?_
 refine dp ?_
 refine lH rfl rfl (kZ (H:=H) (i:=1) (l:=steps) (enc:=kL.ag) [(⟨x.elem,x.en,(-1)⟩:kL)] hS rfl rfl rfl rfl rfl rfl rfl rfl rfl (λ_=>rfl) (.inr rfl) eE (λ_=>rfl)) ?_
 rintro v1 H2 hS3
 refine nF 0 hS3 ?_
 refine ni 0 hS3 ?_
 refine lH rfl rfl (lY (H:=H2) (i:=0) (o:=1) (r:=v1) hS3 rfl rfl rfl rfl (mF rfl rfl (Sep.cell (i:=1) hS3 rfl)) (jU (Sep.cell (i:=1) hS3 rfl) kE) rfl) ?_
 rintro _ H4 ⟨rfl,hS5⟩
 refine rN ?_
 refine ae ?_
 refine uj 0 hS5 ?_
 refine od 0 hS5 ?_
 refine m5 0 hS5 vp ?_
 refine oV ?_
 refine kn rfl (kZ (H:=H4) (i:=2) (l:=pos) (enc:=j6) [0] hS5 rfl rfl rfl rfl rfl rfl rfl rfl rfl (λ_=>rfl) (.inr rfl) eE (λ_=>rfl)) ?_
 rintro v6 H7 hS8
 refine uj 0 hS8 ?_
 refine od 0 hS8 ?_
 refine kn rfl (lY (H:=H7) (i:=0) (o:=2) (r:=v6) hS8 rfl rfl rfl rfl (mF rfl rfl (Sep.cell (i:=2) hS8 rfl)) (jU (Sep.cell (i:=2) hS8 rfl) kE) rfl) ?_
 rintro _ H9 ⟨rfl,hS10⟩
 refine oN ?_
 refine qd ?_
 refine aI ?_
 refine nF 0 hS10 ?_
 refine ni 0 hS10 ?_
 refine nX 0 hS10 vl ?_
 refine bQ ?_
 refine rC (t249 nn x.elem x.en) ?_
 rintro _ ⟨r12,hc11,rfl⟩
 refine kp rfl rfl (λ_=>sA (xs:=[[uI r12]]) rfl rfl rfl rfl (yp (jU (mZ _) kE) rfl)) ?_
 refine lH rfl rfl (kZ (H:=H9) (i:=3) (l:=left) (enc:=(nZ lX.ag)) [r12] hS10 rfl rfl rfl rfl rfl rfl rfl rfl rfl (λ_=>rfl) (.inr rfl) eE (λ_=>rfl)) ?_
 rintro v13 H14 hS15
 refine nF 0 hS15 ?_
 refine ni 0 hS15 ?_
 refine lH rfl rfl (lY (H:=H14) (i:=0) (o:=3) (r:=v13) hS15 rfl rfl rfl rfl (mF rfl rfl (Sep.cell (i:=3) hS15 rfl)) (jU (Sep.cell (i:=3) hS15 rfl) kE) rfl) ?_
 rintro _ H16 ⟨rfl,hS17⟩
 refine rN ?_
 have hS18:=Sep.pick hS17 [0,1,2,3] 4 eB eB
 exact ⟨.kq [],rfl,v1,((steps++[(⟨x.elem,x.en,(-1)⟩:kL)])),v6,(pos++[0]),v13,(left++[r12]),(by refine ⟨by simp,by simp; omega,λh1 h2=>pI (P:=λs:kL=>m4 s.elem) h2 h1,_,?_,rfl⟩; assumption),Sep.cH hS18 _,rfl⟩
def I3 (_a0:pP) (_a1:Int) (_a2:Int) (_a3:Int) (v:AV):Prop:=∃ r0:kz,((r0.steps.l = _a0.steps.l/\r0.nm.l.length<=_a0.steps.l.length/\r0.guards.l=[]/\r0.nr.l=[]/\r0.holds.l=[]))/\v=.agg (kz.ag r0)
def t225 (a0:pP) (a1:Int) (a2:Int) (a3:Int) (q1:a0.steps.l.length<=12) (q2:a0.pos.l.length=a0.steps.l.length):Ct 225 [.ip (pP.ag a0) 0 true,iv a1,iv a2,iv a3] (I3 a0 a1 a2 a3):=by
 refine j9 Ip ?_
 refine cX ?_
 refine aP ?_
 refine oC (t78 a0.steps ey) ?_
 rintro _ ⟨r2,hc1,rfl⟩
 have hC93:=congrArg List.length hc1; try simp only [Row.mg] at hC93
 refine am ?_
 refine ap ?_
 refine bL ?_
 have hL3:=a0.steps.lk
 refine jP rfl (λ_=>m8 (r:=a0.steps) (enc:=kL.ag) rfl rfl rfl rfl rfl rfl) ?_
 refine aC ?_
 have hS4:=Sep.mf kV 2
 have hNk5:=a0.steps.lk
 refine jW a0.steps.l.length (λk5 e h=>∃ v6:AV,∃ l7:List lI,∃ H8:aT,(l7.length<=0+k5)/\Sep H8 (my lI.ag 2 v6 l7::[])/\At [0,8,9,24,25,26] [.ip (pP.ag a0) 0 true,.la 8 0,.la 9 0,jS.av kL.ag a0.steps,bY a0.steps.l.length,bY k5] H8 [(8,[iv 0,iv 0,iv 0,iN,iN,iN,iN,iN,jZ]),(9,[iv a1,iv a2,iv a3,kQ r2,v6,iN,iN,iN,jZ])] e h) ?_ (k0:=0) eG ⟨iN,(([]:List lI)),aT.empty,ff,hS4,atR⟩
 rintro k5 e h hkk5 ⟨v6,l7,H8,hl10,hS9,hA⟩
 refine aA ?_
 refine kx (λh11=>?_) (λh11=>?_)
 refine d7 ?_
 have hx12:k5<a0.steps.l.length:=by omega
 refine jP rfl (λ_=>mJ (n:=k5) (r:=a0.steps) (enc:=kL.ag) rfl rfl rfl rfl rfl hx12 rfl) ?_
 generalize hqx13:a0.steps.l[k5]=x13
 refine bZ ?_
 refine dD ?_
 have hx14:k5<a0.pos.l.length:=by omega
 refine jP rfl (λ_=>mJ (n:=k5) (r:=a0.pos) (enc:=j6) rfl rfl rfl rfl rfl hx14 rfl) ?_
 generalize hqx15:a0.pos.l[k5]=x15
 refine oV ?_
 refine lR (λh16=>?_) (λh16=>?_)
 refine az ?_
 refine qd ?_
 iterate 9 refine rV ?_
 have hx17:k5<a0.pos.l.length:=by omega
 refine kp rfl rfl (λ_=>mJ (n:=k5) (r:=a0.pos) (enc:=j6) rfl rfl rfl rfl rfl hx17 rfl) ?_
 rw [hqx15]
 refine bj ?_
 refine lH rfl rfl (kZ (H:=H8) (i:=0) (l:=l7) (enc:=lI.ag) [(⟨x13.elem,x15⟩:lI)] hS9 rfl rfl rfl rfl rfl rfl rfl rfl rfl (λ_=>rfl) (.inl rfl) eE (λ_=>rfl)) ?_
 rintro v19 H20 hS21
 refine rV ?_
 refine kp rfl rfl (λ_=>qi rfl rfl rfl (mF rfl rfl (Sep.cell (i:=0) hS21 rfl)) (jU (Sep.cell (i:=0) hS21 rfl) kE) rfl rfl) ?_
 refine rN ?_
 refine qg ?_
 refine kD ?_
 refine ab ?_
 exact ⟨by omega,v19,((l7++[(⟨x13.elem,x15⟩:lI)])),H20,eC,hS21,atR⟩
 refine bU ?_
 refine kD ?_
 refine ab ?_
 exact ⟨by omega,v6,l7,H8,eC,hS9,atR⟩
 refine aj ?_
 refine ai ?_
 refine jP rfl (λ_=>qi rfl rfl rfl rfl (jU rfl (jU rfl (jU rfl (jU rfl (jU (Sep.cell (i:=0) hS9 rfl) (jU rfl (jU rfl (jU rfl (jU rfl kE))))))))) rfl rfl) ?_
 refine dg ?_
 obtain ⟨r22,hl23,hf24⟩:=lK (H:=H8) (i:=0) (l:=l7) (enc:=lI.ag) hS9 rfl eA
 have hlq:=hl23; have hln26:=congrArg List.length hl23
 have hz25:∀ m,freeze false { H8 with cH:=[(8,[iv a1,iv a2,iv a3,kQ r2,v6,iN,iN,iN,jZ]),(9,[iv a1,iv a2,iv a3,kQ r2,v6,iN,iN,iN,jZ])] } (m+2) v6=some (lT r22):=λm=>hf24 _ _ (λ_=>rfl)
 exact ⟨.agg [iv a1,iv a2,iv a3,kQ r2,v6,iN,iN,iN,jZ],(lL (vs:=[.agg [iv a1,iv a2,iv a3,kQ r2,v6,iN,iN,iN,jZ]]) rfl rfl),.agg [iv a1,iv a2,iv a3,kQ r2,lT r22,iN,iN,iN,jZ],(show freeze false { H8 with cH:=[(8,[iv a1,iv a2,iv a3,kQ r2,v6,iN,iN,iN,jZ]),(9,[iv a1,iv a2,iv a3,kQ r2,v6,iN,iN,iN,jZ])] } 8 (.agg [iv a1,iv a2,iv a3,kQ r2,v6,iN,iN,iN,jZ])=some (.agg [iv a1,iv a2,iv a3,kQ r2,lT r22,iN,iN,iN,jZ]) by simp only [FZ,hz25]),(⟨a1,a2,a3,r2,r22,(lZ:Row lI),(lZ:Row Int),(lZ:Row Int),false⟩:kz),(by first | exact ⟨by assumption,by dsimp only; omega,rfl,rfl,rfl⟩ | exact ⟨by assumption,by simp,rfl,rfl,rfl⟩),rfl⟩
def YA {H:aT} (p:Nat) (wj:Int) (vs:AV) (steps:List kL) (vp:AV) (pos:List Int) (vl:AV) (left:List (Row lX)) (F:List lC) (hS:Sep H (kO p [iv wj,vs,vp,vl]::m6 kL.ag 3 vs steps::m6 j6 1 vp pos::m6 (nZ lX.ag) 1 vl left::F)) (q1:steps.length<=12) (q2:pos.length=steps.length) (q3:left.length=steps.length) (q4:0<steps.length):∃ v H',ka cfg FT ko true 226 [(jQ p)] { H with cH:=[] } v H'/\(∃ vso:AV,∃ stepso:List kL,∃ vpo:AV,∃ poso:List Int,∃ vlo:AV,∃ lefto:List (Row lX),(stepso.length+1=steps.length/\poso.length=stepso.length/\(∀ s∈stepso,s∈steps)/\lefto=left.take (left.length - 1))/\Sep H' (kO p [iv wj,vso,vpo,vlo]::m6 kL.ag 3 vso stepso::m6 j6 1 vpo poso::m6 (nZ lX.ag) 1 vlo lefto::F)/\v=.kq []):=by
 refine kW FP ?_
 refine ai ?_
 refine ba ?_
 refine jP rfl (λ_=>mj (i:=0) (o:=1) (r:=vs) hS rfl rfl rfl rfl) ?_
 refine jP rfl (λ_=>nb (i:=1) hS rfl rfl rfl rfl rfl rfl rfl) ?_
 refine pL ?_
 refine ab ?_
 refine qd ?_
 refine cZ ?_
 refine kp rfl rfl (λ_=>oG (i:=0) hS rfl rfl) ?_
 refine kp rfl rfl (λ_=>nw (i:=0) hS rfl rfl rfl rfl rfl) ?_
 refine kp rfl rfl (λ_=>mj (i:=0) (o:=1) (r:=vs) hS rfl rfl rfl rfl) ?_
 refine rV ?_
 have hk1:((((steps.length:Int) - 1).toNat:Nat):Int)=(steps.length:Int) - 1:=Int.toNat_of_nonneg eC
 have hx2:((steps.length:Int) - 1).toNat<=steps.length:=by first | omega | (simp<;>omega) | (simp_all; omega)
 refine lH rfl rfl (tn (i:=1) (k:=((steps.length:Int) - 1).toNat) hS rfl rfl rfl rfl rfl rfl (congrArg (AV.int .i64) hk1.symm) hx2) ?_
 rintro v3 H4 ⟨hc5,hS6⟩
 refine rV ?_
 refine kp rfl rfl (λ_=>oG (i:=0) hS6 rfl rfl) ?_
 refine kp rfl rfl (λ_=>nw (i:=0) hS6 rfl rfl rfl rfl rfl) ?_
 refine kp rfl rfl (λ_=>mj (i:=0) (o:=2) (r:=vp) hS6 rfl rfl rfl rfl) ?_
 refine rV ?_
 have hk7:((((steps.length:Int) - 1).toNat:Nat):Int)=(steps.length:Int) - 1:=Int.toNat_of_nonneg eC
 have hx8:((steps.length:Int) - 1).toNat<=pos.length:=by first | omega | (simp<;>omega) | (simp_all; omega)
 refine lH rfl rfl (tn (i:=2) (k:=((steps.length:Int) - 1).toNat) hS6 rfl rfl rfl rfl rfl rfl (congrArg (AV.int .i64) hk7.symm) hx8) ?_
 rintro v9 H10 ⟨hc11,hS12⟩
 refine rV ?_
 refine kp rfl rfl (λ_=>oG (i:=0) hS12 rfl rfl) ?_
 refine kp rfl rfl (λ_=>nw (i:=0) hS12 rfl rfl rfl rfl rfl) ?_
 refine kp rfl rfl (λ_=>mj (i:=0) (o:=3) (r:=vl) hS12 rfl rfl rfl rfl) ?_
 refine rV ?_
 have hk13:((((steps.length:Int) - 1).toNat:Nat):Int)=(steps.length:Int) - 1:=Int.toNat_of_nonneg eC
 have hx14:((steps.length:Int) - 1).toNat<=left.length:=by first | omega | (simp<;>omega) | (simp_all; omega)
 refine lH rfl rfl (tn (i:=3) (k:=((steps.length:Int) - 1).toNat) hS12 rfl rfl rfl rfl rfl rfl (congrArg (AV.int .i64) hk13.symm) hx14) ?_
 rintro v15 H16 ⟨hc17,hS18⟩
 refine kp rfl rfl (λ_=>oG (i:=0) hS18 rfl rfl) ?_
 refine kp rfl rfl (λ_=>nw (i:=0) hS18 rfl rfl rfl rfl rfl) ?_
 refine sm rfl rfl (lY (i:=0) (o:=1) (r:=v3) hS18 rfl rfl rfl rfl (mF rfl rfl (Sep.cell (i:=1) hS18 rfl)) (jU (Sep.cell (i:=1) hS18 rfl) kE) rfl) ?_
 rintro _ H19 ⟨rfl,hS20⟩
 refine ⟨λcall=>(ze (nB rfl rfl rfl (ub (i:=2) (k:=((steps.length:Int) - 1).toNat) hS20 rfl hc11 rfl rfl rfl rfl rfl (congrArg (AV.int .i64) hk7.symm)) rfl (wY (i:=2) hS20 rfl)) (ug (nB rfl rfl rfl (ub (i:=3) (k:=((steps.length:Int) - 1).toNat) hS20 rfl hc17 rfl rfl rfl rfl rfl (congrArg (AV.int .i64) hk13.symm)) rfl (wY (i:=3) hS20 rfl)))),?_⟩
 refine kp rfl rfl (λ_=>oG (i:=0) hS20 rfl rfl) ?_
 refine kp rfl rfl (λ_=>nw (i:=0) hS20 rfl rfl rfl rfl rfl) ?_
 refine sm rfl rfl (lY (i:=0) (o:=2) (r:=v9) hS20 rfl rfl rfl rfl (mF rfl rfl (Sep.cell (i:=2) hS20 rfl)) (jU (Sep.cell (i:=2) hS20 rfl) kE) rfl) ?_
 rintro _ H21 ⟨rfl,hS22⟩
 refine ⟨λcall=>(ug (nB rfl rfl rfl (ub (i:=3) (k:=((steps.length:Int) - 1).toNat) hS22 rfl hc17 rfl rfl rfl rfl rfl (congrArg (AV.int .i64) hk13.symm)) rfl (wY (i:=3) hS22 rfl))),?_⟩
 refine kp rfl rfl (λ_=>oG (i:=0) hS22 rfl rfl) ?_
 refine kp rfl rfl (λ_=>nw (i:=0) hS22 rfl rfl rfl rfl rfl) ?_
 refine lH rfl rfl (lY (i:=0) (o:=3) (r:=v15) hS22 rfl rfl rfl rfl (mF rfl rfl (Sep.cell (i:=3) hS22 rfl)) (jU (Sep.cell (i:=3) hS22 rfl) kE) rfl) ?_
 rintro _ H23 ⟨rfl,hS24⟩
 refine rN ?_
 have hS25:=Sep.pick hS24 [0,1,2,3] 4 eB eB
 exact ⟨.kq [],rfl,v3,(steps.take (((steps.length:Int) - 1).toNat)),v9,(pos.take (((steps.length:Int) - 1).toNat)),v15,(left.take (((steps.length:Int) - 1).toNat)),(by refine ⟨by simp only [List.length_take]; omega,by simp only [List.length_take]; omega,λs hs=>List.mem_of_mem_take hs,?_⟩; congr 1; omega),Sep.cH hS25 _,rfl⟩
def WO (_a0:iS) (_a1:Int) (v:AV):Prop:=∃ r0:Row kz,(r0.l.length<=8192/\(∀ r∈(r0.l:List kz),0<r.steps.l.length/\r.steps.l.length<=12/\r.nm.l.length<=12/\pD r))/\v=ki r0
def t186 (a0:iS) (a1:Int) (hJg:∀ y∈univ a0,m4 y.elem):Ct 186 [.ip (iS.ag a0) 0 false,iv a1] (WO a0 a1):=by
 refine j9 Gi ?_
 refine bI ?_
 refine tW ?_
 refine ae ?_
 refine oC (t101 a0 a1) ?_
 rintro _ ⟨r2,r3,hc1,rfl⟩
 have hA:=hc1.1; have hA0:=hc1.2
 cases r3
 refine cQ ?_
 refine au ?_
 exact xG ⟨(lZ:Row kz),gb,rfl⟩
 refine cQ ?_
 refine aH ?_
 refine wy [.ip (iS.ag a0) 0 false,iv a1,.la 5 0] [(5,(jT.ag r2))] ?_
 refine ae ?_
 refine oC (t188 a0 r2) ?_
 rintro _ ⟨r5,r6,hc4,rfl⟩
 have hN:=hc4
 cases r6
 refine cQ ?_
 refine au ?_
 exact xG ⟨(lZ:Row kz),gb,rfl⟩
 refine cQ ?_
 refine aH ?_
 refine wy [.ip (iS.ag a0) 0 false,iv a1,.la 5 0,.la 7 0] [(5,(jT.ag r2)),(7,(jT.ag r5))] ?_
 refine bI ?_
 refine a6 ?_
 refine kn rfl (mP kV rfl rfl rfl rfl rfl) ?_
 rintro _ H8 ⟨b7,rfl,hS9⟩
 refine ab ?_
 refine qq ?_
 refine ql ?_
 refine ay ?_
 have hS10:=Sep.mf hS9 1
 have hS11:=Sep.mf hS10 3
 have hS12:=Sep.mf hS11 1
 have hS13:=Sep.mf hS12 9
 have hS14:=Sep.pf (i:=1) hS13 rfl
 have hS15:=Sep.pf (i:=2) hS14 rfl
 have hS16:=Sep.pf (i:=3) hS15 rfl
 refine oe (λm30 e h=>∃ v17:AV,∃ l18:List kz,∃ v19:AV,∃ l20:List Int,∃ v21:AV,∃ l22:List kL,∃ v23:AV,∃ l24:List (Row lX),∃ n25:Int,∃ n26:Int,∃ n27:Int,∃ H28:aT,m30=2*(wt l24+u0 l22.length)+l22.length/\(l22.length<=12/\l20.length=l22.length/\l18.length+wt l24+u0 l22.length<=8192)/\(l24.length=l22.length)/\((∀ r∈(l18:List kz),0<r.steps.l.length/\r.steps.l.length<=12/\r.nm.l.length<=12/\pD r))/\(∀ s∈(l22:List kL),m4 s.elem)/\(m4 n25)/\Sep H28 (my kz.ag 9 v17 l18::m6 j6 1 v19 l20::m6 kL.ag 3 v21 l22::m6 (nZ lX.ag) 1 v23 l24::kO b7 [iv n27,v21,v19,v23]::[])/\At [0,1,7,8,9] [.ip (iS.ag a0) 0 false,iv a1,.la 7 0,v17,(jQ b7)] H28 [(7,[iv n25,iv n26])] e h) ?_ _ _ _ ⟨iN,(([]:List kz)),iN,(([]:List Int)),iN,(([]:List kL)),iN,(([]:List (Row lX))),r5.elem,r5.en,r2.elem,H8,rfl,(by (simp [Ri,Rl])),fS,fS,fS,(by exact hJg _ (u9 ez)),hS16,atR⟩
 rintro m30 e h ⟨v17,l18,v19,l20,v21,l22,v23,l24,n25,n26,n27,H28,hmm30,hL,hL3,hRo,hSg,hxg,hS29,hA⟩
 refine rP hA ?_
 clear hA
 have hPp:l22.length<=12->1<=u0 l22.length:=Al
 refine qb ?_
 refine tW ?_
 refine xR (λE Z=>∃ v31:AV,∃ l32:List kz,∃ v33:AV,∃ l34:List Int,∃ v35:AV,∃ l36:List kL,∃ v37:AV,∃ l38:List (Row lX),∃ H39:aT,(l36.length<=12/\l34.length=l36.length/\l32.length+wt l38<=8192/\2*wt l38+l36.length<m30)/\(l38.length=l36.length)/\((∀ r∈(l32:List kz),0<r.steps.l.length/\r.steps.l.length<=12/\r.nm.l.length<=12/\pD r))/\(∀ s∈(l36:List kL),m4 s.elem)/\Sep H39 (my kz.ag 9 v31 l32::m6 j6 1 v33 l34::m6 kL.ag 3 v35 l36::m6 (nZ lX.ag) 1 v37 l38::kO b7 [iv n27,v35,v33,v37]::[])/\E=[(0,.ip (iS.ag a0) 0 false),(1,iv a1),(7,.la 7 0),(8,v31),(9,(jQ b7))]/\Z = { H39 with cH:=[(7,[iv n25,iv n26])] }) ?_ ?_
 rintro _ _ ⟨v31,l32,v33,l34,v35,l36,v37,l38,H39,hL,hL3,hRo,hSg,hS40,rfl,rfl⟩
 have hPp:l36.length<=12->1<=u0 l36.length:=Al
 refine qq ?_
 refine ql ?_
 refine ay ?_
 refine oe (λm51 e h=>∃ v41:AV,∃ l42:List kz,∃ v43:AV,∃ l44:List Int,∃ v45:AV,∃ l46:List kL,∃ v47:AV,∃ l48:List (Row lX),∃ H49:aT,m51=2*wt l48+l46.length/\(l46.length<=12/\l44.length=l46.length/\l42.length+wt l48<=8192/\2*wt l48+l46.length<m30)/\(l48.length=l46.length)/\((∀ r∈(l42:List kz),0<r.steps.l.length/\r.steps.l.length<=12/\r.nm.l.length<=12/\pD r))/\(∀ s∈(l46:List kL),m4 s.elem)/\Sep H49 (my kz.ag 9 v41 l42::m6 j6 1 v43 l44::m6 kL.ag 3 v45 l46::m6 (nZ lX.ag) 1 v47 l48::kO b7 [iv n27,v45,v43,v47]::[])/\At [0,1,7,8,9] [.ip (iS.ag a0) 0 false,iv a1,.la 7 0,v41,(jQ b7)] H49 [(7,[iv n25,iv n26])] e h) ?_ _ _ _ ⟨v31,l32,v33,l34,v35,l36,v37,l38,H39,rfl,eG,eG,(by exact hRo),gH,hS40,(kh hS40 [(8,0)])⟩
 rintro m51 e h ⟨v41,l42,v43,l44,v45,l46,v47,l48,H49,hmm51,hL,hL3,hRo,hSg,hS50,hA⟩
 refine rP hA ?_
 clear hA
 have hPp:l46.length<=12->1<=u0 l46.length:=Al
 refine aq ?_
 refine cP ?_
 refine ma (λh52=>?_) (λh52=>?_)
 refine cE ?_
 refine wz [.ip (iS.ag a0) 0 false,iv a1,.la 7 0,v41,(jQ b7)] H49 [(7,[iv n25,iv n26])] ?_ (kh hS50 [(8,0)])
 refine qb ?_
 refine ai ?_
 refine cP ?_
 refine pL ?_
 refine ao ?_
 refine dX ?_
 have hk53:((((l46.length:Int) - 1).toNat:Nat):Int)=(l46.length:Int) - 1:=Int.toNat_of_nonneg eC
 have hx54:((l46.length:Int) - 1).toNat<l48.length:=by first | omega | (simp<;>omega) | (simp_all; omega)
 obtain ⟨x55,hqx55⟩:∃ x,l48[((l46.length:Int) - 1).toNat]=x:=⟨_,rfl⟩
 refine mv rfl (lO (H:=H49) (i:=3) (m:=((l46.length:Int) - 1).toNat) (cs:=(nZ lX.ag) x55) hS50 rfl rfl rfl rfl rfl rfl (congrArg (AV.int .i64) hk53.symm) (lA hx54 hqx55)) ?_
 rintro a56 ⟨ha57,hea58⟩
 refine jP rfl (λ_=>mK (H:=H49) (i:=3) (m:=((l46.length:Int) - 1).toNat) (o:=0) (r:=uI x55) (cs:=(nZ lX.ag) x55) hS50 rfl (lA hx54 hqx55) hea58 rfl rfl ha57) ?_
 have hL59:=x55.lk
 refine lu x55 ?_
 refine kR (λh60=>?_) (λh60=>?_)
 refine az ?_
 refine ai ?_
 have hS61:=Sep.pick hS50 [4,2,1,3,0] 5 eB eB
 refine kI (H:=H49) (args:=[(jQ b7)]) (p:=[]) (r:=[]) rfl rfl rfl rfl rfl rfl rfl (YA b7 n27 v45 l46 v43 l44 v47 l48 (my kz.ag 9 v41 l42::[]) hS61 ey ey ey ey) ?_
 rintro _ H62 ⟨vso65,stepso66,vpo67,poso68,vlo69,lefto70,hc64,hS63,rfl⟩
 obtain ⟨hp1,hp2,hpS,hp3⟩:=hc64
 have hSg:∀ s∈stepso66,m4 s.elem:=λs hs=>hSg s (hpS s hs)
 have hWt:wt lefto70=wt l48:=by rw [hp3]; exact MD ez eG ez eG
 have hp5:lefto70.length+1=l48.length:=by rw [hp3,List.length_take]; omega
 refine oN ?_
 refine qe ?_
 have hS71:=Sep.pick hS63 [4,2,1,3,0] 5 eB eB
 refine ⟨_,?_,v41,l42,vpo67,poso68,vso65,stepso66,vlo69,lefto70,H62,rfl,eG,eG,eI,gH,hS71,(kh hS71 [(8,0)])⟩
 omega
 refine ah ?_
 refine wz [.ip (iS.ag a0) 0 false,iv a1,.la 7 0,v41,(jQ b7),iv ((l46.length:Int) - 1)] H49 [(7,[iv n25,iv n26])] ?_ (kh hS50 [(8,0)])
 refine ai ?_
 refine dX ?_
 have hk72:((((l46.length:Int) - 1).toNat:Nat):Int)=(l46.length:Int) - 1:=Int.toNat_of_nonneg eC
 have hx73:((l46.length:Int) - 1).toNat<l48.length:=by first | omega | (simp<;>omega) | (simp_all; omega)
 refine mv rfl (lO (H:=H49) (i:=3) (m:=((l46.length:Int) - 1).toNat) (cs:=(nZ lX.ag) x55) hS50 rfl rfl rfl rfl rfl rfl (congrArg (AV.int .i64) hk72.symm) (lA hx73 hqx55)) ?_
 rintro a74 ⟨ha75,hea76⟩
 refine jP rfl (λ_=>mK (H:=H49) (i:=3) (m:=((l46.length:Int) - 1).toNat) (o:=0) (r:=uI x55) (cs:=(nZ lX.ag) x55) hS50 rfl (lA hx73 hqx55) hea76 rfl rfl ha75) ?_
 have hx77:0<x55.l.length:=by omega
 refine ml 0 x55 hx77 ?_
 generalize hqx78:x55.l[0]=x78
 refine bu ?_
 refine cF ?_
 refine nF 4 hS50 ?_
 refine ni 4 hS50 ?_
 refine nX 4 hS50 v47 ?_
 refine aI ?_
 refine nF 4 hS50 ?_
 refine ni 4 hS50 ?_
 refine nX 4 hS50 v47 ?_
 refine rV ?_
 have hk79:((((l46.length:Int) - 1).toNat:Nat):Int)=(l46.length:Int) - 1:=Int.toNat_of_nonneg eC
 have hx80:((l46.length:Int) - 1).toNat<l48.length:=by first | omega | (simp<;>omega) | (simp_all; omega)
 refine nk rfl rfl (lO (H:=H49) (i:=3) (m:=((l46.length:Int) - 1).toNat) (cs:=(nZ lX.ag) x55) hS50 rfl rfl rfl rfl rfl rfl (congrArg (AV.int .i64) hk79.symm) (lA hx80 hqx55)) ?_
 rintro a81 ⟨ha82,hea83⟩
 refine kp rfl rfl (λ_=>mK (H:=H49) (i:=3) (m:=((l46.length:Int) - 1).toNat) (o:=0) (r:=uI x55) (cs:=(nZ lX.ag) x55) hS50 rfl (lA hx80 hqx55) hea83 rfl rfl ha82) ?_
 have hx84:1<=x55.l.length:=by omega
 refine kp rfl rfl (λ_=>Af (k:=1) (r:=x55) (enc:=lX.ag) (n:=2) rfl rfl rfl rfl rfl rfl hx84 (λ_=>rfl)) ?_
 have hk85:((((l46.length:Int) - 1).toNat:Nat):Int)=(l46.length:Int) - 1:=Int.toNat_of_nonneg eC
 have hx86:((l46.length:Int) - 1).toNat<l48.length:=by first | omega | (simp<;>omega) | (simp_all; omega)
 refine nk rfl rfl (lO (H:=H49) (i:=3) (m:=((l46.length:Int) - 1).toNat) (cs:=(nZ lX.ag) x55) hS50 rfl rfl rfl rfl rfl rfl (congrArg (AV.int .i64) hk85.symm) (lA hx86 hqx55)) ?_
 rintro a87 ⟨ha88,hea89⟩
 have hWs:wt (l48.set _ (Row.drop x55 1))+u0 l48.length=wt l48:=Rq hx86 eG hqx55 eG (by simp [Row.drop]; omega); rw [hL3] at hWs
 have hz92:(l48.set (((l46.length:Int) - 1).toNat) (Row.drop x55 1)).length=l48.length:=List.length_set
 refine lH rfl rfl (nH (H:=H49) (i:=3) (m:=((l46.length:Int) - 1).toNat) (o:=0) x55 (Row.drop x55 1) hS50 rfl hx86 hqx55 hea89 rfl ha88 rfl rfl rfl rfl) ?_
 rintro _ H90 ⟨rfl,hS91⟩
 simp only [List.set] at hS91
 refine rN ?_
 refine cF ?_
 refine nF 4 hS91 ?_
 refine ni 4 hS91 ?_
 refine nX 4 hS91 v45 ?_
 refine aI ?_
 refine nF 4 hS91 ?_
 refine ni 4 hS91 ?_
 refine nX 4 hS91 v43 ?_
 refine bQ ?_
 have hk93:((((l46.length:Int) - 1).toNat:Nat):Int)=(l46.length:Int) - 1:=Int.toNat_of_nonneg eC
 have hx94:((l46.length:Int) - 1).toNat<l46.length:=by first | omega | (simp<;>omega) | (simp_all; omega)
 obtain ⟨x95,hqx95⟩:∃ x,l46[((l46.length:Int) - 1).toNat]=x:=⟨_,rfl⟩
 refine nk rfl rfl (lO (H:=H90) (i:=2) (m:=((l46.length:Int) - 1).toNat) (cs:=kL.ag x95) hS91 rfl rfl rfl rfl rfl rfl (congrArg (AV.int .i64) hk93.symm) (lA hx94 hqx95)) ?_
 rintro a96 ⟨ha97,hea98⟩
 refine kp rfl rfl (λ_=>EA.yq hea98 rfl rfl rfl ha97) ?_
 have hSg:=Q7 (x2:=(⟨x95.elem,x95.qv,x78.out⟩:kL)) hSg hqx95 rfl
 have hz101:(l46.set (((l46.length:Int) - 1).toNat) (⟨x95.elem,x95.qv,x78.out⟩:kL)).length=l46.length:=List.length_set
 refine sm rfl rfl (nH (H:=H90) (i:=2) (m:=((l46.length:Int) - 1).toNat) (o:=2) x95 (⟨x95.elem,x95.qv,x78.out⟩:kL) hS91 rfl hx94 hqx95 hea98 rfl rfl rfl rfl rfl rfl) ?_
 rintro _ H99 ⟨rfl,hS100⟩
 refine ⟨λcall=>(ug (nB rfl rfl rfl rfl rfl fR)),?_⟩
 have hk102:((((l46.length:Int) - 1).toNat:Nat):Int)=(l46.length:Int) - 1:=Int.toNat_of_nonneg eC
 have hx103:((l46.length:Int) - 1).toNat<l44.length:=by first | omega | (simp<;>omega) | (simp_all; omega)
 obtain ⟨x104,hqx104⟩:∃ x,l44[((l46.length:Int) - 1).toNat]=x:=⟨_,rfl⟩
 refine nk rfl rfl (lO (H:=H99) (i:=1) (m:=((l46.length:Int) - 1).toNat) (cs:=j6 x104) hS100 rfl rfl rfl rfl rfl rfl (congrArg (AV.int .i64) hk102.symm) (lA hx103 hqx104)) ?_
 rintro a105 ⟨ha106,hea107⟩
 have hz110:(l44.set (((l46.length:Int) - 1).toNat) x78.pos).length=l44.length:=List.length_set
 refine lH rfl rfl (nH (H:=H99) (i:=1) (m:=((l46.length:Int) - 1).toNat) (o:=0) x104 x78.pos hS100 rfl hx103 hqx104 hea107 rfl ha106 rfl rfl rfl rfl) ?_
 rintro _ H108 ⟨rfl,hS109⟩
 simp only [List.set] at hS109
 refine rN ?_
 refine cF ?_
 refine nF 4 hS109 ?_
 refine ni 4 hS109 ?_
 refine nX 4 hS109 v45 ?_
 refine rV ?_
 have hk111:((((l46.length:Int) - 1).toNat:Nat):Int)=(l46.length:Int) - 1:=Int.toNat_of_nonneg eC
 have hx112:((l46.length:Int) - 1).toNat<((l46.set (((l46.length:Int) - 1).toNat) (⟨x95.elem,x95.qv,x78.out⟩:kL))).length:=by first | omega | (simp<;>omega) | (simp_all; omega)
 obtain ⟨x113,hqx113⟩:∃ x,((l46.set (((l46.length:Int) - 1).toNat) (⟨x95.elem,x95.qv,x78.out⟩:kL)))[((l46.length:Int) - 1).toNat]=x:=⟨_,rfl⟩
 refine nk rfl rfl (lO (H:=H108) (i:=2) (m:=((l46.length:Int) - 1).toNat) (cs:=kL.ag x113) hS109 rfl rfl rfl rfl rfl rfl (congrArg (AV.int .i64) hk111.symm) (lA hx112 hqx113)) ?_
 rintro a114 ⟨ha115,hea116⟩
 refine kp rfl rfl (λ_=>EA.yq hea116 rfl rfl rfl ha115) ?_
 refine kp rfl rfl (λ_=>mK (H:=H108) (i:=2) (m:=((l46.length:Int) - 1).toNat) (o:=0) (r:=iv x113.elem) (cs:=kL.ag x113) hS109 rfl (lA hx112 hqx113) hea116 rfl rfl rfl) ?_
 refine cZ ?_
 refine aO ?_
 refine aX ?_
 refine oC (t181 a0 (⟨x113.elem,x78.out⟩:jT)) ?_
 rintro _ ⟨r118,hc117,rfl⟩
 have hR:=hc117
 refine aZ ?_
 refine mV (λh119=>?_) (λh119=>?_)
 refine az ?_
 refine bL ?_
 refine nU hS109 2 λr120 hl121 hln124 hz123=>?_
 refine nU hS109 1 λr125 hl126 hln129 hz128=>?_
 refine nU hS109 3 λr130 hl131 hln134 hz133=>?_
 have hz135:∀ m,freeze true { H108 with cH:=[] } (m+4) (jQ b7)=some (.ip [iv n27,jS.av kL.ag r120,ly r125,jS.av (nZ lX.ag) r130] 0 true):=λm=>mh (i:=4) hS109 rfl [] _ (by simp only [FZ,hz123,hz128,hz133]; try rfl)
 refine mM (args:=[(jQ b7),iv a1,iv r118,iv 1]) (p:=[]) (r:=[]) (args':=[.ip [iv n27,jS.av kL.ag r120,ly r125,jS.av (nZ lX.ag) r130] 0 true,iv a1,iv r118,iv 1]) (R:=I3 (⟨n27,r120,r125,r130⟩:pP) a1 r118 1) rfl rfl rfl rfl rfl rfl rfl fy (lx (by show kG (freeze true { H108 with cH:=[] } 8) [(jQ b7),iv a1,iv r118,iv 1] = _; simp only [FZ,hz123,hz128,hz133,hz135]) (jU rfl (jU rfl (jU rfl (jU rfl kE))))) (lx fk (jU rfl (jU rfl (jU rfl (jU rfl kE))))) (λh=>t225 (⟨n27,r120,r125,r130⟩:pP) a1 r118 1 ey ey h) ?_
 rintro _ ⟨r137,hc136,rfl⟩
 have hC158:=congrArg List.length hc136.1; have hD158:=hc136.2.1; dsimp only at hC158 hD158; have hG158:=Ad hc136.1 ez hSg hc136.2.2
 refine jP rfl (λ_=>sA (xs:=[(kz.ag r137)]) rfl rfl rfl rfl (yp (jU rfl (jU rfl (jU rfl (jU (mZ _) (jU (mZ _) (jU (mZ _) (jU (mZ _) (jU (mZ _) (jU rfl kE))))))))) rfl)) ?_
 have hz141:(l42++[r137]).length=l42.length+1:=List.length_append
 refine kn rfl (kZ (H:=H108) (i:=0) (l:=l42) (enc:=kz.ag) [r137] hS109 rfl rfl rfl rfl rfl rfl rfl rfl rfl (λ_=>rfl) (.inl rfl) eE (λ_=>rfl)) ?_
 rintro v138 H139 hS140
 simp only [List.set] at hS140
 refine ab ?_
 refine qe ?_
 refine ⟨_,?_,v138,((l42++[r137])),v43,((l44.set (((l46.length:Int) - 1).toNat) x78.pos)),v45,((l46.set (((l46.length:Int) - 1).toNat) (⟨x95.elem,x95.qv,x78.out⟩:kL))),v47,((l48.set (((l46.length:Int) - 1).toNat) (Row.drop x55 1))),H139,rfl,eG,eG,eI,gH,hS140,(kh hS140 [(8,0)])⟩
 omega
 refine ah ?_
 refine wz [.ip (iS.ag a0) 0 false,iv a1,.la 7 0,v41,(jQ b7),.la 12 0] H108 [(7,[iv n25,iv n26]),(12,[iv x113.elem,iv x78.out])] ?_ (kh hS109 [(8,0)])
 refine ae ?_
 refine oC (t188 a0 (⟨x113.elem,x78.out⟩:jT)) ?_
 rintro _ ⟨r143,r144,hc142,rfl⟩
 have hN:=hc142
 cases r144
 refine cQ ?_
 refine be ?_
 refine a6 ?_
 refine nU hS109 2 λr145 hl146 hln149 hz148=>?_
 refine nU hS109 1 λr150 hl151 hln154 hz153=>?_
 refine nU hS109 3 λr155 hl156 hln159 hz158=>?_
 have hz160:∀ m,freeze true { H108 with cH:=[] } (m+4) (jQ b7)=some (.ip [iv n27,jS.av kL.ag r145,ly r150,jS.av (nZ lX.ag) r155] 0 true):=λm=>mh (i:=4) hS109 rfl [] _ (by simp only [FZ,hz148,hz153,hz158]; try rfl)
 refine mM (args:=[(jQ b7),iv a1,iv (-1),iv 3]) (p:=[]) (r:=[]) (args':=[.ip [iv n27,jS.av kL.ag r145,ly r150,jS.av (nZ lX.ag) r155] 0 true,iv a1,iv (-1),iv 3]) (R:=I3 (⟨n27,r145,r150,r155⟩:pP) a1 (-1) 3) rfl rfl rfl rfl rfl rfl rfl fy (lx (by show kG (freeze true { H108 with cH:=[] } 8) [(jQ b7),iv a1,iv (-1),iv 3] = _; simp only [FZ,hz148,hz153,hz158,hz160]) (jU rfl (jU rfl (jU rfl (jU rfl kE))))) (lx fk (jU rfl (jU rfl (jU rfl (jU rfl kE))))) (λh=>t225 (⟨n27,r145,r150,r155⟩:pP) a1 (-1) 3 ey ey h) ?_
 rintro _ ⟨r162,hc161,rfl⟩
 have hC158:=congrArg List.length hc161.1; have hD158:=hc161.2.1; dsimp only at hC158 hD158; have hG158:=Ad hc161.1 ez hSg hc161.2.2
 refine jP rfl (λ_=>sA (xs:=[(kz.ag r162)]) rfl rfl rfl rfl (yp (jU rfl (jU rfl (jU rfl (jU (mZ _) (jU (mZ _) (jU (mZ _) (jU (mZ _) (jU (mZ _) (jU rfl kE))))))))) rfl)) ?_
 have hz166:(l42++[r162]).length=l42.length+1:=List.length_append
 refine kn rfl (kZ (H:=H108) (i:=0) (l:=l42) (enc:=kz.ag) [r162] hS109 rfl rfl rfl rfl rfl rfl rfl rfl rfl (λ_=>rfl) (.inl rfl) eE (λ_=>rfl)) ?_
 rintro v163 H164 hS165
 simp only [List.set] at hS165
 refine ab ?_
 refine qe ?_
 refine ⟨_,?_,v163,((l42++[r162])),v43,((l44.set (((l46.length:Int) - 1).toNat) x78.pos)),v45,((l46.set (((l46.length:Int) - 1).toNat) (⟨x95.elem,x95.qv,x78.out⟩:kL))),v47,((l48.set (((l46.length:Int) - 1).toNat) (Row.drop x55 1))),H164,rfl,eG,eG,eI,gH,hS165,(kh hS165 [(8,0)])⟩
 omega
 refine cQ ?_
 refine aH ?_
 refine wz [.ip (iS.ag a0) 0 false,iv a1,.la 7 0,v41,(jQ b7),.la 14 0] H108 [(7,[iv n25,iv n26]),(14,(jT.ag r143))] ?_ (kh hS109 [(8,0)])
 refine bT ?_
 refine qe ?_
 refine ⟨_,?_,v41,l42,v43,((l44.set (((l46.length:Int) - 1).toNat) x78.pos)),v45,((l46.set (((l46.length:Int) - 1).toNat) (⟨x95.elem,x95.qv,x78.out⟩:kL))),v47,((l48.set (((l46.length:Int) - 1).toNat) (Row.drop x55 1))),r143.elem,r143.en,n27,H108,rfl,eN,eG,eI,gH,(by first | exact hxg | exact hJg _ (u9 ez)),hS109,(kh hS109 [(8,0)])⟩
 (first | omega | (simp only [List.length_set]; omega))
 refine aN ?_
 refine wz [v41] H49 [] ?_ (kh hS50 [(8,0)])
 refine qe ?_
 refine wz [v41] H49 [] ?_ (kh hS50 [(8,0)])
 refine bR ?_
 obtain ⟨r167,hl168,hf169⟩:=lK (H:=H49) (i:=0) (l:=l42) (enc:=kz.ag) hS50 rfl eA
 have hlq:=hl168; have hln171:=congrArg List.length hl168
 have hz170:∀ m,freeze false { H49 with cH:=[] } (m+2) v41=some (ki r167):=λm=>hf169 _ _ (λ_=>by simp only [kz.ag,kG,m0,nf,np,mY,nj])
 exact ⟨v41,(lL (vs:=[v41]) rfl (jU (Sep.arg (i:=0) hS50 rfl) kE)),ki r167,(show freeze false { H49 with cH:=[] } 8 v41=some (ki r167) by simp only [FZ,hz170]),r167,gb,rfl⟩
 refine a6 ?_
 refine nU hS29 2 λr172 hl173 hln176 hz175=>?_
 refine nU hS29 1 λr177 hl178 hln181 hz180=>?_
 refine nU hS29 3 λr182 hl183 hln186 hz185=>?_
 have hz187:∀ m,freeze true { H28 with cH:=[] } (m+4) (jQ b7)=some (.ip [iv n27,jS.av kL.ag r172,ly r177,jS.av (nZ lX.ag) r182] 0 true):=λm=>mh (i:=4) hS29 rfl [] _ (by simp only [FZ,hz175,hz180,hz185]; try rfl)
 refine mM (args:=[(jQ b7),iv n25]) (p:=[]) (r:=[]) (args':=[.ip [iv n27,jS.av kL.ag r172,ly r177,jS.av (nZ lX.ag) r182] 0 true,iv n25]) (R:=QC (⟨n27,r172,r177,r182⟩:pP) n25) rfl rfl rfl rfl rfl rfl rfl fy (lx (by show kG (freeze true { H28 with cH:=[] } 8) [(jQ b7),iv n25] = _; simp only [FZ,hz175,hz180,hz185,hz187]) (jU rfl (jU rfl kE))) (lx fk (jU rfl (jU rfl kE))) (λh=>t223 (⟨n27,r172,r177,r182⟩:pP) n25  h) ?_
 rintro _ ⟨r189,hc188,rfl⟩
 cases r189
 clear hc188
 refine ah ?_
 exact ⟨v17,l18,v19,l20,v21,l22,v23,l24,H28,eG,eG,eI,gH,hS29,(Kf hS29 [(8,0)]),rfl⟩
 have hc188t:=hc188 rfl
 dsimp only at hc188t
 refine az ?_
 refine a6 ?_
 have hS190:=Sep.pick hS29 [4,2,1,3,0] 5 eB eB
 refine kI (H:=H28) (args:=[(jQ b7),.ip (iS.ag a0) 0 false,.agg [iv n25,iv n26]]) (p:=[]) (r:=[]) rfl rfl rfl rfl rfl rfl rfl (XX b7 n27 v21 l22 v19 l20 v23 l24 a0 ((⟨n25,n26⟩:jT)) (my kz.ag 9 v17 l18::[]) hS190 ey ey ey) ?_
 rintro _ H191 ⟨vso194,stepso195,vpo196,poso197,vlo198,lefto199,hc193,hS192,rfl⟩
 obtain ⟨hp1,hp2,hpS,ww,hp3,hp4⟩:=hc193
 have hSg:=hpS hxg hSg
 have hWp:=O9 (l:=l24) (w:=ww) eG hp3
 rw [<- hp4,hL3] at hWp
 have hp5:lefto199.length=l24.length+1:=by rw [hp4]; simp
 refine oN ?_
 refine a6 ?_
 refine oC (t102 a0 n25) ?_
 rintro _ ⟨r201,hc200,rfl⟩
 have hK:=hc200
 refine kR (λh202=>?_) (λh202=>?_)
 refine az ?_
 refine bz ?_
 refine nU hS192 1 λr203 hl204 hln207 hz206=>?_
 refine nU hS192 2 λr208 hl209 hln212 hz211=>?_
 refine nU hS192 3 λr213 hl214 hln217 hz216=>?_
 have hz218:∀ m,freeze true { H191 with cH:=[] } (m+4) (jQ b7)=some (.ip [iv n27,jS.av kL.ag r203,ly r208,jS.av (nZ lX.ag) r213] 0 true):=λm=>mh (i:=0) hS192 rfl [] _ (by simp only [FZ,hz206,hz211,hz216]; try rfl)
 refine mM (args:=[(jQ b7),iv a1,iv (-1),iv 2]) (p:=[]) (r:=[]) (args':=[.ip [iv n27,jS.av kL.ag r203,ly r208,jS.av (nZ lX.ag) r213] 0 true,iv a1,iv (-1),iv 2]) (R:=I3 (⟨n27,r203,r208,r213⟩:pP) a1 (-1) 2) rfl rfl rfl rfl rfl rfl rfl fy (lx (by show kG (freeze true { H191 with cH:=[] } 8) [(jQ b7),iv a1,iv (-1),iv 2] = _; simp only [FZ,hz206,hz211,hz216,hz218]) (jU rfl (jU rfl (jU rfl (jU rfl kE))))) (lx fk (jU rfl (jU rfl (jU rfl (jU rfl kE))))) (λh=>t225 (⟨n27,r203,r208,r213⟩:pP) a1 (-1) 2 ey ey h) ?_
 rintro _ ⟨r220,hc219,rfl⟩
 have hC158:=congrArg List.length hc219.1; have hD158:=hc219.2.1; dsimp only at hC158 hD158; have hG158:=Ad hc219.1 ez hSg hc219.2.2
 refine jP rfl (λ_=>sA (xs:=[(kz.ag r220)]) rfl rfl rfl rfl (yp (jU rfl (jU rfl (jU rfl (jU (mZ _) (jU (mZ _) (jU (mZ _) (jU (mZ _) (jU (mZ _) (jU rfl kE))))))))) rfl)) ?_
 have hz224:(l18++[r220]).length=l18.length+1:=List.length_append
 refine kn rfl (kZ (H:=H191) (i:=4) (l:=l18) (enc:=kz.ag) [r220] hS192 rfl rfl rfl rfl rfl rfl rfl rfl rfl (λ_=>rfl) (.inl rfl) eE (λ_=>rfl)) ?_
 rintro v221 H222 hS223
 simp only [List.set] at hS223
 refine ab ?_
 have hS225:=Sep.pick hS223 [4,2,1,3,0] 5 eB eB
 exact ⟨v221,((l18++[r220])),vpo196,poso197,vso194,stepso195,vlo198,lefto199,H222,eG,eG,eI,gH,hS225,(Kf hS225 [(8,0)]),rfl⟩
 refine ah ?_
 have hS226:=Sep.pick hS192 [4,2,1,3,0] 5 eB eB
 exact ⟨v17,l18,vpo196,poso197,vso194,stepso195,vlo198,lefto199,H191,eG,eG,eI,gH,hS226,(Kf hS226 [(8,0)]),rfl⟩
def s52 {H:aT} (nn:iS) (F:List lC) (hS:Sep H F) (q1:nn.p.signals.l.length<=60) (hJg:∀ y∈univ nn,m4 y.elem):∃ v H',ka cfg FT ko true 118 [.ip (iS.ag nn) 0 false] { H with cH:=[] } v H'/\(∃ ov:AV,∃ ol:List kz,∃ eo:Int,((∀ r∈(ol:List kz),0<r.steps.l.length/\r.steps.l.length<=12/\r.nm.l.length<=12/\pD r)/\ol.length<=64)/\Sep H' (my kz.ag 9 ov ol::F)/\v=.kq [ov,iv eo]):=by
 refine kW HM ?_
 refine bT ?_
 refine aY ?_
 refine oC (t63 nn) ?_
 rintro _ ⟨r2,hc1,rfl⟩
 have hC91:=hc1
 refine aC ?_
 have hS3:=Sep.mf hS 9
 refine jW ((r2).toNat) (λk4 e h=>∃ v5:AV,∃ l6:List kz,∃ H7:aT,(l6.length<=8192*k4)/\((∀ r∈(l6:List kz),0<r.steps.l.length/\r.steps.l.length<=12/\r.nm.l.length<=12/\pD r))/\Sep H7 (my kz.ag 9 v5 l6::F)/\At [0,4,7,8] [.ip (iS.ag nn) 0 false,v5,iv r2,bY k4] H7 [] e h) ?_ (k0:=0) eG ⟨iN,(([]:List kz)),H,fS,fS,hS3,atR⟩
 rintro k4 e h hkk4 ⟨v5,l6,H7,hI,hR,hS8,hA⟩
 refine aA ?_
 refine kx (λh9=>?_) (λh9=>?_)
 refine ak ?_
 refine wz [.ip (iS.ag nn) 0 false,v5,iv r2,bY k4] H7 [] ?_ (kh hS8 [(4,0)])
 refine dA ?_
 refine bz ?_
 refine oC (t186 nn ((k4:Int)) ey) ?_
 rintro _ ⟨r11,hc10,rfl⟩
 have hL12:=r11.lk
 refine kn rfl (kZ (i:=0) r11.l hS8 rfl rfl rfl rfl rfl rfl rfl rfl rfl (λ_=>rfl) (.inl rfl) eE (λ_=>rfl)) ?_
 rintro v13 H14 hS15
 refine ab ?_
 refine wz [.ip (iS.ag nn) 0 false,v13,iv r2,bY k4] H14 [] ?_ (kh hS15 [(4,0)])
 refine qg ?_
 refine kD ?_
 refine ab ?_
 exact ⟨by omega,v13,((l6++r11.l)),H14,fu,(by exact Pk hR (by simp_all)),hS15,(kh hS15 [(4,0)])⟩
 refine aj ?_
 refine wz [v5] H7 [] ?_ (kh hS8 [(4,0)])
 refine aq ?_
 refine jP rfl (λ_=>nb (i:=0) hS8 rfl rfl rfl rfl rfl rfl rfl) ?_
 refine ma (λh16=>?_) (λh16=>?_)
 refine aJ ?_
 have hS17:=Sep.mf hS8 9
 have hS18:=Sep.pick hS17 [0] 2 eB eB
 exact ⟨.kq [iN,iv 3],rfl,iN,([]:List kz),3,gN,Sep.cH hS18 _,rfl⟩
 refine ah ?_
 refine wz [v5] H7 [] ?_ (kh hS8 [(4,0)])
 refine dh ?_
 have hS19:=Sep.pick hS8 [0] 1 eB eB
 exact ⟨.kq [v5,iv 0],(lL (vs:=[v5,iv 0]) rfl (jU (Sep.arg (i:=0) hS8 rfl) (jU rfl kE))),v5,l6,0,gN,Sep.cH hS19 _,rfl⟩
end Go.Sx
