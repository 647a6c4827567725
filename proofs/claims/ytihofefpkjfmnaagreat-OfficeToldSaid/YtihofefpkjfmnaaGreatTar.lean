/- Proves what some functions of the program answer, by walking through them. -/
import Derived.KernelRfl
import Derived.Test.YtihofefpkjfmnaaGreatTaj
import Derived.Test.YtihofefpkjfmnaaGreatTak
import Derived.Test.YtihofefpkjfmnaaGreatTam
import Derived.Test.YtihofefpkjfmnaaGreatTan
import Derived.Test.YtihofefpkjfmnaaGreatTao
import Derived.Test.YtihofefpkjfmnaaGreatTap
import Derived.Test.YtihofefpkjfmnaaGreatTaq
set_option linter.all false
set_option maxRecDepth 100000
set_option maxHeartbeats 0
namespace Go.Sx
open Go Go.Proofs
def Nd {H:aT} (l:Row lr) (F:List lC) (hS:Sep H F) :∃ v H',ka cfg FT ko true 234 [j8 l,j8 l,.kY 235 [] []] { H with cH:=[] } v H'/\((True)/\Sep H' (F)/\v=.bool true):=by
 refine kW Ja ?_
 refine aY ?_
 have hL1:=l.lk
 refine lu l ?_
 refine oV ?_
 have hL2:=l.lk
 refine lu l ?_
 refine lR (λh3=>?_) (λh3=>?_)
 refine aW ?_
 exact jg
 refine dS ?_
 have hL4:=l.lk
 refine lu l ?_
 refine aC ?_
 have hNk5:=l.lk
 refine jW l.l.length (λk5 e h=>∃ H6:aT,Sep H6 (F)/\At [1,2,15,16,17] [j8 l,.kY 235 [] [],j8 l,bY l.l.length,bY k5] H6 [] e h) ?_ (k0:=0) eG ⟨H,hS,atR⟩
 rintro k5 e h hkk5 ⟨H6,hS7,hA⟩
 refine aA ?_
 refine kx (λh8=>?_) (λh8=>?_)
 refine d7 ?_
 have hx9:k5<l.l.length:=by omega
 refine ml k5 l hx9 ?_
 generalize hqx10:l.l[k5]=x10
 refine oV ?_
 refine dM ?_
 have hx11:k5<l.l.length:=by omega
 refine ml k5 l hx11 ?_
 rw [hqx10]
 refine bu ?_
 refine a6 ?_
 refine kI (H:=H6) (args:=[.agg (lr.ag x10),.agg (lr.ag x10)]) (p:=[]) (r:=[]) rfl rfl rfl rfl rfl rfl rfl (aaO x10 F hS7) ?_
 rintro _ H14 ⟨hc16,hS15,rfl⟩
 refine cU ?_
 refine kD ?_
 refine ab ?_
 exact ⟨by omega,H14,hS15,atR⟩
 refine aS ?_
 have hS17:=Sep.pick hS7 [] 0 eB eB
 exact ⟨.bool true,rfl,zT,Sep.cH hS17 _,rfl⟩
def Xm (_a0:iF) (v:AV):Prop:=((True)/\v=.bool true)
def t194 (a0:iF) :Ct 194 [.agg (iF.ag a0),.agg (iF.ag a0)] (Xm a0):=by
 refine j9 GI ?_
 refine co ?_
 refine bL ?_
 refine oC (t231 a0.elems) ?_
 rintro _ (⟨hc1,rfl⟩)
 refine aP ?_
 refine oC (t232 a0.kg) ?_
 rintro _ (⟨hc2,rfl⟩)
 refine cr ?_
 refine oC (t233 a0.signals) ?_
 rintro _ (⟨hc3,rfl⟩)
 refine cr ?_
 refine kI (H:=aT.empty) (args:=[j8 a0.lines,j8 a0.lines,.kY 235 [] []]) (p:=[]) (r:=[]) rfl rfl rfl rfl rfl rfl rfl (Nd a0.lines ([]) kV) ?_
 rintro _ H5 ⟨hc7,hS6,rfl⟩
 refine cr ?_
 refine kR (λh8=>?_) (λh8=>?_)
 refine cr ?_
 refine kR (λh9=>?_) (λh9=>?_)
 refine cr ?_
 refine kR (λh10=>?_) (λh10=>?_)
 refine cr ?_
 refine kR (λh11=>?_) (λh11=>?_)
 refine aF ?_
 refine lS (b:=a0.lq) rfl (λ_=>rfl) (λh12=>?_) (λh12=>?_)
 refine oV ?_
 refine lS (b:=a0.lq) rfl (λ_=>rfl) (λh13=>?_) (λh13=>?_)
 refine bO ?_
 refine xB ⟨zT,rfl⟩
 refine bO ?_
 exact jg
 refine oV ?_
 refine lS (b:=a0.lq) rfl (λ_=>rfl) (λh14=>?_) (λh14=>?_)
 refine bO ?_
 exact jg
 refine bO ?_
 refine xB ⟨zT,rfl⟩
 refine cz ?_
 refine aR ?_
 exact jg
 refine aD ?_
 refine aR ?_
 exact jg
 refine cz ?_
 refine aD ?_
 refine aR ?_
 exact jg
 refine aD ?_
 refine aD ?_
 refine aR ?_
 exact jg
def ZS (_a0:Row kL) (v:AV):Prop:=((True)/\v=.bool true)
def t237 (a0:Row kL) :Ct 237 [kQ a0,kQ a0] (ZS a0):=by
 refine j9 Gl ?_
 refine aY ?_
 have hL1:=a0.lk
 refine dr ?_
 have hL2:=a0.lk
 refine lu a0 ?_
 refine lR (λh3=>?_) (λh3=>?_)
 refine aW ?_
 exact jg
 refine dS ?_
 have hL4:=a0.lk
 refine cN ?_
 have hNk5:=a0.lk
 refine jW a0.l.length (λk5 e h=>At [0,1,12,13] [kQ a0,kQ a0,bY a0.l.length,bY k5] aT.empty [] e h) ?_ (k0:=0) eG atR
 rintro k5 e h hkk5 hA
 refine aA ?_
 refine kx (λh6=>?_) (λh6=>?_)
 refine cT ?_
 refine bS ?_
 have hx7:k5<a0.l.length:=by omega
 refine ph k5 a0 hx7 ?_
 generalize hqx8:a0.l[k5]=x8
 refine bj ?_
 have hx9:k5<a0.l.length:=by omega
 refine ph k5 a0 hx9 ?_
 rw [hqx8]
 refine bE ?_
 refine kD ?_
 refine ab ?_
 exact ic
 refine aS ?_
 refine xB ⟨zT,rfl⟩
def YO (_a0:Row lI) (v:AV):Prop:=((True)/\v=.bool true)
def t238 (a0:Row lI) :Ct 238 [lT a0,lT a0] (YO a0):=by
 refine j9 Ha ?_
 refine aY ?_
 have hL1:=a0.lk
 refine dr ?_
 have hL2:=a0.lk
 refine lu a0 ?_
 refine lR (λh3=>?_) (λh3=>?_)
 refine aW ?_
 exact jg
 refine dS ?_
 have hL4:=a0.lk
 refine cN ?_
 have hNk5:=a0.lk
 refine jW a0.l.length (λk5 e h=>At [0,1,12,13] [lT a0,lT a0,bY a0.l.length,bY k5] aT.empty [] e h) ?_ (k0:=0) eG atR
 rintro k5 e h hkk5 hA
 refine aA ?_
 refine kx (λh6=>?_) (λh6=>?_)
 refine cT ?_
 refine bS ?_
 have hx7:k5<a0.l.length:=by omega
 refine ph k5 a0 hx7 ?_
 generalize hqx8:a0.l[k5]=x8
 refine bj ?_
 have hx9:k5<a0.l.length:=by omega
 refine ph k5 a0 hx9 ?_
 rw [hqx8]
 refine bE ?_
 refine kD ?_
 refine ab ?_
 exact ic
 refine aS ?_
 refine xB ⟨zT,rfl⟩
def abf (_a0:kz) (v:AV):Prop:=((True)/\v=.bool true)
def t196 (a0:kz) :Ct 196 [.agg (kz.ag a0),.agg (kz.ag a0)] (abf a0):=by
 refine j9 IJ ?_
 refine co ?_
 refine bL ?_
 refine kR (λh1=>?_) (λh1=>?_)
 refine aP ?_
 refine kR (λh2=>?_) (λh2=>?_)
 refine cr ?_
 refine kR (λh3=>?_) (λh3=>?_)
 refine cr ?_
 refine oC (t237 a0.steps) ?_
 rintro _ (⟨hc4,rfl⟩)
 refine cr ?_
 refine oC (t238 a0.nm) ?_
 rintro _ (⟨hc5,rfl⟩)
 refine cr ?_
 refine oC (t238 a0.guards) ?_
 rintro _ (⟨hc6,rfl⟩)
 refine cr ?_
 refine oC (t236 a0.nr) ?_
 rintro _ (⟨hc7,rfl⟩)
 refine cr ?_
 refine oC (t236 a0.holds) ?_
 rintro _ (⟨hc8,rfl⟩)
 refine aF ?_
 refine lS (b:=a0.bare) rfl (λ_=>rfl) (λh9=>?_) (λh9=>?_)
 refine oV ?_
 refine lS (b:=a0.bare) rfl (λ_=>rfl) (λh10=>?_) (λh10=>?_)
 refine bO ?_
 refine xB ⟨zT,rfl⟩
 refine bO ?_
 exact jg
 refine oV ?_
 refine lS (b:=a0.bare) rfl (λ_=>rfl) (λh11=>?_) (λh11=>?_)
 refine bO ?_
 exact jg
 refine bO ?_
 refine xB ⟨zT,rfl⟩
 refine aD ?_
 refine aD ?_
 refine aD ?_
 refine aR ?_
 exact jg
 refine cz ?_
 refine aD ?_
 refine aD ?_
 refine aD ?_
 refine aR ?_
 exact jg
 refine ck ?_
 refine cz ?_
 refine aD ?_
 refine aD ?_
 refine aD ?_
 refine aR ?_
 exact jg
def Lu {H:aT} (l:Row kz) (F:List lC) (hS:Sep H F) :∃ v H',ka cfg FT ko true 195 [ki l,ki l,.kY 196 [] []] { H with cH:=[] } v H'/\((True)/\Sep H' (F)/\v=.bool true):=by
 refine kW Jv ?_
 refine aY ?_
 have hL1:=l.lk
 refine lu l ?_
 refine oV ?_
 have hL2:=l.lk
 refine lu l ?_
 refine lR (λh3=>?_) (λh3=>?_)
 refine aW ?_
 exact jg
 refine dS ?_
 have hL4:=l.lk
 refine lu l ?_
 refine aC ?_
 have hNk5:=l.lk
 refine jW l.l.length (λk5 e h=>At [1,2,15,16,17] [ki l,.kY 196 [] [],ki l,bY l.l.length,bY k5] H [] e h) ?_ (k0:=0) eG atR
 rintro k5 e h hkk5 hA
 refine aA ?_
 refine kx (λh6=>?_) (λh6=>?_)
 refine d7 ?_
 have hx7:k5<l.l.length:=by omega
 refine ml k5 l hx7 ?_
 generalize hqx8:l.l[k5]=x8
 refine oV ?_
 refine dM ?_
 have hx9:k5<l.l.length:=by omega
 refine ml k5 l hx9 ?_
 rw [hqx8]
 refine bu ?_
 refine a6 ?_
 refine oC (t196 x8) ?_
 rintro _ (⟨hc11,rfl⟩)
 refine cU ?_
 refine kD ?_
 refine ab ?_
 exact ic
 refine aS ?_
 have hS12:=Sep.pick hS [] 0 eB eB
 exact ⟨.bool true,rfl,zT,Sep.cH hS12 _,rfl⟩
def XC (_a0:j5) (v:AV):Prop:=((True)/\v=.bool true)
def t120 (a0:j5) :Ct 120 [.agg (j5.ag a0),.agg (j5.ag a0)] (XC a0):=by
 refine j9 Jg ?_
 refine co ?_
 refine bL ?_
 refine oC (t194 a0.dO) ?_
 rintro _ (⟨hc1,rfl⟩)
 refine aP ?_
 refine kI (H:=aT.empty) (args:=[ki a0.roads,ki a0.roads,.kY 196 [] []]) (p:=[]) (r:=[]) rfl rfl rfl rfl rfl rfl rfl (Lu a0.roads ([]) kV) ?_
 rintro _ H3 ⟨hc5,hS4,rfl⟩
 refine aR ?_
 refine xB ⟨zT,rfl⟩
def aaH (_a0:Int) (v:AV):Prop:=(∃ k:Int,(True)/\v=oD k)
def t121 (a0:Int) :Ct 121 [iv a0] (aaH a0):=by
 refine j9 Hp ?_
 refine bI ?_
 refine a6 ?_
 refine kn (H:=aT.empty) rfl (nP kV) ?_
 rintro _ H2 ⟨b1,rfl,hS3⟩
 refine kn (H:=H2) rfl (nP hS3) ?_
 rintro _ H5 ⟨b4,rfl,hS6⟩
 refine kn (H:=H5) rfl (nP hS6) ?_
 rintro _ H8 ⟨b7,rfl,hS9⟩
 refine kn (H:=H8) rfl (nP hS9) ?_
 rintro _ H11 ⟨b10,rfl,hS12⟩
 refine oV ?_
 refine kn (H:=H11) rfl (mP (cs:=[iv ((if (if 40<a0 then 40 else a0) > 0 then (if 40<a0 then 40 else a0) else 0)),(.hm b1),(.hm b4),(.hm b7),(.hm b10)]) hS12 rfl rfl rfl rfl rfl) ?_
 rintro _ H14 ⟨b13,rfl,hS15⟩
 refine af ?_
 have hz16:∀ ls m,freeze false { H14 with cH:=ls } (m+3) (.hm b1)=some (.fm (lE iK pK []) false):=λls m=>qt (i:=4) hS15 rfl _ _ (λ_ hx=>by cases hx)
 have hz17:∀ ls m,freeze false { H14 with cH:=ls } (m+3) (.hm b4)=some (.fm (lE iK pK []) false):=λls m=>qt (i:=3) hS15 rfl _ _ (λ_ hx=>by cases hx)
 have hz18:∀ ls m,freeze false { H14 with cH:=ls } (m+3) (.hm b7)=some (.fm (lE iK pK []) false):=λls m=>qt (i:=2) hS15 rfl _ _ (λ_ hx=>by cases hx)
 have hz19:∀ ls m,freeze false { H14 with cH:=ls } (m+3) (.hm b10)=some (.fm (lE iK pK []) false):=λls m=>qt (i:=1) hS15 rfl _ _ (λ_ hx=>by cases hx)
 have hz20:∀ ls m,freeze false { H14 with cH:=ls } (m+4) (jQ b13)=some (.ip [iv ((if (if 40<a0 then 40 else a0) > 0 then (if 40<a0 then 40 else a0) else 0)),.fm (lE iK pK []) false,.fm (lE iK pK []) false,.fm (lE iK pK []) false,.fm (lE iK pK []) false] 0 false):=λls m=>mh (i:=0) hS15 rfl _ _ (by simp only [FZ,hz16,hz17,hz18,hz19])
 have hff21:freeze false { H14 with cH:=[] } 8 (jQ b13)=some (.ip [iv ((if (if 40<a0 then 40 else a0) > 0 then (if 40<a0 then 40 else a0) else 0)),.fm (lE iK pK []) false,.fm (lE iK pK []) false,.fm (lE iK pK []) false,.fm (lE iK pK []) false] 0 false):=by simp only [FZ,hz16,hz17,hz18,hz19,hz20]
 refine ⟨(jQ b13),rfl,.ip [iv ((if (if 40<a0 then 40 else a0) > 0 then (if 40<a0 then 40 else a0) else 0)),.fm (lE iK pK []) false,.fm (lE iK pK []) false,.fm (lE iK pK []) false,.fm (lE iK pK []) false] 0 false,hff21,⟨(((if (if 40<a0 then 40 else a0) > 0 then (if 40<a0 then 40 else a0) else 0))),zt⟩⟩
def YE (_a0:iS) (v:AV):Prop:=∃ r0:Int,(r0=(_a0.p.elems.l.length:Int))/\v=iv r0
def t122 (a0:iS) :Ct 122 [.ip (iS.ag a0) 0 false] (YE a0):=by
 refine j9 HG ?_
 refine bI ?_
 refine dD ?_
 have hL1:=a0.p.elems.lk
 refine lu a0.p.elems ?_
 refine af ?_
 exact xB ⟨((a0.p.elems.l.length:Int)),gm,rfl⟩
def Yu (_a0:iS) (v:AV):Prop:=(∃ n0:iS,(n0 = _a0)/\v=oz n0)
def t123 (a0:iS) :Ct 123 [.ip (iS.ag a0) 0 false] (Yu a0):=by
 refine j9 IK ?_
 refine aa ?_
 refine aZ ?_
 refine kn (H:=aT.empty) rfl (nP kV) ?_
 rintro _ H2 ⟨b1,rfl,hS3⟩
 refine oV ?_
 refine kn (H:=H2) rfl (mP (cs:=[.ip (iS.ag a0) 0 false,(.hm b1)]) hS3 rfl rfl rfl rfl rfl) ?_
 rintro _ H5 ⟨b4,rfl,hS6⟩
 refine af ?_
 have hz7:∀ ls m,freeze false { H5 with cH:=ls } (m+3) (.hm b1)=some (.fm (lE pK bK []) false):=λls m=>qt (i:=1) hS6 rfl _ _ (λ_ hx=>by cases hx)
 have hz8:∀ ls m,freeze false { H5 with cH:=ls } (m+4) (jQ b4)=some (oz a0):=λls m=>mh (i:=0) hS6 rfl _ _ (by simp only [FZ,hz7])
 have hff9:freeze false { H5 with cH:=[] } 8 (jQ b4)=some (oz a0):=by simp only [FZ,hz7,hz8]
 refine ⟨(jQ b4),rfl,oz a0,hff9,⟨a0,gm,rfl⟩⟩
def X5 (_a0:j5) (v:AV):Prop:=(∃ c:j5,∃ lv:Row lF,∃ ke:Int,∃ nn:iS,∃ sp:Row Int,(c = _a0/\lv.l.length = _a0.roads.l.length/\sp.l.length<=60/\∀ x∈lv.l,x.seen.l.length<=1000)/\v=.kq [nT c lv ke nn sp,iv 0])
def aaR (a0:j5) (q1:mB a0.dO) (q2:rs 57 [.agg (iF.ag a0.dO)]=.kq [.agg (j5.ag a0),iv 0]) (q3:∃ nx:iS,ot nx a0.dO/\rs 31 [.agg (iF.ag a0.dO)]=.kq [.ip (iS.ag nx) 0 false,iv 0]) (q4:a0.roads.l.length<=64):Ct 59 [.agg (j5.ag a0)] (X5 a0):=by
 refine j9 LS ?_
 obtain ⟨nx,hnk,hnx⟩:=q3; have hFw:=hnk.vD; have hFs:=hnk.vD.signals
 refine aa ?_
 refine dM ?_
 refine oC (XD a0.dO ey q2) ?_
 rintro _ rfl
 refine cQ ?_
 refine aH ?_
 refine wy [.la 1 0,.la 4 0] [(1,(j5.ag a0)),(4,(j5.ag a0))] ?_
 refine aX ?_
 refine oC (t120 a0) ?_
 rintro _ (⟨hc2,rfl⟩)
 refine aH ?_
 refine wy [.la 4 0] [(4,(j5.ag a0))] ?_
 refine ae ?_
 refine oC (Ml a0.dO ey hnx) ?_
 rintro _ rfl
 refine bV ?_
 refine aH ?_
 refine wy [.la 4 0,.ip (iS.ag nx) 0 false] [(4,(j5.ag a0))] ?_
 refine da ?_
 have hL4:=a0.roads.lk
 refine vx a0.roads ?_
 refine lH rfl rfl (qn (m:=a0.roads.l.length) kV rfl rfl rfl rfl rfl eC eB) ?_
 rintro v5 H6 hS7
 have hS9:=Sep.wu (enc:=lF.ag) (z:=(⟨0,0,false,(lZ:Row Bool)⟩:lF)) hS7 rfl
 refine rV ?_
 refine rC (t122 nx) ?_
 rintro _ ⟨r11,hc10,rfl⟩
 refine aI ?_
 refine rC (t121 r11) ?_
 rintro _ (⟨r13,hc12,rfl⟩)
 refine rC (t123 nx) ?_
 rintro _ (⟨r15,hc14,rfl⟩)
 refine rC (t63 nx) ?_
 rintro _ ⟨r17,hc16,rfl⟩
 have hC91:=hc16
 have hk18:(((r17).toNat:Nat):Int)=r17:=Int.toNat_of_nonneg eC
 have hk19:(((r17).toNat:Nat):Int)=r17:=Int.toNat_of_nonneg eC
 refine lH rfl rfl (qn (m:=(r17).toNat) hS9 rfl (congrArg (AV.int .i64) hk18.symm) (congrArg (AV.int .i64) hk19.symm) rfl rfl eC eB) ?_
 rintro v20 H21 hS22
 have hS24:=Sep.wu (enc:=j6) (z:=(0)) hS22 rfl
 rcases Sep.vQ (i:=1) hS24 rfl with ⟨rfl,hx27⟩ | ⟨rfl,hx27⟩ | ⟨b25,g26,rfl⟩
 rcases Sep.vQ (i:=0) hS24 rfl with ⟨rfl,hx30⟩ | ⟨rfl,hx30⟩ | ⟨b28,g29,rfl⟩
 refine rV ?_
 refine lH rfl rfl (mP (cs:=[kB a0.dO.elems,kC a0.dO.kg,kF a0.dO.signals,j8 a0.dO.lines,iv a0.dO.top,iv a0.dO.kU,iv a0.dO.kK,iv a0.dO.kM,.bool a0.dO.lq,ki a0.roads,iN,oD r13,oz r15,iN]) hS24 rfl rfl rfl rfl rfl) ?_
 rintro _ H32 ⟨b31,rfl,hS33⟩
 refine aV ?_
 have hz34:∀ ls m,freeze false { H32 with cH:=ls } (m+4) (jQ b31)=some (.ip [kB a0.dO.elems,kC a0.dO.kg,kF a0.dO.signals,j8 a0.dO.lines,iv a0.dO.top,iv a0.dO.kU,iv a0.dO.kK,iv a0.dO.kM,.bool a0.dO.lq,ki a0.roads,iN,oD r13,oz r15,iN] 0 false):=λls m=>mh (i:=0) hS33 rfl _ _ fk
 have hff35:freeze false { H32 with cH:=[(4,(j5.ag a0))] } 8 (.kq [(jQ b31),iv 0])=some (.kq [.ip [kB a0.dO.elems,kC a0.dO.kg,kF a0.dO.signals,j8 a0.dO.lines,iv a0.dO.top,iv a0.dO.kU,iv a0.dO.kK,iv a0.dO.kM,.bool a0.dO.lq,ki a0.roads,iN,oD r13,oz r15,iN] 0 false,iv 0]):=by simp only [FZ,hz34]
 refine ⟨.kq [(jQ b31),iv 0],rfl,.kq [.ip [kB a0.dO.elems,kC a0.dO.kg,kF a0.dO.signals,j8 a0.dO.lines,iv a0.dO.top,iv a0.dO.kU,iv a0.dO.kK,iv a0.dO.kM,.bool a0.dO.lq,ki a0.roads,iN,oD r13,oz r15,iN] 0 false,iv 0],hff35,⟨a0,(lZ:Row lF),r13,r15,(lZ:Row Int),eV,rfl⟩⟩
 refine rV ?_
 refine lH rfl rfl (mP (cs:=[kB a0.dO.elems,kC a0.dO.kg,kF a0.dO.signals,j8 a0.dO.lines,iv a0.dO.top,iv a0.dO.kU,iv a0.dO.kK,iv a0.dO.kM,.bool a0.dO.lq,ki a0.roads,iN,oD r13,oz r15,(.sl [] (.exact 0))]) hS24 rfl rfl rfl rfl rfl) ?_
 rintro _ H37 ⟨b36,rfl,hS38⟩
 refine aV ?_
 have hz39:∀ ls m,freeze false { H37 with cH:=ls } (m+4) (jQ b36)=some (.ip [kB a0.dO.elems,kC a0.dO.kg,kF a0.dO.signals,j8 a0.dO.lines,iv a0.dO.top,iv a0.dO.kU,iv a0.dO.kK,iv a0.dO.kM,.bool a0.dO.lq,ki a0.roads,iN,oD r13,oz r15,.sl [] (.exact 0)] 0 false):=λls m=>mh (i:=0) hS38 rfl _ _ fk
 have hff40:freeze false { H37 with cH:=[(4,(j5.ag a0))] } 8 (.kq [(jQ b36),iv 0])=some (.kq [.ip [kB a0.dO.elems,kC a0.dO.kg,kF a0.dO.signals,j8 a0.dO.lines,iv a0.dO.top,iv a0.dO.kU,iv a0.dO.kK,iv a0.dO.kM,.bool a0.dO.lq,ki a0.roads,iN,oD r13,oz r15,.sl [] (.exact 0)] 0 false,iv 0]):=by simp only [FZ,hz39]
 refine ⟨.kq [(jQ b36),iv 0],rfl,.kq [.ip [kB a0.dO.elems,kC a0.dO.kg,kF a0.dO.signals,j8 a0.dO.lines,iv a0.dO.top,iv a0.dO.kU,iv a0.dO.kK,iv a0.dO.kM,.bool a0.dO.lq,ki a0.roads,iN,oD r13,oz r15,.sl [] (.exact 0)] 0 false,iv 0],hff40,⟨a0,(lZ:Row lF),r13,r15,(⟨[],.exact 0,pR,rfl,nE⟩:Row Int),eV,rfl⟩⟩
 refine rV ?_
 refine lH rfl rfl (mP (cs:=[kB a0.dO.elems,kC a0.dO.kg,kF a0.dO.signals,j8 a0.dO.lines,iv a0.dO.top,iv a0.dO.kU,iv a0.dO.kK,iv a0.dO.kM,.bool a0.dO.lq,ki a0.roads,iN,oD r13,oz r15,(.hs b28 g29 0 (List.map j6 ((List.replicate ((r17).toNat) 0))).length)]) hS24 rfl rfl rfl rfl rfl) ?_
 rintro _ H42 ⟨b41,rfl,hS43⟩
 refine aV ?_
 obtain ⟨r44,hl45,hf46⟩:=lK (H:=H42) (i:=1) (l:=(List.replicate ((r17).toNat) 0)) (enc:=j6) hS43 rfl eA
 have hlq:=hl45; have hln48:=congrArg List.length hl45
 have hz47:∀ ls m,freeze false { H42 with cH:=ls } (m+2) ((.hs b28 g29 0 (List.map j6 ((List.replicate ((r17).toNat) 0))).length))=some (kN r44):=λls m=>hf46 _ _ (λ_=>rfl)
 have hz49:∀ ls m,freeze false { H42 with cH:=ls } (m+4) (jQ b41)=some (.ip [kB a0.dO.elems,kC a0.dO.kg,kF a0.dO.signals,j8 a0.dO.lines,iv a0.dO.top,iv a0.dO.kU,iv a0.dO.kK,iv a0.dO.kM,.bool a0.dO.lq,ki a0.roads,iN,oD r13,oz r15,kN r44] 0 false):=λls m=>mh (i:=0) hS43 rfl _ _ (by simp only [FZ,hz47])
 have hff50:freeze false { H42 with cH:=[(4,(j5.ag a0))] } 8 (.kq [(jQ b41),iv 0])=some (.kq [.ip [kB a0.dO.elems,kC a0.dO.kg,kF a0.dO.signals,j8 a0.dO.lines,iv a0.dO.top,iv a0.dO.kU,iv a0.dO.kK,iv a0.dO.kM,.bool a0.dO.lq,ki a0.roads,iN,oD r13,oz r15,kN r44] 0 false,iv 0]):=by simp only [FZ,hz47,hz49]
 refine ⟨.kq [(jQ b41),iv 0],rfl,.kq [.ip [kB a0.dO.elems,kC a0.dO.kg,kF a0.dO.signals,j8 a0.dO.lines,iv a0.dO.top,iv a0.dO.kU,iv a0.dO.kK,iv a0.dO.kM,.bool a0.dO.lq,ki a0.roads,iN,oD r13,oz r15,kN r44] 0 false,iv 0],hff50,⟨a0,(lZ:Row lF),r13,r15,r44,eV,rfl⟩⟩
 rcases Sep.vQ (i:=0) hS24 rfl with ⟨rfl,hx53⟩ | ⟨rfl,hx53⟩ | ⟨b51,g52,rfl⟩
 refine rV ?_
 refine lH rfl rfl (mP (cs:=[kB a0.dO.elems,kC a0.dO.kg,kF a0.dO.signals,j8 a0.dO.lines,iv a0.dO.top,iv a0.dO.kU,iv a0.dO.kK,iv a0.dO.kM,.bool a0.dO.lq,ki a0.roads,(.sl [] (.exact 0)),oD r13,oz r15,iN]) hS24 rfl rfl rfl rfl rfl) ?_
 rintro _ H55 ⟨b54,rfl,hS56⟩
 refine aV ?_
 have hz57:∀ ls m,freeze false { H55 with cH:=ls } (m+4) (jQ b54)=some (.ip [kB a0.dO.elems,kC a0.dO.kg,kF a0.dO.signals,j8 a0.dO.lines,iv a0.dO.top,iv a0.dO.kU,iv a0.dO.kK,iv a0.dO.kM,.bool a0.dO.lq,ki a0.roads,.sl [] (.exact 0),oD r13,oz r15,iN] 0 false):=λls m=>mh (i:=0) hS56 rfl _ _ fk
 have hff58:freeze false { H55 with cH:=[(4,(j5.ag a0))] } 8 (.kq [(jQ b54),iv 0])=some (.kq [.ip [kB a0.dO.elems,kC a0.dO.kg,kF a0.dO.signals,j8 a0.dO.lines,iv a0.dO.top,iv a0.dO.kU,iv a0.dO.kK,iv a0.dO.kM,.bool a0.dO.lq,ki a0.roads,.sl [] (.exact 0),oD r13,oz r15,iN] 0 false,iv 0]):=by simp only [FZ,hz57]
 refine ⟨.kq [(jQ b54),iv 0],rfl,.kq [.ip [kB a0.dO.elems,kC a0.dO.kg,kF a0.dO.signals,j8 a0.dO.lines,iv a0.dO.top,iv a0.dO.kU,iv a0.dO.kK,iv a0.dO.kM,.bool a0.dO.lq,ki a0.roads,.sl [] (.exact 0),oD r13,oz r15,iN] 0 false,iv 0],hff58,⟨a0,(⟨[],.exact 0,pR,rfl,nE⟩:Row lF),r13,r15,(lZ:Row Int),eV,rfl⟩⟩
 refine rV ?_
 refine lH rfl rfl (mP (cs:=[kB a0.dO.elems,kC a0.dO.kg,kF a0.dO.signals,j8 a0.dO.lines,iv a0.dO.top,iv a0.dO.kU,iv a0.dO.kK,iv a0.dO.kM,.bool a0.dO.lq,ki a0.roads,(.sl [] (.exact 0)),oD r13,oz r15,(.sl [] (.exact 0))]) hS24 rfl rfl rfl rfl rfl) ?_
 rintro _ H60 ⟨b59,rfl,hS61⟩
 refine aV ?_
 have hz62:∀ ls m,freeze false { H60 with cH:=ls } (m+4) (jQ b59)=some (.ip [kB a0.dO.elems,kC a0.dO.kg,kF a0.dO.signals,j8 a0.dO.lines,iv a0.dO.top,iv a0.dO.kU,iv a0.dO.kK,iv a0.dO.kM,.bool a0.dO.lq,ki a0.roads,.sl [] (.exact 0),oD r13,oz r15,.sl [] (.exact 0)] 0 false):=λls m=>mh (i:=0) hS61 rfl _ _ fk
 have hff63:freeze false { H60 with cH:=[(4,(j5.ag a0))] } 8 (.kq [(jQ b59),iv 0])=some (.kq [.ip [kB a0.dO.elems,kC a0.dO.kg,kF a0.dO.signals,j8 a0.dO.lines,iv a0.dO.top,iv a0.dO.kU,iv a0.dO.kK,iv a0.dO.kM,.bool a0.dO.lq,ki a0.roads,.sl [] (.exact 0),oD r13,oz r15,.sl [] (.exact 0)] 0 false,iv 0]):=by simp only [FZ,hz62]
 refine ⟨.kq [(jQ b59),iv 0],rfl,.kq [.ip [kB a0.dO.elems,kC a0.dO.kg,kF a0.dO.signals,j8 a0.dO.lines,iv a0.dO.top,iv a0.dO.kU,iv a0.dO.kK,iv a0.dO.kM,.bool a0.dO.lq,ki a0.roads,.sl [] (.exact 0),oD r13,oz r15,.sl [] (.exact 0)] 0 false,iv 0],hff63,⟨a0,(⟨[],.exact 0,pR,rfl,nE⟩:Row lF),r13,r15,(⟨[],.exact 0,pR,rfl,nE⟩:Row Int),eV,rfl⟩⟩
 refine rV ?_
 refine lH rfl rfl (mP (cs:=[kB a0.dO.elems,kC a0.dO.kg,kF a0.dO.signals,j8 a0.dO.lines,iv a0.dO.top,iv a0.dO.kU,iv a0.dO.kK,iv a0.dO.kM,.bool a0.dO.lq,ki a0.roads,(.sl [] (.exact 0)),oD r13,oz r15,(.hs b51 g52 0 (List.map j6 ((List.replicate ((r17).toNat) 0))).length)]) hS24 rfl rfl rfl rfl rfl) ?_
 rintro _ H65 ⟨b64,rfl,hS66⟩
 refine aV ?_
 obtain ⟨r67,hl68,hf69⟩:=lK (H:=H65) (i:=1) (l:=(List.replicate ((r17).toNat) 0)) (enc:=j6) hS66 rfl eA
 have hlq:=hl68; have hln71:=congrArg List.length hl68
 have hz70:∀ ls m,freeze false { H65 with cH:=ls } (m+2) ((.hs b51 g52 0 (List.map j6 ((List.replicate ((r17).toNat) 0))).length))=some (kN r67):=λls m=>hf69 _ _ (λ_=>rfl)
 have hz72:∀ ls m,freeze false { H65 with cH:=ls } (m+4) (jQ b64)=some (.ip [kB a0.dO.elems,kC a0.dO.kg,kF a0.dO.signals,j8 a0.dO.lines,iv a0.dO.top,iv a0.dO.kU,iv a0.dO.kK,iv a0.dO.kM,.bool a0.dO.lq,ki a0.roads,.sl [] (.exact 0),oD r13,oz r15,kN r67] 0 false):=λls m=>mh (i:=0) hS66 rfl _ _ (by simp only [FZ,hz70])
 have hff73:freeze false { H65 with cH:=[(4,(j5.ag a0))] } 8 (.kq [(jQ b64),iv 0])=some (.kq [.ip [kB a0.dO.elems,kC a0.dO.kg,kF a0.dO.signals,j8 a0.dO.lines,iv a0.dO.top,iv a0.dO.kU,iv a0.dO.kK,iv a0.dO.kM,.bool a0.dO.lq,ki a0.roads,.sl [] (.exact 0),oD r13,oz r15,kN r67] 0 false,iv 0]):=by simp only [FZ,hz70,hz72]
 refine ⟨.kq [(jQ b64),iv 0],rfl,.kq [.ip [kB a0.dO.elems,kC a0.dO.kg,kF a0.dO.signals,j8 a0.dO.lines,iv a0.dO.top,iv a0.dO.kU,iv a0.dO.kK,iv a0.dO.kM,.bool a0.dO.lq,ki a0.roads,.sl [] (.exact 0),oD r13,oz r15,kN r67] 0 false,iv 0],hff73,⟨a0,(⟨[],.exact 0,pR,rfl,nE⟩:Row lF),r13,r15,r67,eV,rfl⟩⟩
 rcases Sep.vQ (i:=0) hS24 rfl with ⟨rfl,hx76⟩ | ⟨rfl,hx76⟩ | ⟨b74,g75,rfl⟩
 refine rV ?_
 refine lH rfl rfl (mP (cs:=[kB a0.dO.elems,kC a0.dO.kg,kF a0.dO.signals,j8 a0.dO.lines,iv a0.dO.top,iv a0.dO.kU,iv a0.dO.kK,iv a0.dO.kM,.bool a0.dO.lq,ki a0.roads,(.hs b25 g26 0 (List.map lF.ag ((List.replicate a0.roads.l.length (⟨0,0,false,(lZ:Row Bool)⟩:lF)))).length),oD r13,oz r15,iN]) hS24 rfl rfl rfl rfl rfl) ?_
 rintro _ H78 ⟨b77,rfl,hS79⟩
 refine aV ?_
 obtain ⟨r80,hl81,hf82⟩:=lK (H:=H78) (i:=2) (l:=(List.replicate a0.roads.l.length (⟨0,0,false,(lZ:Row Bool)⟩:lF))) (enc:=lF.ag) hS79 rfl eA
 have hlq:=hl81; have hln84:=congrArg List.length hl81
 have hz83:∀ ls m,freeze false { H78 with cH:=ls } (m+2) ((.hs b25 g26 0 (List.map lF.ag ((List.replicate a0.roads.l.length (⟨0,0,false,(lZ:Row Bool)⟩:lF)))).length))=some (nK r80):=λls m=>hf82 _ _ (λ_=>by simp only [lF.ag,kG,m0,nf,np,mY,nj])
 have hz85:∀ ls m,freeze false { H78 with cH:=ls } (m+4) (jQ b77)=some (.ip [kB a0.dO.elems,kC a0.dO.kg,kF a0.dO.signals,j8 a0.dO.lines,iv a0.dO.top,iv a0.dO.kU,iv a0.dO.kK,iv a0.dO.kM,.bool a0.dO.lq,ki a0.roads,nK r80,oD r13,oz r15,iN] 0 false):=λls m=>mh (i:=0) hS79 rfl _ _ (by simp only [FZ,hz83])
 have hff86:freeze false { H78 with cH:=[(4,(j5.ag a0))] } 8 (.kq [(jQ b77),iv 0])=some (.kq [.ip [kB a0.dO.elems,kC a0.dO.kg,kF a0.dO.signals,j8 a0.dO.lines,iv a0.dO.top,iv a0.dO.kU,iv a0.dO.kK,iv a0.dO.kM,.bool a0.dO.lq,ki a0.roads,nK r80,oD r13,oz r15,iN] 0 false,iv 0]):=by simp only [FZ,hz83,hz85]
 refine ⟨.kq [(jQ b77),iv 0],rfl,.kq [.ip [kB a0.dO.elems,kC a0.dO.kg,kF a0.dO.signals,j8 a0.dO.lines,iv a0.dO.top,iv a0.dO.kU,iv a0.dO.kK,iv a0.dO.kM,.bool a0.dO.lq,ki a0.roads,nK r80,oD r13,oz r15,iN] 0 false,iv 0],hff86,⟨a0,r80,r13,r15,(lZ:Row Int),eV,rfl⟩⟩
 refine rV ?_
 refine lH rfl rfl (mP (cs:=[kB a0.dO.elems,kC a0.dO.kg,kF a0.dO.signals,j8 a0.dO.lines,iv a0.dO.top,iv a0.dO.kU,iv a0.dO.kK,iv a0.dO.kM,.bool a0.dO.lq,ki a0.roads,(.hs b25 g26 0 (List.map lF.ag ((List.replicate a0.roads.l.length (⟨0,0,false,(lZ:Row Bool)⟩:lF)))).length),oD r13,oz r15,(.sl [] (.exact 0))]) hS24 rfl rfl rfl rfl rfl) ?_
 rintro _ H88 ⟨b87,rfl,hS89⟩
 refine aV ?_
 obtain ⟨r90,hl91,hf92⟩:=lK (H:=H88) (i:=2) (l:=(List.replicate a0.roads.l.length (⟨0,0,false,(lZ:Row Bool)⟩:lF))) (enc:=lF.ag) hS89 rfl eA
 have hlq:=hl91; have hln94:=congrArg List.length hl91
 have hz93:∀ ls m,freeze false { H88 with cH:=ls } (m+2) ((.hs b25 g26 0 (List.map lF.ag ((List.replicate a0.roads.l.length (⟨0,0,false,(lZ:Row Bool)⟩:lF)))).length))=some (nK r90):=λls m=>hf92 _ _ (λ_=>by simp only [lF.ag,kG,m0,nf,np,mY,nj])
 have hz95:∀ ls m,freeze false { H88 with cH:=ls } (m+4) (jQ b87)=some (.ip [kB a0.dO.elems,kC a0.dO.kg,kF a0.dO.signals,j8 a0.dO.lines,iv a0.dO.top,iv a0.dO.kU,iv a0.dO.kK,iv a0.dO.kM,.bool a0.dO.lq,ki a0.roads,nK r90,oD r13,oz r15,.sl [] (.exact 0)] 0 false):=λls m=>mh (i:=0) hS89 rfl _ _ (by simp only [FZ,hz93])
 have hff96:freeze false { H88 with cH:=[(4,(j5.ag a0))] } 8 (.kq [(jQ b87),iv 0])=some (.kq [.ip [kB a0.dO.elems,kC a0.dO.kg,kF a0.dO.signals,j8 a0.dO.lines,iv a0.dO.top,iv a0.dO.kU,iv a0.dO.kK,iv a0.dO.kM,.bool a0.dO.lq,ki a0.roads,nK r90,oD r13,oz r15,.sl [] (.exact 0)] 0 false,iv 0]):=by simp only [FZ,hz93,hz95]
 refine ⟨.kq [(jQ b87),iv 0],rfl,.kq [.ip [kB a0.dO.elems,kC a0.dO.kg,kF a0.dO.signals,j8 a0.dO.lines,iv a0.dO.top,iv a0.dO.kU,iv a0.dO.kK,iv a0.dO.kM,.bool a0.dO.lq,ki a0.roads,nK r90,oD r13,oz r15,.sl [] (.exact 0)] 0 false,iv 0],hff96,⟨a0,r90,r13,r15,(⟨[],.exact 0,pR,rfl,nE⟩:Row Int),eV,rfl⟩⟩
 refine rV ?_
 refine lH rfl rfl (mP (cs:=[kB a0.dO.elems,kC a0.dO.kg,kF a0.dO.signals,j8 a0.dO.lines,iv a0.dO.top,iv a0.dO.kU,iv a0.dO.kK,iv a0.dO.kM,.bool a0.dO.lq,ki a0.roads,(.hs b25 g26 0 (List.map lF.ag ((List.replicate a0.roads.l.length (⟨0,0,false,(lZ:Row Bool)⟩:lF)))).length),oD r13,oz r15,(.hs b74 g75 0 (List.map j6 ((List.replicate ((r17).toNat) 0))).length)]) hS24 rfl rfl rfl rfl rfl) ?_
 rintro _ H98 ⟨b97,rfl,hS99⟩
 refine aV ?_
 obtain ⟨r100,hl101,hf102⟩:=lK (H:=H98) (i:=2) (l:=(List.replicate a0.roads.l.length (⟨0,0,false,(lZ:Row Bool)⟩:lF))) (enc:=lF.ag) hS99 rfl eA
 have hlq:=hl101; have hln104:=congrArg List.length hl101
 have hz103:∀ ls m,freeze false { H98 with cH:=ls } (m+2) ((.hs b25 g26 0 (List.map lF.ag ((List.replicate a0.roads.l.length (⟨0,0,false,(lZ:Row Bool)⟩:lF)))).length))=some (nK r100):=λls m=>hf102 _ _ (λ_=>by simp only [lF.ag,kG,m0,nf,np,mY,nj])
 obtain ⟨r105,hl106,hf107⟩:=lK (H:=H98) (i:=1) (l:=(List.replicate ((r17).toNat) 0)) (enc:=j6) hS99 rfl eA
 have hlq:=hl106; have hln109:=congrArg List.length hl106
 have hz108:∀ ls m,freeze false { H98 with cH:=ls } (m+2) ((.hs b74 g75 0 (List.map j6 ((List.replicate ((r17).toNat) 0))).length))=some (kN r105):=λls m=>hf107 _ _ (λ_=>rfl)
 have hz110:∀ ls m,freeze false { H98 with cH:=ls } (m+4) (jQ b97)=some (nT a0 r100 r13 r15 r105):=λls m=>mh (i:=0) hS99 rfl _ _ (by simp only [FZ,hz103,hz108])
 have hff111:freeze false { H98 with cH:=[(4,(j5.ag a0))] } 8 (.kq [(jQ b97),iv 0])=some (.kq [nT a0 r100 r13 r15 r105,iv 0]):=by simp only [FZ,hz103,hz108,hz110]
 refine ⟨.kq [(jQ b97),iv 0],rfl,.kq [nT a0 r100 r13 r15 r105,iv 0],hff111,⟨a0,r100,r13,r15,r105,eV,rfl⟩⟩
def P59 (_a0:j5) (v:AV):Prop:=(∃ c:j5,∃ lv:Row lF,∃ ke:Int,∃ nn:iS,∃ sp:Row Int,((c = _a0/\lv.l.length = _a0.roads.l.length/\sp.l.length<=60/\∀ x∈lv.l,x.seen.l.length<=1000)/\rs 59 [.agg (j5.ag _a0)]=.kq [nT c lv ke nn sp,iv 0])/\v=.kq [nT c lv ke nn sp,iv 0])
def t59 (a0:j5) (q1:mB a0.dO) (q2:rs 57 [.agg (iF.ag a0.dO)]=.kq [.agg (j5.ag a0),iv 0]) (q3:∃ nx:iS,ot nx a0.dO/\rs 31 [.agg (iF.ag a0.dO)]=.kq [.ip (iS.ag nx) 0 false,iv 0]) (q4:a0.roads.l.length<=64) (h:aT):∃ v,ka cfg FT ko false 59 [.agg (j5.ag a0)] h v h/\P59 a0 v:=by
 obtain ⟨v,hc,hP,hr⟩:=nC pF (aaR a0 q1 q2 q3 q4) h
 rcases hP with ⟨c,lv,ke,nn,sp,hp,rfl⟩
 ·exact ⟨_,hc,⟨c,lv,ke,nn,sp,⟨hp,hr⟩,rfl⟩⟩
def YD {H:aT} (b:Nat) (tt:jY) (x:jY) (F:List lC) (hS:Sep H (kO b (jY.ag tt)::F)) :∃ v H',ka cfg FT ko true 129 [.agg (jY.ag x),(jQ b)] { H with cH:=[] } v H'/\(∃ r0:Bool,(((r0=true->x.name.l=tt.name.l)/\(r0=false->¬ (x.name.l=tt.name.l))))/\Sep H' (kO b (jY.ag tt)::F)/\v=.bool r0):=by
 refine kW Gd ?_
 refine dE ?_
 refine od 0 hS ?_
 refine m5 0 hS (.str tt.name.l) ?_
 refine oZ rfl (λ_=>sv rfl rfl) (λh1=>?_) (λh1=>?_)
 refine af ?_
 have hS2:=Sep.pick hS [0] 1 eB eB
 exact iG
 refine af ?_
 have hS3:=Sep.pick hS [0] 1 eB eB
 exact iH
def LH {H:aT} (l:jS jY) (b:Nat) (tt:jY) (F:List lC) (hS:Sep H (kO b (jY.ag tt)::F)) :∃ v H',ka cfg FT ko true 200 [jS.av jY.ag l,.kY 129 [] [(jQ b)]] { H with cH:=[] } v H'/\(∃ r0:Int,(((0<=r0->∃ x∈l.l,x.name.l=tt.name.l)/\(r0<0->∀ x∈l.l,¬ (x.name.l=tt.name.l))))/\Sep H' (kO b (jY.ag tt)::F)/\v=iv r0):=by
 refine kW F6 ?_
 refine aY ?_
 have hL1:=l.lk
 refine jP rfl (λ_=>m8 (r:=l) (enc:=jY.ag) rfl rfl rfl rfl rfl rfl) ?_
 refine aC ?_
 have hNk2:=l.lk
 refine jW l.l.length (λk2 e h=>∃ H3:aT,(∀ (i:Nat) (h:i<l.l.length),i<k2->¬ ((l.l[i]).name.l=tt.name.l))/\Sep H3 (kO b (jY.ag tt)::F)/\At [0,1,7,8] [jS.av jY.ag l,.kY 129 [] [(jQ b)],bY l.l.length,bY k2] H3 [] e h) ?_ (k0:=0) eG ⟨H,fT,hS,atR⟩
 rintro k2 e h hkk2 ⟨H3,hP,hS4,hA⟩
 refine aA ?_
 refine kx (λh5=>?_) (λh5=>?_)
 refine cT ?_
 refine a6 ?_
 have hx6:k2<l.l.length:=by omega
 refine jP rfl (λ_=>mJ (n:=k2) (r:=l) (enc:=jY.ag) rfl rfl rfl rfl rfl hx6 rfl) ?_
 generalize hqx7:l.l[k2]=x7
 have hinx7:x7∈l.l:=by rw [<- hqx7]; exact List.getElem_mem _
 have hmx7:=True.intro
 refine oV ?_
 have hS8:=Sep.pick hS4 [0] 1 eB eB
 refine kI (H:=H3) (args:=[.agg (jY.ag x7)]) (p:=[]) (r:=[(jQ b)]) rfl rfl rfl rfl rfl rfl rfl (YD b tt x7 F hS8) ?_
 rintro _ H9 ⟨r12,hc11,hS10,rfl⟩
 have hB:=hc11
 cases r12
 refine bU ?_
 refine kD ?_
 refine ab ?_
 exact ⟨by omega,H9,(by exact rm (P:=λx:jY=>¬ (x.name.l=tt.name.l)) ez hP (hB.2 rfl)),hS10,atR⟩
 refine aJ ?_
 have hS13:=Sep.pick hS10 [0] 1 eB eB
 exact jh
 refine aS ?_
 have hS14:=Sep.pick hS4 [0] 1 eB eB
 exact ji
def Dl {H:aT} (l:jS jY) (b:Nat) (tt:jY) (F:List lC) (hS:Sep H (kO b (jY.ag tt)::F)) :∃ v H',ka cfg FT ko true 128 [jS.av jY.ag l,.kY 129 [] [(jQ b)]] { H with cH:=[] } v H'/\(∃ r0:Bool,(((r0=true->∃ x∈l.l,x.name.l=tt.name.l)/\(r0=false->∀ x∈l.l,¬ (x.name.l=tt.name.l))))/\Sep H' (kO b (jY.ag tt)::F)/\v=.bool r0):=by
 refine kW Ht ?_
 refine cX ?_
 have hS1:=Sep.pick hS [0] 1 eB eB
 refine kI (H:=H) (args:=[jS.av jY.ag l,.kY 129 [] [(jQ b)]]) (p:=[]) (r:=[]) rfl rfl rfl rfl rfl rfl rfl (LH l b tt F hS1) ?_
 rintro _ H2 ⟨r5,hc4,hS3,rfl⟩
 have hIx:=hc4
 refine mV (λh6=>?_) (λh6=>?_)
 refine af ?_
 have hS7:=Sep.pick hS3 [0] 1 eB eB
 exact iD
 refine af ?_
 have hS8:=Sep.pick hS3 [0] 1 eB eB
 exact iE
def P61 (_a0:Row j4) (_a1:jS jY) (v:AV):Prop:=∃ r0:Int,(r0=0)/\v=iv r0
def t61 (a0:Row j4) (a1:jS jY) (q1:∀ t∈a1.l,rs 127 [.str t.name.l]=.bool true/\0<=t.j3/\t.j3<(a0.l.length:Int)) (q2:∀ (i j:Nat) (h:j<a1.l.length) (hij:i<j),(a1.l[i]).name.l≠(a1.l[j]).name.l) (q3:a1.l.length<=8):Ct 61 [kj a0,jS.av jY.ag a1] (P61 a0 a1):=by
 refine j9 HC ?_
 refine aY ?_
 have hL1:=a1.lk
 refine jP rfl (λ_=>m8 (r:=a1) (enc:=jY.ag) rfl rfl rfl rfl rfl rfl) ?_
 refine ma (λh2=>?_) (λh2=>?_)
 refine aW ?_
 exact xB ⟨3,gy,rfl⟩
 refine ah ?_
 refine wy [kj a0,jS.av jY.ag a1] [] ?_
 refine aY ?_
 have hL3:=a1.lk
 refine ee ?_
 have hNk4:=a1.lk
 refine jW a1.l.length (λk4 e h=>∃ n5:Int,∃ H6:aT,(n5=0)/\Sep H6 ([])/\At [0,1,5,11,12,13] [kj a0,jS.av jY.ag a1,iv n5,jS.av jY.ag a1,bY a1.l.length,bY k4] H6 [] e h) ?_ (k0:=0) eG ⟨0,aT.empty,gm,kV,atR⟩
 rintro k4 e h hkk4 ⟨n5,H6,hE0,hS7,hA⟩
 refine aA ?_
 refine kx (λh8=>?_) (λh8=>?_)
 refine d8 ?_
 refine aw ?_
 have hx9:k4<a1.l.length:=by omega
 refine jP rfl (λ_=>mJ (n:=k4) (r:=a1) (enc:=jY.ag) rfl rfl rfl rfl rfl hx9 rfl) ?_
 generalize hqx10:a1.l[k4]=x10
 have hinx10:x10∈a1.l:=by rw [<- hqx10]; exact List.getElem_mem _
 have hsx10:=q1 x10 hinx10
 refine oV ?_
 refine kn rfl (rz hS7 rfl rfl) ?_
 rintro _ H12 ⟨b11,rfl,hS13⟩
 refine dw ?_
 rintro _ H14 ⟨rfl,hS15⟩
 refine cL ?_
 refine oC (UI x10.name  hsx10.1) ?_
 rintro _ rfl
 refine bD ?_
 refine kx (λh17=>?_) (λh17=>?_)
 refine cz ?_
 refine au ?_
 exact xB ⟨1,gy,rfl⟩
 refine bD ?_
 refine oV ?_
 have hL18:=a0.lk
 refine lu a0 ?_
 refine mV (λh19=>?_) (λh19=>?_)
 refine au ?_
 exact xB ⟨1,gy,rfl⟩
 refine aH ?_
 refine dF ?_
 have hx20:k4<=a1.l.length:=by omega
 refine jP rfl (λ_=>B5 (k:=k4) (r:=a1) (enc:=jY.ag) (n:=5) rfl rfl rfl rfl rfl rfl hx20 (λ_=>rfl)) ?_
 refine jP rfl (λ_=>sf rfl rfl (rY rfl rfl)) ?_
 have hS21:=Sep.pick hS15 [0] 1 eB eB
 refine kI (H:=H14) (args:=[jS.av jY.ag (jS.take a1 k4),.kY 129 [] [(jQ b11)]]) (p:=[]) (r:=[]) rfl rfl rfl rfl rfl rfl rfl (Dl (jS.take a1 k4) b11 x10 ([]) hS21) ?_
 rintro _ H22 ⟨r25,hc24,hS23,rfl⟩
 have hCt:=hc24
 cases r25
 refine ah ?_
 refine wz [kj a0,jS.av jY.ag a1,iv n5,jS.av jY.ag a1,bY a1.l.length,bY k4] H22 [] ?_
 refine qg ?_
 refine kD ?_
 refine ab ?_
 have hS26:=Sep.pick hS23 [] 1 eB eB
 exact ⟨by omega,n5,H22,gL,hS26,atR⟩
 refine dm ?_
 refine ab ?_
 refine wz [kj a0,jS.av jY.ag a1,iv 4,jS.av jY.ag a1,bY a1.l.length,bY k4] H22 [] ?_
 refine qg ?_
 refine kD ?_
 refine ab ?_
 have hS27:=Sep.pick hS23 [] 1 eB eB
 exact ⟨by omega,4,H22,gL,hS27,atR⟩
 refine aj ?_
 refine wz [iv n5] H6 [] ?_
 refine bR ?_
 exact xB ⟨n5,gy,rfl⟩
def SW:FT 62=some Lf:=by kernel_rfl
def PT:ko 62=none:=by kernel_rfl
def P62 (_a0:iS) (v:AV):Prop:=∃ cs:List AV,True/\v=.ip cs 0 false
def t62 (a0:iS) (q1:a0.p.elems.l.length<=40) (h:aT):∃ v,ka cfg FT ko false 62 [.ip (iS.ag a0) 0 false] h v h/\P62 a0 v:=by
 refine DA PT SW rfl rfl ?_
 refine qq (qg (oV ?_))
 refine oN (qq (qg (oV ?_)))
 refine oV ?_
 refine kn (H:=aT.empty) rfl (mP kV rfl rfl rfl rfl rfl) ?_
 rintro _ H2 ⟨b1,rfl,hS3⟩
 refine oV ?_
 refine oN (qs (qq (qg (oV ?_))))
 refine oC (t122 a0) ?_
 rintro _ ⟨r5,hc4,rfl⟩
 refine oV ?_
 refine oN (qb ?_)
 refine jW ((r5).toNat) (λk6 e h=>∃ (cs:List AV) (H:aT),cs.length=265/\uF cs/\Sep H [kO b1 cs]/\proj [0,3,9,10] e=[(0,.ip (iS.ag a0) 0 false),(3,(jQ b1)),(9,iv r5),(10,bY k6)]/\{ h with cH:=nv [0,3,9,10] h.cH } = { H with cH:=[] }) ?_ (k0:=0) eG ⟨_,H2,rfl,?_,hS3,rfl,rfl⟩
 ·rintro k6 e h hkk6 ⟨cs,H,hcl,hcf,hS,he,hh⟩
  refine FX he hh ?_
  clear he hh
  refine qq (qg ?_)
  refine kx (λh7=>?_) (λh7=>?_)
  ·refine oN (qs (qT ?_))
   refine qk ?_
   refine wa [(0,.ip (iS.ag a0) 0 false),(3,(jQ b1)),(9,iv r5),(10,bY k6)] H [] ?_
   refine qs (qb (qq (qg (oV ?_))))
   refine oV ?_
   refine oN (qq (qg (oV ?_)))
   refine oV ?_
   refine oC (t102 a0 ((k6:Int))) ?_
   rintro _ ⟨r9,hc8,rfl⟩
   refine kR (λh10=>?_) (λh10=>?_)
   ·refine oN (qT ?_)
    refine qg (oV ?_)
    refine oV ?_
    refine jP rfl (λ_=>oG (H:=H) (i:=0) (o:=0) hS rfl rfl) ?_
    refine jP rfl (λ_=>nw (H:=H) (i:=0) (o:=0) hS rfl rfl rfl rfl rfl) ?_
    have hk:k6<40:=by omega
    refine jP rfl (λ_=>Qk (H:=H) (i:=0) (o:=0+1) (k:=k6) hS rfl rfl rfl rfl rfl rfl hk) ?_
    refine jP rfl (λ_=>nw (H:=H) (i:=0) (o:=0+1+k6*5) hS rfl rfl rfl rfl rfl) ?_
    obtain ⟨cs',hs1,hs2,hs3⟩:=Ky (cs:=cs) (new:=[iv 1]) (o:=0+1+k6*5+0) (by rw [hcl]; simp only [List.length_cons,List.length_nil]; omega)
    refine kn (H:=H) rfl (lY (H:=H) (i:=0) (o:=0+1+k6*5+0) (r:=iv 1) hS rfl rfl rfl rfl rfl rfl hs1) ?_
    rintro _ H3 ⟨rfl,hS4⟩
    refine oN ?_
    refine wa [(0,.ip (iS.ag a0) 0 false),(3,(jQ b1)),(9,iv r5),(10,bY k6)] H3 [] ?_
    refine qg ?_
    refine jP rfl (λ_=>me rfl rfl rfl (zL ((k6:Int)) 1 eG eG)) ?_
    refine oV ?_
    refine oN ?_
    exact ⟨by omega,cs',H3,by rw [hs2,hcl],hs3 hcf (by intro c hc; simp at hc; subst hc; intro hp n; rfl),hS4,rfl,rfl⟩
   ·refine oN (qF ?_)
    refine qk ?_
    refine wa [(0,.ip (iS.ag a0) 0 false),(3,(jQ b1)),(9,iv r5),(10,bY k6)] H [] ?_
    refine qg ?_
    refine jP rfl (λ_=>me rfl rfl rfl (zL ((k6:Int)) 1 eG eG)) ?_
    refine oV ?_
    refine oN ?_
    exact ⟨by omega,cs,H,hcl,hcf,hS,rfl,rfl⟩
  ·refine oN (qs (qF ?_))
   refine qe ?_
   refine wa [(3,(jQ b1))] H [] ?_
   refine qq (qg (oV ?_))
   refine oV ?_
   refine oN (qr ?_)
   have hz11:freeze false { H with cH:=[] } 8 (jQ b1)=some (.ip cs 0 false):=mh (i:=0) hS rfl [] 7 (hcf.frz _ 5)
   exact ⟨(jQ b1),rfl,.ip cs 0 false,hz11,cs,zt⟩
 ·exact uF.of rfl
def u64 {H:aT} (bw:Nat) (n:iS) (bx:AV) (fd:AV) (vs:AV) (sl:List j4) (vb:AV) (bl:List kr) (lm:AV) (i1:AV) (i2:AV) (i3:AV) (i4:AV) (i5:AV) (i6:AV) (i7:AV) (tr:jS jY) (F:List lC) (hS:Sep H (kO bw [.ip (iS.ag n) 0 false,bx,fd,vs,vb,lm,i1,i2,i3,i4,i5,i6,i7]::m6 j4.ag 5 vs sl::my kr.ag 5 vb bl::F)) (q1:bl=[]) (q2:sl.length=tr.l.length) (q3:∀ (i:Nat) (x:jY) (y:j4),tr.l[i]?=some x->sl[i]?=some y->∃ b:kr,b.lJ.l=[x.at_]/\rs 130 [.ip (iS.ag n) 0 false,iv y.len,.agg (jY.ag x)]=.kq [.agg (kr.ag b),iv 0]) (q4:∀ i j:Nat,i<j->j<tr.l.length->∀ x∈LT tr.l n.p i,x∉LT tr.l n.p j) (q5:n.p.elems.l.length<=40) (q6:∀ i:Nat,∀ x∈LT tr.l n.p i,0<=x/\x<(n.p.elems.l.length:Int)) (q7:tr.l.length<=8):∃ v H',ka cfg FT ko true 64 [(jQ bw),jS.av jY.ag tr] { H with cH:=[] } v H'/\(∃ r0:Int,∃ vbo:AV,∃ blo:List kr,(r0=0/\blo.length=tr.l.length/\∀ x∈blo,x.lJ.l.length<=1000)/\Sep H' (kO bw [.ip (iS.ag n) 0 false,bx,fd,vs,vbo,lm,i1,i2,i3,i4,i5,i6,i7]::m6 j4.ag 5 vs sl::my kr.ag 5 vbo blo::F)/\v=iv r0):=by
 refine kW HA ?_
 refine aY ?_
 have hL1:=tr.lk
 refine ef ?_
 have hNk2:=tr.lk
 refine jW tr.l.length (λk2 e h=>∃ v3:AV,∃ l4:List kr,∃ H5:aT,(l4.length=k2)/\(∀ (i:Nat) (h:i<(l4).length) (h2:i<tr.l.length),((l4)[i]).lJ.l=[(tr.l[i]).at_])/\Sep H5 (kO bw [.ip (iS.ag n) 0 false,bx,fd,vs,v3,lm,i1,i2,i3,i4,i5,i6,i7]::m6 j4.ag 5 vs sl::my kr.ag 5 v3 l4::F)/\At [0,14,15,16] [(jQ bw),jS.av jY.ag tr,bY tr.l.length,bY k2] H5 [] e h) ?_ (k0:=0) eG ⟨vb,bl,H,(by (rw [q1]; rfl)),(by (subst q1; intro i h; simp at h)),hS,atR⟩
 rintro k2 e h hkk2 ⟨v3,l4,H5,hB,hT,hS6,hA⟩
 refine aA ?_
 refine kx (λh7=>?_) (λh7=>?_)
 refine d7 ?_
 have hx8:k2<tr.l.length:=by omega
 refine jP rfl (λ_=>mJ (n:=k2) (r:=tr) (enc:=jY.ag) rfl rfl rfl rfl rfl hx8 rfl) ?_
 generalize hqx9:tr.l[k2]=x9
 refine bZ ?_
 refine cG ?_
 have hx10:k2<sl.length:=by first | omega | (simp<;>omega) | (simp_all; omega)
 obtain ⟨x11,hqx11⟩:∃ x,sl[k2]=x:=⟨_,rfl⟩
 refine nk rfl rfl (lO (H:=H5) (i:=1) (m:=k2) (cs:=j4.ag x11) hS6 rfl rfl rfl rfl rfl rfl rfl (lA hx10 hqx11)) ?_
 rintro a12 ⟨ha13,hea14⟩
 refine cy ?_
 obtain ⟨b16,hb17,hb18⟩:=q3 _ x9 x11 (List.getElem?_eq_some_iff.mpr ⟨_,hqx9⟩) (List.getElem?_eq_some_iff.mpr ⟨_,hqx11⟩)
 have hBt:=hb17
 refine rC (Tt n x11.len x9  hb18) ?_
 rintro _ rfl
 refine bP ?_
 refine dK ?_
 refine dt ?_
 refine dC ?_
 refine kp rfl rfl (λ_=>sA (xs:=[(kr.ag b16)]) rfl rfl rfl rfl (yp (jU rfl (jU (mZ _) (jU rfl (jU rfl (jU rfl kE))))) rfl)) ?_
 refine Wb 2 [b16] hS6 λv19 H20 hS21=>?_
 refine nF 0 hS21 ?_
 refine ni 0 hS21 ?_
 refine lH (H:=H20) rfl rfl (lY (H:=H20) (i:=0) (o:=4) (r:=v19) hS21 rfl rfl rfl rfl (mF rfl rfl (Sep.cell (i:=2) hS21 rfl)) (jU (Sep.cell (i:=2) hS21 rfl) kE) rfl) ?_
 rintro _ H22 ⟨rfl,hS23⟩
 refine rN ?_
 refine qg ?_
 refine kD ?_
 refine ab ?_
 exact ⟨by omega,v19,((l4++[b16])),H22,fu,(by exact TZ hT hB ez ez hBt),hS23,atR⟩
 refine aj ?_
 refine ai ?_
 refine dx ?_
 rintro _ ⟨r25,hc24,rfl⟩
 have hk26:(((r25).toNat:Nat):Int)=r25:=Int.toNat_of_nonneg eC
 have hk27:(((r25).toNat:Nat):Int)=r25:=Int.toNat_of_nonneg eC
 refine kn (H:=H5) rfl (qn (m:=(r25).toNat) hS6 rfl (congrArg (AV.int .i64) hk26.symm) (congrArg (AV.int .i64) hk27.symm) rfl rfl eC eB) ?_
 rintro v28 H29 hS30
 have hS32:=Sep.wu (enc:=mI) (z:=false) hS30 rfl
 refine ao ?_
 refine uj 1 hS32 ?_
 refine od 1 hS32 ?_
 refine m5 1 hS32 v3 ?_
 refine jP rfl (λ_=>nb (H:=H29) (i:=3) (l:=l4) (enc:=kr.ag) hS32 rfl rfl rfl rfl rfl rfl rfl) ?_
 refine aC ?_
 refine jW l4.length (λk33 e h=>∃ v34:AV,∃ l35:List Bool,∃ H36:aT,(l35.length=n.p.elems.l.length)/\(Mt (LT tr.l n.p) k33 [] l35)/\Sep H36 (my mI 1 v34 l35::kO bw [.ip (iS.ag n) 0 false,bx,fd,vs,v3,lm,i1,i2,i3,i4,i5,i6,i7]::m6 j4.ag 5 vs sl::my kr.ag 5 v3 l4::F)/\At [0,9,61,62,63] [(jQ bw),v34,v3,bY l4.length,bY k33] H36 [] e h) ?_ (k0:=0) eG ⟨v28,((List.replicate ((r25).toNat) false)),H29,fu,(by exact Mt.zero _ _),hS32,(kh hS32 [(9,0),(61,3)])⟩
 rintro k33 e h hkk33 ⟨v34,l35,H36,hM1,hM,hS37,hA⟩
 refine aA ?_
 refine kx (λh38=>?_) (λh38=>?_)
 refine ak ?_
 refine wz [(jQ bw),v34,v3,bY l4.length,bY k33] H36 [] ?_ (kh hS37 [(9,0),(61,3)])
 refine bd ?_
 have hx39:k33<l4.length:=by first | omega | (simp<;>omega) | (simp_all; omega)
 obtain ⟨x40,hqx40⟩:∃ x,l4[k33]=x:=⟨_,rfl⟩
 have hinx40:x40∈l4:=by rw [<- hqx40]; exact List.getElem_mem _
 have hsx40:=QU hT hqx40 eG
 refine mv rfl (lO (H:=H36) (i:=3) (m:=k33) (cs:=kr.ag x40) hS37 rfl rfl rfl rfl rfl rfl rfl (lA hx39 hqx40)) ?_
 rintro a41 ⟨ha42,hea43⟩
 refine jP rfl (λ_=>mK (H:=H36) (i:=3) (m:=k33) (o:=0) (r:=.agg (kr.ag x40)) (cs:=kr.ag x40) hS37 rfl (lA hx39 hqx40) hea43 rfl rfl ha42) ?_
 refine bh ?_
 refine cF ?_
 refine nF 1 hS37 ?_
 refine ni 1 hS37 ?_
 refine nX 1 hS37 (.ip (iS.ag n) 0 false) ?_
 refine rV ?_
 refine rC (t131 n x40 ey) ?_
 rintro _ ⟨r45,hc44,rfl⟩
 have hLie:=hc44
 have hL46:=r45.lk
 refine vx r45 ?_
 refine aO ?_
 refine qb ?_
 have hNk47:=r45.lk
 refine jW r45.l.length (λk47 e h=>∃ v48:AV,∃ l49:List Bool,∃ H50:aT,(l49.length=n.p.elems.l.length)/\(Mt (LT tr.l n.p) k33 (r45.l.take k47) l49)/\Sep H50 (my mI 1 v48 l49::kO bw [.ip (iS.ag n) 0 false,bx,fd,vs,v3,lm,i1,i2,i3,i4,i5,i6,i7]::m6 j4.ag 5 vs sl::my kr.ag 5 v3 l4::F)/\At [0,9,61,62,63,72,73,74] [(jQ bw),v48,v3,bY l4.length,bY k33,kN r45,bY r45.l.length,bY k47] H50 [] e h) ?_ (k0:=0) eG ⟨v34,l35,H36,eG,(by exact hM),hS37,(kh hS37 [(9,0),(61,3)])⟩
 rintro k47 e h hkk47 ⟨v48,l49,H50,hM1,hM2,hS51,hA⟩
 refine aA ?_
 refine kx (λh52=>?_) (λh52=>?_)
 refine ak ?_
 refine wz [(jQ bw),v48,v3,bY l4.length,bY k33,kN r45,bY r45.l.length,bY k47] H50 [] ?_ (kh hS51 [(9,0),(61,3)])
 refine bd ?_
 have hx53:k47<r45.l.length:=by omega
 refine ml k47 r45 hx53 ?_
 generalize hqx54:r45.l[k47]=x54
 have hinx54:x54∈r45.l:=by rw [<- hqx54]; exact List.getElem_mem _
 have hLk:=Oj hT ez eG hLie; have hsx54:=q6 _ x54 (hLk▸hinx54)
 refine bh ?_
 refine aX ?_
 have hk55:(((x54).toNat:Nat):Int)=x54:=Int.toNat_of_nonneg eC
 have hx56:(x54).toNat<l49.length:=by first | omega | (simp<;>omega) | (simp_all; omega)
 obtain ⟨x57,hqx57⟩:∃ x,l49[(x54).toNat]=x:=⟨_,rfl⟩
 refine mv rfl (lO (H:=H50) (i:=0) (m:=(x54).toNat) (cs:=mI x57) hS51 rfl rfl rfl rfl rfl rfl (congrArg (AV.int .i64) hk55.symm) (lA hx56 hqx57)) ?_
 rintro a58 ⟨ha59,hea60⟩
 refine lS (b:=x57) rfl (λ_=>mK (H:=H50) (i:=0) (m:=(x54).toNat) (o:=0) (r:=.bool x57) (cs:=mI x57) hS51 rfl (lA hx56 hqx57) hea60 rfl rfl ha59) (λh61=>?_) (λh61=>?_)
 refine aW ?_
 have hS62:=Sep.pick hS51 [1,2,3] 4 eB eB
 exact ⟨iv 18,rfl,18,v3,l4,gn,Sep.cH hS62 _,rfl⟩
 refine ah ?_
 refine wz [(jQ bw),v48,iv x54,v3,bY l4.length,bY k33,kN r45,bY r45.l.length,bY k47] H50 [] ?_ (kh hS51 [(9,0),(61,3)])
 refine cu ?_
 have hk63:(((x54).toNat:Nat):Int)=x54:=Int.toNat_of_nonneg eC
 have hx64:(x54).toNat<l49.length:=by first | omega | (simp<;>omega) | (simp_all; omega)
 refine mv rfl (lO (H:=H50) (i:=0) (m:=(x54).toNat) (cs:=mI x57) hS51 rfl rfl rfl rfl rfl rfl (congrArg (AV.int .i64) hk63.symm) (lA hx64 hqx57)) ?_
 rintro a65 ⟨ha66,hea67⟩
 refine kn (H:=H50) rfl (nH (H:=H50) (i:=0) (m:=(x54).toNat) (o:=0) x57 true hS51 rfl hx64 hqx57 hea67 rfl ha66 rfl rfl rfl rfl) ?_
 rintro _ H68 ⟨rfl,hS69⟩
 refine oN ?_
 refine wz [(jQ bw),v48,v3,bY l4.length,bY k33,kN r45,bY r45.l.length,bY k47] H68 [] ?_ (kh hS69 [(9,0),(61,3)])
 refine qg ?_
 refine kD ?_
 refine ab ?_
 exact ⟨by omega,v48,((l49.set ((x54).toNat) true)),H68,eF,(by exact Mt.set hM2 ez ez eG),hS69,(kh hS69 [(9,0),(61,3)])⟩
 refine aj ?_
 refine wz [(jQ bw),v48,v3,bY l4.length,bY k33] H50 [] ?_ (kh hS51 [(9,0),(61,3)])
 refine qg ?_
 refine kD ?_
 refine ab ?_
 exact ⟨by omega,v48,l49,H50,eF,(by exact Mt.done hM2 eG (Oj hT ez eG hLie)),hS51,(kh hS51 [(9,0),(61,3)])⟩
 refine aS ?_
 have hS70:=Sep.pick hS37 [1,2,3] 4 eB eB
 exact ⟨iv 0,rfl,0,v3,l4,gn,Sep.cH hS70 _,rfl⟩
def We (_a0:j5) (_a1:Row j4) (_a2:jS jY) (v:AV):Prop:=(∃ wn:iS,∃ c:j5,∃ lv:Row lF,∃ ke:Int,∃ nn:iS,∃ sp:Row Int,∃ fd:AV,∃ ws:Row j4,∃ wb:Row kr,∃ wl:Row Int,(lv.l.length = _a0.roads.l.length/\sp.l.length<=60/\(∀ x∈lv.l,x.seen.l.length<=1000)/\wb.l.length = _a2.l.length/\∀ x∈wb.l,x.lJ.l.length<=1000)/\v=.kq [nu wn c lv ke nn sp fd ws wb wl,iv 0])
def t25 (a0:j5) (a1:Row j4) (a2:jS jY) (p1:mB a0.dO) (p2:rs 57 [.agg (iF.ag a0.dO)]=.kq [.agg (j5.ag a0),iv 0]) (p3:∃ nx:iS,ot nx a0.dO/\rs 31 [.agg (iF.ag a0.dO)]=.kq [.ip (iS.ag nx) 0 false,iv 0]/\(∀ (i:Nat) (x:jY) (y:j4),a2.l[i]?=some x->a1.l[x.j3.toNat]?=some y->∃ b:kr,b.lJ.l=[x.at_]/\rs 130 [.ip (iS.ag nx) 0 false,iv y.len,.agg (jY.ag x)]=.kq [.agg (kr.ag b),iv 0])/\(∀ i j:Nat,i<j->j<a2.l.length->∀ x∈LT a2.l nx.p i,x∉LT a2.l nx.p j)/\(∀ i:Nat,∀ x∈LT a2.l nx.p i,0<=x/\x<(nx.p.elems.l.length:Int))) (p4:a0.roads.l.length<=64) (p5:rs 60 [.agg (iF.ag a0.dO),kj a1]=iv 0) (p6:∀ t∈a2.l,rs 127 [.str t.name.l]=.bool true/\0<=t.j3/\t.j3<(a1.l.length:Int)) (p7:∀ (i j:Nat) (h:j<a2.l.length) (hij:i<j),(a2.l[i]).name.l≠(a2.l[j]).name.l) (p8:a2.l.length<=8):Ct 25 [.agg (j5.ag a0),kj a1,jS.av jY.ag a2] (We a0 a1 a2):=by
 refine j9 GG ?_
 obtain ⟨nx,hnk,hnx,p3a,p3b,p3c⟩:=p3; have hPx:∃ nx:iS,ot nx a0.dO/\rs 31 [.agg (iF.ag a0.dO)]=.kq [.ip (iS.ag nx) 0 false,iv 0]:=⟨nx,hnk,hnx⟩; have hFw:=hnk.vD; have hFs:=hnk.vD.signals; have hF4:=hnk.Wf
 refine ae ?_
 refine aZ ?_
 refine oC (t59 a0 ey ey ey ey) ?_
 rintro _ (⟨r2,r3,r4,r5,r6,⟨hc1,hc1r⟩,rfl⟩)
 have hBx:=hc1
 refine bV ?_
 refine oV ?_
 refine cM ?_
 refine cW ?_
 refine oC (Ze a0.dO a1  p5) ?_
 rintro _ rfl
 refine aG ?_
 refine cM ?_
 refine aX ?_
 refine oC (t61 a1 a2 ey ey ey) ?_
 rintro _ ⟨r9,hc8,rfl⟩
 have hNm:=hc8
 refine aZ ?_
 refine lR (λh10=>?_) (λh10=>?_)
 refine cJ ?_
 exact False.elim eG
 refine cM ?_
 refine ae ?_
 refine oC (Ml a0.dO ey hnx) ?_
 rintro _ rfl
 refine bV ?_
 refine aH ?_
 refine eg ?_
 refine oC (t62 nx ey) ?_
 rintro _ (⟨r13,hc12,rfl⟩)
 refine oV ?_
 refine oC (t63 nx) ?_
 rintro _ ⟨r15,hc14,rfl⟩
 have hC91:=hc14
 have hk16:(((r15).toNat:Nat):Int)=r15:=Int.toNat_of_nonneg eC
 have hk17:(((r15).toNat:Nat):Int)=r15:=Int.toNat_of_nonneg eC
 refine kn rfl (qn (m:=(r15).toNat) kV rfl (congrArg (AV.int .i64) hk16.symm) (congrArg (AV.int .i64) hk17.symm) rfl rfl eC eB) ?_
 rintro v18 H19 hS20
 have hS22:=Sep.wu (enc:=j6) (z:=(0)) hS20 rfl
 rcases Sep.vQ (i:=0) hS22 rfl with ⟨rfl,hx25⟩ | ⟨rfl,hx25⟩ | ⟨b23,g24,rfl⟩
 refine oV ?_
 refine kn rfl (mP (cs:=[.ip (iS.ag nx) 0 false,nT r2 r3 r4 r5 r6,(.ip r13 0 false),iN,iN,iN,iN,iN,iN,iN,jZ,iv 0,jZ]) hS22 rfl rfl rfl rfl rfl) ?_
 rintro _ H27 ⟨b26,rfl,hS28⟩
 refine ao ?_
 have hL29:=a2.lk
 refine bH ?_
 have hS30:=Sep.mf hS28 5
 have hNk31:=a2.lk
 refine jW a2.l.length (λk31 e h=>∃ v32:AV,∃ l33:List j4,∃ H34:aT,(tB a2.l a1.l l33 k31)/\(l33.length=k31)/\Sep H34 (my j4.ag 5 v32 l33::kO b26 [.ip (iS.ag nx) 0 false,nT r2 r3 r4 r5 r6,(.ip r13 0 false),v32,iN,iN,iN,iN,iN,iN,jZ,iv 0,jZ]::lG iN ((List.replicate ((r15).toNat) 0))::[])/\At [1,2,11,53,54,55] [kj a1,jS.av jY.ag a2,(jQ b26),jS.av jY.ag a2,bY a2.l.length,bY k31] H34 [] e h) ?_ (k0:=0) eG ⟨iN,(([]:List j4)),H27,hZ,gm,hS30,atR⟩
 rintro k31 e h hkk31 ⟨v32,l33,H34,hKd,hKl,hS35,hA⟩
 refine aA ?_
 refine kx (λh36=>?_) (λh36=>?_)
 refine ak ?_
 refine wz [kj a1,jS.av jY.ag a2,(jQ b26),jS.av jY.ag a2,bY a2.l.length,bY k31] H34 [] ?_
 refine bd ?_
 have hx37:k31<a2.l.length:=by omega
 refine jP rfl (λ_=>mJ (n:=k31) (r:=a2) (enc:=jY.ag) rfl rfl rfl rfl rfl hx37 rfl) ?_
 generalize hqx38:a2.l[k31]=x38
 have hinx38:x38∈a2.l:=by rw [<- hqx38]; exact List.getElem_mem _
 have hsx38:=p6 x38 hinx38
 refine dn ?_
 refine nF 1 hS35 ?_
 refine ni 1 hS35 ?_
 refine nX 1 hS35 v32 ?_
 refine bj ?_
 have hx39:(x38.j3).toNat<a1.l.length:=by omega
 refine kp rfl rfl (λ_=>ld (n:=x38.j3) (r:=a1) (enc:=j4.ag) rfl rfl rfl rfl rfl eG hx39 rfl) ?_
 generalize hqx40:a1.l[(x38.j3).toNat]=x40
 refine aI ?_
 refine lH rfl rfl (kZ (H:=H34) (i:=0) (l:=l33) (enc:=j4.ag) [x40] hS35 rfl rfl rfl rfl rfl rfl rfl rfl rfl (λ_=>rfl) (.inl rfl) eE (λ_=>rfl)) ?_
 rintro v41 H42 hS43
 refine nF 1 hS43 ?_
 refine ni 1 hS43 ?_
 refine lH rfl rfl (lY (H:=H42) (i:=1) (o:=3) (r:=v41) hS43 rfl rfl rfl rfl (mF rfl rfl (Sep.cell (i:=0) hS43 rfl)) (jU (Sep.cell (i:=0) hS43 rfl) kE) rfl) ?_
 rintro _ H44 ⟨rfl,hS45⟩
 refine rN ?_
 refine wz [kj a1,jS.av jY.ag a2,(jQ b26),jS.av jY.ag a2,bY a2.l.length,bY k31] H44 [] ?_
 refine qg ?_
 refine kD ?_
 refine ab ?_
 exact ⟨by omega,v41,((l33++[x40])),H44,gY,fu,hS45,atR⟩
 refine aj ?_
 refine wz [jS.av jY.ag a2,(jQ b26)] H34 [] ?_
 refine aX ?_
 have hS46:=Sep.pf (i:=0) hS35 rfl
 have hS47:=Sep.mf hS46 5
 have hq3:=λ(i:Nat) (x:jY) (y:j4) (h1:a2.l[i]?=some x) (h2:(l33)[i]?=some y)=>p3a i x y h1 (hKd.2 i x y h1 h2)
 have hS48:=Sep.pick hS47 [2,1,0,3] 4 eB eB
 refine kI (H:=H34) (args:=[(jQ b26),jS.av jY.ag a2]) (p:=[]) (r:=[]) rfl rfl rfl rfl rfl rfl rfl (u64 b26 nx ((nT r2 r3 r4 r5 r6)) (.ip r13 0 false) v32 l33 iN ([]:List kr) iN iN iN iN iN (.bool false) (iv 0) (.bool false) a2 (lG iN ((List.replicate ((r15).toNat) 0))::[]) hS48 ey ey ey ey ey ey ey) ?_
 rintro _ H49 ⟨r54,vbo52,blo53,hc51,hS50,rfl⟩
 have hWb:=hc51
 refine aZ ?_
 refine lR (λh55=>?_) (λh55=>?_)
 refine cJ ?_
 exact False.elim eG
 refine ah ?_
 refine wz [(jQ b26)] H49 [] ?_
 refine dh ?_
 obtain ⟨r56,hl57,hf58⟩:=lK (H:=H49) (i:=1) (l:=l33) (enc:=j4.ag) hS50 rfl eA
 have hlq:=hl57; have hln60:=congrArg List.length hl57
 have hz59:∀ ls m,freeze false { H49 with cH:=ls } (m+2) v32=some (kj r56):=λls m=>hf58 _ _ (λ_=>rfl)
 obtain ⟨r61,hl62,hf63⟩:=lK (H:=H49) (i:=2) (l:=blo53) (enc:=kr.ag) hS50 rfl eA
 have hlq:=hl62; have hln65:=congrArg List.length hl62
 have hz64:∀ ls m,freeze false { H49 with cH:=ls } (m+2) vbo52=some (kX r61):=λls m=>hf63 _ _ (λ_=>by simp only [kr.ag,kG,m0,nf,np,mY,nj])
 have hz66:∀ ls m,freeze false { H49 with cH:=ls } (m+4) (jQ b26)=some (.ip [.ip (iS.ag nx) 0 false,nT r2 r3 r4 r5 r6,(.ip r13 0 false),kj r56,kX r61,iN,iN,iN,iN,iN,jZ,iv 0,jZ] 0 false):=λls m=>mh (i:=0) hS50 rfl _ _ (by simp only [FZ,hz59,hz64])
 have hff67:freeze false { H49 with cH:=[] } 8 (.kq [(jQ b26),iv 0])=some (.kq [.ip [.ip (iS.ag nx) 0 false,nT r2 r3 r4 r5 r6,(.ip r13 0 false),kj r56,kX r61,iN,iN,iN,iN,iN,jZ,iv 0,jZ] 0 false,iv 0]):=by simp only [FZ,hz59,hz64,hz66]
 refine ⟨.kq [(jQ b26),iv 0],rfl,.kq [.ip [.ip (iS.ag nx) 0 false,nT r2 r3 r4 r5 r6,(.ip r13 0 false),kj r56,kX r61,iN,iN,iN,iN,iN,jZ,iv 0,jZ] 0 false,iv 0],hff67,⟨nx,r2,r3,r4,r5,r6,(.ip r13 0 false),r56,r61,(lZ:Row Int),gr,rfl⟩⟩
 refine oV ?_
 refine kn rfl (mP (cs:=[.ip (iS.ag nx) 0 false,nT r2 r3 r4 r5 r6,(.ip r13 0 false),iN,iN,(.sl [] (.exact 0)),iN,iN,iN,iN,jZ,iv 0,jZ]) hS22 rfl rfl rfl rfl rfl) ?_
 rintro _ H69 ⟨b68,rfl,hS70⟩
 refine ao ?_
 have hL71:=a2.lk
 refine bH ?_
 have hS72:=Sep.mf hS70 5
 have hNk73:=a2.lk
 refine jW a2.l.length (λk73 e h=>∃ v74:AV,∃ l75:List j4,∃ H76:aT,(tB a2.l a1.l l75 k73)/\(l75.length=k73)/\Sep H76 (my j4.ag 5 v74 l75::kO b68 [.ip (iS.ag nx) 0 false,nT r2 r3 r4 r5 r6,(.ip r13 0 false),v74,iN,(.sl [] (.exact 0)),iN,iN,iN,iN,jZ,iv 0,jZ]::lG (.sl [] (.exact 0)) ((List.replicate ((r15).toNat) 0))::[])/\At [1,2,11,53,54,55] [kj a1,jS.av jY.ag a2,(jQ b68),jS.av jY.ag a2,bY a2.l.length,bY k73] H76 [] e h) ?_ (k0:=0) eG ⟨iN,(([]:List j4)),H69,hZ,gm,hS72,atR⟩
 rintro k73 e h hkk73 ⟨v74,l75,H76,hKd,hKl,hS77,hA⟩
 refine aA ?_
 refine kx (λh78=>?_) (λh78=>?_)
 refine ak ?_
 refine wz [kj a1,jS.av jY.ag a2,(jQ b68),jS.av jY.ag a2,bY a2.l.length,bY k73] H76 [] ?_
 refine bd ?_
 have hx79:k73<a2.l.length:=by omega
 refine jP rfl (λ_=>mJ (n:=k73) (r:=a2) (enc:=jY.ag) rfl rfl rfl rfl rfl hx79 rfl) ?_
 generalize hqx80:a2.l[k73]=x80
 have hinx80:x80∈a2.l:=by rw [<- hqx80]; exact List.getElem_mem _
 have hsx80:=p6 x80 hinx80
 refine dn ?_
 refine nF 1 hS77 ?_
 refine ni 1 hS77 ?_
 refine nX 1 hS77 v74 ?_
 refine bj ?_
 have hx81:(x80.j3).toNat<a1.l.length:=by omega
 refine kp rfl rfl (λ_=>ld (n:=x80.j3) (r:=a1) (enc:=j4.ag) rfl rfl rfl rfl rfl eG hx81 rfl) ?_
 generalize hqx82:a1.l[(x80.j3).toNat]=x82
 refine aI ?_
 refine lH rfl rfl (kZ (H:=H76) (i:=0) (l:=l75) (enc:=j4.ag) [x82] hS77 rfl rfl rfl rfl rfl rfl rfl rfl rfl (λ_=>rfl) (.inl rfl) eE (λ_=>rfl)) ?_
 rintro v83 H84 hS85
 refine nF 1 hS85 ?_
 refine ni 1 hS85 ?_
 refine lH rfl rfl (lY (H:=H84) (i:=1) (o:=3) (r:=v83) hS85 rfl rfl rfl rfl (mF rfl rfl (Sep.cell (i:=0) hS85 rfl)) (jU (Sep.cell (i:=0) hS85 rfl) kE) rfl) ?_
 rintro _ H86 ⟨rfl,hS87⟩
 refine rN ?_
 refine wz [kj a1,jS.av jY.ag a2,(jQ b68),jS.av jY.ag a2,bY a2.l.length,bY k73] H86 [] ?_
 refine qg ?_
 refine kD ?_
 refine ab ?_
 exact ⟨by omega,v83,((l75++[x82])),H86,gY,fu,hS87,atR⟩
 refine aj ?_
 refine wz [jS.av jY.ag a2,(jQ b68)] H76 [] ?_
 refine aX ?_
 have hS88:=Sep.pf (i:=0) hS77 rfl
 have hS89:=Sep.mf hS88 5
 have hq3:=λ(i:Nat) (x:jY) (y:j4) (h1:a2.l[i]?=some x) (h2:(l75)[i]?=some y)=>p3a i x y h1 (hKd.2 i x y h1 h2)
 have hS90:=Sep.pick hS89 [2,1,0,3] 4 eB eB
 refine kI (H:=H76) (args:=[(jQ b68),jS.av jY.ag a2]) (p:=[]) (r:=[]) rfl rfl rfl rfl rfl rfl rfl (u64 b68 nx ((nT r2 r3 r4 r5 r6)) (.ip r13 0 false) v74 l75 iN ([]:List kr) (.sl [] (.exact 0)) iN iN iN iN (.bool false) (iv 0) (.bool false) a2 (lG (.sl [] (.exact 0)) ((List.replicate ((r15).toNat) 0))::[]) hS90 ey ey ey ey ey ey ey) ?_
 rintro _ H91 ⟨r96,vbo94,blo95,hc93,hS92,rfl⟩
 have hWb:=hc93
 refine aZ ?_
 refine lR (λh97=>?_) (λh97=>?_)
 refine cJ ?_
 exact False.elim eG
 refine ah ?_
 refine wz [(jQ b68)] H91 [] ?_
 refine dh ?_
 obtain ⟨r98,hl99,hf100⟩:=lK (H:=H91) (i:=1) (l:=l75) (enc:=j4.ag) hS92 rfl eA
 have hlq:=hl99; have hln102:=congrArg List.length hl99
 have hz101:∀ ls m,freeze false { H91 with cH:=ls } (m+2) v74=some (kj r98):=λls m=>hf100 _ _ (λ_=>rfl)
 obtain ⟨r103,hl104,hf105⟩:=lK (H:=H91) (i:=2) (l:=blo95) (enc:=kr.ag) hS92 rfl eA
 have hlq:=hl104; have hln107:=congrArg List.length hl104
 have hz106:∀ ls m,freeze false { H91 with cH:=ls } (m+2) vbo94=some (kX r103):=λls m=>hf105 _ _ (λ_=>by simp only [kr.ag,kG,m0,nf,np,mY,nj])
 have hz108:∀ ls m,freeze false { H91 with cH:=ls } (m+4) (jQ b68)=some (.ip [.ip (iS.ag nx) 0 false,nT r2 r3 r4 r5 r6,(.ip r13 0 false),kj r98,kX r103,.sl [] (.exact 0),iN,iN,iN,iN,jZ,iv 0,jZ] 0 false):=λls m=>mh (i:=0) hS92 rfl _ _ (by simp only [FZ,hz101,hz106])
 have hff109:freeze false { H91 with cH:=[] } 8 (.kq [(jQ b68),iv 0])=some (.kq [.ip [.ip (iS.ag nx) 0 false,nT r2 r3 r4 r5 r6,(.ip r13 0 false),kj r98,kX r103,.sl [] (.exact 0),iN,iN,iN,iN,jZ,iv 0,jZ] 0 false,iv 0]):=by simp only [FZ,hz101,hz106,hz108]
 refine ⟨.kq [(jQ b68),iv 0],rfl,.kq [.ip [.ip (iS.ag nx) 0 false,nT r2 r3 r4 r5 r6,(.ip r13 0 false),kj r98,kX r103,.sl [] (.exact 0),iN,iN,iN,iN,jZ,iv 0,jZ] 0 false,iv 0],hff109,⟨nx,r2,r3,r4,r5,r6,(.ip r13 0 false),r98,r103,(⟨[],.exact 0,pR,rfl,nE⟩:Row Int),gr,rfl⟩⟩
 refine oV ?_
 refine kn rfl (mP (cs:=[.ip (iS.ag nx) 0 false,nT r2 r3 r4 r5 r6,(.ip r13 0 false),iN,iN,(.hs b23 g24 0 (List.map j6 ((List.replicate ((r15).toNat) 0))).length),iN,iN,iN,iN,jZ,iv 0,jZ]) hS22 rfl rfl rfl rfl rfl) ?_
 rintro _ H111 ⟨b110,rfl,hS112⟩
 refine ao ?_
 have hL113:=a2.lk
 refine bH ?_
 have hS114:=Sep.mf hS112 5
 have hNk115:=a2.lk
 refine jW a2.l.length (λk115 e h=>∃ v116:AV,∃ l117:List j4,∃ H118:aT,(tB a2.l a1.l l117 k115)/\(l117.length=k115)/\Sep H118 (my j4.ag 5 v116 l117::kO b110 [.ip (iS.ag nx) 0 false,nT r2 r3 r4 r5 r6,(.ip r13 0 false),v116,iN,(.hs b23 g24 0 (List.map j6 ((List.replicate ((r15).toNat) 0))).length),iN,iN,iN,iN,jZ,iv 0,jZ]::lG (.hs b23 g24 0 (List.map j6 ((List.replicate ((r15).toNat) 0))).length) ((List.replicate ((r15).toNat) 0))::[])/\At [1,2,11,53,54,55] [kj a1,jS.av jY.ag a2,(jQ b110),jS.av jY.ag a2,bY a2.l.length,bY k115] H118 [] e h) ?_ (k0:=0) eG ⟨iN,(([]:List j4)),H111,hZ,gm,hS114,atR⟩
 rintro k115 e h hkk115 ⟨v116,l117,H118,hKd,hKl,hS119,hA⟩
 refine aA ?_
 refine kx (λh120=>?_) (λh120=>?_)
 refine ak ?_
 refine wz [kj a1,jS.av jY.ag a2,(jQ b110),jS.av jY.ag a2,bY a2.l.length,bY k115] H118 [] ?_
 refine bd ?_
 have hx121:k115<a2.l.length:=by omega
 refine jP rfl (λ_=>mJ (n:=k115) (r:=a2) (enc:=jY.ag) rfl rfl rfl rfl rfl hx121 rfl) ?_
 generalize hqx122:a2.l[k115]=x122
 have hinx122:x122∈a2.l:=by rw [<- hqx122]; exact List.getElem_mem _
 have hsx122:=p6 x122 hinx122
 refine dn ?_
 refine nF 1 hS119 ?_
 refine ni 1 hS119 ?_
 refine nX 1 hS119 v116 ?_
 refine bj ?_
 have hx123:(x122.j3).toNat<a1.l.length:=by omega
 refine kp rfl rfl (λ_=>ld (n:=x122.j3) (r:=a1) (enc:=j4.ag) rfl rfl rfl rfl rfl eG hx123 rfl) ?_
 generalize hqx124:a1.l[(x122.j3).toNat]=x124
 refine aI ?_
 refine lH rfl rfl (kZ (H:=H118) (i:=0) (l:=l117) (enc:=j4.ag) [x124] hS119 rfl rfl rfl rfl rfl rfl rfl rfl rfl (λ_=>rfl) (.inl rfl) eE (λ_=>rfl)) ?_
 rintro v125 H126 hS127
 refine nF 1 hS127 ?_
 refine ni 1 hS127 ?_
 refine lH rfl rfl (lY (H:=H126) (i:=1) (o:=3) (r:=v125) hS127 rfl rfl rfl rfl (mF rfl rfl (Sep.cell (i:=0) hS127 rfl)) (jU (Sep.cell (i:=0) hS127 rfl) kE) rfl) ?_
 rintro _ H128 ⟨rfl,hS129⟩
 refine rN ?_
 refine wz [kj a1,jS.av jY.ag a2,(jQ b110),jS.av jY.ag a2,bY a2.l.length,bY k115] H128 [] ?_
 refine qg ?_
 refine kD ?_
 refine ab ?_
 exact ⟨by omega,v125,((l117++[x124])),H128,gY,fu,hS129,atR⟩
 refine aj ?_
 refine wz [jS.av jY.ag a2,(jQ b110)] H118 [] ?_
 refine aX ?_
 have hS130:=Sep.pf (i:=0) hS119 rfl
 have hS131:=Sep.mf hS130 5
 have hq3:=λ(i:Nat) (x:jY) (y:j4) (h1:a2.l[i]?=some x) (h2:(l117)[i]?=some y)=>p3a i x y h1 (hKd.2 i x y h1 h2)
 have hS132:=Sep.pick hS131 [2,1,0,3] 4 eB eB
 refine kI (H:=H118) (args:=[(jQ b110),jS.av jY.ag a2]) (p:=[]) (r:=[]) rfl rfl rfl rfl rfl rfl rfl (u64 b110 nx ((nT r2 r3 r4 r5 r6)) (.ip r13 0 false) v116 l117 iN ([]:List kr) (((.hs b23 g24 0 (List.map j6 ((List.replicate ((r15).toNat) 0))).length))) iN iN iN iN (.bool false) (iv 0) (.bool false) a2 (lG (.hs b23 g24 0 (List.map j6 ((List.replicate ((r15).toNat) 0))).length) ((List.replicate ((r15).toNat) 0))::[]) hS132 ey ey ey ey ey ey ey) ?_
 rintro _ H133 ⟨r138,vbo136,blo137,hc135,hS134,rfl⟩
 have hWb:=hc135
 refine aZ ?_
 refine lR (λh139=>?_) (λh139=>?_)
 refine cJ ?_
 exact False.elim eG
 refine ah ?_
 refine wz [(jQ b110)] H133 [] ?_
 refine dh ?_
 obtain ⟨r140,hl141,hf142⟩:=lK (H:=H133) (i:=1) (l:=l117) (enc:=j4.ag) hS134 rfl eA
 have hlq:=hl141; have hln144:=congrArg List.length hl141
 have hz143:∀ ls m,freeze false { H133 with cH:=ls } (m+2) v116=some (kj r140):=λls m=>hf142 _ _ (λ_=>rfl)
 obtain ⟨r145,hl146,hf147⟩:=lK (H:=H133) (i:=2) (l:=blo137) (enc:=kr.ag) hS134 rfl eA
 have hlq:=hl146; have hln149:=congrArg List.length hl146
 have hz148:∀ ls m,freeze false { H133 with cH:=ls } (m+2) vbo136=some (kX r145):=λls m=>hf147 _ _ (λ_=>by simp only [kr.ag,kG,m0,nf,np,mY,nj])
 obtain ⟨r150,hl151,hf152⟩:=lK (H:=H133) (i:=3) (l:=(List.replicate ((r15).toNat) 0)) (enc:=j6) hS134 rfl eA
 have hlq:=hl151; have hln154:=congrArg List.length hl151
 have hz153:∀ ls m,freeze false { H133 with cH:=ls } (m+2) ((.hs b23 g24 0 (List.map j6 ((List.replicate ((r15).toNat) 0))).length))=some (kN r150):=λls m=>hf152 _ _ (λ_=>rfl)
 have hz155:∀ ls m,freeze false { H133 with cH:=ls } (m+4) (jQ b110)=some (nu nx r2 r3 r4 r5 r6 (.ip r13 0 false) r140 r145 r150):=λls m=>mh (i:=0) hS134 rfl _ _ (by simp only [FZ,hz143,hz148,hz153])
 have hff156:freeze false { H133 with cH:=[] } 8 (.kq [(jQ b110),iv 0])=some (.kq [nu nx r2 r3 r4 r5 r6 (.ip r13 0 false) r140 r145 r150,iv 0]):=by simp only [FZ,hz143,hz148,hz153,hz155]
 refine ⟨.kq [(jQ b110),iv 0],rfl,.kq [nu nx r2 r3 r4 r5 r6 (.ip r13 0 false) r140 r145 r150,iv 0],hff156,⟨nx,r2,r3,r4,r5,r6,(.ip r13 0 false),r140,r145,r150,gr,rfl⟩⟩
def Qv {H:aT} (b:Nat) (nt:iS) (cc:j5) (dd:jV) (vl:AV) (lg:List Int) (vr:AV) (rd:List Int) (vca:AV) (ca:List Int) (vow:AV) (ow:List Int) (va:AV) (an:List Int) (F:List lC) (hS:Sep H (kO b (mE nt cc dd vl vr vca vow)::lG vl lg::lG vr rd::lG vca ca::lG vow ow::m6 j6 1 va an::F)) (q1:ow.length=ca.length) (q2:ca.length<=512) (q3:∀ x∈ow,0<=x/\x<(rd.length:Int)) (q4:rd.length<=8) (q5:an.length<=100000):∃ v H',ka cfg FT ko true 19 [(jQ b),va] { H with cH:=[] } v H'/\(∃ vro:AV,∃ rdo:List Int,(rdo=oK an rd ca ow ca.length)/\Sep H' (kO b (mE nt cc dd vl vro iN iN)::lG vl lg::lG vro rdo::m6 j6 1 va an::F)/\v=.kq []):=by
 refine kW G6 ?_
 refine aq ?_
 refine ba ?_
 refine jP rfl (λ_=>mj (i:=0) (o:=16) (r:=vca) hS rfl rfl rfl rfl) ?_
 refine jP rfl (λ_=>nb (i:=3) (l:=ca) (enc:=j6) hS rfl rfl rfl rfl rfl rfl rfl) ?_
 refine aC ?_
 refine jW ca.length (λk1 e h=>∃ v2:AV,∃ l3:List Int,∃ H4:aT,(l3=oK an rd ca ow k1)/\(l3.length=rd.length)/\Sep H4 (kO b (mE nt cc dd vl v2 vca vow)::lG vl lg::lG v2 l3::lG vca ca::lG vow ow::m6 j6 1 va an::F)/\At [0,1,9,10,11] [(jQ b),va,vca,bY ca.length,bY k1] H4 [] e h) ?_ (k0:=0) eG ⟨vr,rd,H,gm,gm,hS,(kh hS [(1,5),(9,3)])⟩
 rintro k1 e h hkk1 ⟨v2,l3,H4,hT,hTl,hS5,hA⟩
 refine aA ?_
 refine kx (λh6=>?_) (λh6=>?_)
 refine ak ?_
 refine wz [(jQ b),va,vca,bY ca.length,bY k1] H4 [] ?_ (kh hS5 [(1,5),(9,3)])
 refine aw ?_
 have hx7:k1<ca.length:=by first | omega | (simp<;>omega) | (simp_all; omega)
 obtain ⟨x8,hqx8⟩:∃ x,ca[k1]=x:=⟨_,rfl⟩
 refine mv rfl (lO (i:=3) (m:=k1) (cs:=j6 x8) hS5 rfl rfl rfl rfl rfl rfl rfl (lA hx7 hqx8)) ?_
 rintro a9 ⟨ha10,hea11⟩
 refine jP rfl (λ_=>mK (i:=3) (m:=k1) (o:=0) (r:=iv x8) (cs:=j6 x8) hS5 rfl (lA hx7 hqx8) hea11 rfl rfl ha10) ?_
 refine bh ?_
 refine bS ?_
 refine kp rfl rfl (λ_=>nb (i:=5) (l:=an) (enc:=j6) hS5 rfl rfl rfl rfl rfl rfl rfl) ?_
 refine qO (λh12=>?_) (λh12=>?_)
 refine bj ?_
 have hx13:k1<an.length:=by first | omega | (simp<;>omega) | (simp_all; omega)
 obtain ⟨x14,hqx14⟩:∃ x,an[k1]=x:=⟨_,rfl⟩
 refine nk rfl rfl (lO (i:=5) (m:=k1) (cs:=j6 x14) hS5 rfl rfl rfl rfl rfl rfl rfl (lA hx13 hqx14)) ?_
 rintro a15 ⟨ha16,hea17⟩
 refine kp rfl rfl (λ_=>mK (i:=5) (m:=k1) (o:=0) (r:=iv x14) (cs:=j6 x14) hS5 rfl (lA hx13 hqx14) hea17 rfl rfl ha16) ?_
 refine xA (λh18=>?_) (λh18=>?_)
 refine bj ?_
 refine bF ?_
 have hx19:k1<ow.length:=by first | omega | (simp<;>omega) | (simp_all; omega)
 obtain ⟨x20,hqx20⟩:∃ x,ow[k1]=x:=⟨_,rfl⟩
 have hinx20:x20∈ow:=by rw [<- hqx20]; exact List.getElem_mem _
 have hzx20:=q3 x20 hinx20
 refine nk rfl rfl (lO (i:=4) (m:=k1) (cs:=j6 x20) hS5 rfl rfl rfl rfl rfl rfl rfl (lA hx19 hqx20)) ?_
 rintro a21 ⟨ha22,hea23⟩
 refine kp rfl rfl (λ_=>mK (i:=4) (m:=k1) (o:=0) (r:=iv x20) (cs:=j6 x20) hS5 rfl (lA hx19 hqx20) hea23 rfl rfl ha22) ?_
 have hk24:(((x20).toNat:Nat):Int)=x20:=Int.toNat_of_nonneg eC
 have hx25:(x20).toNat<l3.length:=by first | omega | (simp<;>omega) | (simp_all; omega)
 obtain ⟨x26,hqx26⟩:∃ x,l3[(x20).toNat]=x:=⟨_,rfl⟩
 refine nk rfl rfl (lO (i:=2) (m:=(x20).toNat) (cs:=j6 x26) hS5 rfl rfl rfl rfl rfl rfl (congrArg (AV.int .i64) hk24.symm) (lA hx25 hqx26)) ?_
 rintro a27 ⟨ha28,hea29⟩
 refine kp rfl rfl (λ_=>mK (i:=2) (m:=(x20).toNat) (o:=0) (r:=iv x26) (cs:=j6 x26) hS5 rfl (lA hx25 hqx26) hea29 rfl rfl ha28) ?_
 refine qO (λh30=>?_) (λh30=>?_)
 refine c8 ?_
 refine qd ?_
 refine rV ?_
 refine bF ?_
 have hx31:k1<ow.length:=by first | omega | (simp<;>omega) | (simp_all; omega)
 refine nk rfl rfl (lO (i:=4) (m:=k1) (cs:=j6 x20) hS5 rfl rfl rfl rfl rfl rfl rfl (lA hx31 hqx20)) ?_
 rintro a32 ⟨ha33,hea34⟩
 refine kp rfl rfl (λ_=>mK (i:=4) (m:=k1) (o:=0) (r:=iv x20) (cs:=j6 x20) hS5 rfl (lA hx31 hqx20) hea34 rfl rfl ha33) ?_
 refine rV ?_
 have hk35:(((x20).toNat:Nat):Int)=x20:=Int.toNat_of_nonneg eC
 have hx36:(x20).toNat<l3.length:=by first | omega | (simp<;>omega) | (simp_all; omega)
 refine nk rfl rfl (lO (i:=2) (m:=(x20).toNat) (cs:=j6 x26) hS5 rfl rfl rfl rfl rfl rfl (congrArg (AV.int .i64) hk35.symm) (lA hx36 hqx26)) ?_
 rintro a37 ⟨ha38,hea39⟩
 refine lH rfl rfl (nH (i:=2) (m:=(x20).toNat) (o:=0) x26 x8 hS5 rfl hx36 hqx26 hea39 rfl ha38 rfl rfl rfl rfl) ?_
 rintro _ H40 ⟨rfl,hS41⟩
 refine rN ?_
 refine wz [(jQ b),va,vca,bY ca.length,bY k1] H40 [] ?_ (kh hS41 [(1,5),(9,3)])
 refine qg ?_
 refine kD ?_
 refine ab ?_
 exact ⟨by omega,v2,((l3.set ((x20).toNat) x8)),H40,fz,eN,hS41,(kh hS41 [(1,5),(9,3)])⟩
 refine bA ?_
 refine wz [(jQ b),va,vca,bY ca.length,bY k1] H4 [] ?_ (kh hS5 [(1,5),(9,3)])
 refine qg ?_
 refine kD ?_
 refine ab ?_
 exact je
 refine dc ?_
 iterate 8 refine rS ?_
 refine bA ?_
 refine wz [(jQ b),va,vca,bY ca.length,bY k1] H4 [] ?_ (kh hS5 [(1,5),(9,3)])
 refine qg ?_
 refine kD ?_
 refine ab ?_
 exact je
 refine rV ?_
 refine dP ?_
 iterate 2 refine rS ?_
 refine bA ?_
 refine wz [(jQ b),va,vca,bY ca.length,bY k1] H4 [] ?_ (kh hS5 [(1,5),(9,3)])
 refine qg ?_
 refine kD ?_
 refine ab ?_
 exact je
 refine aj ?_
 refine wz [(jQ b)] H4 [] ?_
 refine cu ?_
 refine jP rfl (λ_=>oG (i:=0) hS5 rfl rfl) ?_
 refine jP rfl (λ_=>nw (i:=0) hS5 rfl rfl rfl rfl rfl) ?_
 refine kn rfl (lY (i:=0) (o:=16) (r:=.sl [] .nil) hS5 rfl rfl rfl rfl rfl rfl rfl) ?_
 rintro _ H42 ⟨rfl,hS43⟩
 refine jP rfl (λ_=>oG (i:=0) hS43 rfl rfl) ?_
 refine jP rfl (λ_=>nw (i:=0) hS43 rfl rfl rfl rfl rfl) ?_
 refine kn rfl (lY (i:=0) (o:=17) (r:=.sl [] .nil) hS43 rfl rfl rfl rfl rfl rfl rfl) ?_
 rintro _ H44 ⟨rfl,hS45⟩
 refine oN ?_
 have hS46:=Sep.pick hS45 [0,1,2,5] 6 eB eB
 exact ⟨.kq [],rfl,v2,l3,(by exact hT.trans (congrArg _ eG)),Sep.cH hS46 _,rfl⟩
def ZR {H:aT} (b:Nat) (nt:iS) (cc:j5) (dd:jV) (vl:AV) (lg:List Int) (rd:Row Int) (va:AV) (an:List Int) (F:List lC) (hS:Sep H (kO b (mE nt cc dd vl (kN rd) iN iN)::lG vl lg::m6 j6 1 va an::F)) :∃ v H',ka cfg FT ko true 19 [(jQ b),va] { H with cH:=[] } v H'/\((True)/\Sep H' (kO b (mE nt cc dd vl (kN rd) iN iN)::lG vl lg::m6 j6 1 va an::F)/\v=.kq []):=by
 refine kW G6 ?_
 refine aq ?_
 refine ba ?_
 refine jP rfl (λ_=>mj (i:=0) (o:=16) (r:=.sl [] .nil) hS rfl rfl rfl rfl) ?_
 refine oV ?_
 refine aC ?_
 refine jW 0 (λk1 e h=>At [0,1,9,10,11] [(jQ b),va,iN,iv 0,bY k1] H [] e h) ?_ (k0:=0) eG (kh hS [(1,2)])
 rintro k1 e h hkk1 hA
 refine aA ?_
 refine kx (λh2=>?_) (λh2=>?_)
 refine ak ?_
 refine wz [(jQ b),va,iN,iv 0,bY k1] H [] ?_ (kh hS [(1,2)])
 refine aw ?_
 exfalso; omega
 refine aj ?_
 refine wz [(jQ b)] H [] ?_
 refine cu ?_
 refine ba ?_
 refine kn rfl (lY (i:=0) (o:=16) (r:=.sl [] .nil) hS rfl rfl rfl rfl rfl rfl rfl) ?_
 rintro _ H3 ⟨rfl,hS4⟩
 refine jP rfl (λ_=>oG (i:=0) hS4 rfl rfl) ?_
 refine jP rfl (λ_=>nw (i:=0) hS4 rfl rfl rfl rfl rfl) ?_
 refine kn rfl (lY (i:=0) (o:=17) (r:=.sl [] .nil) hS4 rfl rfl rfl rfl rfl rfl rfl) ?_
 rintro _ H5 ⟨rfl,hS6⟩
 refine oN ?_
 have hS7:=Sep.pick hS6 [0,1,2] 3 eB eB
 exact jf
def V6 {H:aT} (b:Nat) (nt:iS) (cc:j5) (dd:jV) (vl:AV) (lg:List Int) (rd:Row Int) (F:List lC) (hS:Sep H (kO b (mE nt cc dd vl (kN rd) iN iN)::lG vl lg::F)) (q1:lg.length<=8) (q2:rd.l.length<=8):∃ v H',ka cfg FT ko true 20 [(jQ b)] { H with cH:=[] } v H'/\(∃ bw:Nat,∃ vl2:AV,∃ lg2:List Int,∃ vr2:AV,∃ rd2:List Int,∃ vc2:AV,∃ ca2:List Int,∃ vo2:AV,∃ ow2:List Int,(lg2=lg/\rd2=rd.l/\ca2=[]/\ow2=[])/\Sep H' (kO b (mE nt cc dd vl (kN rd) iN iN)::lG vl lg::kO bw (mE nt cc dd vl2 vr2 vc2 vo2)::lG vl2 lg2::lG vr2 rd2::lG vc2 ca2::lG vo2 ow2::F)/\v=(jQ bw)):=by
 refine kW Mr ?_
 refine aa ?_
 refine aZ ?_
 refine jP rfl (λ_=>oG (i:=0) hS rfl rfl) ?_
 refine jP rfl (λ_=>mj (i:=0) (o:=0) (r:=.agg (mE nt cc dd vl (kN rd) iN iN)) hS rfl rfl rfl rfl) ?_
 refine kn rfl (rz hS rfl rfl) ?_
 rintro _ H2 ⟨b1,rfl,hS3⟩
 refine kn rfl (lY (i:=0) (o:=0) (r:=.agg (mE nt cc dd vl (kN rd) iN iN)) hS3 rfl rfl rfl rfl rfl (jU rfl (jU rfl (jU rfl (jU rfl (jU rfl (jU rfl (jU rfl (jU rfl (jU rfl (jU rfl (jU rfl (jU rfl (jU rfl (jU rfl (jU (Sep.cell (i:=2) hS3 rfl) (jU rfl (jU rfl (jU rfl kE)))))))))))))))))) rfl) ?_
 rintro _ H4 ⟨rfl,hS5⟩
 refine oN ?_
 refine aL ?_
 refine bN ?_
 refine kp rfl rfl (λ_=>mj (i:=1) (o:=14) (r:=vl) hS5 rfl rfl rfl rfl) ?_
 refine bN ?_
 refine kp rfl rfl (λ_=>mj (i:=1) (o:=15) (r:=kN rd) hS5 rfl rfl rfl rfl) ?_
 refine bN ?_
 refine kp rfl rfl (λ_=>mj (i:=1) (o:=16) (r:=.sl [] .nil) hS5 rfl rfl rfl rfl) ?_
 refine bN ?_
 refine kp rfl rfl (λ_=>mj (i:=1) (o:=17) (r:=.sl [] .nil) hS5 rfl rfl rfl rfl) ?_
 have hS6:=Sep.pick hS5 [2,0,1] 3 eB eB
 refine Ae (H:=H4) (args:=[vl]) (p:=[]) (r:=[]) rfl rfl rfl rfl rfl rfl (jU (Sep.arg (i:=2) hS5 rfl) kE) rfl (MJ vl lg (kO b1 (mE nt cc dd vl (kN rd) iN iN)::kO b (mE nt cc dd vl (kN rd) iN iN)::F) hS6 ey) ?_
 rintro ov10 H7 ⟨_,ol11,hc9,hS8,rfl⟩
 refine ⟨λcall=>(ze (nB rfl rfl rfl (mj (i:=3) (o:=15) (r:=kN rd) hS8 rfl rfl rfl rfl) rfl LL) (ze (nB rfl rfl rfl (mj (i:=3) (o:=16) (r:=.sl [] .nil) hS8 rfl rfl rfl rfl) rfl rfl) (ug (nB rfl rfl rfl (mj (i:=3) (o:=17) (r:=.sl [] .nil) hS8 rfl rfl rfl rfl) rfl rfl)))),?_⟩
 have hOl:=hc9
 have hS12:=Sep.pick hS8 [0,1,2,3] 4 eB eB
 refine Ae (H:=H7) (args:=[kN rd]) (p:=[]) (r:=[]) rfl rfl rfl rfl rfl rfl rfl rfl (Zx (Row.mg rd) (lG vl lg::lG ov10 ol11::kO b1 (mE nt cc dd vl (kN rd) iN iN)::kO b (mE nt cc dd vl (kN rd) iN iN)::F) hS12 ey) ?_
 rintro ov16 H13 ⟨_,ol17,hc15,hS14,rfl⟩
 refine ⟨λcall=>(ze (nB rfl rfl rfl (mj (i:=4) (o:=16) (r:=.sl [] .nil) hS14 rfl rfl rfl rfl) rfl rfl) (ug (nB rfl rfl rfl (mj (i:=4) (o:=17) (r:=.sl [] .nil) hS14 rfl rfl rfl rfl) rfl rfl))),?_⟩
 have hOl:=hc15
 have hS18:=Sep.mf hS14 1
 have hS19:=Sep.pick hS18 [0,1,2,3,4,5] 6 eB eB
 refine Ae (H:=H13) (args:=[iN]) (p:=[]) (r:=[]) rfl rfl rfl rfl rfl rfl rfl rfl (MJ iN ([]:List Int) (lG ov16 ol17::lG vl lg::lG ov10 ol11::kO b1 (mE nt cc dd vl (kN rd) iN iN)::kO b (mE nt cc dd vl (kN rd) iN iN)::F) hS19 ey) ?_
 rintro ov23 H20 ⟨_,ol24,hc22,hS21,rfl⟩
 refine ⟨λcall=>(ug (nB rfl rfl rfl (mj (i:=6) (o:=17) (r:=.sl [] .nil) hS21 rfl rfl rfl rfl) rfl rfl)),?_⟩
 have hOl:=hc22
 have hS25:=Sep.mf hS21 1
 have hS26:=Sep.pick hS25 [0,1,2,3,4,5,6,7] 8 eB eB
 refine BJ (H:=H20) (args:=[iN]) (p:=[]) (r:=[]) rfl rfl rfl rfl rfl rfl rfl rfl (MJ iN ([]:List Int) (lG iN ([]:List Int)::lG ov23 ol24::lG ov16 ol17::lG vl lg::lG ov10 ol11::kO b1 (mE nt cc dd vl (kN rd) iN iN)::kO b (mE nt cc dd vl (kN rd) iN iN)::F) hS26 ey) ?_
 rintro ov30 H27 ⟨_,ol31,hc29,hS28,rfl⟩
 have hOl:=hc29
 refine kp rfl rfl (λ_=>nw (i:=7) hS28 rfl rfl rfl rfl rfl) ?_
 refine lH rfl rfl (lY (i:=7) (o:=14) (r:=ov10) hS28 rfl rfl rfl rfl (mF rfl rfl (Sep.cell (i:=6) hS28 rfl)) (jU (Sep.cell (i:=6) hS28 rfl) kE) rfl) ?_
 rintro _ H32 ⟨rfl,hS33⟩
 refine kp rfl rfl (λ_=>nw (i:=7) hS33 rfl rfl rfl rfl rfl) ?_
 refine lH rfl rfl (lY (i:=7) (o:=15) (r:=ov16) hS33 rfl rfl rfl rfl (mF rfl rfl (Sep.cell (i:=4) hS33 rfl)) (jU (Sep.cell (i:=4) hS33 rfl) kE) rfl) ?_
 rintro _ H34 ⟨rfl,hS35⟩
 refine kp rfl rfl (λ_=>nw (i:=7) hS35 rfl rfl rfl rfl rfl) ?_
 refine lH rfl rfl (lY (i:=7) (o:=16) (r:=ov23) hS35 rfl rfl rfl rfl (mF rfl rfl (Sep.cell (i:=3) hS35 rfl)) (jU (Sep.cell (i:=3) hS35 rfl) kE) rfl) ?_
 rintro _ H36 ⟨rfl,hS37⟩
 refine kp rfl rfl (λ_=>nw (i:=7) hS37 rfl rfl rfl rfl rfl) ?_
 refine lH rfl rfl (lY (i:=7) (o:=17) (r:=ov30) hS37 rfl rfl rfl rfl (mF rfl rfl (Sep.cell (i:=1) hS37 rfl)) (jU (Sep.cell (i:=1) hS37 rfl) kE) rfl) ?_
 rintro _ H38 ⟨rfl,hS39⟩
 refine rN ?_
 refine aU ?_
 have hS40:=Sep.pick hS39 [8,5,7,6,4,3,1] 9 eB eB
 exact ⟨(jQ b1),rfl,b1,ov10,ol11,ov16,ol17,ov23,ol24,ov30,ol31,(by exact ⟨by first | assumption | (simp_all; done),by first | assumption | (simp_all; done),by first | assumption | (simp_all; done),by first | assumption | (simp_all; done)⟩),Sep.cH hS40 _,rfl⟩
def Xn (n:iS) (c:j5) (d:jV) (lg:jS Int) (rd:jS Int) (ca:jS Int) (ow:jS Int) (i:Nat) (v:AV):Prop:=∃ r0:lU,∃ r1:Bool,(True)/\v=.kq [.agg (lU.ag r0),.bool r1]
def aal (n:iS) (c:j5) (d:jV) (lg:jS Int) (rd:jS Int) (ca:jS Int) (ow:jS Int) (i:Nat) (o1:i<d.runs.l.length) (o2:i<lg.l.length) (o7:∀ x∈lg.l,x=0):Ct 46 [.ip (mE n c d (ly lg) (ly rd) (ly ca) (ly ow)) 0 true,bY i] (Xn n c d lg rd ca ow i):=by
 refine j9 NR ?_
 refine dE ?_
 refine aK ?_
 have hx1:i<d.runs.l.length:=by omega
 refine ml i d.runs hx1 ?_
 generalize hqx2:d.runs.l[i]=x2
 refine am ?_
 refine ap ?_
 refine dD ?_
 have hx3:i<lg.l.length:=by omega
 refine jP rfl (λ_=>mJ (n:=i) (r:=lg) (enc:=j6) rfl rfl rfl rfl rfl hx3 rfl) ?_
 generalize hqx4:lg.l[i]=x4
 have hinx4:x4∈lg.l:=by rw [<- hqx4]; exact List.getElem_mem _
 have hzx4:=o7 x4 hinx4
 refine am ?_
 have hL5:=x2.kH.lk
 refine lu x2.kH ?_
 refine mV (λh6=>?_) (λh6=>?_)
 refine cJ ?_
 exact xG ⟨(⟨false,0,0,0⟩:lU),false,zt⟩
 refine dz ?_
 refine aK ?_
 have hx7:i<lg.l.length:=by omega
 refine jP rfl (λ_=>mJ (n:=i) (r:=lg) (enc:=j6) rfl rfl rfl rfl rfl hx7 rfl) ?_
 rw [hqx4]
 refine oV ?_
 have hx9:(x4).toNat<x2.kH.l.length:=by omega
 refine jP rfl (λ_=>ld (n:=x4) (r:=x2.kH) (enc:=lU.ag) rfl rfl rfl rfl rfl eG hx9 rfl) ?_
 generalize hqx10:x2.kH.l[(x4).toNat]=x10
 refine bO ?_
 exact xG ⟨x10,true,zt⟩
def Wd (n:iS) (c:j5) (d:jV) (lg:jS Int) (rd:jS Int) (ca:jS Int) (ow:jS Int) (i:Nat) (v:AV):Prop:=∃ r0:lU,∃ r1:Bool,((True)/\rs 46 [.ip (mE n c d (ly lg) (ly rd) (ly ca) (ly ow)) 0 true,bY i]=.kq [.agg (lU.ag r0),.bool r1])/\v=.kq [.agg (lU.ag r0),.bool r1]
def t46 (n:iS) (c:j5) (d:jV) (lg:jS Int) (rd:jS Int) (ca:jS Int) (ow:jS Int) (i:Nat) (o1:i<d.runs.l.length) (o2:i<lg.l.length) (o7:∀ x∈lg.l,x=0) (h:aT):∃ v,ka cfg FT ko false 46 [.ip (mE n c d (ly lg) (ly rd) (ly ca) (ly ow)) 0 true,bY i] h v h/\Wd n c d lg rd ca ow i v:=by
 obtain ⟨v,hc,hP,hr⟩:=nC pF (aal n c d lg rd ca ow i o1 o2 o7) h
 obtain ⟨r0,r1,hp,rfl⟩:=hP
 exact iP
def Yk {H:aT} (a0:jS lF) (F:List lC) (hS:Sep H F) (q1:a0.l.length<=1000):∃ v H',ka cfg FT ko true 104 [jS.av lF.ag a0] { H with cH:=[] } v H'/\(∃ ov:AV,∃ ol:List lF,(ol=a0.l)/\Sep H' (my lF.ag 4 ov ol::F)/\v=ov):=by
 refine kW IA ?_
 refine aY ?_
 refine lS (b:=a0.isNil) rfl (λ_=>nS rfl rfl rfl rfl) (λh1=>?_) (λh1=>?_)
 refine aW ?_
 have hS2:=Sep.mf hS 4
 have hS3:=Sep.pick hS2 [0] 1 eB eB
 exact ⟨iN,rfl,iN,([]:List lF),fe,Sep.cH hS3 _,rfl⟩
 refine ah ?_
 refine wz [jS.av lF.ag a0] H [] ?_
 refine ae ?_
 have hS4:=Sep.oq hS 4
 refine kn rfl (kZ (i:=0) (l:=([]:List lF)) (enc:=lF.ag) a0.l hS4 rfl rfl rfl rfl rfl rfl rfl rfl rfl (λ_=>rfl) (.inl rfl) eE (λ_=>rfl)) ?_
 rintro v5 H6 hS7
 refine af ?_
 have hS8:=Sep.pick hS7 [0] 1 eB eB
 exact ⟨v5,(lL (vs:=[v5]) rfl (jU (Sep.arg (i:=0) hS7 rfl) kE)),v5,(([]:List lF)++a0.l),fe,Sep.cH hS8 _,rfl⟩
def aas (_a0:jS Bool) (v:AV):Prop:=∃ r0:Row Bool,(r0.l = _a0.l)/\v=Row.av mI r0
def t105 (a0:jS Bool) (q1:a0.l.length<=1000):Ct 105 [jS.av mI a0] (aas a0):=by
 refine j9 Jj ?_
 refine aY ?_
 refine lS (b:=a0.isNil) rfl (λ_=>nS rfl rfl rfl rfl) (λh1=>?_) (λh1=>?_)
 refine aW ?_
 exact xG ⟨(lZ:Row Bool),e9,rfl⟩
 refine dz ?_
 have hS2:=Sep.oq kV 1
 refine kn rfl (kZ (i:=0) (l:=([]:List Bool)) (enc:=mI) a0.l hS2 rfl rfl rfl rfl rfl rfl rfl rfl rfl (λ_=>rfl) (.inl rfl) eE (λ_=>rfl)) ?_
 rintro v3 H4 hS5
 refine af ?_
 obtain ⟨r6,hl7,hf8⟩:=lK (H:=H4) (i:=0) (l:=(([]:List Bool)++a0.l)) (enc:=mI) hS5 rfl eA
 have hlq:=hl7; have hln10:=congrArg List.length hl7
 have hz9:∀ m,freeze false { H4 with cH:=[] } (m+2) v3=some (Row.av mI r6):=λm=>hf8 _ _ (λ_=>rfl)
 exact ⟨v3,(lL (vs:=[v3]) rfl (jU (Sep.arg (i:=0) hS5 rfl) kE)),Row.av mI r6,(show freeze false { H4 with cH:=[] } 8 v3=some (Row.av mI r6) by simp only [FZ,hz9]),r6,e9,rfl⟩
def P49 (c:j5) (lv:Row lF) (ke:Int) (nn:iS) (sp:Row Int) (v:AV):Prop:=∃ r0:Row lF,(r0.l.length=lv.l.length/\∀ x∈r0.l,x.seen.l.length<=1000)/\v=nK r0
def t49 (c:j5) (lv:Row lF) (ke:Int) (nn:iS) (sp:Row Int) (q1:lv.l.length<=64) (q2:sp.l.length<=60) (q3:∀ x∈lv.l,x.seen.l.length<=1000):Ct 49 [nT c lv ke nn sp] (P49 c lv ke nn sp):=by
 refine j9 K5 ?_
 refine bI ?_
 refine bL ?_
 refine kI (H:=aT.empty) (args:=[nK lv]) (p:=[]) (r:=[]) rfl rfl rfl rfl rfl rfl rfl (Yk (Row.mg lv) ([]) kV ey) ?_
 rintro ov5 H2 ⟨_,ol6,hc4,hS3,rfl⟩
 have hqF:ol6.length=(Row.mg lv).l.length:=by rw [hc4]
 try simp only [Row.mg] at hqF
 have hOl:=hc4
 refine ao ?_
 refine jP rfl (λ_=>nb (i:=0) hS3 rfl rfl rfl rfl rfl rfl rfl) ?_
 refine aC ?_
 refine jW ol6.length (λk7 e h=>∃ v8:AV,∃ l9:List lF,∃ H10:aT,(l9.length=lv.l.length)/\(∀ x∈l9,x.seen.l.length<=1000)/\Sep H10 (my lF.ag 4 v8 l9::[])/\At [3,11,12] [v8,bY ol6.length,bY k7] H10 [] e h) ?_ (k0:=0) eG ⟨ov5,ol6,H2,gR,(by (rw [hOl]; exact q3)),hS3,(kh hS3 [(3,0)])⟩
 rintro k7 e h hkk7 ⟨v8,l9,H10,hL,hE,hS11,hA⟩
 refine aA ?_
 refine kx (λh12=>?_) (λh12=>?_)
 refine ak ?_
 refine wz [v8,bY ol6.length,bY k7] H10 [] ?_ (kh hS11 [(3,0)])
 refine dA ?_
 refine qg ?_
 refine aK ?_
 have hx13:k7<l9.length:=by first | omega | (simp<;>omega) | (simp_all; omega)
 obtain ⟨x14,hqx14⟩:∃ x,l9[k7]=x:=⟨_,rfl⟩
 have hinx14:x14∈l9:=by rw [<- hqx14]; exact List.getElem_mem _
 have hsx14:=hE _ hinx14
 refine mv rfl (lO (i:=0) (m:=k7) (cs:=lF.ag x14) hS11 rfl rfl rfl rfl rfl rfl rfl (lA hx13 hqx14)) ?_
 rintro a15 ⟨ha16,hea17⟩
 refine jP rfl (λ_=>EA.yq hea17 rfl rfl rfl ha16) ?_
 refine jP rfl (λ_=>mK (i:=0) (m:=k7) (o:=3) (r:=Row.av mI x14.seen) (cs:=lF.ag x14) hS11 rfl (lA hx13 hqx14) hea17 rfl rfl rfl) ?_
 refine oC (t105 (Row.mg x14.seen) ey) ?_
 rintro _ ⟨r19,hc18,rfl⟩
 have hCb:=congrArg List.length hc18; try simp only [Row.mg] at hCb
 have hx20:k7<l9.length:=by first | omega | (simp<;>omega) | (simp_all; omega)
 refine mv rfl (lO (i:=0) (m:=k7) (cs:=lF.ag x14) hS11 rfl rfl rfl rfl rfl rfl rfl (lA hx20 hqx14)) ?_
 rintro a21 ⟨ha22,hea23⟩
 refine jP rfl (λ_=>EA.yq hea23 rfl rfl rfl ha22) ?_
 refine kn rfl (nH (i:=0) (m:=k7) (o:=3) x14 (⟨x14.state,x14.front,x14.off,r19⟩:lF) hS11 rfl hx20 hqx14 hea23 rfl rfl rfl rfl rfl rfl) ?_
 rintro _ H24 ⟨rfl,hS25⟩
 refine oN ?_
 refine wz [v8,bY ol6.length,bY k7] H24 [] ?_ (kh hS25 [(3,0)])
 refine qg ?_
 refine kD ?_
 refine ab ?_
 exact ⟨by omega,v8,((l9.set k7 (⟨x14.state,x14.front,x14.off,r19⟩:lF))),H24,fu,gK,hS25,(kh hS25 [(3,0)])⟩
 refine aj ?_
 refine wz [v8] H10 [] ?_ (kh hS11 [(3,0)])
 refine bR ?_
 obtain ⟨r26,hl27,hf28⟩:=lK (H:=H10) (i:=0) (l:=l9) (enc:=lF.ag) hS11 rfl eA
 have hlq:=hl27; have hln30:=congrArg List.length hl27
 have hz29:∀ m,freeze false { H10 with cH:=[] } (m+2) v8=some (nK r26):=λm=>hf28 _ _ (λ_=>by simp only [lF.ag,kG,m0,nf,np,mY,nj])
 exact ⟨v8,(lL (vs:=[v8]) rfl (jU (Sep.arg (i:=0) hS11 rfl) kE)),nK r26,(show freeze false { H10 with cH:=[] } 8 v8=some (nK r26) by simp only [FZ,hz29]),r26,(by first | exact ⟨by simp_all,by simp_all⟩ | (simp_all; done)),rfl⟩
theorem Pc:ko 246=some rp:=by rfl
def aaF (v:AV):Prop:=(True/\v=.fm (lE iK pK []) false)
def t246 (h:aT):∃ v,ka cfg FT ko false 246 [.fm (lE iK pK []) false] h v h/\aaF v:=by
 refine ⟨_,⟨1,λk hk=>?_⟩,zt⟩
 cases k with
 | zero=>omega
 | succ k=>simp only [nM,Pc]; rfl
theorem PA:ko 247=some rp:=by rfl
def YY (v:AV):Prop:=(True/\v=.fm (lE iK pK []) false)
def t247 (h:aT):∃ v,ka cfg FT ko false 247 [.fm (lE iK pK []) false] h v h/\YY v:=by
 refine ⟨_,⟨1,λk hk=>?_⟩,zt⟩
 cases k with
 | zero=>omega
 | succ k=>simp only [nM,PA]; rfl
def WT (e:Int) (v:AV):Prop:=(∃ e0:Int,(True)/\v=oD e0)
def t221 (e:Int) :Ct 221 [oD e] (WT e):=by
 refine j9 GP ?_
 refine bI ?_
 refine aL ?_
 iterate 20 refine rV ?_
 refine rC (t246) ?_
 rintro _ (⟨hc1,rfl⟩)
 refine rC (t246) ?_
 rintro _ (⟨hc2,rfl⟩)
 refine rC (t247) ?_
 rintro _ (⟨hc3,rfl⟩)
 refine rC (t247) ?_
 rintro _ (⟨hc4,rfl⟩)
 refine rV ?_
 refine lH (H:=aT.empty) rfl rfl (mP (cs:=[iv e,.fm (lE iK pK []) false,.fm (lE iK pK []) false,.fm (lE iK pK []) false,.fm (lE iK pK []) false]) kV rfl rfl rfl rfl rfl) ?_
 rintro _ H6 ⟨b5,rfl,hS7⟩
 refine dL ?_
 have hz8:∀ ls m,freeze false { H6 with cH:=ls } (m+4) (jQ b5)=some (oD e):=λls m=>mh (i:=0) hS7 rfl _ _ fk
 have hff9:freeze false { H6 with cH:=[] } 8 (jQ b5)=some (oD e):=by simp only [FZ,hz8]
 refine ⟨(jQ b5),rfl,oD e,hff9,⟨e,zt⟩⟩
def YR (c:j5) (lv:Row lF) (ke:Int) (nn:iS) (sp:Row Int) (v:AV):Prop:=(∃ e0:Int,(True)/\v=oD e0)
def t175 (c:j5) (lv:Row lF) (ke:Int) (nn:iS) (sp:Row Int) :Ct 175 [nT c lv ke nn sp] (YR c lv ke nn sp):=by
 refine j9 IC ?_
 refine bI ?_
 refine bL ?_
 refine oC (t221 ke) ?_
 rintro _ (⟨r2,hc1,rfl⟩)
 refine af ?_
 refine xG ⟨r2,zt⟩
def UH (n:iS) (k:Nat) (h:aT):nM cfg FT ko (k+12) false 222 [.ip [.ip n.ag 0 false,.fm [] false] 0 false] h=some (.ip [.ip n.ag 0 false,.fm [] false] 0 false,h):=by kernel_rfl
def YF (_nt:iS) (v:AV):Prop:=(∃ n0:iS,(True)/\v=oz n0)
def t222 (n:iS) (h:aT):∃ v,ka cfg FT ko false 222 [oz n] h v h/\YF n v :=
 ⟨_,⟨12,λk hk=>by obtain ⟨j,rfl⟩:=Nat.exists_eq_add_of_le' hk; exact UH n j h⟩,n,zt⟩
def Zs (c:j5) (lv:Row lF) (ke:Int) (nn:iS) (sp:Row Int) (v:AV):Prop:=(∃ n0:iS,(True)/\v=oz n0)
def t176 (c:j5) (lv:Row lF) (ke:Int) (nn:iS) (sp:Row Int) :Ct 176 [nT c lv ke nn sp] (Zs c lv ke nn sp):=by
 refine j9 HP ?_
 refine bI ?_
 refine bL ?_
 refine oC (t222 nn) ?_
 rintro _ (⟨r2,hc1,rfl⟩)
 refine af ?_
 refine xG ⟨r2,zt⟩
def ZE (c:j5) (lv:Row lF) (ke:Int) (nn:iS) (sp:Row Int) (v:AV):Prop:=∃ r0:Row Int,(r0.l.length<=60)/\v=kN r0
def t177 (c:j5) (lv:Row lF) (ke:Int) (nn:iS) (sp:Row Int) (q1:lv.l.length<=64) (q2:sp.l.length<=60) (q3:∀ x∈lv.l,x.seen.l.length<=1000):Ct 177 [nT c lv ke nn sp] (ZE c lv ke nn sp):=by
 refine j9 Jt ?_
 refine bI ?_
 refine bL ?_
 refine oC (t43 (Row.mg sp) ey) ?_
 rintro _ ⟨r2,hc1,rfl⟩
 have hC115:=congrArg List.length hc1; try simp only [Row.mg] at hC115; have hIc:=hc1; try simp only [Row.mg] at hIc
 refine af ?_
 exact xG ⟨r2,gO,rfl⟩
def Xv (c:j5) (lv:Row lF) (ke:Int) (nn:iS) (sp:Row Int) (v:AV):Prop:=(∃ cx:j5,∃ lvx:Row lF,∃ kex:Int,∃ nnx:iS,∃ spx:Row Int,(lvx.l.length=lv.l.length/\spx.l.length<=60/\∀ x∈lvx.l,x.seen.l.length<=1000)/\v=nT cx lvx kex nnx spx)
def t103 (c:j5) (lv:Row lF) (ke:Int) (nn:iS) (sp:Row Int) (q1:lv.l.length<=64) (q2:sp.l.length<=60) (q3:∀ x∈lv.l,x.seen.l.length<=1000):Ct 103 [nT c lv ke nn sp] (Xv c lv ke nn sp):=by
 refine j9 FU ?_
 refine bI ?_
 refine dj ?_
 refine rC (t49 c lv ke nn sp ey ey ey) ?_
 rintro _ ⟨r2,hc1,rfl⟩
 have hLv:=hc1
 refine bj ?_
 refine rC (t175 c lv ke nn sp) ?_
 rintro _ (⟨r4,hc3,rfl⟩)
 refine rC (t176 c lv ke nn sp) ?_
 rintro _ (⟨r6,hc5,rfl⟩)
 refine rC (t177 c lv ke nn sp ey ey ey) ?_
 rintro _ ⟨r8,hc7,rfl⟩
 refine rV ?_
 refine lH (H:=aT.empty) rfl rfl (mP (cs:=[kB c.dO.elems,kC c.dO.kg,kF c.dO.signals,j8 c.dO.lines,iv c.dO.top,iv c.dO.kU,iv c.dO.kK,iv c.dO.kM,.bool c.dO.lq,ki c.roads,nK r2,oD r4,oz r6,kN r8]) kV rfl rfl rfl rfl rfl) ?_
 rintro _ H10 ⟨b9,rfl,hS11⟩
 refine dL ?_
 have hz12:∀ ls m,freeze false { H10 with cH:=ls } (m+4) (jQ b9)=some (nT c r2 r4 r6 r8):=λls m=>mh (i:=0) hS11 rfl _ _ fk
 have hff13:freeze false { H10 with cH:=[] } 8 (jQ b9)=some (nT c r2 r4 r6 r8):=by simp only [FZ,hz12]
 refine ⟨(jQ b9),rfl,nT c r2 r4 r6 r8,hff13,⟨c,r2,r4,r6,r8,(by first | exact ⟨hLv.1,by assumption,hLv.2⟩ | (simp_all; done)),rfl⟩⟩
def P48 (wn:iS) (c:j5) (lv:Row lF) (ke:Int) (nn:iS) (sp:Row Int) (fd:AV) (ws:Row j4) (wb:Row kr) (wl:Row Int) (v:AV):Prop:=(∃ cx:j5,∃ lvx:Row lF,∃ kex:Int,∃ nnx:iS,∃ spx:Row Int,(lvx.l.length=lv.l.length/\spx.l.length<=60/\∀ x∈lvx.l,x.seen.l.length<=1000)/\v=nT cx lvx kex nnx spx)
def t48 (wn:iS) (c:j5) (lv:Row lF) (ke:Int) (nn:iS) (sp:Row Int) (fd:AV) (ws:Row j4) (wb:Row kr) (wl:Row Int) (q1:lv.l.length<=64) (q2:sp.l.length<=60) (q3:∀ x∈lv.l,x.seen.l.length<=1000) (q4:wb.l.length<=64) (q5:∀ x∈wb.l,x.lJ.l.length<=1000):Ct 48 [nu wn c lv ke nn sp fd ws wb wl] (P48 wn c lv ke nn sp fd ws wb wl):=by
 refine j9 NI ?_
 refine bI ?_
 refine bL ?_
 refine oC (t103 c lv ke nn sp ey ey ey) ?_
 rintro _ (⟨r2,r3,r4,r5,r6,hc1,rfl⟩)
 refine af ?_
 refine xG ⟨r2,r3,r4,r5,r6,gJ,rfl⟩
def Zk {H:aT} (a0:jS kr) (F:List lC) (hS:Sep H F) (q1:a0.l.length<=1000):∃ v H',ka cfg FT ko true 178 [jS.av kr.ag a0] { H with cH:=[] } v H'/\(∃ ov:AV,∃ ol:List kr,(ol=a0.l)/\Sep H' (my kr.ag 5 ov ol::F)/\v=ov):=by
 refine kW Io ?_
 refine aY ?_
 refine lS (b:=a0.isNil) rfl (λ_=>nS rfl rfl rfl rfl) (λh1=>?_) (λh1=>?_)
 refine aW ?_
 have hS2:=Sep.mf hS 5
 have hS3:=Sep.pick hS2 [0] 1 eB eB
 exact ⟨iN,rfl,iN,([]:List kr),fe,Sep.cH hS3 _,rfl⟩
 refine ah ?_
 refine wz [jS.av kr.ag a0] H [] ?_
 refine ae ?_
 have hS4:=Sep.oq hS 5
 refine kn rfl (kZ (i:=0) (l:=([]:List kr)) (enc:=kr.ag) a0.l hS4 rfl rfl rfl rfl rfl rfl rfl rfl rfl (λ_=>rfl) (.inl rfl) eE (λ_=>rfl)) ?_
 rintro v5 H6 hS7
 refine af ?_
 have hS8:=Sep.pick hS7 [0] 1 eB eB
 exact ⟨v5,(lL (vs:=[v5]) rfl (jU (Sep.arg (i:=0) hS7 rfl) kE)),v5,(([]:List kr)++a0.l),fe,Sep.cH hS8 _,rfl⟩
def X6 (_a0:jS jT) (v:AV):Prop:=∃ r0:Row jT,(r0.l = _a0.l)/\v=nV r0
def t179 (a0:jS jT) (q1:a0.l.length<=1000):Ct 179 [jS.av jT.ag a0] (X6 a0):=by
 refine j9 GU ?_
 refine aY ?_
 refine lS (b:=a0.isNil) rfl (λ_=>nS rfl rfl rfl rfl) (λh1=>?_) (λh1=>?_)
 refine aW ?_
 exact xG ⟨(lZ:Row jT),e9,rfl⟩
 refine dz ?_
 have hS2:=Sep.oq kV 2
 refine kn rfl (kZ (i:=0) (l:=([]:List jT)) (enc:=jT.ag) a0.l hS2 rfl rfl rfl rfl rfl rfl rfl rfl rfl (λ_=>rfl) (.inl rfl) eE (λ_=>rfl)) ?_
 rintro v3 H4 hS5
 refine af ?_
 obtain ⟨r6,hl7,hf8⟩:=lK (H:=H4) (i:=0) (l:=(([]:List jT)++a0.l)) (enc:=jT.ag) hS5 rfl eA
 have hlq:=hl7; have hln10:=congrArg List.length hl7
 have hz9:∀ m,freeze false { H4 with cH:=[] } (m+2) v3=some (nV r6):=λm=>hf8 _ _ (λ_=>rfl)
 exact ⟨v3,(lL (vs:=[v3]) rfl (jU (Sep.arg (i:=0) hS5 rfl) kE)),nV r6,(show freeze false { H4 with cH:=[] } 8 v3=some (nV r6) by simp only [FZ,hz9]),r6,e9,rfl⟩
def Zj (_a0:Row kr) (v:AV):Prop:=∃ r0:Row kr,(r0.l.length = _a0.l.length)/\v=kX r0
def t106 (a0:Row kr) (q1:a0.l.length<=64) (q3:∀ x∈a0.l,x.lJ.l.length<=1000):Ct 106 [kX a0] (Zj a0):=by
 refine j9 Ih ?_
 refine aa ?_
 refine aZ ?_
 refine kI (H:=aT.empty) (args:=[kX a0]) (p:=[]) (r:=[]) rfl rfl rfl rfl rfl rfl rfl (Zk (Row.mg a0) ([]) kV ey) ?_
 rintro ov5 H2 ⟨_,ol6,hc4,hS3,rfl⟩
 have hqF:ol6.length=(Row.mg a0).l.length:=by rw [hc4]
 try simp only [Row.mg] at hqF
 have hOl:=hc4
 refine ao ?_
 refine jP rfl (λ_=>nb (i:=0) hS3 rfl rfl rfl rfl rfl rfl rfl) ?_
 refine aC ?_
 refine jW ol6.length (λk7 e h=>∃ v8:AV,∃ l9:List kr,∃ H10:aT,(l9.length=a0.l.length)/\(∀ x∈l9,x.lJ.l.length<=1000)/\Sep H10 (my kr.ag 5 v8 l9::[])/\At [3,8,9] [v8,bY ol6.length,bY k7] H10 [] e h) ?_ (k0:=0) eG ⟨ov5,ol6,H2,gR,(by (rw [hOl]; exact q3)),hS3,(kh hS3 [(3,0)])⟩
 rintro k7 e h hkk7 ⟨v8,l9,H10,hL,hE,hS11,hA⟩
 refine aA ?_
 refine kx (λh12=>?_) (λh12=>?_)
 refine ak ?_
 refine wz [v8,bY ol6.length,bY k7] H10 [] ?_ (kh hS11 [(3,0)])
 refine dA ?_
 refine qg ?_
 refine aK ?_
 have hx13:k7<l9.length:=by first | omega | (simp<;>omega) | (simp_all; omega)
 obtain ⟨x14,hqx14⟩:∃ x,l9[k7]=x:=⟨_,rfl⟩
 have hinx14:x14∈l9:=by rw [<- hqx14]; exact List.getElem_mem _
 have hsx14:=hE _ hinx14
 refine mv rfl (lO (i:=0) (m:=k7) (cs:=kr.ag x14) hS11 rfl rfl rfl rfl rfl rfl rfl (lA hx13 hqx14)) ?_
 rintro a15 ⟨ha16,hea17⟩
 refine jP rfl (λ_=>EA.yq hea17 rfl rfl rfl ha16) ?_
 refine jP rfl (λ_=>mK (i:=0) (m:=k7) (o:=1) (r:=nV x14.lJ) (cs:=kr.ag x14) hS11 rfl (lA hx13 hqx14) hea17 rfl rfl rfl) ?_
 refine oC (t179 (Row.mg x14.lJ) ey) ?_
 rintro _ ⟨r19,hc18,rfl⟩
 have hCb:=congrArg List.length hc18; try simp only [Row.mg] at hCb
 have hx20:k7<l9.length:=by first | omega | (simp<;>omega) | (simp_all; omega)
 refine mv rfl (lO (i:=0) (m:=k7) (cs:=kr.ag x14) hS11 rfl rfl rfl rfl rfl rfl rfl (lA hx20 hqx14)) ?_
 rintro a21 ⟨ha22,hea23⟩
 refine jP rfl (λ_=>EA.yq hea23 rfl rfl rfl ha22) ?_
 refine kn rfl (nH (i:=0) (m:=k7) (o:=1) x14 (⟨x14.mode,r19,x14.left,x14.wG,x14.v⟩:kr) hS11 rfl hx20 hqx14 hea23 rfl rfl rfl rfl rfl rfl) ?_
 rintro _ H24 ⟨rfl,hS25⟩
 refine oN ?_
 refine wz [v8,bY ol6.length,bY k7] H24 [] ?_ (kh hS25 [(3,0)])
 refine qg ?_
 refine kD ?_
 refine ab ?_
 exact ⟨by omega,v8,((l9.set k7 (⟨x14.mode,r19,x14.left,x14.wG,x14.v⟩:kr))),H24,fu,gK,hS25,(kh hS25 [(3,0)])⟩
 refine aj ?_
 refine wz [v8] H10 [] ?_ (kh hS11 [(3,0)])
 refine bR ?_
 obtain ⟨r26,hl27,hf28⟩:=lK (H:=H10) (i:=0) (l:=l9) (enc:=kr.ag) hS11 rfl eA
 have hlq:=hl27; have hln30:=congrArg List.length hl27
 have hz29:∀ m,freeze false { H10 with cH:=[] } (m+2) v8=some (kX r26):=λm=>hf28 _ _ (λ_=>by simp only [kr.ag,kG,m0,nf,np,mY,nj])
 exact ⟨v8,(lL (vs:=[v8]) rfl (jU (Sep.arg (i:=0) hS11 rfl) kE)),kX r26,(show freeze false { H10 with cH:=[] } 8 v8=some (kX r26) by simp only [FZ,hz29]),r26,(by first | (simp_all; done) | omega),rfl⟩
def aaT (wn:iS) (c:j5) (lv:Row lF) (ke:Int) (nn:iS) (sp:Row Int) (fd:AV) (ws:Row j4) (wb:Row kr) (wl:Row Int) (v:AV):Prop:=∃ r0:Row kr,(r0.l.length=wb.l.length)/\v=kX r0
def abc (wn:iS) (c:j5) (lv:Row lF) (ke:Int) (nn:iS) (sp:Row Int) (fd:AV) (ws:Row j4) (wb:Row kr) (wl:Row Int) (q1:lv.l.length<=64) (q2:sp.l.length<=60) (q3:∀ x∈lv.l,x.seen.l.length<=1000) (q4:wb.l.length<=64) (q5:∀ x∈wb.l,x.lJ.l.length<=1000):Ct 50 [nu wn c lv ke nn sp fd ws wb wl] (aaT wn c lv ke nn sp fd ws wb wl):=by
 refine j9 Ll ?_
 refine bI ?_
 refine bL ?_
 refine oC (t106 wb ey ey) ?_
 rintro _ ⟨r2,hc1,rfl⟩
 refine af ?_
 exact xG ⟨r2,gJ,rfl⟩
def P50 (wn:iS) (c:j5) (lv:Row lF) (ke:Int) (nn:iS) (sp:Row Int) (fd:AV) (ws:Row j4) (wb:Row kr) (wl:Row Int) (v:AV):Prop:=∃ r0:Row kr,((r0.l.length=wb.l.length)/\rs 50 [nu wn c lv ke nn sp fd ws wb wl]=kX r0)/\v=kX r0
def t50 (wn:iS) (c:j5) (lv:Row lF) (ke:Int) (nn:iS) (sp:Row Int) (fd:AV) (ws:Row j4) (wb:Row kr) (wl:Row Int) (q1:lv.l.length<=64) (q2:sp.l.length<=60) (q3:∀ x∈lv.l,x.seen.l.length<=1000) (q4:wb.l.length<=64) (q5:∀ x∈wb.l,x.lJ.l.length<=1000) (h:aT):∃ v,ka cfg FT ko false 50 [nu wn c lv ke nn sp fd ws wb wl] h v h/\P50 wn c lv ke nn sp fd ws wb wl v:=by
 obtain ⟨v,hc,hP,hr⟩:=nC pF (abc wn c lv ke nn sp fd ws wb wl q1 q2 q3 q4 q5) h
 obtain ⟨r0,hp,rfl⟩:=hP
 exact iB
def Zr (_a0:kr) (v:AV):Prop:=∃ r0:jT,∃ r1:Bool,(((r1=true->xf _a0=some r0)/\(r1=false->xf _a0=none)))/\v=.kq [.agg (jT.ag r0),.bool r1]
def t108 (a0:kr) :Ct 108 [.agg (kr.ag a0)] (Zr a0):=by
 refine j9 Jz ?_
 refine co ?_
 refine aX ?_
 have hL1:=a0.lJ.lk
 refine lu a0.lJ ?_
 refine kR (λh2=>?_) (λh2=>?_)
 refine cJ ?_
 exact xG ⟨(⟨0,0⟩:jT),false,gx,rfl⟩
 refine ah ?_
 refine bL ?_
 have hL3:=a0.lJ.lk
 refine lu a0.lJ ?_
 have hL4:=a0.lJ.lk
 refine pL ?_
 have hx5:((a0.lJ.l.length:Int) - 1).toNat<a0.lJ.l.length:=by omega
 refine jP rfl (λ_=>ld (n:=(a0.lJ.l.length:Int) - 1) (r:=a0.lJ) (enc:=jT.ag) rfl rfl rfl rfl rfl eG hx5 rfl) ?_
 generalize hqx6:a0.lJ.l[((a0.lJ.l.length:Int) - 1).toNat]=x6
 refine bO ?_
 exact xG ⟨x6,true,gx,rfl⟩
def Xt (_a0:iS) (_a1:jV) (_a2:Int) (_a3:Int) (_a4:kr) (v:AV):Prop:=∃ r0:Bool,(True)/\v=.bool r0
def aa0 (a0:iS) (a1:jV) (a2:Int) (a3:Int) (a4:kr) :Ct 51 [.ip (iS.ag a0) 0 false,.agg (jV.ag a1),iv a2,iv a3,.agg (kr.ag a4)] (Xt a0 a1 a2 a3 a4):=by
 refine j9 L5 ?_
 refine co ?_
 refine dD ?_
 refine oC (t107 a0 a1 a2 a3) ?_
 rintro _ ⟨r2,hc1,rfl⟩
 have hFd:=hc1.1
 refine oC (t101 a0 r2) ?_
 rintro _ ⟨r4,r5,hc3,rfl⟩
 have hA:=hc3.1; have hA0:=hc3.2
 cases r5
 refine bM ?_
 refine oC (t108 a4) ?_
 rintro _ ⟨r7,r8,hc6,rfl⟩
 have hH:=hc6
 cases r8
 refine aF ?_
 refine dM ?_
 refine oS ?_
 refine cY ?_
 refine cg ?_
 refine aR ?_
 exact iq
 refine aF ?_
 refine dM ?_
 refine oS ?_
 refine cY ?_
 refine cg ?_
 refine aR ?_
 exact iq
 refine bM ?_
 refine oC (t108 a4) ?_
 rintro _ ⟨r10,r11,hc9,rfl⟩
 have hH:=hc9
 cases r11
 refine dl ?_
 refine a6 ?_
 refine cY ?_
 refine cg ?_
 refine aR ?_
 exact iq
 refine bM ?_
 refine cr ?_
 refine kR (λh12=>?_) (λh12=>?_)
 refine cm ?_
 refine aP ?_
 refine oZ rfl (λ_=>tY rfl rfl rfl (λ_ _=>rfl)) (λh13=>?_) (λh13=>?_)
 refine aR ?_
 exact io
 refine aR ?_
 exact iq
 refine aF ?_
 refine kR (λh14=>?_) (λh14=>?_)
 refine aP ?_
 refine oZ rfl (λ_=>tY rfl rfl rfl (λ_ _=>rfl)) (λh15=>?_) (λh15=>?_)
 refine aR ?_
 exact io
 refine aR ?_
 exact iq
 refine oV ?_
 refine cg ?_
 refine aR ?_
 exact iq
def P51 (_a0:iS) (_a1:jV) (_a2:Int) (_a3:Int) (_a4:kr) (v:AV):Prop:=∃ r0:Bool,((True)/\rs 51 [.ip (iS.ag _a0) 0 false,.agg (jV.ag _a1),iv _a2,iv _a3,.agg (kr.ag _a4)]=.bool r0)/\v=.bool r0
def t51 (a0:iS) (a1:jV) (a2:Int) (a3:Int) (a4:kr)  (h:aT):∃ v,ka cfg FT ko false 51 [.ip (iS.ag a0) 0 false,.agg (jV.ag a1),iv a2,iv a3,.agg (kr.ag a4)] h v h/\P51 a0 a1 a2 a3 a4 v:=by
 obtain ⟨v,hc,hP,hr⟩:=nC pF (aa0 a0 a1 a2 a3 a4) h
 obtain ⟨r0,hp,rfl⟩:=hP
 exact iB
def P52 (wn:iS) (c:j5) (lv:Row lF) (ke:Int) (nn:iS) (sp:Row Int) (fd:AV) (ws:Row j4) (wb:Row kr) (wl:Row Int) (v:AV):Prop:=∃ r0:Int,(r0=0)/\v=iv r0
def t52 (wn:iS) (c:j5) (lv:Row lF) (ke:Int) (nn:iS) (sp:Row Int) (fd:AV) (ws:Row j4) (wb:Row kr) (wl:Row Int) :Ct 52 [nu wn c lv ke nn sp fd ws wb wl] (P52 wn c lv ke nn sp fd ws wb wl):=by
 refine j9 MZ ?_
 refine cX ?_
 refine bO ?_
 exact xB ⟨0,gm,rfl⟩
def P53 (wn:iS) (c:j5) (lv:Row lF) (ke:Int) (nn:iS) (sp:Row Int) (fd:AV) (ws:Row j4) (wb:Row kr) (wl:Row Int) (v:AV):Prop:=∃ r0:Bool,(r0=false)/\v=.bool r0
def t53 (wn:iS) (c:j5) (lv:Row lF) (ke:Int) (nn:iS) (sp:Row Int) (fd:AV) (ws:Row j4) (wb:Row kr) (wl:Row Int) :Ct 53 [nu wn c lv ke nn sp fd ws wb wl] (P53 wn c lv ke nn sp fd ws wb wl):=by
 refine j9 K8 ?_
 refine cX ?_
 refine bO ?_
 exact xB ⟨false,gm,rfl⟩
def ZH (_a0:iS) (_a1:kr) (v:AV):Prop:=∃ r0:Int,∃ r1:Bool,(True)/\v=.kq [iv r0,.bool r1]
def t109 (a0:iS) (a1:kr) :Ct 109 [.ip (iS.ag a0) 0 false,.agg (kr.ag a1)] (ZH a0 a1):=by
 refine j9 FW ?_
 refine co ?_
 refine aX ?_
 refine lR (λh1=>?_) (λh1=>?_)
 refine bp ?_
 refine cg ?_
 refine cY ?_
 refine cO ?_
 exact ib
 refine aF ?_
 have hL2:=a1.lJ.lk
 refine lu a1.lJ ?_
 refine lR (λh3=>?_) (λh3=>?_)
 refine cg ?_
 refine cY ?_
 refine cO ?_
 exact ib
 refine aK ?_
 refine lR (λh4=>?_) (λh4=>?_)
 refine cY ?_
 refine cO ?_
 exact ib
 refine aP ?_
 have hx5:0<a1.lJ.l.length:=by omega
 refine ml 0 a1.lJ hx5 ?_
 generalize hqx6:a1.lJ.l[0]=x6
 refine am ?_
 refine oC (t102 a0 x6.elem) ?_
 rintro _ ⟨r8,hc7,rfl⟩
 have hK:=hc7
 refine lR (λh9=>?_) (λh9=>?_)
 refine cO ?_
 exact ib
 refine oV ?_
 refine dz ?_
 have hx10:0<a1.lJ.l.length:=by omega
 refine ml 0 a1.lJ hx10 ?_
 rw [hqx6]
 refine ci ?_
 exact xG ⟨x6.elem,true,zt⟩
def QW {H:aT} (b:Nat) (en:Int) (x:kr) (F:List lC) (hS:Sep H (kO b [iv en]::F)) :∃ v H',ka cfg FT ko true 110 [.agg (kr.ag x),(jQ b)] { H with cH:=[] } v H'/\(∃ r0:Bool,(True)/\Sep H' (kO b [iv en]::F)/\v=.bool r0):=by
 refine kW Iy ?_
 refine ai ?_
 refine aZ ?_
 refine oC (t108 x) ?_
 rintro _ ⟨r2,r3,hc1,rfl⟩
 have hH:=hc1
 cases r3
 refine bM ?_
 refine cm ?_
 refine aQ ?_
 refine aR ?_
 have hS4:=Sep.pick hS [0] 1 eB eB
 exact ig
 refine dN ?_
 refine kR (λh5=>?_) (λh5=>?_)
 refine aK ?_
 refine m5 0 hS (iv en) ?_
 refine kR (λh6=>?_) (λh6=>?_)
 refine aR ?_
 have hS7:=Sep.pick hS [0] 1 eB eB
 exact ij
 refine aR ?_
 have hS8:=Sep.pick hS [0] 1 eB eB
 exact ik
 refine aQ ?_
 refine aR ?_
 have hS9:=Sep.pick hS [0] 1 eB eB
 exact ⟨.bool false,rfl,false,zT,Sep.cH hS9 _,rfl⟩
def Ny {H:aT} (l:jS kr) (b:Nat) (en:Int) (F:List lC) (hS:Sep H (kO b [iv en]::F)) :∃ v H',ka cfg FT ko true 182 [jS.av kr.ag l,.kY 110 [] [(jQ b)]] { H with cH:=[] } v H'/\(∃ r0:Int,(True)/\Sep H' (kO b [iv en]::F)/\v=iv r0):=by
 refine kW I7 ?_
 refine aY ?_
 have hL1:=l.lk
 refine jP rfl (λ_=>m8 (r:=l) (enc:=kr.ag) rfl rfl rfl rfl rfl rfl) ?_
 refine aC ?_
 have hNk2:=l.lk
 refine jW l.l.length (λk2 e h=>∃ H3:aT,Sep H3 (kO b [iv en]::F)/\At [0,1,7,8] [jS.av kr.ag l,.kY 110 [] [(jQ b)],bY l.l.length,bY k2] H3 [] e h) ?_ (k0:=0) eG ⟨H,hS,atR⟩
 rintro k2 e h hkk2 ⟨H3,hS4,hA⟩
 refine aA ?_
 refine kx (λh5=>?_) (λh5=>?_)
 refine cT ?_
 refine a6 ?_
 have hx6:k2<l.l.length:=by omega
 refine jP rfl (λ_=>mJ (n:=k2) (r:=l) (enc:=kr.ag) rfl rfl rfl rfl rfl hx6 rfl) ?_
 generalize hqx7:l.l[k2]=x7
 have hinx7:x7∈l.l:=by rw [<- hqx7]; exact List.getElem_mem _
 have hmx7:=True.intro
 refine oV ?_
 have hS8:=Sep.pick hS4 [0] 1 eB eB
 refine kI (H:=H3) (args:=[.agg (kr.ag x7)]) (p:=[]) (r:=[(jQ b)]) rfl rfl rfl rfl rfl rfl rfl (QW b en x7 F hS8) ?_
 rintro _ H9 ⟨r12,hc11,hS10,rfl⟩
 cases r12
 refine bU ?_
 refine kD ?_
 refine ab ?_
 exact iR
 refine aJ ?_
 have hS13:=Sep.pick hS10 [0] 1 eB eB
 exact iT
 refine aS ?_
 have hS14:=Sep.pick hS4 [0] 1 eB eB
 exact iU
def NJ {H:aT} (l:jS kr) (b:Nat) (en:Int) (F:List lC) (hS:Sep H (kO b [iv en]::F)) :∃ v H',ka cfg FT ko true 111 [jS.av kr.ag l,.kY 110 [] [(jQ b)]] { H with cH:=[] } v H'/\(∃ r0:Bool,(True)/\Sep H' (kO b [iv en]::F)/\v=.bool r0):=by
 refine kW IW ?_
 refine cX ?_
 have hS1:=Sep.pick hS [0] 1 eB eB
 refine kI (H:=H) (args:=[jS.av kr.ag l,.kY 110 [] [(jQ b)]]) (p:=[]) (r:=[]) rfl rfl rfl rfl rfl rfl rfl (Ny l b en F hS1) ?_
 rintro _ H2 ⟨r5,hc4,hS3,rfl⟩
 refine mV (λh6=>?_) (λh6=>?_)
 refine af ?_
 have hS7:=Sep.pick hS3 [0] 1 eB eB
 exact ij
 refine af ?_
 have hS8:=Sep.pick hS3 [0] 1 eB eB
 exact ik
def Xf (n:iS) (c:j5) (d:jV) (lg:jS Int) (rd:jS Int) (ca:jS Int) (ow:jS Int) (bs:Row kr) (i:Nat) (v:AV):Prop:=∃ r0:Bool,(True)/\v=.bool r0
def aaQ (n:iS) (c:j5) (d:jV) (lg:jS Int) (rd:jS Int) (ca:jS Int) (ow:jS Int) (bs:Row kr) (i:Nat) (o1:i<bs.l.length) (o2:i<lg.l.length):Ct 54 [.ip (mE n c d (ly lg) (ly rd) (ly ca) (ly ow)) 0 true,kX bs,bY i] (Xf n c d lg rd ca ow bs i):=by
 refine j9 NN ?_
 refine bI ?_
 refine bS ?_
 have hx1:i<bs.l.length:=by omega
 refine ph i bs hx1 ?_
 generalize hqx2:bs.l[i]=x2
 iterate 15 refine rV ?_
 have hx3:i<lg.l.length:=by omega
 refine kp rfl rfl (λ_=>mJ (n:=i) (r:=lg) (enc:=j6) rfl rfl rfl rfl rfl hx3 rfl) ?_
 generalize hqx4:lg.l[i]=x4
 refine rV ?_
 refine rC (t98 n d ((i:Int)) x4) ?_
 rintro _ ⟨r6,hc5,rfl⟩
 refine rV ?_
 refine lH rfl rfl (rz kV rfl rfl) ?_
 rintro _ H8 ⟨b7,rfl,hS9⟩
 refine rV ?_
 refine lH rfl rfl (lY (H:=H8) (i:=0) (o:=0) (r:=iv r6) hS9 rfl rfl rfl rfl rfl rfl rfl) ?_
 rintro _ H10 ⟨rfl,hS11⟩
 refine rN ?_
 refine qs ?_
 refine aL ?_
 refine cZ ?_
 refine nX 0 hS11 (iv r6) ?_
 refine rC (t102 n r6) ?_
 rintro _ ⟨r13,hc12,rfl⟩
 have hK:=hc12
 refine u6 (λh14=>?_) (λh14=>?_)
 refine dZ ?_
 refine dj ?_
 refine rC (t109 n x2) ?_
 rintro _ ⟨r16,r17,hc15,rfl⟩
 cases r17
 refine cZ ?_
 refine aO ?_
 refine aa ?_
 refine cg ?_
 refine aR ?_
 exact iq
 refine cZ ?_
 refine aO ?_
 refine a6 ?_
 refine m5 0 hS11 (iv r6) ?_
 refine kR (λh18=>?_) (λh18=>?_)
 refine aR ?_
 exact io
 refine aR ?_
 exact iq
 refine c7 ?_
 refine du ?_
 refine aG ?_
 have hS19:=Sep.pick hS11 [0] 1 eB eB
 refine kI (H:=H10) (args:=[.agg (kr.ag x2)]) (p:=[]) (r:=[(jQ b7)]) rfl rfl rfl rfl rfl rfl rfl (QW b7 r6 x2 ([]) hS19) ?_
 rintro _ H20 ⟨r23,hc22,hS21,rfl⟩
 cases r23
 refine db ?_
 refine aR ?_
 exact iq
 refine aF ?_
 have hx24:i<=bs.l.length:=by omega
 refine jP rfl (λ_=>xw (k:=i) (r:=bs) (enc:=kr.ag) (n:=5) rfl rfl rfl rfl rfl rfl hx24 (λ_=>rfl)) ?_
 refine oV ?_
 have hS25:=Sep.pick hS21 [0] 1 eB eB
 refine kI (H:=H20) (args:=[kX (Row.take bs i),.kY 110 [] [(jQ b7)]]) (p:=[]) (r:=[]) rfl rfl rfl rfl rfl rfl rfl (NJ (Row.mg (Row.take bs i)) b7 r6 ([]) hS25) ?_
 rintro _ H26 ⟨r29,hc28,hS27,rfl⟩
 cases r29
 refine bO ?_
 exact io
 refine bO ?_
 exact iq
def Rr (n:iS) (c:j5) (d:jV) (lg:jS Int) (rd:jS Int) (ca:jS Int) (ow:jS Int) (bs:Row kr) (i:Nat) (v:AV):Prop:=∃ r0:Bool,((True)/\rs 54 [.ip (mE n c d (ly lg) (ly rd) (ly ca) (ly ow)) 0 true,kX bs,bY i]=.bool r0)/\v=.bool r0
def t54 (n:iS) (c:j5) (d:jV) (lg:jS Int) (rd:jS Int) (ca:jS Int) (ow:jS Int) (bs:Row kr) (i:Nat) (o1:i<bs.l.length) (o2:i<lg.l.length) (h:aT):∃ v,ka cfg FT ko false 54 [.ip (mE n c d (ly lg) (ly rd) (ly ca) (ly ow)) 0 true,kX bs,bY i] h v h/\Rr n c d lg rd ca ow bs i v:=by
 obtain ⟨v,hc,hP,hr⟩:=nC pF (aaQ n c d lg rd ca ow bs i o1 o2) h
 obtain ⟨r0,hp,rfl⟩:=hP
 exact iB
def Zu (_a0:Row kP) (_a1:Int) (v:AV):Prop:=∃ r0:Bool,((r0=true->0<=_a1/\_a1<(_a0.l.length:Int)))/\v=.bool r0
def t112 (a0:Row kP) (a1:Int) :Ct 112 [kS a0,iv a1] (Zu a0 a1):=by
 refine j9 Il ?_
 refine bI ?_
 refine cF ?_
 refine uO (λh1=>?_) (λh1=>?_)
 refine bj ?_
 have hL2:=a0.lk
 refine vx a0 ?_
 refine qO (λh3=>?_) (λh3=>?_)
 refine cZ ?_
 have hx4:(a1).toNat<a0.l.length:=by omega
 refine kp rfl rfl (λ_=>ld (n:=a1) (r:=a0) (enc:=kP.ag) rfl rfl rfl rfl rfl eG hx4 rfl) ?_
 generalize hqx5:a0.l[(a1).toNat]=x5
 refine aI ?_
 have hL6:=x5.kH.lk
 refine vx x5.kH ?_
 refine PS (λh7=>?_) (λh7=>?_)
 refine cZ ?_
 refine rC (t164 (Row.mg a0) a1) ?_
 rintro _ ⟨r9,hc8,rfl⟩
 refine aI ?_
 have hx10:(a1).toNat<a0.l.length:=by omega
 refine kp rfl rfl (λ_=>ld (n:=a1) (r:=a0) (enc:=kP.ag) rfl rfl rfl rfl rfl eG hx10 rfl) ?_
 rw [hqx5]
 refine aI ?_
 have hx12:0<x5.kH.l.length:=by omega
 refine ph 0 x5.kH hx12 ?_
 generalize hqx13:x5.kH.l[0]=x13
 refine aI ?_
 refine rC (t183 x13.free) ?_
 rintro _ ⟨r15,hc14,rfl⟩
 obtain ⟨z16,hz17⟩:=Bx .u64 r9 (r15)
 refine kp rfl rfl (λ_=>me rfl rfl rfl hz17) ?_
 refine xA (λh18=>?_) (λh18=>?_)
 refine aV ?_
 exact xB ⟨true,fx,rfl⟩
 refine aV ?_
 exact im
 refine dc ?_
 iterate 8 refine rS ?_
 refine aV ?_
 exact im
 refine dc ?_
 refine rS ?_
 refine dc ?_
 iterate 8 refine rS ?_
 refine aV ?_
 exact im
 refine rV ?_
 refine dW ?_
 refine dc ?_
 refine rS ?_
 refine dc ?_
 iterate 8 refine rS ?_
 refine aV ?_
 exact im
end Go.Sx
