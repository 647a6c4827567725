/- Proves what some functions of the program answer, by walking through them. -/
import Derived.Test.YtihofefpkjfmnaaGreatTak
import Derived.Test.YtihofefpkjfmnaaGreatTam
import Derived.Test.YtihofefpkjfmnaaGreatTao
import Derived.Test.YtihofefpkjfmnaaGreatTap
import Derived.Test.YtihofefpkjfmnaaGreatTaq
import Derived.Test.YtihofefpkjfmnaaGreatTar
import Derived.Test.YtihofefpkjfmnaaGreatTas
import Derived.Test.YtihofefpkjfmnaaGreatTat
set_option linter.all false
set_option maxRecDepth 100000
set_option maxHeartbeats 0
namespace Go.Sx
open Go Go.Proofs
def P18 (_a0:j5) (_a1:iS) (_a2:jV) (v:AV):Prop:=(∃ wn:iS,∃ c:j5,∃ lv:Row lF,∃ ke:Int,∃ nn:iS,∃ sp:Row Int,∃ fd:AV,∃ ws:Row j4,∃ wb:Row kr,∃ wl:Row Int,(lv.l.length<=64/\sp.l.length<=60/\(∀ x∈lv.l,x.seen.l.length<=1000)/\wb.l.length = _a2.runs.l.length/\∀ x∈wb.l,x.lJ.l.length<=1000)/\v=nu wn c lv ke nn sp fd ws wb wl)
def t18 (a0:j5) (a1:iS) (a2:jV) (p1:mB a0.dO) (p2:rs 57 [.agg (iF.ag a0.dO)]=.kq [.agg (j5.ag a0),iv 0]) (p3:∃ nx:iS,ot nx a0.dO/\rs 31 [.agg (iF.ag a0.dO)]=.kq [.ip (iS.ag nx) 0 false,iv 0]/\a1.p=nx.p/\(∀ i,i<a2.runs.l.length->∃ b:kr,rs 130 [.ip (iS.ag nx) 0 false,.int .i64 (ua a2 i),.agg (mr nx.p a2 i).ag]=.kq [.agg b.ag,.int .i64 0])/\(∀ i j,i<j->j<a2.runs.l.length->∀ x∈oM nx.p [(mr nx.p a2 i).at_],x∉oM nx.p [(mr nx.p a2 j).at_])) (p4:a0.roads.l.length<=64) (p5:(rs 60 [.agg (iF.ag a0.dO),kj a2.j3]=iv 0/\(∀ r∈a2.runs.l,(rs 127 [.str r.name.l]=.bool true/\0<=r.j3/\r.j3<(a2.j3.l.length:Int)/\0<=r.from_/\r.from_<(a0.dO.signals.l.length:Int)))/\(∀ (i j:Nat) (h:j<a2.runs.l.length) (hij:i<j),j<a2.runs.l.length->(a2.runs.l[i]).name.l≠(a2.runs.l[j]).name.l)/\a2.runs.l.length<=8)):Ct 18 [.agg (j5.ag a0),.ip (iS.ag a1) 0 false,.agg (jV.ag a2)] (P18 a0 a1 a2):=by
 refine j9 GM ?_
 obtain ⟨nx,hnk,hnx,hnp,hSA,hSB⟩:=p3; have p58:=p5.2.2.2; have p51:=p5.1
 refine co ?_
 refine dJ ?_
 have hL1:=a2.runs.lk
 refine eb ?_
 have hS2:=Sep.mf kV 5
 have hNk3:=a2.runs.lk
 refine jW a2.runs.l.length (λk3 e h=>∃ v4:AV,∃ l5:List jY,∃ H6:aT,(l5=(List.range k3).map (λi=>mr a1.p a2 i))/\(l5.length=k3)/\Sep H6 (my jY.ag 5 v4 l5::[])/\At [1,3,5,7,15,16] [.ip (iS.ag a1) 0 false,.la 3 0,.la 5 0,v4,bY a2.runs.l.length,bY k3] H6 [(3,(j5.ag a0)),(5,(jV.ag a2))] e h) ?_ (k0:=0) eG ⟨iN,(([]:List jY)),aT.empty,gm,gm,hS2,atR⟩
 rintro k3 e h hkk3 ⟨v4,l5,H6,hTt,hTl,hS7,hA⟩
 refine aA ?_
 refine kx (λh8=>?_) (λh8=>?_)
 refine ak ?_
 refine wz [.ip (iS.ag a1) 0 false,.la 3 0,.la 5 0,v4,bY a2.runs.l.length,bY k3] H6 [(3,(j5.ag a0)),(5,(jV.ag a2))] ?_ (kh hS7 [(7,0)])
 refine dA ?_
 refine a6 ?_
 refine oC (t47 a1 a2 ((k3:Int))) ?_
 rintro _ ⟨r10,r11,hc9,rfl⟩
 have hTr:=hc9
 cases r11
 refine dl ?_
 refine bz ?_
 refine kn rfl (kZ (H:=H6) (i:=0) (l:=l5) (enc:=jY.ag) [r10] hS7 rfl rfl rfl rfl rfl rfl rfl rfl rfl (λ_=>rfl) (.inl rfl) eE (λ_=>rfl)) ?_
 rintro v12 H13 hS14
 refine ab ?_
 refine wz [.ip (iS.ag a1) 0 false,.la 3 0,.la 5 0,v12,bY a2.runs.l.length,bY k3] H13 [(3,(j5.ag a0)),(5,(jV.ag a2))] ?_ (kh hS14 [(7,0)])
 refine qg ?_
 refine kD ?_
 refine ab ?_
 exact ⟨by omega,v12,((l5++[r10])),H13,(by exact Fw hTt (hTr eG eG)),fu,hS14,(kh hS14 [(7,0)])⟩
 refine dl ?_
 refine bz ?_
 refine kn rfl (kZ (H:=H6) (i:=0) (l:=l5) (enc:=jY.ag) [r10] hS7 rfl rfl rfl rfl rfl rfl rfl rfl rfl (λ_=>rfl) (.inl rfl) eE (λ_=>rfl)) ?_
 rintro v15 H16 hS17
 refine ab ?_
 refine wz [.ip (iS.ag a1) 0 false,.la 3 0,.la 5 0,v15,bY a2.runs.l.length,bY k3] H16 [(3,(j5.ag a0)),(5,(jV.ag a2))] ?_ (kh hS17 [(7,0)])
 refine qg ?_
 refine kD ?_
 refine ab ?_
 exact ⟨by omega,v15,((l5++[r10])),H16,(by exact Fw hTt (hTr eG eG)),fu,hS17,(kh hS17 [(7,0)])⟩
 refine aj ?_
 refine wz [.la 3 0,.la 5 0,v4] H6 [(3,(j5.ag a0)),(5,(jV.ag a2))] ?_ (kh hS7 [(7,0)])
 refine bL ?_
 refine nU hS7 0 λr18 hl19 hln22 hz21=>?_
 have hTf:r18.l=(wA a2.runs.l.length).map (λr=>mr nx.p a2 r.toNat):=all_map hnp (by rw [hl19,hTt]; congr 2; omega)
 have hTn:r18.l.length=a2.runs.l.length:=by rw [hTf]; simp [wA]
 obtain ⟨hp3a,hp3b,hp3c,hp6,hp7,hp8⟩:=JE hnk (Pt _) hTf p5 hSA hSB
 have hp3:∃ nx:iS,ot nx a0.dO/\rs 31 [.agg (iF.ag a0.dO)]=.kq [.ip (iS.ag nx) 0 false,iv 0]/\(∀ (i:Nat) (x:jY) (y:j4),r18.l[i]?=some x->a2.j3.l[x.j3.toNat]?=some y->∃ b:kr,b.lJ.l=[x.at_]/\rs 130 [.ip (iS.ag nx) 0 false,iv y.len,.agg (jY.ag x)]=.kq [.agg (kr.ag b),iv 0])/\(∀ i j:Nat,i<j->j<r18.l.length->∀ x∈LT r18.l nx.p i,x∉LT r18.l nx.p j)/\(∀ i:Nat,∀ x∈LT r18.l nx.p i,0<=x/\x<(nx.p.elems.l.length:Int)):=⟨nx,hnk,hnx,hp3a,hp3b,hp3c⟩
 refine mM (args:=[.agg (j5.ag a0),kj a2.j3,v4]) (p:=[]) (r:=[]) (args':=[.agg (j5.ag a0),kj a2.j3,jS.av jY.ag r18]) (R:=We a0 a2.j3 r18) rfl rfl rfl rfl rfl (jU rfl (jU rfl (jU (Sep.arg (i:=0) hS7 rfl) kE))) rfl fy (lx gv (jU rfl (jU rfl (jU (Sep.qC (i:=0) hS7 rfl) kE)))) (lx fk (jU rfl (jU rfl (jU rfl kE)))) (λh=>t25 a0 a2.j3 r18 ey ey ey ey ey ey ey ey h) ?_
 rintro _ (⟨r24,r25,r26,r27,r28,r29,r30,r31,r32,r33,hc23,rfl⟩)
 have hWn:=hc23
 refine bV ?_
 refine aH ?_
 refine bR ?_
 refine xG ⟨r24,r25,r26,r27,r28,r29,r30,r31,r32,r33,(by exact ⟨by omega,hWn.2.1,hWn.2.2.1,by omega,hWn.2.2.2.2⟩),rfl⟩
def P4 (_a0:iF) (_a1:jV) (_a2:Row Int) (_a3:Int) (_a4:Row Int) (v:AV):Prop:=∃ r0:Bool,(r0=true)/\v=.bool r0
def t4 (a0:iF) (a1:jV) (a2:Row Int) (a3:Int) (a4:Row Int) (qc:a0.canon=a0) (hJg:JG a0) (hcu:0<=a3/\a3<=255):Ct 4 [.agg (iF.ag a0),.agg (jV.ag a1),kN a2,.int .u8 a3,kN a4] (P4 a0 a1 a2 a3 a4):=by
 refine j9 QY ?_
 have hcw:=wrap_u8 hcu
 refine co ?_
 refine dK ?_
 refine oC (t5) ?_
 rintro _ ⟨r2,hc1,rfl⟩
 cases r2
 refine au ?_
 exact jz
 refine oV ?_
 refine dz ?_
 refine oC (t17 a0 a1 ey) ?_
 rintro _ (⟨r4,r5,hc3,rfl⟩ | ⟨r6,r7,hc3,rfl⟩)
 have hO:=hc3
 refine am ?_
 refine cQ ?_
 refine aF ?_
 have hL8:=a2.lk
 refine lu a2 ?_
 refine ma (λh9=>?_) (λh9=>?_)
 refine cg ?_
 refine au ?_
 exact jA
 refine aF ?_
 have hL10:=a4.lk
 refine lu a4 ?_
 refine ma (λh11=>?_) (λh11=>?_)
 refine au ?_
 exact jA
 refine aH ?_
 refine a6 ?_
 obtain ⟨hNn,hFw,hDf,hSt,hSn,h64,⟨hPl0,nx,hnk,hnx⟩,hBd⟩:=hO
 have hD8:=hDf.1
 have hPc:r4.dO=a0:=hPl0.trans qc
 have hRk:(∀ r∈(r4.roads.l:List kz),rb r):=hSn
 have hp1:mB r4.dO:=by rw [hPc]; exact hFw
 have hp2:rs 57 [.agg (iF.ag r4.dO)]=.kq [.agg (j5.ag r4),iv 0]:=by rw [hPc]; exact hBd
 by_cases hck:rs 30 [.agg (j5.ag r4),.agg (jV.ag a1)]=iv 0
 obtain ⟨_,_,rck,⟨hpk,hrk⟩,_⟩:=t30 r4 a1 hp1 h64 aT.empty
 have hzk:rck=0:=by have hj:=hrk.symm.trans hck; injection hj
 obtain ⟨hDk,ny,hny,hnyr,hSA,hSB⟩:=hpk hzk
 have hq3:∃ nx:iS,ot nx r4.dO/\rs 31 [.agg (iF.ag r4.dO)]=.kq [.ip (iS.ag nx) 0 false,iv 0]/\r5.p=nx.p/\(∀ i,i<a1.runs.l.length->∃ b:kr,rs 130 [.ip (iS.ag nx) 0 false,.int .i64 (ua a1 i),.agg (mr nx.p a1 i).ag]=.kq [.agg b.ag,.int .i64 0])/\(∀ i j,i<j->j<a1.runs.l.length->∀ x∈oM nx.p [(mr nx.p a1 i).at_],x∉oM nx.p [(mr nx.p a1 j).at_]):=⟨ny,hny,hnyr,by rw [hNn.dO,hny.dO,hPc],hSA,hSB⟩
 refine oC (t18 r4 r5 a1 hp1 hp2 hq3 h64 hDk) ?_
 rintro _ (⟨r13,r14,r15,r16,r17,r18,r19,r20,r21,r22,hc12,rfl⟩)
 obtain ⟨hw1,hw2,hw3,hw4,hw5⟩:=hc12
 refine aG ?_
 refine kI (H:=aT.empty) (args:=[.agg (j5.ag r4),.agg (jV.ag a1)]) (p:=[]) (r:=[]) rfl rfl rfl rfl rfl rfl rfl (u7 r4 a1 ([]) kV fg fg fg fg fg) ?_
 rintro _ H24 (⟨e26,hc25,hS27,rfl⟩ | ⟨b28,nt29,cc30,dd31,vl32,lg33,rd34,hc25,hS35,rfl⟩)
 have hNe:=hc25
 refine bV ?_
 refine lR (λh36=>?_) (λh36=>?_)
 refine aW ?_
 exact jA
 refine dS ?_
 refine aF ?_
 refine bJ ?_
 exact jz
 obtain ⟨hN1,hN2,hN3,hN4,hN5,hN6,hN7,hN8,hN9,hNa,hNck⟩:=hc25
 refine bV ?_
 refine aH ?_
 refine dK ?_
 refine cr ?_
 refine dz ?_
 refine ao ?_
 have hL37:=a4.lk
 refine lu a4 ?_
 refine aC ?_
 have hS38:=Sep.mf hS35 1
 have hNk39:=a4.lk
 refine jW a4.l.length (λk39 e h=>∃ v40:AV,∃ l41:List Int,∃ H42:aT,(l41.length<=k39)/\Sep H42 (lG v40 l41::kO b28 (mE nt29 cc30 dd31 vl32 (kN rd34) iN iN)::lG vl32 lg33::[])/\At [2,3,6,14,15,17,18,70,71,72] [kN a2,.int .u8 a3,.la 6 0,nu r13 r14 r15 r16 r17 r18 r19 r20 r21 r22,(jQ b28),v40,iN,kN a4,bY a4.l.length,bY k39] H42 [(6,(jV.ag a1))] e h) ?_ (k0:=0) eG ⟨iN,(([]:List Int)),H24,gU,hS38,atR⟩
 rintro k39 e h hkk39 ⟨v40,l41,H42,hAh,hS43,hA⟩
 refine aA ?_
 refine kx (λh44=>?_) (λh44=>?_)
 refine ak ?_
 refine wz [kN a2,.int .u8 a3,.la 6 0,nu r13 r14 r15 r16 r17 r18 r19 r20 r21 r22,(jQ b28),v40,iN,kN a4,bY a4.l.length,bY k39] H42 [(6,(jV.ag a1))] ?_ (kh hS43 [(17,0)])
 refine bd ?_
 have hx45:k39<a4.l.length:=by omega
 refine ml k39 a4 hx45 ?_
 generalize hqx46:a4.l[k39]=x46
 have hinx46:x46∈a4.l:=by rw [<- hqx46]; exact List.getElem_mem _
 try (have hzx46:=hN9 x46 (by have hj:=hinx46; rw [hRd] at hj; exact hj))
 refine bh ?_
 refine bz ?_
 have hz50:(l41++[x46]).length=l41.length+1:=List.length_append
 refine kn rfl (kZ (i:=0) (l:=l41) (enc:=j6) [x46] hS43 rfl rfl rfl rfl rfl rfl rfl rfl rfl (λ_=>rfl) (.inl rfl) eE (λ_=>rfl)) ?_
 rintro v47 H48 hS49
 refine ab ?_
 refine wz [kN a2,.int .u8 a3,.la 6 0,nu r13 r14 r15 r16 r17 r18 r19 r20 r21 r22,(jQ b28),v47,iN,kN a4,bY a4.l.length,bY k39] H48 [(6,(jV.ag a1))] ?_ (kh hS49 [(17,0)])
 refine qg ?_
 refine kD ?_
 refine ab ?_
 exact ⟨by omega,v47,((l41++[x46])),H48,fu,hS49,(kh hS49 [(17,0)])⟩
 refine aj ?_
 refine wz [kN a2,.int .u8 a3,.la 6 0,nu r13 r14 r15 r16 r17 r18 r19 r20 r21 r22,(jQ b28),v40,iN] H42 [(6,(jV.ag a1))] ?_ (kh hS43 [(17,0)])
 refine ae ?_
 have hS51:=Sep.pf (i:=0) hS43 rfl
 have hS52:=Sep.pick hS51 [1,2,0] 3 eB eB
 refine kI (H:=H42) (args:=[(jQ b28),v40]) (p:=[]) (r:=[]) rfl rfl rfl rfl rfl (jU rfl (jU (Sep.arg (i:=0) hS51 rfl) kE)) rfl (ZR b28 nt29 cc30 dd31 vl32 lg33 rd34 v40 l41 ([]) hS52) ?_
 rintro _ H53 ⟨hc55,hS54,rfl⟩
 refine oN ?_
 refine aq ?_
 refine nU hS54 1 λr56 hl57 hln60 hz59=>?_
 have hz61:∀ m,freeze true { H53 with cH:=[] } (m+4) (jQ b28)=some (.ip (mE nt29 cc30 dd31 (ly r56) (kN rd34) iN iN) 0 true):=λm=>mh (i:=0) hS54 rfl [] _ (by simp only [FZ,hz59]; try rfl)
 refine mM (args:=[(jQ b28)]) (p:=[]) (r:=[]) (args':=[.ip (mE nt29 cc30 dd31 (ly r56) (kN rd34) iN iN) 0 true]) (R:=DU nt29 cc30 dd31 r56 (Row.mg rd34) (⟨[],.nil,Nat.zero_le _,λ_=>rfl⟩:jS Int) (⟨[],.nil,Nat.zero_le _,λ_=>rfl⟩:jS Int)) rfl rfl rfl rfl rfl rfl rfl fy (lx (by show kG (freeze true { H53 with cH:=[] } 8) [(jQ b28)] = _; simp only [FZ,hz59,hz61]) (jU rfl kE)) (lx fk (jU rfl kE)) (λh=>t13 nt29 cc30 dd31 r56 (Row.mg rd34) (⟨[],.nil,Nat.zero_le _,λ_=>rfl⟩:jS Int) (⟨[],.nil,Nat.zero_le _,λ_=>rfl⟩:jS Int) ey h) ?_
 rintro _ ⟨r63,hc62,rfl⟩
 try (have hRdC:=hRdB)
 try (have hRdB:=hRdA)
 try (have hRdA:=hRd)
 have hRd:=hc62
 have hRdl:=congrArg List.length hRd
 try simp only [Row.mg] at hRdl
 have hL64:=r63.lk
 refine lu r63 ?_
 refine aC ?_
 have hNk65:=r63.lk
 refine jW r63.l.length (λk65 e h=>At [2,3,6,14,15,17,18,86,87] [kN a2,.int .u8 a3,.la 6 0,nu r13 r14 r15 r16 r17 r18 r19 r20 r21 r22,(jQ b28),v40,iN,bY r63.l.length,bY k65] H53 [(6,(jV.ag a1))] e h) ?_ (k0:=0) eG (kh hS54 [(17,2)])
 rintro k65 e h hkk65 hA
 refine aA ?_
 refine kx (λh66=>?_) (λh66=>?_)
 refine ak ?_
 refine wz [kN a2,.int .u8 a3,.la 6 0,nu r13 r14 r15 r16 r17 r18 r19 r20 r21 r22,(jQ b28),v40,iN,bY r63.l.length,bY k65] H53 [(6,(jV.ag a1))] ?_ (kh hS54 [(17,2)])
 refine aw ?_
 refine aZ ?_
 refine nU hS54 1 λr67 hl68 hln71 hz70=>?_
 have hz72:∀ m,freeze true { H53 with cH:=[] } (m+4) (jQ b28)=some (.ip (mE nt29 cc30 dd31 (ly r67) (kN rd34) iN iN) 0 true):=λm=>mh (i:=0) hS54 rfl [] _ (by simp only [FZ,hz70]; try rfl)
 refine mM (args:=[(jQ b28)]) (p:=[]) (r:=[]) (args':=[.ip (mE nt29 cc30 dd31 (ly r67) (kN rd34) iN iN) 0 true]) (R:=DU nt29 cc30 dd31 r67 (Row.mg rd34) (⟨[],.nil,Nat.zero_le _,λ_=>rfl⟩:jS Int) (⟨[],.nil,Nat.zero_le _,λ_=>rfl⟩:jS Int)) rfl rfl rfl rfl rfl rfl rfl fy (lx (by show kG (freeze true { H53 with cH:=[] } 8) [(jQ b28)] = _; simp only [FZ,hz70,hz72]) (jU rfl kE)) (lx fk (jU rfl kE)) (λh=>t13 nt29 cc30 dd31 r67 (Row.mg rd34) (⟨[],.nil,Nat.zero_le _,λ_=>rfl⟩:jS Int) (⟨[],.nil,Nat.zero_le _,λ_=>rfl⟩:jS Int) ey h) ?_
 rintro _ ⟨r74,hc73,rfl⟩
 try (have hRdC:=hRdB)
 try (have hRdB:=hRdA)
 try (have hRdA:=hRd)
 have hRd:=hc73
 have hRdl:=congrArg List.length hRd
 try simp only [Row.mg] at hRdl
 refine oV ?_
 have hx75:k65<r74.l.length:=by omega
 refine ml k65 r74 hx75 ?_
 generalize hqx76:r74.l[k65]=x76
 have hinx76:x76∈r74.l:=by rw [<- hqx76]; exact List.getElem_mem _
 try (have hzx76:=hN9 x76 (by have hj:=hinx76; rw [hRd] at hj; exact hj))
 refine oV ?_
 refine lR (λh77=>?_) (λh77=>?_)
 exfalso; omega
 refine ah ?_
 refine wz [kN a2,.int .u8 a3,.la 6 0,nu r13 r14 r15 r16 r17 r18 r19 r20 r21 r22,(jQ b28),v40,iN,bY r63.l.length,bY k65] H53 [(6,(jV.ag a1))] ?_ (kh hS54 [(17,2)])
 refine qg ?_
 refine kD ?_
 refine ab ?_
 exact ⟨by omega,(kh hS54 [(17,2)])⟩
 refine aj ?_
 refine wz [kN a2,.int .u8 a3,.la 6 0,nu r13 r14 r15 r16 r17 r18 r19 r20 r21 r22,(jQ b28),v40,iN] H53 [(6,(jV.ag a1))] ?_ (kh hS54 [(17,2)])
 refine ai ?_
 have hS78:=Sep.pick hS54 [0,1,2] 3 eB eB
 refine kI (H:=H53) (args:=[(jQ b28)]) (p:=[]) (r:=[]) rfl rfl rfl rfl rfl rfl rfl (V6 b28 nt29 cc30 dd31 vl32 lg33 rd34 (m6 j6 1 v40 l41::[]) hS78 ey ey) ?_
 rintro _ H79 ⟨bw82,vl283,lg284,vr285,rd286,vc287,ca288,vo289,ow290,hc81,hS80,rfl⟩
 try (have hTwlA:=hTwl; have hTwrA:=hTwr)
 have hTwl:=hc81.1; have hTwr:=hc81.2.1
 have hT5:rd286.length=lg284.length:=by rw [hc81.1,hc81.2.1]; exact hN5
 have hT6:lg284.length<=8:=by rw [hc81.1]; exact hN7
 have hT7:∀ x∈lg284,x=0:=by rw [hc81.1]; exact hN8
 have hT8:∀ x∈rd286,x = -1:=by rw [hc81.2.1]; exact hN9
 have hT9:dd31.runs.l.length=lg284.length:=by rw [hc81.1]; exact hNa
 have hT0:lg284.length=a1.runs.l.length:=by rw [hc81.1]; exact hN6
 refine oV ?_
 have hS91:=Sep.pick hS80 [0,1,2,3,4,5,6,7] 8 eB eB
 refine kI (H:=H79) (args:=[(jQ b28)]) (p:=[]) (r:=[]) rfl rfl rfl rfl rfl rfl rfl (V6 b28 nt29 cc30 dd31 vl32 lg33 rd34 (kO bw82 (mE nt29 cc30 dd31 vl283 vr285 vc287 vo289)::lG vl283 lg284::lG vr285 rd286::lG vc287 ca288::lG vo289 ow290::m6 j6 1 v40 l41::[]) hS91 ey ey) ?_
 rintro _ H92 ⟨bw95,vl296,lg297,vr298,rd299,vc2100,ca2101,vo2102,ow2103,hc94,hS93,rfl⟩
 try (have hTwlA:=hTwl; have hTwrA:=hTwr)
 have hTwl:=hc94.1; have hTwr:=hc94.2.1
 have hT5:rd299.length=lg297.length:=by rw [hc94.1,hc94.2.1]; exact hN5
 have hT6:lg297.length<=8:=by rw [hc94.1]; exact hN7
 have hT7:∀ x∈lg297,x=0:=by rw [hc94.1]; exact hN8
 have hT8:∀ x∈rd299,x = -1:=by rw [hc94.2.1]; exact hN9
 have hT9:dd31.runs.l.length=lg297.length:=by rw [hc94.1]; exact hNa
 have hT0:lg297.length=a1.runs.l.length:=by rw [hc94.1]; exact hN6
 refine oV ?_
 refine aG ?_
 have hS104:=Sep.pick hS93 [7,8,9,10,11,0,1,2,3,4,5,6,12] 13 eB eB
 refine kI (H:=H92) (args:=[(jQ bw82),nu r13 r14 r15 r16 r17 r18 r19 r20 r21 r22]) (p:=[]) (r:=[]) rfl rfl rfl rfl rfl rfl rfl (Wk bw82 nt29 cc30 dd31 vl283 lg284 vr285 rd286 vc287 ca288 vo289 ow290 r13 r14 r15 r16 r17 r18 r19 r20 r21 r22 (kO b28 (mE nt29 cc30 dd31 vl32 (kN rd34) iN iN)::lG vl32 lg33::kO bw95 (mE nt29 cc30 dd31 vl296 vr298 vc2100 vo2102)::lG vl296 lg297::lG vr298 rd299::lG vc2100 ca2101::lG vo2102 ow2103::m6 j6 1 v40 l41::[]) hS104 ey ey ey ey ey ey ey ey ey ey ey ey ey ey ey) ?_
 rintro _ H105 ⟨ro108,vt109,tl110,vcao111,cao112,vowo113,owo114,hc107,hS106,rfl⟩
 try (have hPsA:=hPs; have hPrA:=hPr; have hPoA:=hPo; have hP5A:=hP5)
 obtain ⟨hPr,hPo,hP5,hPw,hPs⟩:=hc107
 have hPl:=congrArg List.length hPr
 refine am ?_
 refine dM ?_
 have hS115:=Sep.pick hS106 [8,9,10,11,12,0,1,2,3,4,5,6,7,13] 14 eB eB
 refine kI (H:=H105) (args:=[(jQ bw95),nu r13 r14 r15 r16 r17 r18 r19 r20 r21 r22]) (p:=[]) (r:=[]) rfl rfl rfl rfl rfl rfl rfl (Wk bw95 nt29 cc30 dd31 vl296 lg297 vr298 rd299 vc2100 ca2101 vo2102 ow2103 r13 r14 r15 r16 r17 r18 r19 r20 r21 r22 (kO bw82 (mE nt29 cc30 dd31 vl283 vr285 vcao111 vowo113)::lG vl283 lg284::lG vr285 rd286::lG vcao111 cao112::lG vowo113 owo114::my mI 1 vt109 tl110::kO b28 (mE nt29 cc30 dd31 vl32 (kN rd34) iN iN)::lG vl32 lg33::m6 j6 1 v40 l41::[]) hS115 ey ey ey ey ey ey ey ey ey ey ey ey ey ey ey) ?_
 rintro _ H116 ⟨ro119,vt120,tl121,vcao122,cao123,vowo124,owo125,hc118,hS117,rfl⟩
 try (have hPsA:=hPs; have hPrA:=hPr; have hPoA:=hPo; have hP5A:=hP5)
 obtain ⟨hPr,hPo,hP5,hPw,hPs⟩:=hc118
 have hPl:=congrArg List.length hPr
 refine oN ?_
 refine aq ?_
 have hL126:=ro108.lk
 refine lu ro108 ?_
 refine aC ?_
 have hS127:=Sep.mf hS117 1
 have hS128:=Sep.pick hS127 [0,1,2,3,4,5,7,8,9,10,11,13,14,15] 16 eB eB
 have hNk129:=ro108.lk
 refine jW ro108.l.length (λk129 e h=>∃ v130:AV,∃ l131:List Int,∃ H132:aT,(l131.length=k129)/\(∀ i:Nat,(l131)[i]?=some 0->(i:Int)<pt .i64 a3)/\Sep H132 (lG v130 l131::kO bw95 (mE nt29 cc30 dd31 vl296 vr298 vcao122 vowo124)::lG vl296 lg297::lG vr298 rd299::lG vcao122 cao123::lG vowo124 owo125::kO bw82 (mE nt29 cc30 dd31 vl283 vr285 vcao111 vowo113)::lG vl283 lg284::lG vr285 rd286::lG vcao111 cao112::lG vowo113 owo114::kO b28 (mE nt29 cc30 dd31 vl32 (kN rd34) iN iN)::lG vl32 lg33::m6 j6 1 v40 l41::[])/\At [2,3,6,15,17,18,23,24,111,112] [kN a2,.int .u8 a3,.la 6 0,(jQ b28),v40,v130,(jQ bw82),(jQ bw95),bY ro108.l.length,bY k129] H132 [(6,(jV.ag a1))] e h) ?_ (k0:=0) eG ⟨iN,(([]:List Int)),H116,gm,(by (intro i h; cases h)),hS128,(kh hS128 [(17,13)])⟩
 rintro k129 e h hkk129 ⟨v130,l131,H132,hAn,hAl,hS133,hA⟩
 refine rP hA ?_
 have hPq:=Ly hPsA hPs hTwlA hTwl hTwrA hTwr
 refine aa ?_
 refine kx (λh134=>?_) (λh134=>?_)
 refine ak ?_
 refine wz [kN a2,.int .u8 a3,.la 6 0,(jQ b28),v40,v130,(jQ bw82),(jQ bw95),bY ro108.l.length,bY k129] H132 [(6,(jV.ag a1))] ?_ (kh hS133 [(17,13),(18,0)])
 refine dA ?_
 refine dJ ?_
 have hL135:=a2.lk
 refine lu a2 ?_
 refine kx (λh136=>?_) (λh136=>?_)
 refine aF ?_
 have hx137:k129<a2.l.length:=by omega
 refine ml k129 a2 hx137 ?_
 generalize hqx138:a2.l[k129]=x138
 have hinx138:x138∈a2.l:=by rw [<- hqx138]; exact List.getElem_mem _
 try (have hzx138:=hN9 x138 (by have hj:=hinx138; rw [hRd] at hj; exact hj))
 refine oV ?_
 obtain ⟨z139,hz140⟩:=Bx .i64 x138 (1)
 refine jP rfl (λ_=>me rfl rfl rfl hz140) ?_
 refine kR (λh141=>?_) (λh141=>?_)
 refine aK ?_
 refine jP rfl (λ_=>Kh rfl rfl rfl rfl) ?_
 refine kx (λh142=>?_) (λh142=>?_)
 refine oV ?_
 refine dm ?_
 refine ab ?_
 refine wz [kN a2,.int .u8 a3,.la 6 0,(jQ b28),v40,v130,(jQ bw82),(jQ bw95),iv 0,bY ro108.l.length,bY k129] H132 [(6,(jV.ag a1))] ?_ (kh hS133 [(17,13),(18,0)])
 refine bz ?_
 have hz146:(l131++[0]).length=l131.length+1:=List.length_append
 refine kn rfl (kZ (i:=0) (l:=l131) (enc:=j6) [0] hS133 rfl rfl rfl rfl rfl rfl rfl rfl rfl (λ_=>rfl) (.inl rfl) eE (λ_=>rfl)) ?_
 rintro v143 H144 hS145
 refine ab ?_
 refine wz [kN a2,.int .u8 a3,.la 6 0,(jQ b28),v40,v143,(jQ bw82),(jQ bw95),bY ro108.l.length,bY k129] H144 [(6,(jV.ag a1))] ?_ (kh hS145 [(17,13),(18,0)])
 refine qg ?_
 refine kD ?_
 refine ab ?_
 exact ⟨by omega,v143,((l131++[0])),H144,fu,gt,hS145,(kh hS145 [(17,13),(18,0)])⟩
 refine aH ?_
 refine wz [kN a2,.int .u8 a3,.la 6 0,(jQ b28),v40,v130,(jQ bw82),(jQ bw95),iv 13,bY ro108.l.length,bY k129] H132 [(6,(jV.ag a1))] ?_ (kh hS133 [(17,13),(18,0)])
 refine bz ?_
 have hz150:(l131++[13]).length=l131.length+1:=List.length_append
 refine kn rfl (kZ (i:=0) (l:=l131) (enc:=j6) [13] hS133 rfl rfl rfl rfl rfl rfl rfl rfl rfl (λ_=>rfl) (.inl rfl) eE (λ_=>rfl)) ?_
 rintro v147 H148 hS149
 refine ab ?_
 refine wz [kN a2,.int .u8 a3,.la 6 0,(jQ b28),v40,v147,(jQ bw82),(jQ bw95),bY ro108.l.length,bY k129] H148 [(6,(jV.ag a1))] ?_ (kh hS149 [(17,13),(18,0)])
 refine qg ?_
 refine kD ?_
 refine ab ?_
 exact ⟨by omega,v147,((l131++[13])),H148,fu,gt,hS149,(kh hS149 [(17,13),(18,0)])⟩
 refine aQ ?_
 refine aH ?_
 refine wz [kN a2,.int .u8 a3,.la 6 0,(jQ b28),v40,v130,(jQ bw82),(jQ bw95),iv 13,bY ro108.l.length,bY k129] H132 [(6,(jV.ag a1))] ?_ (kh hS133 [(17,13),(18,0)])
 refine bz ?_
 have hz154:(l131++[13]).length=l131.length+1:=List.length_append
 refine kn rfl (kZ (i:=0) (l:=l131) (enc:=j6) [13] hS133 rfl rfl rfl rfl rfl rfl rfl rfl rfl (λ_=>rfl) (.inl rfl) eE (λ_=>rfl)) ?_
 rintro v151 H152 hS153
 refine ab ?_
 refine wz [kN a2,.int .u8 a3,.la 6 0,(jQ b28),v40,v151,(jQ bw82),(jQ bw95),bY ro108.l.length,bY k129] H152 [(6,(jV.ag a1))] ?_ (kh hS153 [(17,13),(18,0)])
 refine qg ?_
 refine kD ?_
 refine ab ?_
 exact ⟨by omega,v151,((l131++[13])),H152,fu,gt,hS153,(kh hS153 [(17,13),(18,0)])⟩
 refine db ?_
 refine aQ ?_
 refine aH ?_
 refine wz [kN a2,.int .u8 a3,.la 6 0,(jQ b28),v40,v130,(jQ bw82),(jQ bw95),iv 13,bY ro108.l.length,bY k129] H132 [(6,(jV.ag a1))] ?_ (kh hS133 [(17,13),(18,0)])
 refine bz ?_
 have hz158:(l131++[13]).length=l131.length+1:=List.length_append
 refine kn rfl (kZ (i:=0) (l:=l131) (enc:=j6) [13] hS133 rfl rfl rfl rfl rfl rfl rfl rfl rfl (λ_=>rfl) (.inl rfl) eE (λ_=>rfl)) ?_
 rintro v155 H156 hS157
 refine ab ?_
 refine wz [kN a2,.int .u8 a3,.la 6 0,(jQ b28),v40,v155,(jQ bw82),(jQ bw95),bY ro108.l.length,bY k129] H156 [(6,(jV.ag a1))] ?_ (kh hS157 [(17,13),(18,0)])
 refine qg ?_
 refine kD ?_
 refine ab ?_
 exact ⟨by omega,v155,((l131++[13])),H156,fu,gt,hS157,(kh hS157 [(17,13),(18,0)])⟩
 refine aj ?_
 refine wz [.int .u8 a3,.la 6 0,(jQ b28),v40,v130,(jQ bw82),(jQ bw95)] H132 [(6,(jV.ag a1))] ?_ (kh hS133 [(17,13),(18,0)])
 refine ae ?_
 have hS159:=Sep.oq hS133 1
 have hz163:(([]:List Int)++l131).length=([]:List Int).length+l131.length:=List.length_append
 refine kn rfl (kZ (i:=0) (l:=([]:List Int)) (enc:=j6) l131 hS159 rfl rfl rfl rfl rfl rfl rfl rfl (zE (i:=1) hS159 rfl) (λ_=>rfl) (.inl rfl) eE (λ_=>rfl)) ?_
 rintro v160 H161 hS162
 refine oV ?_
 have hz167:((([]:List Int)++l131)++l41).length=(([]:List Int)++l131).length+l41.length:=List.length_append
 refine kn rfl (kZ (i:=0) (l:=(([]:List Int)++l131)) (enc:=j6) l41 hS162 rfl rfl rfl rfl rfl rfl rfl rfl (zE (i:=14) hS162 rfl) (λ_=>rfl) (.inl rfl) eE (λ_=>rfl)) ?_
 rintro v164 H165 hS166
 refine ab ?_
 refine a6 ?_
 refine jP rfl (λ_=>nb (i:=1) (l:=l131) (enc:=j6) hS166 rfl rfl rfl rfl rfl rfl rfl) ?_
 refine oV ?_
 refine jP rfl (λ_=>Kh rfl rfl rfl rfl) ?_
 obtain ⟨m168,hm169,hmA,hmB,hmC⟩:∃ m:Int,(if (pt .i64 a3)<(l131.length:Int) then (pt .i64 a3) else (l131.length:Int))=m/\m<=(l131.length:Int)/\m<=(pt .i64 a3)/\(0<=(l131.length:Int)->0<=(pt .i64 a3)->0<=m/\Bh m (l131.length:Int) (pt .i64 a3)):=⟨_,rfl,by split<;>omega,by split<;>omega,PW⟩
 obtain ⟨hmD,hmC⟩:=hmC eG eG
 refine jP (v:=iv m168) rfl (λ_=>(by subst hm169; rfl)) ?_
 clear hm169
 have hk170:(((m168).toNat:Nat):Int)=m168:=Int.toNat_of_nonneg eC
 have hx171:(m168).toNat<=l131.length:=by first | omega | (simp<;>omega) | (simp_all; omega)
 have hz172:(l131.take ((m168).toNat)).length=(m168).toNat:=(by rw [List.length_take]; omega)
 refine kn rfl (tn (i:=1) (k:=(m168).toNat) hS166 rfl rfl rfl rfl rfl rfl (congrArg (AV.int .i64) hk170.symm) hx171) ?_
 rintro v173 H174 ⟨hc175,hS176⟩
 have hS177:=Sep.pick hS176 [2,3,4,5,6,1,0,7,8,9,10,11,12,13,14] 15 eB eB
 refine kI (H:=H174) (args:=[(jQ bw95),v173]) (p:=[]) (r:=[]) rfl rfl rfl rfl rfl (jU rfl (jU (Sep.arg (i:=1) hS176 rfl) kE)) rfl (Qv bw95 nt29 cc30 dd31 vl296 lg297 vr298 rd299 vcao122 cao123 vowo124 owo125 v173 (l131.take ((m168).toNat)) (lG v164 ((([]:List Int)++l131)++l41)::kO bw82 (mE nt29 cc30 dd31 vl283 vr285 vcao111 vowo113)::lG vl283 lg284::lG vr285 rd286::lG vcao111 cao112::lG vowo113 owo114::kO b28 (mE nt29 cc30 dd31 vl32 (kN rd34) iN iN)::lG vl32 lg33::m6 j6 1 v40 l41::[]) hS177 ey ey ey ey ey) ?_
 rintro _ H178 ⟨vro181,rdo182,hc180,hS179,rfl⟩
 try (have hToB:=hToA)
 try (have hToA:=hTo)
 have hTo:=hc180
 have hTl3:=congrArg List.length hc180
 rw [y4] at hTl3
 refine oN ?_
 refine ae ?_
 have hS183:=Sep.pf (i:=4) hS179 rfl
 have hS184:=Sep.pick hS183 [5,6,7,8,9,4,0,1,2,3,10,11,12] 13 eB eB
 refine kI (H:=H178) (args:=[(jQ bw82),v164]) (p:=[]) (r:=[]) rfl rfl rfl rfl rfl (jU rfl (jU (Sep.arg (i:=4) hS183 rfl) kE)) rfl (Qv bw82 nt29 cc30 dd31 vl283 lg284 vr285 rd286 vcao111 cao112 vowo113 owo114 v164 ((([]:List Int)++l131)++l41) (kO bw95 (mE nt29 cc30 dd31 vl296 vro181 iN iN)::lG vl296 lg297::lG vro181 rdo182::m6 j6 1 v173 (l131.take ((m168).toNat))::kO b28 (mE nt29 cc30 dd31 vl32 (kN rd34) iN iN)::lG vl32 lg33::m6 j6 1 v40 l41::[]) hS184 ey ey ey ey ey) ?_
 rintro _ H185 ⟨vro188,rdo189,hc187,hS186,rfl⟩
 try (have hToB:=hToA)
 try (have hToA:=hTo)
 have hTo:=hc187
 have hTl3:=congrArg List.length hc187
 rw [y4] at hTl3
 refine oN ?_
 refine ai ?_
 refine nU hS186 1 λr190 hl191 hln194 hz193=>?_
 refine nU hS186 2 λr195 hl196 hln199 hz198=>?_
 have hz200:∀ m,freeze true { H185 with cH:=[] } (m+4) (jQ bw82)=some (.ip (mE nt29 cc30 dd31 (ly r190) (ly r195) iN iN) 0 true):=λm=>mh (i:=0) hS186 rfl [] _ (by simp only [FZ,hz193,hz198]; try rfl)
 refine mM (args:=[(jQ bw82)]) (p:=[]) (r:=[]) (args':=[.ip (mE nt29 cc30 dd31 (ly r190) (ly r195) iN iN) 0 true]) (R:=DU nt29 cc30 dd31 r190 r195 (⟨[],.nil,Nat.zero_le _,λ_=>rfl⟩:jS Int) (⟨[],.nil,Nat.zero_le _,λ_=>rfl⟩:jS Int)) rfl rfl rfl rfl rfl rfl rfl fy (lx (by show kG (freeze true { H185 with cH:=[] } 8) [(jQ bw82)] = _; simp only [FZ,hz193,hz198,hz200]) (jU rfl kE)) (lx fk (jU rfl kE)) (λh=>t13 nt29 cc30 dd31 r190 r195 (⟨[],.nil,Nat.zero_le _,λ_=>rfl⟩:jS Int) (⟨[],.nil,Nat.zero_le _,λ_=>rfl⟩:jS Int) ey h) ?_
 rintro _ ⟨r202,hc201,rfl⟩
 try (have hRdC:=hRdB)
 try (have hRdB:=hRdA)
 try (have hRdA:=hRd)
 have hRd:=hc201.trans hl196
 have hRdl:=congrArg List.length hRd
 try simp only [Row.mg] at hRdl
 refine oV ?_
 refine nU hS186 5 λr203 hl204 hln207 hz206=>?_
 refine nU hS186 6 λr208 hl209 hln212 hz211=>?_
 have hz213:∀ m,freeze true { H185 with cH:=[] } (m+4) (jQ bw95)=some (.ip (mE nt29 cc30 dd31 (ly r203) (ly r208) iN iN) 0 true):=λm=>mh (i:=4) hS186 rfl [] _ (by simp only [FZ,hz206,hz211]; try rfl)
 refine mM (args:=[(jQ bw95)]) (p:=[]) (r:=[]) (args':=[.ip (mE nt29 cc30 dd31 (ly r203) (ly r208) iN iN) 0 true]) (R:=DU nt29 cc30 dd31 r203 r208 (⟨[],.nil,Nat.zero_le _,λ_=>rfl⟩:jS Int) (⟨[],.nil,Nat.zero_le _,λ_=>rfl⟩:jS Int)) rfl rfl rfl rfl rfl rfl rfl fy (lx (by show kG (freeze true { H185 with cH:=[] } 8) [(jQ bw95)] = _; simp only [FZ,hz206,hz211,hz213]) (jU rfl kE)) (lx fk (jU rfl kE)) (λh=>t13 nt29 cc30 dd31 r203 r208 (⟨[],.nil,Nat.zero_le _,λ_=>rfl⟩:jS Int) (⟨[],.nil,Nat.zero_le _,λ_=>rfl⟩:jS Int) ey h) ?_
 rintro _ ⟨r215,hc214,rfl⟩
 try (have hRdC:=hRdB)
 try (have hRdB:=hRdA)
 try (have hRdA:=hRd)
 have hRd:=hc214.trans hl209
 have hRdl:=congrArg List.length hRd
 try simp only [Row.mg] at hRdl
 refine oV ?_
 refine aZ ?_
 refine kn rfl (qn (m:=50) hS186 rfl rfl rfl rfl rfl eC eB) ?_
 rintro v216 H217 hS218
 have hS220:=Sep.wu (enc:=j6) (z:=(0)) hS218 rfl
 have hS221:=Sep.mf hS220 1
 have hS222:=Sep.mf hS221 1
 have hS223:=Sep.pf (i:=2) hS222 rfl
 have hS224:=Sep.pick hS223 [3,4,5,1,0,2,6,7,8,9,10,11,12,13] 14 eB eB
 refine kI (H:=H217) (args:=[(jQ bw82),v216]) (p:=[]) (r:=[]) rfl rfl rfl rfl rfl (jU rfl (jU (Sep.arg (i:=2) hS223 rfl) kE)) rfl (Qv bw82 nt29 cc30 dd31 vl283 lg284 vro188 rdo189 iN ([]:List Int) iN ([]:List Int) v216 (List.replicate 50 0) (m6 j6 1 v164 ((([]:List Int)++l131)++l41)::kO bw95 (mE nt29 cc30 dd31 vl296 vro181 iN iN)::lG vl296 lg297::lG vro181 rdo182::m6 j6 1 v173 (l131.take ((m168).toNat))::kO b28 (mE nt29 cc30 dd31 vl32 (kN rd34) iN iN)::lG vl32 lg33::m6 j6 1 v40 l41::[]) hS224 ey ey ey ey ey) ?_
 rintro _ H225 ⟨vro228,rdo229,hc227,hS226,rfl⟩
 try (have hToB:=hToA)
 try (have hToA:=hTo)
 have hTo:=hc227
 have hTl3:=congrArg List.length hc227
 rw [y4] at hTl3
 refine oN ?_
 refine bS ?_
 refine rC (t11 r202 r215) ?_
 rintro _ ⟨r231,hc230,rfl⟩
 have hSm:=hc230
 cases r231
 refine rV ?_
 refine dW ?_
 refine dc ?_
 refine rS ?_
 refine aV ?_
 exact jz
 refine aI ?_
 refine nU hS226 1 λr232 hl233 hln236 hz235=>?_
 refine nU hS226 2 λr237 hl238 hln241 hz240=>?_
 have hz242:∀ m,freeze true { H225 with cH:=[] } (m+4) (jQ bw82)=some (.ip (mE nt29 cc30 dd31 (ly r232) (ly r237) iN iN) 0 true):=λm=>mh (i:=0) hS226 rfl [] _ (by simp only [FZ,hz235,hz240]; try rfl)
 refine rk (args:=[(jQ bw82)]) (p:=[]) (r:=[]) (args':=[.ip (mE nt29 cc30 dd31 (ly r232) (ly r237) iN iN) 0 true]) (R:=DU nt29 cc30 dd31 r232 r237 (⟨[],.nil,Nat.zero_le _,λ_=>rfl⟩:jS Int) (⟨[],.nil,Nat.zero_le _,λ_=>rfl⟩:jS Int)) rfl rfl rfl rfl rfl rfl rfl rfl fy (lx (by show kG (freeze true { H225 with cH:=[] } 8) [(jQ bw82)] = _; simp only [FZ,hz235,hz240,hz242]) (jU rfl kE)) (lx fk (jU rfl kE)) (λh=>t13 nt29 cc30 dd31 r232 r237 (⟨[],.nil,Nat.zero_le _,λ_=>rfl⟩:jS Int) (⟨[],.nil,Nat.zero_le _,λ_=>rfl⟩:jS Int) ey h) ?_
 rintro _ ⟨r244,hc243,rfl⟩
 try (have hRdC:=hRdB)
 try (have hRdB:=hRdA)
 try (have hRdA:=hRd)
 have hRd:=hc243.trans hl238
 have hRdl:=congrArg List.length hRd
 try simp only [Row.mg] at hRdl
 refine rV ?_
 refine rC (t11 r244 r202) ?_
 rintro _ ⟨r246,hc245,rfl⟩
 have hSm:=hc245
 cases r246
 refine dc ?_
 refine rS ?_
 refine aV ?_
 exact jz
 refine bj ?_
 refine nU hS226 10 λr247 hl248 hln251 hz250=>?_
 have hz252:∀ m,freeze true { H225 with cH:=[] } (m+4) (jQ b28)=some (.ip (mE nt29 cc30 dd31 (ly r247) (kN rd34) iN iN) 0 true):=λm=>mh (i:=9) hS226 rfl [] _ (by simp only [FZ,hz250]; try rfl)
 refine rk (args:=[(jQ b28)]) (p:=[]) (r:=[]) (args':=[.ip (mE nt29 cc30 dd31 (ly r247) (kN rd34) iN iN) 0 true]) (R:=DU nt29 cc30 dd31 r247 (Row.mg rd34) (⟨[],.nil,Nat.zero_le _,λ_=>rfl⟩:jS Int) (⟨[],.nil,Nat.zero_le _,λ_=>rfl⟩:jS Int)) rfl rfl rfl rfl rfl rfl rfl rfl fy (lx (by show kG (freeze true { H225 with cH:=[] } 8) [(jQ b28)] = _; simp only [FZ,hz250,hz252]) (jU rfl kE)) (lx fk (jU rfl kE)) (λh=>t13 nt29 cc30 dd31 r247 (Row.mg rd34) (⟨[],.nil,Nat.zero_le _,λ_=>rfl⟩:jS Int) (⟨[],.nil,Nat.zero_le _,λ_=>rfl⟩:jS Int) ey h) ?_
 rintro _ ⟨r254,hc253,rfl⟩
 try (have hRdC:=hRdB)
 try (have hRdB:=hRdA)
 try (have hRdA:=hRd)
 have hRd:=hc253
 have hRdl:=congrArg List.length hRd
 try simp only [Row.mg] at hRdl
 have hL255:=r254.lk
 refine vx r254 ?_
 refine aI ?_
 have hL256:=a1.runs.lk
 refine vx a1.runs ?_
 refine xA (λh257=>?_) (λh257=>?_)
 refine aV ?_
 exact jA
 refine aV ?_
 exact jz
 have hq3:∃ nx:iS,ot nx r4.dO/\rs 31 [.agg (iF.ag r4.dO)]=.kq [.ip (iS.ag nx) 0 false,iv 0]:=⟨nx,by rw [hPc]; exact hnk,by rw [hPc]; exact hnx⟩
 refine oC (aak r4 r5 a1 hp1 hp2 hq3 h64 hD8) ?_
 rintro _ (⟨r259,r260,r261,r262,r263,r264,r265,r266,r267,r268,hc258,rfl⟩ | ⟨hc258,rfl⟩)
 refine aG ?_
 refine kI (H:=aT.empty) (args:=[.agg (j5.ag r4),.agg (jV.ag a1)]) (p:=[]) (r:=[]) rfl rfl rfl rfl rfl rfl rfl (u7 r4 a1 ([]) kV fg fg fg fg fg) ?_
 rintro _ H270 (⟨e272,hc271,hS273,rfl⟩ | ⟨b274,nt275,cc276,dd277,vl278,lg279,rd280,hc271,hS281,rfl⟩)
 have hNe:=hc271
 refine bV ?_
 refine lR (λh282=>?_) (λh282=>?_)
 refine aW ?_
 exact jA
 refine dS ?_
 refine aF ?_
 refine bJ ?_
 exact jz
 obtain ⟨hN1,hN2,hN3,hN4,hN5,hN6,hN7,hN8,hN9,hNa,hNck⟩:=hc271
 exact absurd hNck hck
 refine aG ?_
 refine kI (H:=aT.empty) (args:=[.agg (j5.ag r4),.agg (jV.ag a1)]) (p:=[]) (r:=[]) rfl rfl rfl rfl rfl rfl rfl (u7 r4 a1 ([]) kV fg fg fg fg fg) ?_
 rintro _ H284 (⟨e286,hc285,hS287,rfl⟩ | ⟨b288,nt289,cc290,dd291,vl292,lg293,rd294,hc285,hS295,rfl⟩)
 have hNe:=hc285
 refine bV ?_
 refine lR (λh296=>?_) (λh296=>?_)
 refine aW ?_
 exact jA
 refine dS ?_
 refine bi ?_
 refine au ?_
 exact jz
 obtain ⟨hN1,hN2,hN3,hN4,hN5,hN6,hN7,hN8,hN9,hNa,hNck⟩:=hc285
 exact absurd hNck hck
 refine am ?_
 refine cQ ?_
 refine aE ?_
 refine au ?_
 exact jA
end Go.Sx
