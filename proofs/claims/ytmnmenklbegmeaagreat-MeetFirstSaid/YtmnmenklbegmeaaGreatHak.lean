/- Proves tables of the program. -/
import Derived.Test.YtmnmenklbegmeaaGreatHag
import Derived.Test.YtmnmenklbegmeaaGreatHaj
set_option linter.all false
namespace Go.Sx
open Go Go.Proofs
def tu:mS->mS
 |.sq a b=>.sq (tu a) (tu b)
 |.two a b=>.two (tu a) (tu b)
 |.seq l a b=>.seq l (tu a) (tu b)
 |.loop l a=>.loop l (tu a)
 |.zO sch=>.zO (sch.map λp=>(p.1,[]))
 |.nil=>.nil
noncomputable def adN:lg:={ Sf with qC:=tu Sf.qC,mP:=Sf.mP.filter λx=>!Nat.beq x 108 }
noncomputable def afh:lg:={ RR with qC:=tu RR.qC,mP:=RR.mP.filter λx=>!Nat.beq x 110 }
noncomputable def YK:lg:={ LW with qC:=tu LW.qC,mP:=LW.mP.filter λx=>!Nat.beq x 284 }
noncomputable def XM:lg:={ Ly with qC:=tu Ly.qC,mP:=Ly.mP.filter λx=>!(Nat.beq x 204||Nat.beq x 206) }
noncomputable def Yx:lg:={ LP with qC:=tu LP.qC,mP:=LP.mP.filter λx=>!(Nat.beq x 210||Nat.beq x 214) }
noncomputable def Yo:lg:={ LI with qC:=tu LI.qC,mP:=LI.mP.filter λx=>!(Nat.beq x 279||Nat.beq x 280) }
noncomputable def aak:lg:={ LV with qC:=tu LV.qC,mP:=LV.mP.filter λx=>!Nat.beq x 285 }
noncomputable def aaM:lg:={ Ln with qC:=tu Ln.qC,mP:=Ln.mP.filter λx=>!Nat.beq x 287 }
noncomputable def Yn:lg:={ LK with qC:=tu LK.qC,mP:=LK.mP.filter λx=>!(Nat.beq x 317||Nat.beq x 318) }
noncomputable def YS:lg:={ LL with qC:=tu LL.qC,mP:=LL.mP.filter λx=>!Nat.beq x 280 }
noncomputable def Rm:lg:={ Sb with qC:=tu Sb.qC }
noncomputable def Xr:lg:={ VN with qC:=tu VN.qC }
noncomputable def Ws:lg:={ WU with qC:=(.sq .nil (.seq [1,3,5] (.sq .nil (.two (.sq .nil .nil) .nil)) (.seq [1,3,5,7] .nil (.seq [1,3,5] (.sq .nil (.sq .nil (.two (.sq (.zO [(0,[]),(1,[]),(2,[]),(3,[]),(4,[]),(5,[]),(6,[]),(7,[]),(8,[]),(9,[]),(10,[]),(11,[]),(12,[]),(13,[]),(14,[]),(15,[]),(16,[]),(17,[]),(18,[]),(19,[]),(20,[]),(21,[]),(22,[]),(23,[]),(24,[]),(25,[])]) .nil) (.sq .nil (.two (.sq .nil .nil) (.sq .nil (.two (.sq .nil (.two (.sq .nil .nil) .nil)) (.sq .nil (.two .nil (.sq .nil .nil)))))))))) (.seq [1,3,5] (.sq .nil (.two (.sq .nil .nil) .nil)) (.sq .nil (.seq [1,3,5,8] (.sq (.zO [(0,[]),(1,[]),(2,[]),(3,[]),(4,[]),(5,[]),(6,[]),(7,[]),(8,[]),(9,[]),(10,[]),(11,[]),(12,[]),(13,[]),(14,[]),(15,[]),(16,[]),(17,[]),(18,[]),(19,[]),(20,[]),(21,[]),(22,[]),(23,[]),(24,[]),(25,[]),(26,[]),(27,[]),(28,[]),(29,[]),(30,[]),(31,[]),(32,[])]) (.two (.sq .nil .nil) .nil)) (.sq .nil (.seq [1,3,5] (.sq .nil (.two (.sq .nil .nil) .nil)) (.sq .nil (.seq [] (.sq .nil (.loop [3,5,11,12] (.seq [3,5,11,12] (.sq .nil (.two .nil .nil)) (.seq [3,5,11,12] (.sq (.zO [(0,[]),(1,[]),(2,[]),(3,[]),(4,[]),(5,[]),(6,[]),(7,[]),(8,[])]) (.seq [3,5,11,12,13] (.sq .nil (.two .nil .nil)) (.seq [3,5,11,12,13] (.sq .nil (.two (.sq (.zO [(0,[]),(1,[]),(2,[]),(3,[]),(4,[]),(5,[]),(6,[]),(7,[]),(8,[]),(9,[]),(10,[]),(11,[]),(12,[]),(13,[]),(14,[]),(15,[]),(16,[]),(17,[])]) .nil) .nil)) .nil))) .nil)))) (.sq .nil .nil)))))))))))),mP:=WU.mP }
noncomputable def FTl:List (Nat×lg):=[(53,adN),(54,afh),(208,YK),(104,XM),(108,Yx),(204,Yo),(210,aak),(214,aaM),(285,Yn),(287,YS),(264,Rm),(99,Xr),(45,Ws)]
def LX{β:Type}(f:Nat):List (Nat×β)->Option β
 |[]=>none
 |p::l=>match Nat.beq p.1 f with
  |true=>some p.2
  |false=>LX f l
noncomputable def FT:Nat->Option lg:=λf=>match LX f FTl with
 |some x=>some x
 |none=>Cs.get f
noncomputable def ru:om:=λf=>match Nat.beq f 317||Nat.beq f 318 with
 |true=>some yk
 |false=>match Nat.beq f 5 with
  |true=>some (AH [] (.bool true))
  |false=>match Nat.beq f 310 with
   |true=>some yA
   |false=>match Nat.beq f 309 with
    |true=>some qO
    |false=>match Nat.beq f 212 with
     |true=>some vW
     |false=>match Nat.beq f 213 with
      |true=>some vN
      |false=>match Nat.beq f 22 with
       |true=>some (pG id some 23 s6)
       |false=>match Nat.beq f 29 with
        |true=>some (wK 30 (pG id some 30 s6) (pG zM GZ 69 zp))
        |false=>none
noncomputable def ml:om:=λf=>match Nat.beq f 82 with
 |true=>some (zG cfg FT ru 82)
 |false=>ru f
def Q8:∀(args:List AV)(h:aT) (v:AV) (h':aT),yk false args h=some (v,h')->h'=h/\∀h2:aT,(∀b o,h.get b=some o->h2.get b=some o)->yk false args h2=some (v,h2):=by
 intro args h v h' hc;unfold yk at hc;split at hc;·cases hc;exact⟨rfl,λ_ _=>rfl⟩
 ·cases hc;exact⟨rfl,λ_ _=>rfl⟩
 ·cases hc
 ·cases hc
def Zg:Fi ru:=by
 intro f p hp;unfold ru at hp;split at hp;·cases hp;exact Q8
 ·split at hp;·cases hp;exact Tt _ _
  ·split at hp;·cases hp;exact My
   ·split at hp;·cases hp;exact Jr
    ·split at hp;·cases hp;exact Oy
     ·split at hp;·cases hp;exact Ma
      ·split at hp;·cases hp;exact Cb _ _ _ _
       ·split at hp;·cases hp;exact Ku (Cb _ _ _ _) (Cb _ _ _ _)
        ·cases hp
def yO:Fi ml:=by
 intro f p hp;unfold ml at hp;split at hp;·cases hp;exact MW Zg _
 ·exact Zg f p hp
noncomputable abbrev rs(f:Nat)(args:List AV):AV:=res cfg FT ml f args
abbrev Ct(f:Nat)(args:List AV)(R:AV->Prop):Prop:=∀h:aT,∃v,lZ cfg FT ml false f args h v h/\R v
def mc(fa:lg){f:Nat}{args:List AV}{R:AV->Prop}(w:Wp cfg FT ml fa fa.body fa.qC (Leaves cfg fa.res λv0 h'=>∃v1,freeze false h' 8 v0=some v1/\R v1) (params 0 args) aT.empty)(hF:FT f=some fa:=by kernel_rfl)(hP:ml f=none:=by kernel_rfl)(hi:fa.iter=false:=by rfl)(ha:∀h,pb h args=some args:=by exactλ_=>rfl):Ct f args R :=
 λh=>N2 hP hF hi (ha h) w
def nb(fa:lg){f:Nat}{args:List AV}{R:AV->aT->Prop}{h:aT}(w:Wp cfg FT ml fa fa.body fa.qC (Leaves cfg fa.res R) (params 0 args) h)(hF:FT f=some fa:=by kernel_rfl)(hP:ml f=none:=by kernel_rfl)(hi:fa.iter=false:=by rfl):∃v h',lZ cfg FT ml true f args h v h'/\R v h':=E7 hP hF hi w
abbrev Ql(f:Nat)(args:List AV)(R:AV->Prop):Prop:=∀h:aT,∃v,lZ cfg FT ru false f args h v h/\R v
def Dq(fa:lg){f:Nat}{args:List AV}{R:AV->Prop}(w:Wp cfg FT ru fa fa.body fa.qC (Leaves cfg fa.res λv0 h'=>∃v1,freeze false h' 8 v0=some v1/\R v1) (params 0 args) aT.empty)(hF:FT f=some fa:=by kernel_rfl)(hP:ru f=none:=by kernel_rfl)(hi:fa.iter=false:=by rfl)(ha:∀h,pb h args=some args:=by exactλ_=>rfl):Ql f args R :=
 λh=>N2 hP hF hi (ha h) w
def Sv(fa:lg){f:Nat}{args:List AV}{R:AV->aT->Prop}{h:aT}(w:Wp cfg FT ru fa fa.body fa.qC (Leaves cfg fa.res R) (params 0 args) h)(hF:FT f=some fa:=by kernel_rfl)(hP:ru f=none:=by kernel_rfl)(hi:fa.iter=false:=by rfl):∃v h',lZ cfg FT ru true f args h v h'/\R v h':=E7 hP hF hi w
def HH:om:=λ_=>none
abbrev NY(f:Nat)(args:List AV)(R:AV->Prop):Prop:=∀h:aT,∃v,lZ cfg FT HH false f args h v h/\R v
def AY(fa:lg){f:Nat}{args:List AV}{R:AV->Prop}(w:Wp cfg FT HH fa fa.body fa.qC (Leaves cfg fa.res λv0 h'=>∃v1,freeze false h' 8 v0=some v1/\R v1) (params 0 args) aT.empty)(hF:FT f=some fa:=by kernel_rfl)(hP:HH f=none:=by rfl)(hi:fa.iter=false:=by rfl)(ha:∀h,pb h args=some args:=by exactλ_=>rfl):NY f args R :=
 λh=>N2 hP hF hi (ha h) w
end Go.Sx
