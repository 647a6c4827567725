/- Proves tables of the program and that they match it. -/
import Derived.Test.YtihofefpkjfmnaaGreatTaf
import Derived.Test.YtihofefpkjfmnaaGreatTai
set_option linter.all false
namespace Go.Sx
open Go Go.Proofs
def o0:ou->ou
 | .sq a b=>.sq (o0 a) (o0 b)
 | .two a b=>.two (o0 a) (o0 b)
 | .seq l a b=>.seq l (o0 a) (o0 b)
 | .loop l a=>.loop l (o0 a)
 | .sD sch=>.sD (sch.map λp=>(p.1,[]))
 | .nil=>.nil
noncomputable def NI:kb:={ D6 with oo:=o0 D6.oo,lh:=D6.lh.filter λx=>!Nat.beq x 103 }
noncomputable def K5:kb:={ Er with oo:=o0 Er.oo,lh:=Er.lh.filter λx=>!Nat.beq x 105 }
noncomputable def Ih:kb:={ Bf with oo:=o0 Bf.oo,lh:=Bf.lh.filter λx=>!Nat.beq x 179 }
noncomputable def GG:kb:={ DO with oo:=o0 DO.oo,lh:=DO.lh.filter λx=>!(Nat.beq x 59||Nat.beq x 62) }
noncomputable def FU:kb:={ BD with oo:=o0 BD.oo,lh:=BD.lh.filter λx=>!(Nat.beq x 175||Nat.beq x 176) }
noncomputable def LS:kb:={ C0 with oo:=o0 C0.oo,lh:=C0.lh.filter λx=>!(Nat.beq x 121||Nat.beq x 123) }
noncomputable def IC:kb:={ AB with oo:=o0 AB.oo,lh:=AB.lh.filter λx=>!Nat.beq x 221 }
noncomputable def HP:kb:={ AW with oo:=o0 AW.oo,lh:=AW.lh.filter λx=>!Nat.beq x 222 }
noncomputable def GP:kb:={ BB with oo:=o0 BB.oo,lh:=BB.lh.filter λx=>!(Nat.beq x 246||Nat.beq x 247) }
noncomputable def N7:kb:={ A5 with oo:=o0 A5.oo,lh:=A5.lh.filter λx=>!Nat.beq x 123 }
noncomputable def PV:kb:={ Kz with oo:=o0 Kz.oo,lh:=Kz.lh.filter λx=>!Nat.beq x 34 }
noncomputable def GM:kb:={ Ee with oo:=o0 Ee.oo,lh:=Ee.lh.filter λx=>!Nat.beq x 25 }
noncomputable def K9:kb:={ I6 with lh:=I6.lh.filter λx=>!Nat.beq x 48 }
noncomputable def LW:kb:={ DZ with oo:=o0 DZ.oo,lh:=DZ.lh.filter λx=>!(Nat.beq x 43||Nat.beq x 78||Nat.beq x 79) }
noncomputable def Na:kb:={ CY with oo:=o0 CY.oo,lh:=CY.lh.filter λx=>!(Nat.beq x 80||Nat.beq x 82) }
noncomputable def QY:kb:={ JO with oo:=o0 JO.oo,lh:=JO.lh.filter λx=>!Nat.beq x 18 }
noncomputable def Mr:kb:={ Ig with oo:=(.sq .nil (.sq .nil (.sq (.sD [(0,[]),(1,[]),(2,[]),(3,[]),(5,[]),(6,[]),(7,[]),(8,[]),(10,[]),(11,[]),(12,[]),(13,[]),(15,[]),(16,[]),(17,[]),(18,[]),(4,[8,13,18]),(9,[13,18]),(14,[18]),(19,[]),(20,[]),(21,[]),(22,[]),(23,[]),(24,[]),(25,[]),(26,[]),(27,[])]) (.sq .nil .nil)))),lh:=43::Ig.lh }
noncomputable def Qr:List (Nat×kb):=[(48,NI),(49,K5),(106,Ih),(25,GG),(103,FU),(59,LS),(175,IC),(176,HP),(221,GP),(222,N7),(7,PV),(18,GM),(21,K9),(32,LW),(33,Na),(4,QY),(20,Mr)]
def CQ {β:Type} (f:Nat):List (Nat×β)->Option β
 | []=>none
 | p::l=>match Nat.beq p.1 f with
   | true=>some p.2
   | false=>CQ f l
noncomputable def FT:Nat->Option kb:=λf=>match CQ f Qr with
 | some x=>some x
 | none=>xk.get f
noncomputable def oU:mO:=λf=>match Nat.beq f 246||Nat.beq f 247 with
 | true=>some rp
 | false=>match Nat.beq f 5 with
   | true=>some (ur [] (.bool true))
   | false=>match Nat.beq f 172 with
     | true=>some pC
     | false=>none
noncomputable def ko:mO:=λf=>match Nat.beq f 76 with
 | true=>some (tE cfg FT oU 76)
 | false=>oU f
def HZ:∀ (args:List AV) (h:aT) (v:AV) (h':aT),rp false args h=some (v,h')->h'=h/\∀ h2:aT,(∀ b o,h.get b=some o->h2.get b=some o)->rp false args h2=some (v,h2):=by
 intro args h v h' hc
 unfold rp at hc
 split at hc
 ·cases hc; exact ⟨rfl,λ_ _=>rfl⟩
 ·cases hc; exact ⟨rfl,λ_ _=>rfl⟩
 ·cases hc
 ·cases hc
def N6:yn oU:=by
 intro f p hp
 unfold oU at hp
 split at hp
 ·cases hp; exact HZ
 ·split at hp
  ·cases hp; exact JZ _ _
  ·split at hp
   ·cases hp; exact By
   ·cases hp
def pF:yn ko:=by
 intro f p hp
 unfold ko at hp
 split at hp
 ·cases hp; exact Dg N6 _
 ·exact N6 f p hp
noncomputable abbrev rs (f:Nat) (args:List AV):AV:=res cfg FT ko f args
abbrev Ct (f:Nat) (args:List AV) (R:AV->Prop):Prop:=∀ h:aT,∃ v,ka cfg FT ko false f args h v h/\R v
def j9 (fa:kb) {f:Nat} {args:List AV} {R:AV->Prop} (w:Wp cfg FT ko fa fa.body fa.oo (Leaves cfg fa.res λv0 h'=>∃ v1,freeze false h' 8 v0=some v1/\R v1) (params 0 args) aT.empty) (hF:FT f=some fa:=by kernel_rfl) (hP:ko f=none:=by kernel_rfl) (hi:fa.iter=false:=by rfl) (ha:∀ h,oJ h args=some args:=by exact λ_=>rfl):Ct f args R :=
 λh=>DA hP hF hi (ha h) w
def kW (fa:kb) {f:Nat} {args:List AV} {R:AV->aT->Prop} {h:aT} (w:Wp cfg FT ko fa fa.body fa.oo (Leaves cfg fa.res R) (params 0 args) h) (hF:FT f=some fa:=by kernel_rfl) (hP:ko f=none:=by kernel_rfl) (hi:fa.iter=false:=by rfl):∃ v h',ka cfg FT ko true f args h v h'/\R v h':=yQ hP hF hi w
abbrev Fh (f:Nat) (args:List AV) (R:AV->Prop):Prop:=∀ h:aT,∃ v,ka cfg FT oU false f args h v h/\R v
def xc (fa:kb) {f:Nat} {args:List AV} {R:AV->Prop} (w:Wp cfg FT oU fa fa.body fa.oo (Leaves cfg fa.res λv0 h'=>∃ v1,freeze false h' 8 v0=some v1/\R v1) (params 0 args) aT.empty) (hF:FT f=some fa:=by kernel_rfl) (hP:oU f=none:=by kernel_rfl) (hi:fa.iter=false:=by rfl) (ha:∀ h,oJ h args=some args:=by exact λ_=>rfl):Fh f args R :=
 λh=>DA hP hF hi (ha h) w
def KK (fa:kb) {f:Nat} {args:List AV} {R:AV->aT->Prop} {h:aT} (w:Wp cfg FT oU fa fa.body fa.oo (Leaves cfg fa.res R) (params 0 args) h) (hF:FT f=some fa:=by kernel_rfl) (hP:oU f=none:=by kernel_rfl) (hi:fa.iter=false:=by rfl):∃ v h',ka cfg FT oU true f args h v h'/\R v h':=yQ hP hF hi w
end Go.Sx
