/- Proves tables of the program and that they match it. -/
import Derived.Test.YtihofefpkjfmnaaGreatNaf
import Derived.Test.YtihofefpkjfmnaaGreatNai
set_option linter.all false
namespace Go.Sx
open Go Go.Proofs
def pA:od->od
 | .sq a b=>.sq (pA a) (pA b)
 | .two a b=>.two (pA a) (pA b)
 | .seq l a b=>.seq l (pA a) (pA b)
 | .loop l a=>.loop l (pA a)
 | .tG sch=>.tG (sch.map λp=>(p.1,[]))
 | .nil=>.nil
noncomputable def Un:kp:={ Ew with oL:=pA Ew.oL,lr:=Ew.lr.filter λx=>!Nat.beq x 103 }
noncomputable def SQ:kp:={ Ek with oL:=pA Ek.oL,lr:=Ek.lr.filter λx=>!Nat.beq x 105 }
noncomputable def Q1:kp:={ BB with oL:=pA BB.oL,lr:=BB.lr.filter λx=>!Nat.beq x 179 }
noncomputable def Sj:kp:={ Fj with oL:=pA Fj.oL,lr:=Fj.lr.filter λx=>!(Nat.beq x 59||Nat.beq x 62) }
noncomputable def Qy:kp:={ CD with oL:=pA CD.oL,lr:=CD.lr.filter λx=>!(Nat.beq x 175||Nat.beq x 176) }
noncomputable def Uo:kp:={ EW with oL:=pA EW.oL,lr:=EW.lr.filter λx=>!(Nat.beq x 121||Nat.beq x 123) }
noncomputable def PT:kp:={ BV with oL:=pA BV.oL,lr:=BV.lr.filter λx=>!Nat.beq x 221 }
noncomputable def QG:kp:={ BX with oL:=pA BX.oL,lr:=BX.lr.filter λx=>!Nat.beq x 222 }
noncomputable def Pz:kp:={ BQ with oL:=pA BQ.oL,lr:=BQ.lr.filter λx=>!(Nat.beq x 246||Nat.beq x 247) }
noncomputable def Qb:kp:={ BC with oL:=pA BC.oL,lr:=BC.lr.filter λx=>!Nat.beq x 123 }
noncomputable def SC:kp:={ Lp with oL:=pA Lp.oL,lr:=Lp.lr.filter λx=>!Nat.beq x 34 }
noncomputable def NP:kp:={ FW with oL:=pA FW.oL,lr:=FW.lr.filter λx=>!(Nat.beq x 43||Nat.beq x 78||Nat.beq x 79) }
noncomputable def Mx:kp:={ FJ with oL:=pA FJ.oL,lr:=FJ.lr.filter λx=>!(Nat.beq x 80||Nat.beq x 82) }
noncomputable def SO:List (Nat×kp):=[(48,Un),(49,SQ),(106,Q1),(25,Sj),(103,Qy),(59,Uo),(175,PT),(176,QG),(221,Pz),(222,Qb),(7,SC),(32,NP),(33,Mx)]
def DM {β:Type} (f:Nat):List (Nat×β)->Option β
 | []=>none
 | p::l=>match Nat.beq p.1 f with
   | true=>some p.2
   | false=>DM f l
noncomputable def FT:Nat->Option kp:=λf=>match DM f SO with
 | some x=>some x
 | none=>yH.get f
noncomputable def oB:mM:=λf=>match Nat.beq f 246||Nat.beq f 247 with
 | true=>some tz
 | false=>match Nat.beq f 5 with
   | true=>some (va [] (.bool true))
   | false=>match Nat.beq f 172 with
     | true=>some px
     | false=>none
noncomputable def kJ:mM:=λf=>match Nat.beq f 76 with
 | true=>some (ue cfg FT oB 76)
 | false=>oB f
def Jc:∀ (args:List AV) (h:bV) (v:AV) (h':bV),tz false args h=some (v,h')->h'=h/\∀ h2:bV,(∀ b o,h.get b=some o->h2.get b=some o)->tz false args h2=some (v,h2):=by
 intro args h v h' hc
 unfold tz at hc
 split at hc
 ·cases hc; exact ⟨rfl,λ_ _=>rfl⟩
 ·cases hc; exact ⟨rfl,λ_ _=>rfl⟩
 ·cases hc
 ·cases hc
def QD:zb oB:=by
 intro f p hp
 unfold oB at hp
 split at hp
 ·cases hp; exact Jc
 ·split at hp
  ·cases hp; exact LV _ _
  ·split at hp
   ·cases hp; exact Cs
   ·cases hp
def rY:zb kJ:=by
 intro f p hp
 unfold kJ at hp
 split at hp
 ·cases hp; exact F3 QD _
 ·exact QD f p hp
noncomputable abbrev rs (f:Nat) (args:List AV):AV:=res cfg FT kJ f args
abbrev Ct (f:Nat) (args:List AV) (R:AV->Prop):Prop:=∀ h:bV,∃ v,kC cfg FT kJ false f args h v h/\R v
def kA (fa:kp) {f:Nat} {args:List AV} {R:AV->Prop} (w:Wp cfg FT kJ fa fa.body fa.oL (Leaves cfg fa.res λv0 h'=>∃ v1,freeze false h' 8 v0=some v1/\R v1) (params 0 args) bV.empty) (hF:FT f=some fa:=by kernel_rfl) (hP:kJ f=none:=by kernel_rfl) (hi:fa.iter=false:=by rfl) (ha:∀ h,oi h args=some args:=by exact λ_=>rfl):Ct f args R :=
 λh=>Li hP hF hi (ha h) w
def lK (fa:kp) {f:Nat} {args:List AV} {R:AV->bV->Prop} {h:bV} (w:Wp cfg FT kJ fa fa.body fa.oL (Leaves cfg fa.res R) (params 0 args) h) (hF:FT f=some fa:=by kernel_rfl) (hP:kJ f=none:=by kernel_rfl) (hi:fa.iter=false:=by rfl):∃ v h',kC cfg FT kJ true f args h v h'/\R v h':=zC hP hF hi w
abbrev Hx (f:Nat) (args:List AV) (R:AV->Prop):Prop:=∀ h:bV,∃ v,kC cfg FT oB false f args h v h/\R v
def xk (fa:kp) {f:Nat} {args:List AV} {R:AV->Prop} (w:Wp cfg FT oB fa fa.body fa.oL (Leaves cfg fa.res λv0 h'=>∃ v1,freeze false h' 8 v0=some v1/\R v1) (params 0 args) bV.empty) (hF:FT f=some fa:=by kernel_rfl) (hP:oB f=none:=by kernel_rfl) (hi:fa.iter=false:=by rfl) (ha:∀ h,oi h args=some args:=by exact λ_=>rfl):Hx f args R :=
 λh=>Li hP hF hi (ha h) w
def K6 (fa:kp) {f:Nat} {args:List AV} {R:AV->bV->Prop} {h:bV} (w:Wp cfg FT oB fa fa.body fa.oL (Leaves cfg fa.res R) (params 0 args) h) (hF:FT f=some fa:=by kernel_rfl) (hP:oB f=none:=by kernel_rfl) (hi:fa.iter=false:=by rfl):∃ v h',kC cfg FT oB true f args h v h'/\R v h':=zC hP hF hi w
end Go.Sx
