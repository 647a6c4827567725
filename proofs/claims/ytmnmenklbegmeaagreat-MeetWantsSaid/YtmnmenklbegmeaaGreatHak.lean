/- Proves tables of the program and that they match it. -/
import Derived.Test.YtmnmenklbegmeaaGreatHag
import Derived.Test.YtmnmenklbegmeaaGreatHaj
set_option linter.all false
namespace Go.Sx
open Go Go.Proofs
def oa:lz->lz
 | .sq a b=>.sq (oa a) (oa b)
 | .two a b=>.two (oa a) (oa b)
 | .seq l a b=>.seq l (oa a) (oa b)
 | .loop l a=>.loop l (oa a)
 | .pV sch=>.pV (sch.map λp=>(p.1,[]))
 | .nil=>.nil
noncomputable def UL:iC:={ FJ with mv:=oa FJ.mv,jl:=FJ.jl.filter λx=>!Nat.beq x 108 }
noncomputable def Vt:iC:={ FU with mv:=oa FU.mv,jl:=FU.jl.filter λx=>!Nat.beq x 110 }
noncomputable def PM:iC:={ Br with mv:=oa Br.mv,jl:=Br.jl.filter λx=>!Nat.beq x 284 }
noncomputable def Qa:iC:={ AY with mv:=oa AY.mv,jl:=AY.jl.filter λx=>!(Nat.beq x 204||Nat.beq x 206) }
noncomputable def O7:iC:={ Cd with mv:=oa Cd.mv,jl:=Cd.jl.filter λx=>!(Nat.beq x 210||Nat.beq x 214) }
noncomputable def Sm:iC:={ BR with mv:=oa BR.mv,jl:=BR.jl.filter λx=>!(Nat.beq x 279||Nat.beq x 280) }
noncomputable def OQ:iC:={ Ca with mv:=oa Ca.mv,jl:=Ca.jl.filter λx=>!Nat.beq x 285 }
noncomputable def SU:iC:={ Bl with mv:=oa Bl.mv,jl:=Bl.jl.filter λx=>!Nat.beq x 287 }
noncomputable def SL:iC:={ BS with mv:=oa BS.mv,jl:=BS.jl.filter λx=>!(Nat.beq x 317||Nat.beq x 318) }
noncomputable def OG:iC:={ BW with mv:=oa BW.mv,jl:=BW.jl.filter λx=>!Nat.beq x 280 }
noncomputable def Wk:List (Nat×iC):=[(53,UL),(54,Vt),(208,PM),(104,Qa),(108,O7),(204,Sm),(210,OQ),(214,SU),(285,SL),(287,OG)]
def DW {β:Type} (f:Nat):List (Nat×β)->Option β
 | []=>none
 | p::l=>match Nat.beq p.1 f with
   | true=>some p.2
   | false=>DW f l
noncomputable def FT:Nat->Option iC:=λf=>match DW f Wk with
 | some x=>some x
 | none=>vS.get f
noncomputable def mA:ko:=λf=>match Nat.beq f 317||Nat.beq f 318 with
 | true=>some rO
 | false=>match Nat.beq f 5 with
   | true=>some (tN [] (.bool true))
   | false=>match Nat.beq f 22 with
     | true=>some (kV id some 23 ni)
     | false=>match Nat.beq f 29 with
       | true=>some (pg 30 (kV id some 30 ni) (kV sW z6 69 qN))
       | false=>none
noncomputable def jx:ko:=λf=>match Nat.beq f 82 with
 | true=>some (sJ cfg FT mA 82)
 | false=>mA f
def If:∀ (args:List AV) (h:aT) (v:AV) (h':aT),rO false args h=some (v,h')->h'=h/\∀ h2:aT,(∀ b o,h.get b=some o->h2.get b=some o)->rO false args h2=some (v,h2):=by
 intro args h v h' hc
 unfold rO at hc
 split at hc
 ·cases hc; exact ⟨rfl,λ_ _=>rfl⟩
 ·cases hc; exact ⟨rfl,λ_ _=>rfl⟩
 ·cases hc
 ·cases hc
def RM:yn mA:=by
 intro f p hp
 unfold mA at hp
 split at hp
 ·cases hp; exact If
 ·split at hp
  ·cases hp; exact Ks _ _
  ·split at hp
   ·cases hp; exact u1 _ _ _ _
   ·split at hp
    ·cases hp; exact De (u1 _ _ _ _) (u1 _ _ _ _)
    ·cases hp
def w9:yn jx:=by
 intro f p hp
 unfold jx at hp
 split at hp
 ·cases hp; exact FH RM _
 ·exact RM f p hp
noncomputable abbrev rs (f:Nat) (args:List AV):AV:=res cfg FT jx f args
abbrev Ct (f:Nat) (args:List AV) (R:AV->Prop):Prop:=∀ h:aT,∃ v,iZ cfg FT jx false f args h v h/\R v
def iY (fa:iC) {f:Nat} {args:List AV} {R:AV->Prop} (w:Wp cfg FT jx fa fa.body fa.mv (Leaves cfg fa.res λv0 h'=>∃ v1,freeze false h' 8 v0=some v1/\R v1) (params 0 args) aT.empty) (hF:FT f=some fa:=by kernel_rfl) (hP:jx f=none:=by kernel_rfl) (hi:fa.iter=false:=by rfl) (ha:∀ h,kR h args=some args:=by exact λ_=>rfl):Ct f args R :=
 λh=>F5 hP hF hi (ha h) w
def kP (fa:iC) {f:Nat} {args:List AV} {R:AV->aT->Prop} {h:aT} (w:Wp cfg FT jx fa fa.body fa.mv (Leaves cfg fa.res R) (params 0 args) h) (hF:FT f=some fa:=by kernel_rfl) (hP:jx f=none:=by kernel_rfl) (hi:fa.iter=false:=by rfl):∃ v h',iZ cfg FT jx true f args h v h'/\R v h':=yK hP hF hi w
abbrev G8 (f:Nat) (args:List AV) (R:AV->Prop):Prop:=∀ h:aT,∃ v,iZ cfg FT mA false f args h v h/\R v
def wH (fa:iC) {f:Nat} {args:List AV} {R:AV->Prop} (w:Wp cfg FT mA fa fa.body fa.mv (Leaves cfg fa.res λv0 h'=>∃ v1,freeze false h' 8 v0=some v1/\R v1) (params 0 args) aT.empty) (hF:FT f=some fa:=by kernel_rfl) (hP:mA f=none:=by kernel_rfl) (hi:fa.iter=false:=by rfl) (ha:∀ h,kR h args=some args:=by exact λ_=>rfl):G8 f args R :=
 λh=>F5 hP hF hi (ha h) w
def LX (fa:iC) {f:Nat} {args:List AV} {R:AV->aT->Prop} {h:aT} (w:Wp cfg FT mA fa fa.body fa.mv (Leaves cfg fa.res R) (params 0 args) h) (hF:FT f=some fa:=by kernel_rfl) (hP:mA f=none:=by kernel_rfl) (hi:fa.iter=false:=by rfl):∃ v h',iZ cfg FT mA true f args h v h'/\R v h':=yK hP hF hi w
def AM:ko:=λ_=>none
abbrev Ed (f:Nat) (args:List AV) (R:AV->Prop):Prop:=∀ h:aT,∃ v,iZ cfg FT AM false f args h v h/\R v
def uk (fa:iC) {f:Nat} {args:List AV} {R:AV->Prop} (w:Wp cfg FT AM fa fa.body fa.mv (Leaves cfg fa.res λv0 h'=>∃ v1,freeze false h' 8 v0=some v1/\R v1) (params 0 args) aT.empty) (hF:FT f=some fa:=by kernel_rfl) (hP:AM f=none:=by rfl) (hi:fa.iter=false:=by rfl) (ha:∀ h,kR h args=some args:=by exact λ_=>rfl):Ed f args R :=
 λh=>F5 hP hF hi (ha h) w
end Go.Sx
