/- Proves tables of the program and that they match it. -/
import Derived.Test.YtgoeonlbgdamhaaGreatHaf
import Derived.Test.YtgoeonlbgdamhaaGreatHag
import Derived.Test.YtgoeonlbgdamhaaGreatHai
set_option linter.all false
namespace Go.Sx
open Go Go.Proofs
def ng:lB->lB
 | .sq a b=>.sq (ng a) (ng b)
 | .two a b=>.two (ng a) (ng b)
 | .seq l a b=>.seq l (ng a) (ng b)
 | .loop l a=>.loop l (ng a)
 | .pC sch=>.pC (sch.map λp=>(p.1,[]))
 | .nil=>.nil
noncomputable def Ue:iA:={ ED with lV:=ng ED.lV,jm:=ED.jm.filter λx=>!Nat.beq x 120 }
noncomputable def TP:iA:={ DM with lV:=ng DM.lV,jm:=DM.jm.filter λx=>!Nat.beq x 122 }
noncomputable def QH:iA:={ Bo with lV:=ng Bo.lV,jm:=Bo.jm.filter λx=>!Nat.beq x 296 }
noncomputable def Rl:iA:={ Bp with lV:=ng Bp.lV,jm:=Bp.jm.filter λx=>!(Nat.beq x 209||Nat.beq x 211) }
noncomputable def O4:iA:={ AR with lV:=ng AR.lV,jm:=AR.jm.filter λx=>!(Nat.beq x 216||Nat.beq x 218) }
noncomputable def Qo:iA:={ AT with lV:=ng AT.lV,jm:=AT.jm.filter λx=>!(Nat.beq x 291||Nat.beq x 292) }
noncomputable def NL:iA:={ Bz with lV:=ng Bz.lV,jm:=Bz.jm.filter λx=>!Nat.beq x 297 }
noncomputable def Q7:iA:={ Au with lV:=ng Au.lV,jm:=Au.jm.filter λx=>!Nat.beq x 298 }
noncomputable def Qi:iA:={ AN with lV:=ng AN.lV,jm:=AN.jm.filter λx=>!(Nat.beq x 336||Nat.beq x 337) }
noncomputable def QS:iA:={ A9 with lV:=ng A9.lV,jm:=A9.jm.filter λx=>!Nat.beq x 292 }
noncomputable def Lt:iA:={ Hk with lV:=ng Hk.lV }
noncomputable def L9:iA:={ GN with lV:=ng GN.lV }
noncomputable def U8:iA:={ RQ with lV:=ng RQ.lV }
noncomputable def Ti:List (Nat×iA):=[(62,Ue),(63,TP),(214,QH),(116,Rl),(120,O4),(209,Qo),(216,NL),(218,Q7),(297,Qi),(298,QS),(18,Lt),(16,L9),(4,U8)]
def Df {β:Type} (f:Nat):List (Nat×β)->Option β
 | []=>none
 | p::l=>match Nat.beq p.1 f with
   | true=>some p.2
   | false=>Df f l
noncomputable def FT:Nat->Option iA:=λf=>match Df f Ti with
 | some x=>some x
 | none=>vn.get f
noncomputable def mr:kx:=λf=>match Nat.beq f 336||Nat.beq f 337 with
 | true=>some rJ
 | false=>match Nat.beq f 8 with
   | true=>some (tg [] (.bool true))
   | false=>match Nat.beq f 43 with
     | true=>some lY
     | false=>match Nat.beq f 86 with
       | true=>some pj
       | false=>match Nat.beq f 87 with
         | true=>some pB
         | false=>none
noncomputable def jA:kx:=λf=>match Nat.beq f 101 with
 | true=>some (sy cfg FT mr 101)
 | false=>mr f
def Ir:∀ (args:List AV) (h:aT) (v:AV) (h':aT),rJ false args h=some (v,h')->h'=h/\∀ h2:aT,(∀ b o,h.get b=some o->h2.get b=some o)->rJ false args h2=some (v,h2):=by
 intro args h v h' hc
 unfold rJ at hc
 split at hc
 ·cases hc; exact ⟨rfl,λ_ _=>rfl⟩
 ·cases hc; exact ⟨rfl,λ_ _=>rfl⟩
 ·cases hc
 ·cases hc
def Q2:xV mr:=by
 intro f p hp
 unfold mr at hp
 split at hp
 ·cases hp; exact Ir
 ·split at hp
  ·cases hp; exact JD _ _
  ·split at hp
   ·cases hp; exact AP
   ·split at hp
    ·cases hp; exact E8
    ·split at hp
     ·cases hp; exact ET
     ·cases hp
def yT:xV jA:=by
 intro f p hp
 unfold jA at hp
 split at hp
 ·cases hp; exact Dj Q2 _
 ·exact Q2 f p hp
noncomputable abbrev rs (f:Nat) (args:List AV):AV:=res cfg FT jA f args
abbrev Ct (f:Nat) (args:List AV) (R:AV->Prop):Prop:=∀ h:aT,∃ v,jf cfg FT jA false f args h v h/\R v
def ja (fa:iA) {f:Nat} {args:List AV} {R:AV->Prop} (w:Wp cfg FT jA fa fa.body fa.lV (Leaves cfg fa.res λv0 h'=>∃ v1,freeze false h' 8 v0=some v1/\R v1) (params 0 args) aT.empty) (hF:FT f=some fa:=by kernel_rfl) (hP:jA f=none:=by kernel_rfl) (hi:fa.iter=false:=by rfl) (ha:∀ h,lf h args=some args:=by exact λ_=>rfl):Ct f args R :=
 λh=>J5 hP hF hi (ha h) w
def lW (fa:iA) {f:Nat} {args:List AV} {R:AV->aT->Prop} {h:aT} (w:Wp cfg FT jA fa fa.body fa.lV (Leaves cfg fa.res R) (params 0 args) h) (hF:FT f=some fa:=by kernel_rfl) (hP:jA f=none:=by kernel_rfl) (hi:fa.iter=false:=by rfl):∃ v h',jf cfg FT jA true f args h v h'/\R v h':=xM hP hF hi w
abbrev GA (f:Nat) (args:List AV) (R:AV->Prop):Prop:=∀ h:aT,∃ v,jf cfg FT mr false f args h v h/\R v
def wc (fa:iA) {f:Nat} {args:List AV} {R:AV->Prop} (w:Wp cfg FT mr fa fa.body fa.lV (Leaves cfg fa.res λv0 h'=>∃ v1,freeze false h' 8 v0=some v1/\R v1) (params 0 args) aT.empty) (hF:FT f=some fa:=by kernel_rfl) (hP:mr f=none:=by kernel_rfl) (hi:fa.iter=false:=by rfl) (ha:∀ h,lf h args=some args:=by exact λ_=>rfl):GA f args R :=
 λh=>J5 hP hF hi (ha h) w
def J4 (fa:iA) {f:Nat} {args:List AV} {R:AV->aT->Prop} {h:aT} (w:Wp cfg FT mr fa fa.body fa.lV (Leaves cfg fa.res R) (params 0 args) h) (hF:FT f=some fa:=by kernel_rfl) (hP:mr f=none:=by kernel_rfl) (hi:fa.iter=false:=by rfl):∃ v h',jf cfg FT mr true f args h v h'/\R v h':=xM hP hF hi w
end Go.Sx
