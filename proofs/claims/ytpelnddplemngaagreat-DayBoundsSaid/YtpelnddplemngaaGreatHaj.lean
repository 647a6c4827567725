/- Proves tables of the program and that they match it. -/
import Derived.Test.YtpelnddplemngaaGreatHaf
import Derived.Test.YtpelnddplemngaaGreatHag
import Derived.Test.YtpelnddplemngaaGreatHai
set_option linter.all false
namespace Go.Sx
open Go Go.Proofs
def ni:lK->lK
 | .sq a b=>.sq (ni a) (ni b)
 | .two a b=>.two (ni a) (ni b)
 | .seq l a b=>.seq l (ni a) (ni b)
 | .loop l a=>.loop l (ni a)
 | .oU sch=>.oU (sch.map λp=>(p.1,[]))
 | .nil=>.nil
noncomputable def Wy:iN:={ DR with lX:=ni DR.lX,jw:=DR.jw.filter λx=>!Nat.beq x 169 }
noncomputable def UN:iN:={ Fx with lX:=ni Fx.lX,jw:=Fx.jw.filter λx=>!Nat.beq x 171 }
noncomputable def S8:iN:={ A6 with lX:=ni A6.lX,jw:=A6.jw.filter λx=>!Nat.beq x 251 }
noncomputable def VS:iN:={ Eh with lX:=ni Eh.lX,jw:=Eh.jw.filter λx=>!(Nat.beq x 163||Nat.beq x 165) }
noncomputable def QI:iN:={ B7 with lX:=ni B7.lX,jw:=B7.jw.filter λx=>!(Nat.beq x 247||Nat.beq x 248) }
noncomputable def Qu:iN:={ BZ with lX:=ni BZ.lX,jw:=BZ.jw.filter λx=>!(Nat.beq x 243||Nat.beq x 244) }
noncomputable def Tu:iN:={ AS with lX:=ni AS.lX,jw:=AS.jw.filter λx=>!Nat.beq x 302 }
noncomputable def Ti:iN:={ Cd with lX:=ni Cd.lX,jw:=Cd.jw.filter λx=>!Nat.beq x 303 }
noncomputable def OG:iN:={ A7 with lX:=ni A7.lX,jw:=A7.jw.filter λx=>!(Nat.beq x 344||Nat.beq x 345) }
noncomputable def Pv:iN:={ BF with lX:=ni BF.lX,jw:=BF.jw.filter λx=>!Nat.beq x 244 }
noncomputable def Ww:iN:={ FV with lX:=ni FV.lX,jw:=FV.jw.filter λx=>!Nat.beq x 76 }
noncomputable def VY:iN:={ EJ with lX:=ni EJ.lX,jw:=EJ.jw.filter λx=>!(Nat.beq x 93||Nat.beq x 143||Nat.beq x 144) }
noncomputable def Vm:iN:={ FC with lX:=ni FC.lX,jw:=FC.jw.filter λx=>!(Nat.beq x 153||Nat.beq x 155) }
noncomputable def Vl:List (Nat×iN):=[(85,Wy),(86,UN),(172,S8),(83,VS),(169,QI),(163,Qu),(247,Tu),(248,Ti),(302,OG),(303,Pv),(37,Ww),(74,VY),(75,Vm)]
def DL {β:Type} (f:Nat):List (Nat×β)->Option β
 | []=>none
 | p::l=>match Nat.beq p.1 f with
   | true=>some p.2
   | false=>DL f l
noncomputable def FT:Nat->Option iN:=λf=>match DL f Vl with
 | some x=>some x
 | none=>s5.get f
noncomputable def mC:kU:=λf=>match Nat.beq f 344||Nat.beq f 345 with
 | true=>some rB
 | false=>match Nat.beq f 4 with
   | true=>some (tW [] (.bool true))
   | false=>none
noncomputable def js:kU:=λf=>match Nat.beq f 63 with
 | true=>some (sE cfg FT mC 63)
 | false=>mC f
def HA:∀ (args:List AV) (h:aT) (v:AV) (h':aT),rB false args h=some (v,h')->h'=h/\∀ h2:aT,(∀ b o,h.get b=some o->h2.get b=some o)->rB false args h2=some (v,h2):=by
 intro args h v h' hc
 unfold rB at hc
 split at hc
 ·cases hc; exact ⟨rfl,λ_ _=>rfl⟩
 ·cases hc; exact ⟨rfl,λ_ _=>rfl⟩
 ·cases hc
 ·cases hc
def OV:yt mC:=by
 intro f p hp
 unfold mC at hp
 split at hp
 ·cases hp; exact HA
 ·split at hp
  ·cases hp; exact Ls _ _
  ·cases hp
def rD:yt js:=by
 intro f p hp
 unfold js at hp
 split at hp
 ·cases hp; exact DO OV _
 ·exact OV f p hp
noncomputable abbrev rs (f:Nat) (args:List AV):AV:=res cfg FT js f args
abbrev Ct (f:Nat) (args:List AV) (R:AV->Prop):Prop:=∀ h:aT,∃ v,ji cfg FT js false f args h v h/\R v
def jf (fa:iN) {f:Nat} {args:List AV} {R:AV->Prop} (w:Wp cfg FT js fa fa.body fa.lX (Leaves cfg fa.res λv0 h'=>∃ v1,freeze false h' 8 v0=some v1/\R v1) (params 0 args) aT.empty) (hF:FT f=some fa:=by kernel_rfl) (hP:js f=none:=by kernel_rfl) (hi:fa.iter=false:=by rfl) (ha:∀ h,lB h args=some args:=by exact λ_=>rfl):Ct f args R :=
 λh=>Li hP hF hi (ha h) w
def kh (fa:iN) {f:Nat} {args:List AV} {R:AV->aT->Prop} {h:aT} (w:Wp cfg FT js fa fa.body fa.lX (Leaves cfg fa.res R) (params 0 args) h) (hF:FT f=some fa:=by kernel_rfl) (hP:js f=none:=by kernel_rfl) (hi:fa.iter=false:=by rfl):∃ v h',ji cfg FT js true f args h v h'/\R v h':=ya hP hF hi w
abbrev GQ (f:Nat) (args:List AV) (R:AV->Prop):Prop:=∀ h:aT,∃ v,ji cfg FT mC false f args h v h/\R v
def wC (fa:iN) {f:Nat} {args:List AV} {R:AV->Prop} (w:Wp cfg FT mC fa fa.body fa.lX (Leaves cfg fa.res λv0 h'=>∃ v1,freeze false h' 8 v0=some v1/\R v1) (params 0 args) aT.empty) (hF:FT f=some fa:=by kernel_rfl) (hP:mC f=none:=by kernel_rfl) (hi:fa.iter=false:=by rfl) (ha:∀ h,lB h args=some args:=by exact λ_=>rfl):GQ f args R :=
 λh=>Li hP hF hi (ha h) w
def Lf (fa:iN) {f:Nat} {args:List AV} {R:AV->aT->Prop} {h:aT} (w:Wp cfg FT mC fa fa.body fa.lX (Leaves cfg fa.res R) (params 0 args) h) (hF:FT f=some fa:=by kernel_rfl) (hP:mC f=none:=by kernel_rfl) (hi:fa.iter=false:=by rfl):∃ v h',ji cfg FT mC true f args h v h'/\R v h':=ya hP hF hi w
end Go.Sx
