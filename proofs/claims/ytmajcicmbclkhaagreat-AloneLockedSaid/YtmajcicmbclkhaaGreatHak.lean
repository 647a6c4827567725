/- Proves tables of the program. -/
import Derived.Test.YtmajcicmbclkhaaGreatHah
import Derived.Test.YtmajcicmbclkhaaGreatHaj
set_option linter.all false
namespace Go.Sx
open Go Go.Proofs
def pb:ga->ga
 | .sq a b=>.sq (pb a) (pb b)
 | .two a b=>.two (pb a) (pb b)
 | .seq l a b=>.seq l (pb a) (pb b)
 | .loop l a=>.loop l (pb a)
 | .uB sch=>.uB (sch.map λp=>(p.1,[]))
 | .nil=>.nil
noncomputable def TP:eY:={ JY with lE:=pb JY.lE,fY:=JY.fY.filter λx=>!Nat.beq x 86 }
noncomputable def Ng:eY:={ J7 with lE:=pb J7.lE,fY:=J7.fY.filter λx=>!Nat.beq x 62 }
noncomputable def Pj:eY:={ EE with lE:=pb EE.lE,fY:=EE.fY.filter λx=>!Nat.beq x 238 }
noncomputable def RK:eY:={ Kc with lE:=pb Kc.lE,fY:=Kc.fY.filter λx=>!(Nat.beq x 6||Nat.beq x 165) }
noncomputable def Tg:eY:={ JW with lE:=pb JW.lE,fY:=JW.fY.filter λx=>!(Nat.beq x 10||Nat.beq x 168) }
noncomputable def OT:eY:={ EI with lE:=pb EI.lE,fY:=EI.fY.filter λx=>!Nat.beq x 239 }
noncomputable def Ox:eY:={ ED with lE:=pb ED.lE,fY:=ED.fY.filter λx=>!Nat.beq x 22 }
noncomputable def T5:eY:={ Uk with lE:=(.sq .nil (.sq .nil (.seq [0,1,6] (.sq .nil (.two (.sq .nil .nil) .nil)) (.sq .nil (.sq .nil (.seq [0,1,6,7,8] (.sq .nil (.loop [0,1,6,7,8,9,29,30,31] (.sq .nil (.seq [0,1,6,7,8,9,29,30,31] (.two .nil .nil) (.seq [0,1,6,7,8,9,29,30,31] (.sq .nil (.sq .nil (.two .nil .nil))) .nil))))) (.seq [7,8] (.sq .nil (.two .nil .nil)) (.sq .nil (.sq .nil (.sq .nil .nil)))))))))),fY:=38::Uk.fY }
noncomputable def wJ:eY:={ Np with lE:=(.sq .nil (.sq .nil (.seq [6,7] (.sq .nil (.loop [0,1,6,7,15] (.sq .nil (.seq [0,1,6,7,15] (.two .nil .nil) (.sq .nil (.sq (.uB [(0,[]),(1,[]),(2,[]),(3,[]),(4,[]),(5,[]),(7,[]),(8,[]),(9,[]),(10,[]),(11,[]),(12,[]),(15,[]),(6,[10,12]),(13,[]),(14,[])]) (.loop [0,1,6,7,15,33,34,35] (.sq .nil (.seq [0,1,6,7,15,33,34,35] (.two .nil .nil) (.seq [0,1,6,7,15,33,34,35] (.sq .nil (.sq .nil (.two (.sq .nil (.sq .nil .nil)) .nil))) .nil)))))))))) (.sq .nil .nil)))),fY:=65::Np.fY }
noncomputable def Ml:eY:={ Nn with lE:=(.sq .nil (.seq [1,2,3,5,6,10] (.sq .nil (.two (.sq .nil .nil) .nil)) (.sq .nil (.seq [1,2,3,5,6,10,13] (.sq .nil (.two (.sq .nil .nil) .nil)) (.seq [2,3,5,6,10,13] (.sq .nil (.loop [1,2,3,5,6,10,13,40,41,42] (.sq .nil (.seq [1,2,3,5,6,10,13,40,41,42] (.two .nil .nil) (.seq [1,2,3,5,6,10,13,40,41,42] (.sq .nil (.sq .nil (.two (.sq .nil .nil) .nil))) .nil))))) (.seq [2,3,5,6,10,13] (.sq .nil (.loop [2,3,5,6,10,13,65,66,67] (.sq .nil (.seq [2,3,5,6,10,13,65,66,67] (.two .nil .nil) (.seq [2,3,5,6,10,13,65,66,67] (.sq .nil (.sq .nil (.two (.sq .nil .nil) .nil))) .nil))))) (.seq [2,3,5,6,10,13] (.sq .nil (.loop [2,3,5,6,10,13,78,79,80] (.sq .nil (.seq [2,3,5,6,10,13,78,79,80] (.two .nil .nil) (.seq [2,3,5,6,10,13,78,79,80] (.sq .nil (.sq .nil (.two (.sq .nil .nil) .nil))) .nil))))) (.seq [2,3,6,10,13] (.sq .nil (.sq .nil (.two (.sq .nil .nil) .nil))) (.sq .nil (.seq [2,3,10,13] (.sq (.uB [(0,[]),(1,[]),(3,[]),(4,[]),(7,[]),(2,[4]),(5,[]),(6,[])]) (.loop [2,3,6,10,13,101,102,103] (.sq .nil (.seq [2,3,6,10,13,101,102,103] (.two .nil .nil) (.seq [2,3,6,10,13,101,102,103] (.sq .nil (.sq .nil (.two .nil (.sq .nil (.two (.sq .nil .nil) .nil))))) .nil))))) (.sq .nil .nil))))))))))),fY:=65::Nn.fY }
noncomputable def RM:List (Nat×eY):=[(49,TP),(37,Ng),(167,Pj),(83,RK),(86,Tg),(168,OT),(239,Ox),(8,T5),(35,wJ),(29,Ml)]
def Ez {β:Type} (f:Nat):List (Nat×β)->Option β
 | []=>none
 | p::l=>match Nat.beq p.1 f with
   | true=>some p.2
   | false=>Ez f l
noncomputable def FT:Nat->Option eY:=λf=>match Ez f RM with
 | some x=>some x
 | none=>wx.get f
noncomputable def iq:gQ:=λf=>match Nat.beq f 39 with
 | true=>some nZ
 | false=>none
noncomputable def lC:gQ:=λf=>match Nat.beq f 79||Nat.beq f 80 with
 | true=>some oz
 | false=>match Nat.beq f 4 with
   | true=>some (tO [] (.bool true))
   | false=>match Nat.beq f 39 with
     | true=>some nZ
     | false=>match Nat.beq f 40 with
       | true=>some pg
       | false=>match Nat.beq f 145 with
         | true=>some (mg tD Cp 146 tl)
         | false=>match Nat.beq f 11 with
           | true=>some (mR (nN cfg Bm (gP cfg FT iq) RO))
           | false=>match Nat.beq f 137 with
             | true=>some (mR (nN cfg vn (gP cfg FT iq) RZ))
             | false=>match Nat.beq f 35 with
               | true=>some (mR (nN cfg wJ (λ_=>mZ cfg FT iq) RH))
               | false=>none
noncomputable def fK:gQ:=λf=>match Nat.beq f 61 with
 | true=>some (sE cfg FT lC 61)
 | false=>lC f
def IZ:∀ (args:List AV) (h:au) (v:AV) (h':au),oz false args h=some (v,h')->h'=h/\∀ h2:au,(∀ b o,h.get b=some o->h2.get b=some o)->oz false args h2=some (v,h2):=by
 intro args h v h' hc
 unfold oz at hc
 split at hc
 ·cases hc; exact ⟨rfl,λ_ _=>rfl⟩
 ·cases hc; exact ⟨rfl,λ_ _=>rfl⟩
 ·cases hc
 ·cases hc
def Ol:zC lC:=by
 intro f p hp
 unfold lC at hp
 split at hp
 ·cases hp; exact IZ
 ·split at hp
  ·cases hp; exact Kw _ _
  ·split at hp
   ·cases hp; exact FY
   ·split at hp
    ·cases hp; exact Gf
    ·split at hp
     ·cases hp; exact Ed _ _ _ _
     ·split at hp
      ·cases hp; exact yn
      ·split at hp
       ·cases hp; exact yn
       ·split at hp
        ·cases hp; exact yn
        ·cases hp
def AR:zC fK:=by
 intro f p hp
 unfold fK at hp
 split at hp
 ·cases hp; exact GL Ol _
 ·exact Ol f p hp
noncomputable abbrev rs (f:Nat) (args:List AV):AV:=res cfg FT fK f args
abbrev Ct (f:Nat) (args:List AV) (R:AV->Prop):Prop:=∀ h:au,∃ v,fh cfg FT fK false f args h v h/\R v
def fR (fa:eY) {f:Nat} {args:List AV} {R:AV->Prop} (w:Wp cfg FT fK fa fa.body fa.lE (Leaves cfg fa.res λv0 h'=>∃ v1,freeze false h' 8 v0=some v1/\R v1) (params 0 args) au.empty) (hF:FT f=some fa:=by kernel_rfl) (hP:fK f=none:=by kernel_rfl) (hi:fa.iter=false:=by rfl) (ha:∀ h,gT h args=some args:=by exact λ_=>rfl):Ct f args R :=
 λh=>C0 hP hF hi (ha h) w
def gO (fa:eY) {f:Nat} {args:List AV} {R:AV->au->Prop} {h:au} (w:Wp cfg FT fK fa fa.body fa.lE (Leaves cfg fa.res R) (params 0 args) h) (hF:FT f=some fa:=by kernel_rfl) (hP:fK f=none:=by kernel_rfl) (hi:fa.iter=false:=by rfl):∃ v h',fh cfg FT fK true f args h v h'/\R v h':=wm hP hF hi w
abbrev Ix (f:Nat) (args:List AV) (R:AV->Prop):Prop:=∀ h:au,∃ v,fh cfg FT lC false f args h v h/\R v
def wV (fa:eY) {f:Nat} {args:List AV} {R:AV->Prop} (w:Wp cfg FT lC fa fa.body fa.lE (Leaves cfg fa.res λv0 h'=>∃ v1,freeze false h' 8 v0=some v1/\R v1) (params 0 args) au.empty) (hF:FT f=some fa:=by kernel_rfl) (hP:lC f=none:=by kernel_rfl) (hi:fa.iter=false:=by rfl) (ha:∀ h,gT h args=some args:=by exact λ_=>rfl):Ix f args R :=
 λh=>C0 hP hF hi (ha h) w
def LL (fa:eY) {f:Nat} {args:List AV} {R:AV->au->Prop} {h:au} (w:Wp cfg FT lC fa fa.body fa.lE (Leaves cfg fa.res R) (params 0 args) h) (hF:FT f=some fa:=by kernel_rfl) (hP:lC f=none:=by kernel_rfl) (hi:fa.iter=false:=by rfl):∃ v h',fh cfg FT lC true f args h v h'/\R v h':=wm hP hF hi w
def Bt:gQ:=λ_=>none
abbrev YC (f:Nat) (args:List AV) (R:AV->Prop):Prop:=∀ h:au,∃ v,fh cfg FT Bt false f args h v h/\R v
def Qs (fa:eY) {f:Nat} {args:List AV} {R:AV->Prop} (w:Wp cfg FT Bt fa fa.body fa.lE (Leaves cfg fa.res λv0 h'=>∃ v1,freeze false h' 8 v0=some v1/\R v1) (params 0 args) au.empty) (hF:FT f=some fa:=by kernel_rfl) (hP:Bt f=none:=by rfl) (hi:fa.iter=false:=by rfl) (ha:∀ h,gT h args=some args:=by exact λ_=>rfl):YC f args R :=
 λh=>C0 hP hF hi (ha h) w
abbrev Tx (f:Nat) (args:List AV) (R:AV->Prop):Prop:=∀ h:au,∃ v,fh cfg FT iq false f args h v h/\R v
def Ig (fa:eY) {f:Nat} {args:List AV} {R:AV->Prop} (w:Wp cfg FT iq fa fa.body fa.lE (Leaves cfg fa.res λv0 h'=>∃ v1,freeze false h' 8 v0=some v1/\R v1) (params 0 args) au.empty) (hF:FT f=some fa:=by kernel_rfl) (hP:iq f=none:=by kernel_rfl) (hi:fa.iter=false:=by rfl) (ha:∀ h,gT h args=some args:=by exact λ_=>rfl):Tx f args R :=
 λh=>C0 hP hF hi (ha h) w
def Kl (fa:eY) {f:Nat} {args:List AV} {R:AV->au->Prop} {h:au} (w:Wp cfg FT iq fa fa.body fa.lE (Leaves cfg fa.res R) (params 0 args) h) (hF:FT f=some fa:=by kernel_rfl) (hP:iq f=none:=by kernel_rfl) (hi:fa.iter=false:=by rfl):∃ v h',fh cfg FT iq true f args h v h'/\R v h':=wm hP hF hi w
end Go.Sx
