/- Proves tables of the program and that they match it. -/
import Derived.Test.YtojhnkioagammaaGreatTaf
import Derived.Test.YtojhnkioagammaaGreatTah
set_option linter.all false
namespace Go.Sx
open Go Go.Proofs
def kL:jr→jr
 | .sq a b=>.sq (kL a) (kL b)
 | .two a b=>.two (kL a) (kL b)
 | .seq l a b=>.seq l (kL a) (kL b)
 | .loop l a=>.loop l (kL a)
 | .nA sch=>.nA (sch.map fun p=>(p.1,[]))
 | .nil=>.nil
noncomputable def Qr:fA:={ nF with j7:=kL nF.j7,gx:=nF.gx.filter fun x=>!Nat.beq x 17 }
noncomputable def Il:fA:={ zY with j7:=kL zY.j7,gx:=zY.gx.filter fun x=>!Nat.beq x 34 }
noncomputable def Ho:fA:={ zS with j7:=kL zS.j7,gx:=zS.gx.filter fun x=>!Nat.beq x 17 }
noncomputable def Hp:fA:={ AX with j7:=kL AX.j7,gx:=AX.gx.filter fun x=>!Nat.beq x 38 }
noncomputable def Hs:fA:={ zB with j7:=kL zB.j7,gx:=zB.gx.filter fun x=>!Nat.beq x 40 }
noncomputable def Gk:fA:={ A0 with j7:=kL A0.j7,gx:=A0.gx.filter fun x=>!Nat.beq x 168 }
noncomputable def GB:fA:={ AT with j7:=kL AT.j7,gx:=AT.gx.filter fun x=>!(Nat.beq x 87||Nat.beq x 89) }
noncomputable def Iz:fA:={ AU with j7:=kL AU.j7,gx:=AU.gx.filter fun x=>!(Nat.beq x 93||Nat.beq x 98) }
noncomputable def Gp:fA:={ z9 with j7:=kL z9.j7,gx:=z9.gx.filter fun x=>!(Nat.beq x 163||Nat.beq x 164) }
noncomputable def Hk:fA:={ z8 with j7:=kL z8.j7,gx:=z8.gx.filter fun x=>!Nat.beq x 169 }
noncomputable def Ig:fA:={ AJ with j7:=kL AJ.j7,gx:=AJ.gx.filter fun x=>!Nat.beq x 172 }
noncomputable def Ey:fA:={ xw with j7:=kL xw.j7,gx:=xw.gx.filter fun x=>!(Nat.beq x 200||Nat.beq x 201) }
noncomputable def Jh:fA:={ wX with j7:=kL wX.j7,gx:=wX.gx.filter fun x=>!Nat.beq x 164 }
noncomputable def OJ:List (Nat×fA):=[(7,Qr),(14,Il),(15,Ho),(17,Hp),(18,Hs),(91,Gk),(34,GB),(38,Iz),(87,Gp),(93,Hk),(98,Ig),(169,Ey),(172,Jh)]
def yT {β:Type} (f:Nat):List (Nat×β)→Option β
 | []=>none
 | p::l=>match Nat.beq p.1 f with
   | true=>some p.2
   | false=>yT f l
noncomputable def FT:Nat→Option fA:=fun f=>match yT f OJ with
 | some x=>some x
 | none=>sa.get f
noncomputable def jm:iO:=fun f=>match Nat.beq f 200||Nat.beq f 201 with
 | true=>some mG
 | false=>match Nat.beq f 4 with
   | true=>some (nS [] (.bool true))
   | false=>none
noncomputable def aT:iO:=fun f=>match Nat.beq f 58 with
 | true=>some (pb cfg FT jm 58)
 | false=>jm f
theorem Ev:∀ (args:List AV) (h:ah) (v:AV) (h':ah),mG false args h=some (v,h')→h'=h∧∀ h2:ah,(∀ b o,h.get b=some o→h2.get b=some o)→mG false args h2=some (v,h2):=by
 intro args h v h' hc
 unfold mG at hc
 split at hc
 ·cases hc; exact ⟨rfl,fun _ _=>rfl⟩
 ·cases hc; exact ⟨rfl,fun _ _=>rfl⟩
 ·cases hc
 ·cases hc
theorem JM:ux jm:=by
 intro f p hp
 unfold jm at hp
 split at hp
 ·cases hp; exact Ev
 ·split at hp
  ·cases hp; exact EM _ _
  ·cases hp
theorem mQ:ux aT:=by
 intro f p hp
 unfold aT at hp
 split at hp
 ·cases hp; exact zx JM _
 ·exact JM f p hp
noncomputable abbrev rs (f:Nat) (args:List AV):AV:=res cfg FT aT f args
end Go.Sx
