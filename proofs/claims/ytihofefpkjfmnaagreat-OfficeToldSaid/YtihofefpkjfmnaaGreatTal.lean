/- Proves tables of the program and that they match it. -/
import Derived.Test.YtihofefpkjfmnaaGreatTaj
set_option linter.all false
namespace Go.Sx
open Go.Proofs.Tryz
open Go Go.Proofs
def g48:j1 prog 48 NI:=⟨f48,func48,by kernel_rfl,by kernel_rfl,by kernel_rfl,by kernel_rfl⟩
def g49:j1 prog 49 K5:=⟨f49,func49,by kernel_rfl,by kernel_rfl,by kernel_rfl,by kernel_rfl⟩
def ZG:j1 prog 106 Ih:=⟨f106,func106,by kernel_rfl,by kernel_rfl,by kernel_rfl,by kernel_rfl⟩
def g25:j1 prog 25 GG:=⟨f25,func25,by kernel_rfl,by kernel_rfl,by kernel_rfl,by kernel_rfl⟩
def XH:j1 prog 103 FU:=⟨f103,func103,by kernel_rfl,by kernel_rfl,by kernel_rfl,by kernel_rfl⟩
def g59:j1 prog 59 LS:=⟨f59,func59,by kernel_rfl,by kernel_rfl,by kernel_rfl,by kernel_rfl⟩
def XM:j1 prog 175 IC:=⟨f175,func175,by kernel_rfl,by kernel_rfl,by kernel_rfl,by kernel_rfl⟩
def Wt:j1 prog 176 HP:=⟨f176,func176,by kernel_rfl,by kernel_rfl,by kernel_rfl,by kernel_rfl⟩
def ZM:j1 prog 221 GP:=⟨f221,func221,by kernel_rfl,by kernel_rfl,by kernel_rfl,by kernel_rfl⟩
def aaE:j1 prog 222 N7:=⟨f222,func222,by kernel_rfl,by kernel_rfl,by kernel_rfl,by kernel_rfl⟩
def g7:j1 prog 7 PV:=⟨f7,func7,by kernel_rfl,by kernel_rfl,by kernel_rfl,by kernel_rfl⟩
def g18:j1 prog 18 GM:=⟨f18,func18,by kernel_rfl,by kernel_rfl,by kernel_rfl,by kernel_rfl⟩
def g21:j1 prog 21 K9:=⟨f21,func21,by kernel_rfl,by kernel_rfl,by kernel_rfl,by kernel_rfl⟩
def g32:j1 prog 32 LW:=⟨f32,func32,by kernel_rfl,by kernel_rfl,by kernel_rfl,by kernel_rfl⟩
def g33:j1 prog 33 Na:=⟨f33,func33,by kernel_rfl,by kernel_rfl,by kernel_rfl,by kernel_rfl⟩
def g4:j1 prog 4 QY:=⟨f4,func4,by kernel_rfl,by kernel_rfl,by kernel_rfl,by kernel_rfl⟩
def g20:j1 prog 20 Mr:=⟨f20,func20,by kernel_rfl,by kernel_rfl,by kernel_rfl,by kernel_rfl⟩
def Dv {β:Type} {Q:Nat->β->Prop} {f:Nat} {x : β}:∀ {l:List (Nat×β)},(∀ p∈l,Q p.1 p.2)->CQ f l=some x->Q f x
 | [],_,h=>by cases h
 | p::l,hl,h=>by
   unfold CQ at h
   split at h
   ·rename_i hb
    cases h
    rw [<- Nat.eq_of_beq_eq_true hb]
    exact hl p (by simp)
   ·exact Dv (λq hq=>hl q (List.mem_cons_of_mem _ hq)) h
def Rm:∀ p∈Qr,j1 prog p.1 p.2:=by
 intro p hp
 simp only [Qr,List.mem_cons,List.not_mem_nil,or_false] at hp
 rcases hp with rfl | rfl | rfl | rfl | rfl | rfl | rfl | rfl | rfl | rfl | rfl | rfl | rfl | rfl | rfl | rfl | rfl
 ·exact g48
 ·exact g49
 ·exact ZG
 ·exact g25
 ·exact XH
 ·exact g59
 ·exact XM
 ·exact Wt
 ·exact ZM
 ·exact aaE
 ·exact g7
 ·exact g18
 ·exact g21
 ·exact g32
 ·exact g33
 ·exact g4
 ·exact g20
def N8:∀ f fa,FT f=some fa->j1 prog f fa:=by
 intro f fa h
 unfold FT at h
 split at h
 ·rename_i x hx; cases h; exact Dv Rm hx
 ·exact Iz f fa h
end Go.Sx
