/- Proves tables of the program and that they match it. -/
import Derived.Test.YtihofefpkjfmnaaGreatNaj
set_option linter.all false
namespace Go.Sx
open Go.Proofs.Tryz
open Go Go.Proofs
def g48:kg prog 48 Un:=⟨f48,func48,by kernel_rfl,by kernel_rfl,by kernel_rfl,by kernel_rfl⟩
def g49:kg prog 49 SQ:=⟨f49,func49,by kernel_rfl,by kernel_rfl,by kernel_rfl,by kernel_rfl⟩
def ZI:kg prog 106 Q1:=⟨f106,func106,by kernel_rfl,by kernel_rfl,by kernel_rfl,by kernel_rfl⟩
def g25:kg prog 25 Sj:=⟨f25,func25,by kernel_rfl,by kernel_rfl,by kernel_rfl,by kernel_rfl⟩
def aaL:kg prog 103 Qy:=⟨f103,func103,by kernel_rfl,by kernel_rfl,by kernel_rfl,by kernel_rfl⟩
def g59:kg prog 59 Uo:=⟨f59,func59,by kernel_rfl,by kernel_rfl,by kernel_rfl,by kernel_rfl⟩
def adm:kg prog 175 PT:=⟨f175,func175,by kernel_rfl,by kernel_rfl,by kernel_rfl,by kernel_rfl⟩
def aao:kg prog 176 QG:=⟨f176,func176,by kernel_rfl,by kernel_rfl,by kernel_rfl,by kernel_rfl⟩
def acr:kg prog 221 Pz:=⟨f221,func221,by kernel_rfl,by kernel_rfl,by kernel_rfl,by kernel_rfl⟩
def abv:kg prog 222 Qb:=⟨f222,func222,by kernel_rfl,by kernel_rfl,by kernel_rfl,by kernel_rfl⟩
def g7:kg prog 7 SC:=⟨f7,func7,by kernel_rfl,by kernel_rfl,by kernel_rfl,by kernel_rfl⟩
def g32:kg prog 32 NP:=⟨f32,func32,by kernel_rfl,by kernel_rfl,by kernel_rfl,by kernel_rfl⟩
def g33:kg prog 33 Mx:=⟨f33,func33,by kernel_rfl,by kernel_rfl,by kernel_rfl,by kernel_rfl⟩
def Er {β:Type} {Q:Nat->β->Prop} {f:Nat} {x : β}:∀ {l:List (Nat×β)},(∀ p∈l,Q p.1 p.2)->DM f l=some x->Q f x
 | [],_,h=>by cases h
 | p::l,hl,h=>by
   unfold DM at h
   split at h
   ·rename_i hb
    cases h
    rw [<- Nat.eq_of_beq_eq_true hb]
    exact hl p (by simp)
   ·exact Er (λq hq=>hl q (List.mem_cons_of_mem _ hq)) h
def Ta:∀ p∈SO,kg prog p.1 p.2:=by
 intro p hp
 simp only [SO,List.mem_cons,List.not_mem_nil,or_false] at hp
 rcases hp with rfl | rfl | rfl | rfl | rfl | rfl | rfl | rfl | rfl | rfl | rfl | rfl | rfl
 ·exact g48
 ·exact g49
 ·exact ZI
 ·exact g25
 ·exact aaL
 ·exact g59
 ·exact adm
 ·exact aao
 ·exact acr
 ·exact abv
 ·exact g7
 ·exact g32
 ·exact g33
def Pw:∀ f fa,FT f=some fa->kg prog f fa:=by
 intro f fa h
 unfold FT at h
 split at h
 ·rename_i x hx; cases h; exact Er Ta hx
 ·exact Kc f fa h
end Go.Sx
