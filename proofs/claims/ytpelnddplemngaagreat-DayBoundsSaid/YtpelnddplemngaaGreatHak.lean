/- Proves tables of the program and that they match it. -/
import Derived.Test.YtpelnddplemngaaGreatHaj
set_option linter.all false
namespace Go.Sx
open Go.Proofs.Tryz
open Go Go.Proofs
def g85:iJ prog 85 Wy:=⟨f85,func85,by kernel_rfl,by kernel_rfl,by kernel_rfl,by kernel_rfl⟩
def g86:iJ prog 86 UN:=⟨f86,func86,by kernel_rfl,by kernel_rfl,by kernel_rfl,by kernel_rfl⟩
def agG:iJ prog 172 S8:=⟨f172,func172,by kernel_rfl,by kernel_rfl,by kernel_rfl,by kernel_rfl⟩
def g83:iJ prog 83 VS:=⟨f83,func83,by kernel_rfl,by kernel_rfl,by kernel_rfl,by kernel_rfl⟩
def afm:iJ prog 169 QI:=⟨f169,func169,by kernel_rfl,by kernel_rfl,by kernel_rfl,by kernel_rfl⟩
def aiu:iJ prog 163 Qu:=⟨f163,func163,by kernel_rfl,by kernel_rfl,by kernel_rfl,by kernel_rfl⟩
def afj:iJ prog 247 Tu:=⟨f247,func247,by kernel_rfl,by kernel_rfl,by kernel_rfl,by kernel_rfl⟩
def ag8:iJ prog 248 Ti:=⟨f248,func248,by kernel_rfl,by kernel_rfl,by kernel_rfl,by kernel_rfl⟩
def agv:iJ prog 302 OG:=⟨f302,func302,by kernel_rfl,by kernel_rfl,by kernel_rfl,by kernel_rfl⟩
def agO:iJ prog 303 Pv:=⟨f303,func303,by kernel_rfl,by kernel_rfl,by kernel_rfl,by kernel_rfl⟩
def g37:iJ prog 37 Ww:=⟨f37,func37,by kernel_rfl,by kernel_rfl,by kernel_rfl,by kernel_rfl⟩
def g74:iJ prog 74 VY:=⟨f74,func74,by kernel_rfl,by kernel_rfl,by kernel_rfl,by kernel_rfl⟩
def g75:iJ prog 75 Vm:=⟨f75,func75,by kernel_rfl,by kernel_rfl,by kernel_rfl,by kernel_rfl⟩
def D7 {β:Type} {Q:Nat->β->Prop} {f:Nat} {x : β}:∀ {l:List (Nat×β)},(∀ p∈l,Q p.1 p.2)->DL f l=some x->Q f x
 | [],_,h=>by cases h
 | p::l,hl,h=>by
   unfold DL at h
   split at h
   ·rename_i hb
    cases h
    rw [<- Nat.eq_of_beq_eq_true hb]
    exact hl p (by simp)
   ·exact D7 (λq hq=>hl q (List.mem_cons_of_mem _ hq)) h
def WK:∀ p∈Vl,iJ prog p.1 p.2:=by
 intro p hp
 simp only [Vl,List.mem_cons,List.not_mem_nil,or_false] at hp
 rcases hp with rfl | rfl | rfl | rfl | rfl | rfl | rfl | rfl | rfl | rfl | rfl | rfl | rfl
 ·exact g85
 ·exact g86
 ·exact agG
 ·exact g83
 ·exact afm
 ·exact aiu
 ·exact afj
 ·exact ag8
 ·exact agv
 ·exact agO
 ·exact g37
 ·exact g74
 ·exact g75
def SS:∀ f fa,FT f=some fa->iJ prog f fa:=by
 intro f fa h
 unfold FT at h
 split at h
 ·rename_i x hx; cases h; exact D7 WK hx
 ·exact zh f fa h
end Go.Sx
