/- Proves tables of the program and that they match it. -/
import Derived.Test.YtgoeonlbgdamhaaGreatHaj
set_option linter.all false
namespace Go.Sx
open Go.Proofs.Tryz
open Go Go.Proofs
def g62:iw prog 62 Ue:=⟨f62,func62,by kernel_rfl,by kernel_rfl,by kernel_rfl,by kernel_rfl⟩
def g63:iw prog 63 TP:=⟨f63,func63,by kernel_rfl,by kernel_rfl,by kernel_rfl,by kernel_rfl⟩
def afP:iw prog 214 QH:=⟨f214,func214,by kernel_rfl,by kernel_rfl,by kernel_rfl,by kernel_rfl⟩
def adr:iw prog 116 Rl:=⟨f116,func116,by kernel_rfl,by kernel_rfl,by kernel_rfl,by kernel_rfl⟩
def acE:iw prog 120 O4:=⟨f120,func120,by kernel_rfl,by kernel_rfl,by kernel_rfl,by kernel_rfl⟩
def aeW:iw prog 209 Qo:=⟨f209,func209,by kernel_rfl,by kernel_rfl,by kernel_rfl,by kernel_rfl⟩
def afR:iw prog 216 NL:=⟨f216,func216,by kernel_rfl,by kernel_rfl,by kernel_rfl,by kernel_rfl⟩
def aeo:iw prog 218 Q7:=⟨f218,func218,by kernel_rfl,by kernel_rfl,by kernel_rfl,by kernel_rfl⟩
def aeG:iw prog 297 Qi:=⟨f297,func297,by kernel_rfl,by kernel_rfl,by kernel_rfl,by kernel_rfl⟩
def adp:iw prog 298 QS:=⟨f298,func298,by kernel_rfl,by kernel_rfl,by kernel_rfl,by kernel_rfl⟩
def g18:iw prog 18 Lt:=⟨f18,func18,by kernel_rfl,by kernel_rfl,by kernel_rfl,by kernel_rfl⟩
def g16:iw prog 16 L9:=⟨f16,func16,by kernel_rfl,by kernel_rfl,by kernel_rfl,by kernel_rfl⟩
def g4:iw prog 4 U8:=⟨f4,func4,by kernel_rfl,by kernel_rfl,by kernel_rfl,by kernel_rfl⟩
def EP {β:Type} {Q:Nat->β->Prop} {f:Nat} {x : β}:∀ {l:List (Nat×β)},(∀ p∈l,Q p.1 p.2)->Df f l=some x->Q f x
 | [],_,h=>by cases h
 | p::l,hl,h=>by
   unfold Df at h
   split at h
   ·rename_i hb
    cases h
    rw [<- Nat.eq_of_beq_eq_true hb]
    exact hl p (by simp)
   ·exact EP (λq hq=>hl q (List.mem_cons_of_mem _ hq)) h
def UF:∀ p∈Ti,iw prog p.1 p.2:=by
 intro p hp
 simp only [Ti,List.mem_cons,List.not_mem_nil,or_false] at hp
 rcases hp with rfl | rfl | rfl | rfl | rfl | rfl | rfl | rfl | rfl | rfl | rfl | rfl | rfl
 ·exact g62
 ·exact g63
 ·exact afP
 ·exact adr
 ·exact acE
 ·exact aeW
 ·exact afR
 ·exact aeo
 ·exact aeG
 ·exact adp
 ·exact g18
 ·exact g16
 ·exact g4
def Oc:∀ f fa,FT f=some fa->iw prog f fa:=by
 intro f fa h
 unfold FT at h
 split at h
 ·rename_i x hx; cases h; exact EP UF hx
 ·exact A2 f fa h
end Go.Sx
