/- Proves tables of the program and that they match it. -/
import Derived.Test.YtmnmenklbegmeaaGreatHak
set_option linter.all false
namespace Go.Sx
open Go.Proofs.Tryz
open Go Go.Proofs
def g53:iy prog 53 UL:=⟨f53,func53,by kernel_rfl,by kernel_rfl,by kernel_rfl,by kernel_rfl⟩
def g54:iy prog 54 Vt:=⟨f54,func54,by kernel_rfl,by kernel_rfl,by kernel_rfl,by kernel_rfl⟩
def aeJ:iy prog 208 PM:=⟨f208,func208,by kernel_rfl,by kernel_rfl,by kernel_rfl,by kernel_rfl⟩
def aet:iy prog 104 Qa:=⟨f104,func104,by kernel_rfl,by kernel_rfl,by kernel_rfl,by kernel_rfl⟩
def agT:iy prog 108 O7:=⟨f108,func108,by kernel_rfl,by kernel_rfl,by kernel_rfl,by kernel_rfl⟩
def adZ:iy prog 204 Sm:=⟨f204,func204,by kernel_rfl,by kernel_rfl,by kernel_rfl,by kernel_rfl⟩
def aeK:iy prog 210 OQ:=⟨f210,func210,by kernel_rfl,by kernel_rfl,by kernel_rfl,by kernel_rfl⟩
def afE:iy prog 214 SU:=⟨f214,func214,by kernel_rfl,by kernel_rfl,by kernel_rfl,by kernel_rfl⟩
def ag1:iy prog 285 SL:=⟨f285,func285,by kernel_rfl,by kernel_rfl,by kernel_rfl,by kernel_rfl⟩
def afV:iy prog 287 OG:=⟨f287,func287,by kernel_rfl,by kernel_rfl,by kernel_rfl,by kernel_rfl⟩
def FQ {β:Type} {Q:Nat->β->Prop} {f:Nat} {x : β}:∀ {l:List (Nat×β)},(∀ p∈l,Q p.1 p.2)->DW f l=some x->Q f x
 | [],_,h=>by cases h
 | p::l,hl,h=>by
   unfold DW at h
   split at h
   ·rename_i hb
    cases h
    rw [<- Nat.eq_of_beq_eq_true hb]
    exact hl p (by simp)
   ·exact FQ (λq hq=>hl q (List.mem_cons_of_mem _ hq)) h
def WE:∀ p∈Wk,iy prog p.1 p.2:=by
 intro p hp
 simp only [Wk,List.mem_cons,List.not_mem_nil,or_false] at hp
 rcases hp with rfl | rfl | rfl | rfl | rfl | rfl | rfl | rfl | rfl | rfl
 ·exact g53
 ·exact g54
 ·exact aeJ
 ·exact aet
 ·exact agT
 ·exact adZ
 ·exact aeK
 ·exact afE
 ·exact ag1
 ·exact afV
def HL:∀ f fa,FT f=some fa->iy prog f fa:=by
 intro f fa h
 unfold FT at h
 split at h
 ·rename_i x hx; cases h; exact FQ WE hx
 ·exact BM f fa h
end Go.Sx
