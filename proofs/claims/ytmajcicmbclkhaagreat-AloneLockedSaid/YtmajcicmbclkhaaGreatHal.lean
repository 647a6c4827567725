/- Proves tables of the program. -/
import Derived.Test.YtmajcicmbclkhaaGreatHak
set_option linter.all false
namespace Go.Sx
open Go.Proofs.Tryz
open Go Go.Proofs
def g49:nV prog 49 TP:=⟨f49,func49,by kernel_rfl,by kernel_rfl,by kernel_rfl,by kernel_rfl⟩
def g37:nV prog 37 Ng:=⟨f37,func37,by kernel_rfl,by kernel_rfl,by kernel_rfl,by kernel_rfl⟩
def ZM:nV prog 167 Pj:=⟨f167,func167,by kernel_rfl,by kernel_rfl,by kernel_rfl,by kernel_rfl⟩
def g83:nV prog 83 RK:=⟨f83,func83,by kernel_rfl,by kernel_rfl,by kernel_rfl,by kernel_rfl⟩
def g86:nV prog 86 Tg:=⟨f86,func86,by kernel_rfl,by kernel_rfl,by kernel_rfl,by kernel_rfl⟩
def aau:nV prog 168 OT:=⟨f168,func168,by kernel_rfl,by kernel_rfl,by kernel_rfl,by kernel_rfl⟩
def aay:nV prog 239 Ox:=⟨f239,func239,by kernel_rfl,by kernel_rfl,by kernel_rfl,by kernel_rfl⟩
def g8:nV prog 8 T5:=⟨f8,func8,by kernel_rfl,by kernel_rfl,by kernel_rfl,by kernel_rfl⟩
def g35:nV prog 35 wJ:=⟨f35,func35,by kernel_rfl,by kernel_rfl,by kernel_rfl,by kernel_rfl⟩
def g29:nV prog 29 Ml:=⟨f29,func29,by kernel_rfl,by kernel_rfl,by kernel_rfl,by kernel_rfl⟩
def G9 {β:Type} {Q:Nat->β->Prop} {f:Nat} {x : β}:∀ {l:List (Nat×β)},(∀ p∈l,Q p.1 p.2)->Ez f l=some x->Q f x
 | [],_,h=>by cases h
 | p::l,hl,h=>by
   unfold Ez at h
   split at h
   ·rename_i hb
    cases h
    rw [<- Nat.eq_of_beq_eq_true hb]
    exact hl p (by simp)
   ·exact G9 (λq hq=>hl q (List.mem_cons_of_mem _ hq)) h
def RW:∀ p∈RM,nV prog p.1 p.2:=by
 intro p hp
 simp only [RM,List.mem_cons,List.not_mem_nil,or_false] at hp
 rcases hp with rfl | rfl | rfl | rfl | rfl | rfl | rfl | rfl | rfl | rfl
 ·exact g49
 ·exact g37
 ·exact ZM
 ·exact g83
 ·exact g86
 ·exact aau
 ·exact aay
 ·exact g8
 ·exact g35
 ·exact g29
def EO:∀ f fa,FT f=some fa->nV prog f fa:=by
 intro f fa h
 unfold FT at h
 split at h
 ·rename_i x hx; cases h; exact G9 RW hx
 ·exact EG f fa h
end Go.Sx
