/- Proves tables of the program. -/
import Derived.Test.YtmnmenklbegmeaaGreatHak
set_option linter.all false
namespace Go.Sx
open Go.Proofs.Tryz
open Go Go.Proofs
def g53:uD prog 53 adN:=⟨f53,func53,by kernel_rfl,by kernel_rfl,by kernel_rfl,by kernel_rfl⟩
def g54:uD prog 54 afh:=⟨f54,func54,by kernel_rfl,by kernel_rfl,by kernel_rfl,by kernel_rfl⟩
def akM:uD prog 208 YK:=⟨f208,func208,by kernel_rfl,by kernel_rfl,by kernel_rfl,by kernel_rfl⟩
def al9:uD prog 104 XM:=⟨f104,func104,by kernel_rfl,by kernel_rfl,by kernel_rfl,by kernel_rfl⟩
def alA:uD prog 108 Yx:=⟨f108,func108,by kernel_rfl,by kernel_rfl,by kernel_rfl,by kernel_rfl⟩
def amE:uD prog 204 Yo:=⟨f204,func204,by kernel_rfl,by kernel_rfl,by kernel_rfl,by kernel_rfl⟩
def akI:uD prog 210 aak:=⟨f210,func210,by kernel_rfl,by kernel_rfl,by kernel_rfl,by kernel_rfl⟩
def amn:uD prog 214 aaM:=⟨f214,func214,by kernel_rfl,by kernel_rfl,by kernel_rfl,by kernel_rfl⟩
def amd:uD prog 285 Yn:=⟨f285,func285,by kernel_rfl,by kernel_rfl,by kernel_rfl,by kernel_rfl⟩
def akY:uD prog 287 YS:=⟨f287,func287,by kernel_rfl,by kernel_rfl,by kernel_rfl,by kernel_rfl⟩
def alV:uD prog 264 Rm:=⟨f264,func264,by kernel_rfl,by kernel_rfl,by kernel_rfl,by kernel_rfl⟩
def g99:uD prog 99 Xr:=⟨f99,func99,by kernel_rfl,by kernel_rfl,by kernel_rfl,by kernel_rfl⟩
def g45:uD prog 45 Ws:=⟨f45,func45,by kernel_rfl,by kernel_rfl,by kernel_rfl,by kernel_rfl⟩
def Np{β:Type}{Q:Nat->β->Prop}{f:Nat}{x : β}:∀{l:List (Nat×β)},(∀p∈l,Q p.1 p.2)->LX f l=some x->Q f x
 |[],_,h=>by cases h
 |p::l,hl,h=>by
  unfold LX at h;split at h;·rename_i hb;cases h;rw[<- Nat.eq_of_beq_eq_true hb];exact hl p (by simp)
  ·exact Np (λq hq=>hl q (anp _ hq)) h
def afX:∀p∈FTl,uD prog p.1 p.2:=by
 intro p hp;simp only[FTl,List.mem_cons,List.not_mem_nil,or_false]at hp;rcases hp with rfl|rfl|rfl|rfl|rfl|rfl|rfl|rfl|rfl|rfl|rfl|rfl|rfl
 ·exact g53
 ·exact g54
 ·exact akM
 ·exact al9
 ·exact alA
 ·exact amE
 ·exact akI
 ·exact amn
 ·exact amd
 ·exact akY
 ·exact alV
 ·exact g99
 ·exact g45
def Sq:∀f fa,FT f=some fa->uD prog f fa:=by
 intro f fa h;unfold FT at h;split at h;·rename_i x hx;cases h;exact Np afX hx
 ·exact Io f fa h
end Go.Sx
