/- Proves tables of the program and that they match it. -/
import Derived.Test.YtojhnkioagammaaGreatTai
set_option linter.all false
namespace Go.Sx
open Go Go.Proofs
theorem g7:fw Tryz.prog 7 Qr:=⟨Tryz.f7,Tryz.func7,by kernel_rfl,by kernel_rfl,by kernel_rfl,by kernel_rfl⟩
theorem g14:fw Tryz.prog 14 Il:=⟨Tryz.f14,Tryz.func14,by kernel_rfl,by kernel_rfl,by kernel_rfl,by kernel_rfl⟩
theorem g15:fw Tryz.prog 15 Ho:=⟨Tryz.f15,Tryz.func15,by kernel_rfl,by kernel_rfl,by kernel_rfl,by kernel_rfl⟩
theorem g17:fw Tryz.prog 17 Hp:=⟨Tryz.f17,Tryz.func17,by kernel_rfl,by kernel_rfl,by kernel_rfl,by kernel_rfl⟩
theorem g18:fw Tryz.prog 18 Hs:=⟨Tryz.f18,Tryz.func18,by kernel_rfl,by kernel_rfl,by kernel_rfl,by kernel_rfl⟩
theorem g91:fw Tryz.prog 91 Gk:=⟨Tryz.f91,Tryz.func91,by kernel_rfl,by kernel_rfl,by kernel_rfl,by kernel_rfl⟩
theorem AZ:fw Tryz.prog 34 GB:=⟨Tryz.f34,Tryz.func34,by kernel_rfl,by kernel_rfl,by kernel_rfl,by kernel_rfl⟩
theorem g38:fw Tryz.prog 38 Iz:=⟨Tryz.f38,Tryz.func38,by kernel_rfl,by kernel_rfl,by kernel_rfl,by kernel_rfl⟩
theorem g87:fw Tryz.prog 87 Gp:=⟨Tryz.f87,Tryz.func87,by kernel_rfl,by kernel_rfl,by kernel_rfl,by kernel_rfl⟩
theorem g93:fw Tryz.prog 93 Hk:=⟨Tryz.f93,Tryz.func93,by kernel_rfl,by kernel_rfl,by kernel_rfl,by kernel_rfl⟩
theorem g98:fw Tryz.prog 98 Ig:=⟨Tryz.f98,Tryz.func98,by kernel_rfl,by kernel_rfl,by kernel_rfl,by kernel_rfl⟩
theorem Z0:fw Tryz.prog 169 Ey:=⟨Tryz.f169,Tryz.func169,by kernel_rfl,by kernel_rfl,by kernel_rfl,by kernel_rfl⟩
theorem abq:fw Tryz.prog 172 Jh:=⟨Tryz.f172,Tryz.func172,by kernel_rfl,by kernel_rfl,by kernel_rfl,by kernel_rfl⟩
theorem Au {β:Type} {Q:Nat→β→Prop} {f:Nat} {x : β}:∀ {l:List (Nat×β)},(∀ p∈l,Q p.1 p.2)→yT f l=some x→Q f x
 | [],_,h=>by cases h
 | p::l,hl,h=>by
   unfold yT at h
   split at h
   ·rename_i hb
    cases h
    rw [← Nat.eq_of_beq_eq_true hb]
    exact hl p (by simp)
   ·exact Au (fun q hq=>hl q (List.mem_cons_of_mem _ hq)) h
theorem OH:∀ p∈OJ,fw Tryz.prog p.1 p.2:=by
 intro p hp
 simp only [OJ,List.mem_cons,List.not_mem_nil,or_false] at hp
 rcases hp with rfl | rfl | rfl | rfl | rfl | rfl | rfl | rfl | rfl | rfl | rfl | rfl | rfl
 ·exact g7
 ·exact g14
 ·exact g15
 ·exact g17
 ·exact g18
 ·exact g91
 ·exact AZ
 ·exact g38
 ·exact g87
 ·exact g93
 ·exact g98
 ·exact Z0
 ·exact abq
theorem J0:∀ f fa,FT f=some fa→fw Tryz.prog f fa:=by
 intro f fa h
 unfold FT at h
 split at h
 ·rename_i x hx; cases h; exact Au OH hx
 ·exact zd f fa h
end Go.Sx
