/- Proves a closed fact of the set-up by the kernel. -/
import Derived.Test.YtpelnddplemngaaGreatHak
import Derived.Test.YtpelnddplemngaaGreatHbr
set_option linter.all false
namespace Go.Sx
open Go Go.Proofs
def YY:∀ f p,mC f=some p->nT Tryz.prog f p:=by
 intro f p hp
 unfold mC at hp
 split at hp
 ·rename_i hb
  cases hp
  exact G6 f (LD hb)
 ·split at hp
  ·rename_i hb
   cases hp
   have:=Nat.eq_of_beq_eq_true hb
   subst this
   exact Uf
  ·cases hp
def OX:qK Tryz.prog cfg FT mC:=⟨pe,rY,SS,YY⟩
def XT:qK Tryz.prog cfg FT js:=by
 refine ⟨pe,rY,SS,?_⟩
 intro f p hp
 unfold js at hp
 split at hp
 ·rename_i hb
  cases hp
  have:=Nat.eq_of_beq_eq_true hb
  subst this
  exact Gm OX 63
 ·exact OX.DE f p hp
end Go.Sx
