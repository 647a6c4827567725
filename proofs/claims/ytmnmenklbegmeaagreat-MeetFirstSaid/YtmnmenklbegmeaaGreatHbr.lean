/- Proves a closed fact by the kernel. -/
import Derived.Test.YtmnmenklbegmeaaGreatHbq
set_option linter.all false
namespace Go.Sx
open Go Go.Proofs
def akA:∀f p,ru f=some p->qD Tryz.prog f p:=by
 intro f p hp;unfold ru at hp;split at hp;·rename_i hb;cases hp;exact QF f (SD hb)
 ·split at hp;·rename_i hb;cases hp;have:=acl hb;subst this;exact ab2
  ·split at hp;·rename_i hb;cases hp;have:=acl hb;subst this;exact growOk
   ·split at hp;·rename_i hb;cases hp;have:=acl hb;subst this;exact risingOk
    ·split at hp;·rename_i hb;cases hp;have:=acl hb;subst this;exact sortOk
     ·split at hp;·rename_i hb;cases hp;have:=acl hb;subst this;exact compOk
      ·split at hp;·rename_i hb;cases hp;have:=acl hb;subst this;exact sortNOk
       ·split at hp;·rename_i hb;cases hp;have:=acl hb;subst this;exact sortTOk
        ·cases hp
def aaa:vC Tryz.prog cfg FT ru:=⟨vb,yu,Sq,akA⟩
def ah0:vC Tryz.prog cfg FT ml:=by
 refine⟨vb,yu,Sq,?_⟩;intro f p hp;unfold ml at hp;split at hp;·rename_i hb;cases hp;have:=acl hb;subst this;exact OT aaa 82
 ·exact aaa.Lu f p hp
end Go.Sx
