/- Proves tables of the program and that they match it. -/
import Derived.Test.YtlhainfgnlmhfaaGreatTaf
import Derived.Test.YtlhainfgnlmhfaaGreatTah
import Derived.Test.YtlhainfgnlmhfaaGreatTai
set_option linter.all false
namespace Go.Sx
open Go Go.Proofs
noncomputable def ei:iw:=fun f=>match Nat.beq f 221||Nat.beq f 222 with
 | true=>some nL
 | false=>match Nat.beq f 4 with
   | true=>some (mc [] (.bool true))
   | false=>none
end Go.Sx
