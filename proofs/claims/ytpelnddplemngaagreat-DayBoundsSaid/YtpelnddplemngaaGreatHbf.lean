/- Proves a closed fact of the set-up by the kernel. -/
import Derived.KernelRfl
import Derived.Test.YtpelnddplemngaaGreatHar
set_option linter.all false
set_option maxRecDepth 1000000
namespace Go.Sx
def UA:my 0 qD Kb Ly Lp Kw=true:=by kernel_rfl
end Go.Sx
