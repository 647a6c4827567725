/- Proves a closed fact of the set-up by the kernel. -/
import Derived.KernelRfl
import Derived.Test.YtpelnddplemngaaGreatHar
set_option linter.all false
set_option maxRecDepth 1000000
namespace Go.Sx
def Wb:O0 (qO 1 qD Lc Kr)=some (xE,aT.empty):=by kernel_rfl
end Go.Sx
