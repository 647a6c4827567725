/- Proves a closed fact of the set-up by the kernel. -/
import Derived.KernelRfl
import Derived.Test.YtpelnddplemngaaGreatHar
set_option linter.all false
set_option maxRecDepth 1000000
namespace Go.Sx
def V5:SQ (qO 10 O9 KS KJ)=some (xm,aT.empty):=by kernel_rfl
end Go.Sx
