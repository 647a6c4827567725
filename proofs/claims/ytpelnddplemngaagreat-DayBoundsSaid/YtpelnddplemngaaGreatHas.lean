/- Proves a closed fact of the set-up by the kernel. -/
import Derived.KernelRfl
import Derived.Test.YtpelnddplemngaaGreatHar
set_option linter.all false
set_option maxRecDepth 1000000
namespace Go.Sx
def Xd:l3 cfg s5.get sy 3000 false 12 [K5] aT.empty=some (.jl [Bz,tT],aT.empty):=by kernel_rfl
end Go.Sx
