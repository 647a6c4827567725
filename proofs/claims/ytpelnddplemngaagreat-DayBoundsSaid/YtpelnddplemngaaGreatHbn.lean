/- Proves a closed fact of the set-up by the kernel. -/
import Derived.KernelRfl
import Derived.Test.YtpelnddplemngaaGreatHar
set_option linter.all false
set_option maxRecDepth 1000000
namespace Go.Sx
def aat:qw Ec (kP 2998) Eu pF.body pF.lX (params 0 Fk) aT.empty=some (.kE,B6,Bg):=by kernel_rfl
end Go.Sx
