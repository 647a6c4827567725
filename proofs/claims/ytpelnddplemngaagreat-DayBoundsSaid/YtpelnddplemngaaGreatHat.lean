/- Proves a closed fact of the set-up by the kernel. -/
import Derived.KernelRfl
import Derived.Test.YtpelnddplemngaaGreatHar
set_option linter.all false
set_option maxRecDepth 1000000
namespace Go.Sx
def abd:qw ED (kP 2998) Fq pI.body pI.lX (params 0 DM) aT.empty=some (.kE,AZ,AW):=by kernel_rfl
end Go.Sx
