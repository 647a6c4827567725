/- Proves a closed fact of the set-up by the kernel. -/
import Derived.KernelRfl
import Derived.Test.YtpelnddplemngaaGreatHar
set_option linter.all false
set_option maxRecDepth 1000000
namespace Go.Sx
def Wh:my 9 O9 B6 Bg KS KJ=true:=by kernel_rfl
end Go.Sx
