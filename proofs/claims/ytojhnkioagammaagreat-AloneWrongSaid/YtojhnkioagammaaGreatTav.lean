/- Proves a closed fact of the set-up by the kernel. -/
import Derived.KernelRfl
import Derived.Test.YtojhnkioagammaaGreatTau
set_option linter.all false
set_option maxRecDepth 1000000
namespace Go.Sx
theorem Rq:jt cfg sa.get u9 3000 false 5 [Fu] ah.empty=some (.fz [zE,tT],ah.empty):=by kernel_rfl
end Go.Sx
