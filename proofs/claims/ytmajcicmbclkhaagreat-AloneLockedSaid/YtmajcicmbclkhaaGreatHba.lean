/- Proves a closed fact by the kernel. -/
import Derived.Test.YtmajcicmbclkhaaGreatHat
set_option maxRecDepth 1000000
namespace Go.Sx
theorem Te:qa 1 zm OB Pq KU LW=true:=by kernel_rfl
end Go.Sx
