/- Known calls, run by the kernel: part 2. -/
import Derived.Test.YtdlaladdeelegaaGreatB0
set_option linter.all false
noncomputable section
namespace Go.Proofs.YtdlaladdeelegaaGreat.Tb
section
open Go Go.Ae
section
theorem r2:ZCM Tryz.prog hint idl t1 ft1 l2=true:=by kernel_rfl
end
end
end Go.Proofs.YtdlaladdeelegaaGreat.Tb
end
