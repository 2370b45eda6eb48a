/- Known calls, run by the kernel: part 6. -/
import Derived.Test.YtdlaladdeelegaaGreatB0
set_option linter.all false
noncomputable section
namespace Go.Proofs.YtdlaladdeelegaaGreat.Tb
section
open Go Go.Ae
section
theorem r6:ZCM Tryz.prog hint idl t5 ft5 l6=true:=by kernel_rfl
end
end
end Go.Proofs.YtdlaladdeelegaaGreat.Tb
end
