/- Known calls, run by the kernel: part 12. -/
import Derived.Test.YtdlaladdeelegaaGreatB0
set_option linter.all false
noncomputable section
namespace Go.Proofs.YtdlaladdeelegaaGreat.Tb
section
open Go Go.Ae
section
theorem r14:ZCM Tryz.prog hint idl t13 ZGB l14=true:=by kernel_rfl
theorem q14:ZEp Tryz.prog hint idl t13 ZGB ZIK=true:=by kernel_rfl
end
end
end Go.Proofs.YtdlaladdeelegaaGreat.Tb
end
