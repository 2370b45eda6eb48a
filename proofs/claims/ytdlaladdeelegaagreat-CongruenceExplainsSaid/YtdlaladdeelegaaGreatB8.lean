/- Known calls, run by the kernel: part 8. -/
import Derived.Test.YtdlaladdeelegaaGreatB0
set_option linter.all false
noncomputable section
namespace Go.Proofs.YtdlaladdeelegaaGreat.Tb
section
open Go Go.Ae
section
theorem r8:ZCM Tryz.prog hint idl t7 ft7 l8=true:=by kernel_rfl
theorem q8:ZEp Tryz.prog hint idl t7 ft7 fl8=true:=by kernel_rfl
end
end
end Go.Proofs.YtdlaladdeelegaaGreat.Tb
end
