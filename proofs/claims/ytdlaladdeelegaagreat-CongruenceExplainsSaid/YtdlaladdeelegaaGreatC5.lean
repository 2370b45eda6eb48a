/- Known calls, run by the kernel: part 14. -/
import Derived.Test.YtdlaladdeelegaaGreatB0
set_option linter.all false
noncomputable section
namespace Go.Proofs.YtdlaladdeelegaaGreat.Tb
section
open Go Go.Ae
section
theorem r16:ZCM Tryz.prog hint idl t15 ZGD l16=true:=by kernel_rfl
theorem q16:ZEp Tryz.prog hint idl t15 ZGD ZIM=true:=by kernel_rfl
end
end
end Go.Proofs.YtdlaladdeelegaaGreat.Tb
end
