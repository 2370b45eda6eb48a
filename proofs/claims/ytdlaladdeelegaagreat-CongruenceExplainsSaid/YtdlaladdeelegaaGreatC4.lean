/- Known calls, run by the kernel: part 13. -/
import Derived.Test.YtdlaladdeelegaaGreatB0
set_option linter.all false
noncomputable section
namespace Go.Proofs.YtdlaladdeelegaaGreat.Tb
section
open Go Go.Ae
section
theorem r15:ZCM Tryz.prog hint idl t14 ZGC l15=true:=by kernel_rfl
theorem q15:ZEp Tryz.prog hint idl t14 ZGC ZIL=true:=by kernel_rfl
end
end
end Go.Proofs.YtdlaladdeelegaaGreat.Tb
end
