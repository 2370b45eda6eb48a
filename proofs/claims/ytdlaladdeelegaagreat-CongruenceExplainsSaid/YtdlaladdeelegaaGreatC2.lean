/- Known calls, run by the kernel: part 11. -/
import Derived.Test.YtdlaladdeelegaaGreatB0
set_option linter.all false
noncomputable section
namespace Go.Proofs.YtdlaladdeelegaaGreat.Tb
section
open Go Go.Ae
section
theorem r13:ZCM Tryz.prog hint idl t12 ZGA l13=true:=by kernel_rfl
theorem q13:ZEp Tryz.prog hint idl t12 ZGA ZIJ=true:=by kernel_rfl
end
end
end Go.Proofs.YtdlaladdeelegaaGreat.Tb
end
