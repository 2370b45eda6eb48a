/- Known calls, run by the kernel: part 16. -/
import Derived.Test.YtdlaladdeelegaaGreatB0
set_option linter.all false
noncomputable section
namespace Go.Proofs.YtdlaladdeelegaaGreat.Tb
section
open Go Go.Ae
section
theorem r26:ZCM Tryz.prog hint idl t25 ZHo l26=true:=by kernel_rfl
theorem r27:ZCM Tryz.prog hint idl t26 ZHp l27=true:=by kernel_rfl
theorem r28:ZCM Tryz.prog hint idl t27 ZHq l28=true:=by kernel_rfl
theorem r29:ZCM Tryz.prog hint idl t28 ZHr l29=true:=by kernel_rfl
theorem r30:ZCM Tryz.prog hint idl t29 ZHs l30=true:=by kernel_rfl
theorem r31:ZCM Tryz.prog hint idl t30 ZHt l31=true:=by kernel_rfl
end
end
end Go.Proofs.YtdlaladdeelegaaGreat.Tb
end
