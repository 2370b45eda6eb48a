/- Known calls, run by the kernel: part 16. -/
import Derived.Test.YtdlaladdeelegaaGreatB0
set_option linter.all false
namespace Go.Proofs.YtdlaladdeelegaaGreat.Tb
open Go Go.Ae
theorem r26:chkKs Tryz.prog hint idl t25 ft25 l26=true:=by kernel_rfl
theorem r27:chkKs Tryz.prog hint idl t26 ft26 l27=true:=by kernel_rfl
theorem r28:chkKs Tryz.prog hint idl t27 ft27 l28=true:=by kernel_rfl
theorem r29:chkKs Tryz.prog hint idl t28 ft28 l29=true:=by kernel_rfl
theorem r30:chkKs Tryz.prog hint idl t29 ft29 l30=true:=by kernel_rfl
theorem r31:chkKs Tryz.prog hint idl t30 ft30 l31=true:=by kernel_rfl
end Go.Proofs.YtdlaladdeelegaaGreat.Tb
