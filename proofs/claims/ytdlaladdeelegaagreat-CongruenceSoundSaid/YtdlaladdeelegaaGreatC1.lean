/- Known calls, run by the kernel: part 10. -/
import Derived.Test.YtdlaladdeelegaaGreatB0
set_option linter.all false
namespace Go.Proofs.YtdlaladdeelegaaGreat.Tb
open Go Go.Ae
theorem r10:chkKs Tryz.prog hint idl t9 ft9 l10=true:=by kernel_rfl
theorem q10:chkFs Tryz.prog hint idl t9 ft9 fl10=true:=by kernel_rfl
theorem r11:chkKs Tryz.prog hint idl t10 ft10 l11=true:=by kernel_rfl
theorem q11:chkFs Tryz.prog hint idl t10 ft10 fl11=true:=by kernel_rfl
theorem r12:chkKs Tryz.prog hint idl t11 ft11 l12=true:=by kernel_rfl
end Go.Proofs.YtdlaladdeelegaaGreat.Tb
