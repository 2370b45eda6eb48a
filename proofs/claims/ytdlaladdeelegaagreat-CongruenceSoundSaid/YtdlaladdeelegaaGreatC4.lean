/- Known calls, run by the kernel: part 13. -/
import Derived.Test.YtdlaladdeelegaaGreatB0
set_option linter.all false
namespace Go.Proofs.YtdlaladdeelegaaGreat.Tb
open Go Go.Ae
theorem r15:chkKs Tryz.prog hint idl t14 ft14 l15=true:=by kernel_rfl
theorem q15:chkFs Tryz.prog hint idl t14 ft14 fl15=true:=by kernel_rfl
end Go.Proofs.YtdlaladdeelegaaGreat.Tb
