/- Known calls, run by the kernel: part 8. -/
import Derived.Test.YtdlaladdeelegaaGreatB0
set_option linter.all false
namespace Go.Proofs.YtdlaladdeelegaaGreat.Tb
open Go Go.Ae
theorem r8:chkKs Tryz.prog hint idl t7 ft7 l8=true:=by kernel_rfl
theorem q8:chkFs Tryz.prog hint idl t7 ft7 fl8=true:=by kernel_rfl
end Go.Proofs.YtdlaladdeelegaaGreat.Tb
