/- Known calls, run by the kernel: part 1. -/
import Derived.Test.YtdlaladdeelegaaGreatB0
set_option linter.all false
namespace Go.Proofs.YtdlaladdeelegaaGreat.Tb
open Go Go.Ae
theorem q1:chkFs Tryz.prog hint idl t0 ft0 fl1=true:=by kernel_rfl
end Go.Proofs.YtdlaladdeelegaaGreat.Tb
