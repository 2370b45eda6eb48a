/- Known calls, run by the kernel: part 5. -/
import Derived.Test.YtdlaladdeelegaaGreatB0
set_option linter.all false
namespace Go.Proofs.YtdlaladdeelegaaGreat.Tb
open Go Go.Ae
theorem r5:chkKs Tryz.prog hint idl t4 ft4 l5=true:=by kernel_rfl
end Go.Proofs.YtdlaladdeelegaaGreat.Tb
