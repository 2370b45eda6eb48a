/- Known calls, run by the kernel: part 6. -/
import Derived.Test.YtdlaladdeelegaaGreatB0
set_option linter.all false
namespace Go.Proofs.YtdlaladdeelegaaGreat.Tb
open Go Go.Ae
theorem r6:chkKs Tryz.prog hint idl t5 ft5 l6=true:=by kernel_rfl
end Go.Proofs.YtdlaladdeelegaaGreat.Tb
