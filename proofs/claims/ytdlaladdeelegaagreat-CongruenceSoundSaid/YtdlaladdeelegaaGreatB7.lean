/- Known calls, run by the kernel: part 7. -/
import Derived.Test.YtdlaladdeelegaaGreatB0
set_option linter.all false
namespace Go.Proofs.YtdlaladdeelegaaGreat.Tb
open Go Go.Ae
theorem r7:chkKs Tryz.prog hint idl t6 ft6 l7=true:=by kernel_rfl
end Go.Proofs.YtdlaladdeelegaaGreat.Tb
