/- Known calls, run by the kernel: part 4. -/
import Derived.Test.YtdlaladdeelegaaGreatB0
set_option linter.all false
namespace Go.Proofs.YtdlaladdeelegaaGreat.Tb
open Go Go.Ae
theorem r4:chkKs Tryz.prog hint idl t3 ft3 l4=true:=by kernel_rfl
end Go.Proofs.YtdlaladdeelegaaGreat.Tb
