/- Known calls, run by the kernel: part 9. -/
import Derived.Test.YtdlaladdeelegaaGreatB0
set_option linter.all false
namespace Go.Proofs.YtdlaladdeelegaaGreat.Tb
open Go Go.Ae
theorem r9:chkKs Tryz.prog hint idl t8 ft8 l9=true:=by kernel_rfl
end Go.Proofs.YtdlaladdeelegaaGreat.Tb
