/- Known calls, run by the kernel: part 18. -/
import Derived.Test.YtdlaladdeelegaaGreatB0
set_option linter.all false
namespace Go.Proofs.YtdlaladdeelegaaGreat.Tb
open Go Go.Ae
theorem r33:chkKs Tryz.prog hint idl t32 ft32 l33=true:=by kernel_rfl
end Go.Proofs.YtdlaladdeelegaaGreat.Tb
