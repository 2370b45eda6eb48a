/- Known calls, run by the kernel: part 2. -/
import Derived.Test.YtdlaladdeelegaaGreatB0
set_option linter.all false
namespace Go.Proofs.YtdlaladdeelegaaGreat.Tb
open Go Go.Ae
theorem r2:chkKs Tryz.prog hint idl t1 ft1 l2=true:=by kernel_rfl
end Go.Proofs.YtdlaladdeelegaaGreat.Tb
