/- Known calls, run by the kernel: part 3. -/
import Derived.Test.YtdlaladdeelegaaGreatB0
set_option linter.all false
namespace Go.Proofs.YtdlaladdeelegaaGreat.Tb
open Go Go.Ae
theorem r3:chkKs Tryz.prog hint idl t2 ft2 l3=true:=by kernel_rfl
end Go.Proofs.YtdlaladdeelegaaGreat.Tb
