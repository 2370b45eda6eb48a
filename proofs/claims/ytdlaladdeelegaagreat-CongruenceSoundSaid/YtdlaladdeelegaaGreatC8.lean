/- Known calls, run by the kernel: part 17. -/
import Derived.Test.YtdlaladdeelegaaGreatB0
set_option linter.all false
namespace Go.Proofs.YtdlaladdeelegaaGreat.Tb
open Go Go.Ae
theorem r32:chkKs Tryz.prog hint idl t31 ft31 l32=true:=by kernel_rfl
end Go.Proofs.YtdlaladdeelegaaGreat.Tb
