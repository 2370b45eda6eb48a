/- Known calls, run by the kernel: part 14. -/
import Derived.Test.YtdlaladdeelegaaGreatB0
set_option linter.all false
namespace Go.Proofs.YtdlaladdeelegaaGreat.Tb
open Go Go.Ae
theorem r16:chkKs Tryz.prog hint idl t15 ft15 l16=true:=by kernel_rfl
theorem q16:chkFs Tryz.prog hint idl t15 ft15 fl16=true:=by kernel_rfl
end Go.Proofs.YtdlaladdeelegaaGreat.Tb
