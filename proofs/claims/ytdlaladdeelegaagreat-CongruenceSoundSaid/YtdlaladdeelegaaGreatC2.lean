/- Known calls, run by the kernel: part 11. -/
import Derived.Test.YtdlaladdeelegaaGreatB0
set_option linter.all false
namespace Go.Proofs.YtdlaladdeelegaaGreat.Tb
open Go Go.Ae
theorem r13:chkKs Tryz.prog hint idl t12 ft12 l13=true:=by kernel_rfl
theorem q13:chkFs Tryz.prog hint idl t12 ft12 fl13=true:=by kernel_rfl
end Go.Proofs.YtdlaladdeelegaaGreat.Tb
