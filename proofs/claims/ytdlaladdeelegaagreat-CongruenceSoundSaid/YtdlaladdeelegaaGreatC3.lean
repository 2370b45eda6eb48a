/- Known calls, run by the kernel: part 12. -/
import Derived.Test.YtdlaladdeelegaaGreatB0
set_option linter.all false
namespace Go.Proofs.YtdlaladdeelegaaGreat.Tb
open Go Go.Ae
theorem r14:chkKs Tryz.prog hint idl t13 ft13 l14=true:=by kernel_rfl
theorem q14:chkFs Tryz.prog hint idl t13 ft13 fl14=true:=by kernel_rfl
end Go.Proofs.YtdlaladdeelegaaGreat.Tb
