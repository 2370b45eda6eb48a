/- Known calls, run by the kernel: part 19. -/
import Derived.Test.YtdlaladdeelegaaGreatB0
set_option linter.all false
namespace Go.Proofs.YtdlaladdeelegaaGreat.Tb
open Go Go.Ae
theorem r34:chkKs Tryz.prog hint idl t33 ft33 l34=true:=by kernel_rfl
end Go.Proofs.YtdlaladdeelegaaGreat.Tb
