/- Known calls, run by the kernel: part 7, 3649 operations. -/
import Derived.Test.YtelobjfgghlkfaaGreatB0
set_option linter.all false
noncomputable section
namespace Go.Proofs.YtelobjfgghlkfaaGreat.Tb
open Go Go.Ae
theorem r7 : chks Tryz.prog hint idl t6 l7 = true := by kernel_rfl
end Go.Proofs.YtelobjfgghlkfaaGreat.Tb
