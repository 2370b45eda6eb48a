/- Known calls, run by the kernel: part 5, 3560 operations. -/
import Derived.Test.YtelobjfgghlkfaaGreatB0
set_option linter.all false
noncomputable section
namespace Go.Proofs.YtelobjfgghlkfaaGreat.Tb
open Go Go.Ae
theorem r5 : chks Tryz.prog hint idl t4 l5 = true := by kernel_rfl
end Go.Proofs.YtelobjfgghlkfaaGreat.Tb
