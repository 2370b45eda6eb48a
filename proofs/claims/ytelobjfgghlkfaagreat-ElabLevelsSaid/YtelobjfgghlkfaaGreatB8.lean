/- Known calls, run by the kernel: part 8, 2000 operations. -/
import Derived.Test.YtelobjfgghlkfaaGreatB0
set_option linter.all false
noncomputable section
namespace Go.Proofs.YtelobjfgghlkfaaGreat.Tb
open Go Go.Ae
theorem r8 : chks Tryz.prog hint idl t7 l8 = true := by kernel_rfl
end Go.Proofs.YtelobjfgghlkfaaGreat.Tb
