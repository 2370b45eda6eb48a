/- Known calls, run by the kernel: part 12, 3701 operations. -/
import Derived.Test.YtelobjfgghlkfaaGreatB0
set_option linter.all false
noncomputable section
namespace Go.Proofs.YtelobjfgghlkfaaGreat.Tb
open Go Go.Ae
theorem r12 : chks Tryz.prog hint idl t11 l12 = true := by kernel_rfl
end Go.Proofs.YtelobjfgghlkfaaGreat.Tb
