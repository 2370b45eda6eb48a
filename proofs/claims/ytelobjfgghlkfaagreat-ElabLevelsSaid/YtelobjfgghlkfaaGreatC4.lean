/- Known calls, run by the kernel: part 13, 296 operations. -/
import Derived.Test.YtelobjfgghlkfaaGreatB0
set_option linter.all false
noncomputable section
namespace Go.Proofs.YtelobjfgghlkfaaGreat.Tb
open Go Go.Ae
theorem r13 : chks Tryz.prog hint idl t12 l13 = true := by kernel_rfl
end Go.Proofs.YtelobjfgghlkfaaGreat.Tb
