/- Known calls, run by the kernel: part 6, 4301 operations. -/
import Derived.Test.YtelobjfgghlkfaaGreatB0
set_option linter.all false
noncomputable section
namespace Go.Proofs.YtelobjfgghlkfaaGreat.Tb
open Go Go.Ae
theorem r6 : chks Tryz.prog hint idl t5 l6 = true := by kernel_rfl
end Go.Proofs.YtelobjfgghlkfaaGreat.Tb
