/- Known calls, run by the kernel: part 1, 4488 operations. -/
import Derived.Test.YtelobjfgghlkfaaGreatB0
set_option linter.all false
noncomputable section
namespace Go.Proofs.YtelobjfgghlkfaaGreat.Tb
open Go Go.Ae
theorem r1 : chks Tryz.prog hint idl t0 l1 = true := by kernel_rfl
end Go.Proofs.YtelobjfgghlkfaaGreat.Tb
