/- Known calls, run by the kernel: part 9, 2478 operations. -/
import Derived.Test.YtelobjfgghlkfaaGreatB0
set_option linter.all false
noncomputable section
namespace Go.Proofs.YtelobjfgghlkfaaGreat.Tb
open Go Go.Ae
theorem r9 : chks Tryz.prog hint idl t8 l9 = true := by kernel_rfl
end Go.Proofs.YtelobjfgghlkfaaGreat.Tb
