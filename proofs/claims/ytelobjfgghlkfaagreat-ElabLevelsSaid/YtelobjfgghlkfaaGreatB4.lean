/- Known calls, run by the kernel: part 4, 2572 operations. -/
import Derived.Test.YtelobjfgghlkfaaGreatB0
set_option linter.all false
noncomputable section
namespace Go.Proofs.YtelobjfgghlkfaaGreat.Tb
open Go Go.Ae
theorem r4 : chks Tryz.prog hint idl t3 l4 = true := by kernel_rfl
end Go.Proofs.YtelobjfgghlkfaaGreat.Tb
