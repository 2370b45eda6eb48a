/- Known calls, run by the kernel: part 2, 2468 operations. -/
import Derived.Test.YtelobjfgghlkfaaGreatB0
set_option linter.all false
noncomputable section
namespace Go.Proofs.YtelobjfgghlkfaaGreat.Tb
open Go Go.Ae
theorem r2 : chks Tryz.prog hint idl t1 l2 = true := by kernel_rfl
end Go.Proofs.YtelobjfgghlkfaaGreat.Tb
