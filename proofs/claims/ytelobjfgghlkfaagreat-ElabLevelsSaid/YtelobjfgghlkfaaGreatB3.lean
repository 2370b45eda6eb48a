/- Known calls, run by the kernel: part 3, 4997 operations. -/
import Derived.Test.YtelobjfgghlkfaaGreatB0
set_option linter.all false
noncomputable section
namespace Go.Proofs.YtelobjfgghlkfaaGreat.Tb
open Go Go.Ae
theorem r3 : chks Tryz.prog hint idl t2 l3 = true := by kernel_rfl
end Go.Proofs.YtelobjfgghlkfaaGreat.Tb
