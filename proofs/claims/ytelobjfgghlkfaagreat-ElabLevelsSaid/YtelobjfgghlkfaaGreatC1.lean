/- Known calls, run by the kernel: part 10, 2542 operations. -/
import Derived.Test.YtelobjfgghlkfaaGreatB0
set_option linter.all false
noncomputable section
namespace Go.Proofs.YtelobjfgghlkfaaGreat.Tb
open Go Go.Ae
theorem r10 : chks Tryz.prog hint idl t9 l10 = true := by kernel_rfl
end Go.Proofs.YtelobjfgghlkfaaGreat.Tb
