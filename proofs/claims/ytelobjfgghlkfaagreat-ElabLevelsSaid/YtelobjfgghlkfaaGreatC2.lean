/- Known calls, run by the kernel: part 11, 4841 operations. -/
import Derived.Test.YtelobjfgghlkfaaGreatB0
set_option linter.all false
noncomputable section
namespace Go.Proofs.YtelobjfgghlkfaaGreat.Tb
open Go Go.Ae
theorem r11 : chks Tryz.prog hint idl t10 l11 = true := by kernel_rfl
end Go.Proofs.YtelobjfgghlkfaaGreat.Tb
