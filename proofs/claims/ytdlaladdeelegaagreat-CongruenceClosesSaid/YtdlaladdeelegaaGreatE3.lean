/- Equations of the code. -/
import Derived.Test.YtdlaladdeelegaaGreatE2
import Derived.KernelRfl
set_option linter.all false
noncomputable section
namespace Go.Proofs.YtdlaladdeelegaaGreat.Cg
open Go Go.Ae
variable (dn:List (Nat×Foot)) (s:St)
def k5:Code:=Tryz.f5.body.getD .skip
end Go.Proofs.YtdlaladdeelegaaGreat.Cg
end
noncomputable section
namespace Go.Proofs.YtdlaladdeelegaaGreat.Cg
open Go Go.Ae
variable (dn:List (Nat×Foot)) (s:St)
def k6:Code:=Tryz.f6.body.getD .skip
end Go.Proofs.YtdlaladdeelegaaGreat.Cg
end
