/- Guards return. -/
import Derived.Test.YtapdblnejhijnaaGreatF4
set_option linter.all false
noncomputable section
namespace Go.Proofs.YtapdblnejhijnaaGreat.Eq
section
open Go Go.Ae
section
theorem Z02:ZGR Tryz.prog KD hint0 (outT [129] ZUA) ZGS 200 ZWz=true:=by kernel_rfl
end
section
theorem Z01:ZGR Tryz.prog KD hint0 ZUs ZGS 200 ZWy=true:=by kernel_rfl
theorem Z1i:ZGR Tryz.prog KD hint0 ZUr ZGS 200 g77=true:=by kernel_rfl
end
section
theorem Z1f:ZGR Tryz.prog KD hint0 ZUI ZGS 200 g34=true:=by kernel_rfl
theorem Z0U:ZGR Tryz.prog KD hint0 ZUF ZGS 200 g11=true:=by kernel_rfl
theorem kg4:ZGR Tryz.prog KD hint0 ZUk ZGS 200 g4=true:=by kernel_rfl
theorem kg5:ZGR Tryz.prog KD hint0 tg4 ZGS 200 g5=true:=by kernel_rfl
end
end
end Go.Proofs.YtapdblnejhijnaaGreat.Eq
end
