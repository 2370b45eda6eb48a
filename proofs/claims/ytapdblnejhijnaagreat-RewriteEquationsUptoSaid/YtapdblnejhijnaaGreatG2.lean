/- Guards return. -/
import Derived.Test.YtapdblnejhijnaaGreatF4
set_option linter.all false
noncomputable section
namespace Go.Proofs.YtapdblnejhijnaaGreat.Eq
section
open Go Go.Ae
section
theorem Z00:ZGR Tryz.prog KD hint0 ZUp ZGS 200 ZWx=true:=by kernel_rfl
end
section
theorem Z1d:ZGR Tryz.prog KD hint0 ZUq ZGS 200 ZWJ=true:=by kernel_rfl
theorem Z09:ZGR Tryz.prog KD hint0 ZUC ZGS 200 ZWF=true:=by kernel_rfl
theorem Z1c:ZGR Tryz.prog KD hint0 ZUD ZGS 200 ZWI=true:=by kernel_rfl
end
section
theorem Z1a:ZGR Tryz.prog KD hint0 (outT [72,130] ZUz) ZGS 200 ZWG=true:=by kernel_rfl
end
end
end Go.Proofs.YtapdblnejhijnaaGreat.Eq
end
