/- Known calls, run by the kernel: part 10. -/
import Derived.Test.YtdlaladdeelegaaGreatB0
set_option linter.all false
noncomputable section
namespace Go.Proofs.YtdlaladdeelegaaGreat.Tb
section
open Go Go.Ae
section
theorem r10:ZCM Tryz.prog hint idl t9 ft9 l10=true:=by kernel_rfl
theorem q10:ZEp Tryz.prog hint idl t9 ft9 ZIH=true:=by kernel_rfl
theorem r11:ZCM Tryz.prog hint idl t10 ZGz l11=true:=by kernel_rfl
theorem q11:ZEp Tryz.prog hint idl t10 ZGz ZII=true:=by kernel_rfl
theorem r12:ZCM Tryz.prog hint idl t11 ZHf l12=true:=by kernel_rfl
end
end
end Go.Proofs.YtdlaladdeelegaaGreat.Tb
end
