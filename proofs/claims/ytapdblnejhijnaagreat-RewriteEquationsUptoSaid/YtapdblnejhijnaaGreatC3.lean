/- Known calls, run by the kernel: part 3. -/
import Derived.Test.YtapdblnejhijnaaGreatB0
set_option linter.all false
noncomputable section
namespace Go.Proofs.YtapdblnejhijnaaGreat.Tb
section
open Go Go.Ae
section
theorem r9:ZCM Tryz.prog hint idl t8 ft8 l9=true:=by kernel_rfl
theorem q9:ZEp Tryz.prog hint idl t8 ft8 fl9=true:=by kernel_rfl
end
section
theorem r10:ZCM Tryz.prog hint idl t9 ft9 l10=true:=by kernel_rfl
theorem q10:ZEp Tryz.prog hint idl t9 ft9 ZIH=true:=by kernel_rfl
end
section
theorem r11:ZCM Tryz.prog hint idl t10 ZGz l11=true:=by kernel_rfl
theorem q11:ZEp Tryz.prog hint idl t10 ZGz ZII=true:=by kernel_rfl
end
section
theorem r12:ZCM Tryz.prog hint idl t11 ZHf l12=true:=by kernel_rfl
theorem q12:ZEp Tryz.prog hint idl t11 ZHf ZVI=true:=by kernel_rfl
end
end
end Go.Proofs.YtapdblnejhijnaaGreat.Tb
end
