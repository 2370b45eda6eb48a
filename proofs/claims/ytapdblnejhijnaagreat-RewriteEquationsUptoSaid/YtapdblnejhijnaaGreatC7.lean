/- Known calls, run by the kernel: part 7. -/
import Derived.Test.YtapdblnejhijnaaGreatB0
set_option linter.all false
noncomputable section
namespace Go.Proofs.YtapdblnejhijnaaGreat.Tb
section
open Go Go.Ae
section
theorem q25:ZEp Tryz.prog hint idl t24 ZHn ZVP=true:=by kernel_rfl
end
section
theorem r26:ZCM Tryz.prog hint idl t25 ZHo l26=true:=by kernel_rfl
end
section
theorem r27:ZCM Tryz.prog hint idl t26 ZHp l27=true:=by kernel_rfl
theorem q27:ZEp Tryz.prog hint idl t26 ZHp ZVQ=true:=by kernel_rfl
end
section
theorem q28:ZEp Tryz.prog hint idl t27 ZHq ZVR=true:=by kernel_rfl
end
end
end Go.Proofs.YtapdblnejhijnaaGreat.Tb
end
