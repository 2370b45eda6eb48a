/- Known calls, run by the kernel: part 6. -/
import Derived.Test.YtapdblnejhijnaaGreatB0
set_option linter.all false
noncomputable section
namespace Go.Proofs.YtapdblnejhijnaaGreat.Tb
section
open Go Go.Ae
section
theorem r21:ZCM Tryz.prog hint idl t20 ZHj l21=true:=by kernel_rfl
theorem q21:ZEp Tryz.prog hint idl t20 ZHj ZVM=true:=by kernel_rfl
end
section
theorem r22:ZCM Tryz.prog hint idl t21 ZHk l22=true:=by kernel_rfl
end
section
theorem r23:ZCM Tryz.prog hint idl t22 ZHl l23=true:=by kernel_rfl
theorem q23:ZEp Tryz.prog hint idl t22 ZHl ZVN=true:=by kernel_rfl
end
section
theorem r24:ZCM Tryz.prog hint idl t23 ZHm l24=true:=by kernel_rfl
theorem q24:ZEp Tryz.prog hint idl t23 ZHm ZVO=true:=by kernel_rfl
end
end
end Go.Proofs.YtapdblnejhijnaaGreat.Tb
end
