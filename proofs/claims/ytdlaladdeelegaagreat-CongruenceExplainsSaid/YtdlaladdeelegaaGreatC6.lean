/- Known calls, run by the kernel: part 15. -/
import Derived.Test.YtdlaladdeelegaaGreatB0
set_option linter.all false
noncomputable section
namespace Go.Proofs.YtdlaladdeelegaaGreat.Tb
section
open Go Go.Ae
section
theorem r17:ZCM Tryz.prog hint idl t16 ZGE l17=true:=by kernel_rfl
theorem q17:ZEp Tryz.prog hint idl t16 ZGE ZIN=true:=by kernel_rfl
theorem r18:ZCM Tryz.prog hint idl t17 ZHg l18=true:=by kernel_rfl
theorem r19:ZCM Tryz.prog hint idl t18 ZHh l19=true:=by kernel_rfl
theorem r20:ZCM Tryz.prog hint idl t19 ZHi l20=true:=by kernel_rfl
theorem r21:ZCM Tryz.prog hint idl t20 ZHj l21=true:=by kernel_rfl
theorem r22:ZCM Tryz.prog hint idl t21 ZHk l22=true:=by kernel_rfl
theorem r23:ZCM Tryz.prog hint idl t22 ZHl l23=true:=by kernel_rfl
theorem r24:ZCM Tryz.prog hint idl t23 ZHm l24=true:=by kernel_rfl
theorem r25:ZCM Tryz.prog hint idl t24 ZHn l25=true:=by kernel_rfl
end
end
end Go.Proofs.YtdlaladdeelegaaGreat.Tb
end
