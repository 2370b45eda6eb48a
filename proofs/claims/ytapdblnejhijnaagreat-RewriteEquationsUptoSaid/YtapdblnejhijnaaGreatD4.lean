/- Known calls, run by the kernel: part 13. -/
import Derived.Test.YtapdblnejhijnaaGreatB0
set_option linter.all false
noncomputable section
namespace Go.Proofs.YtapdblnejhijnaaGreat.Tb
section
open Go Go.Ae
section
theorem q49:ZEp Tryz.prog hint idl t48 ZSP ZWa=true:=by kernel_rfl
end
section
theorem r50:ZCM Tryz.prog hint idl t49 ZQg l50=true:=by kernel_rfl
theorem q50:ZEp Tryz.prog hint idl t49 ZQg ZWb=true:=by kernel_rfl
end
section
theorem r51:ZCM Tryz.prog hint idl t50 ZQh l51=true:=by kernel_rfl
theorem q51:ZEp Tryz.prog hint idl t50 ZQh ZWc=true:=by kernel_rfl
theorem r52:ZCM Tryz.prog hint idl t51 ZQi l52=true:=by kernel_rfl
theorem q52:ZEp Tryz.prog hint idl t51 ZQi ZWd=true:=by kernel_rfl
theorem r53:ZCM Tryz.prog hint idl t52 ZSQ l53=true:=by kernel_rfl
theorem r54:ZCM Tryz.prog hint idl t53 ZSR l54=true:=by kernel_rfl
end
section
theorem r55:ZCM Tryz.prog hint idl t54 ZSS l55=true:=by kernel_rfl
end
end
end Go.Proofs.YtapdblnejhijnaaGreat.Tb
end
