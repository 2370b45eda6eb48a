/- Known calls, run by the kernel: part 10. -/
import Derived.Test.YtapdblnejhijnaaGreatB0
set_option linter.all false
noncomputable section
namespace Go.Proofs.YtapdblnejhijnaaGreat.Tb
section
open Go Go.Ae
section
theorem q37:ZEp Tryz.prog hint idl t36 ZSH ZVY=true:=by kernel_rfl
end
section
theorem q38:ZEp Tryz.prog hint idl t37 ZSI ZVZ=true:=by kernel_rfl
end
section
theorem r39:ZCM Tryz.prog hint idl t38 ZQc l39=true:=by kernel_rfl
theorem q39:ZEp Tryz.prog hint idl t38 ZQc ZV0=true:=by kernel_rfl
end
section
theorem q40:ZEp Tryz.prog hint idl t39 ZSJ ZV1=true:=by kernel_rfl
end
end
end Go.Proofs.YtapdblnejhijnaaGreat.Tb
end
