/- Known calls, run by the kernel: part 5. -/
import Derived.Test.YtapdblnejhijnaaGreatB0
set_option linter.all false
noncomputable section
namespace Go.Proofs.YtapdblnejhijnaaGreat.Tb
section
open Go Go.Ae
section
theorem q17:ZEp Tryz.prog hint idl t16 ZGE ZIN=true:=by kernel_rfl
end
section
theorem q18:ZEp Tryz.prog hint idl t17 ZHg ZVJ=true:=by kernel_rfl
end
section
theorem q19:ZEp Tryz.prog hint idl t18 ZHh ZVK=true:=by kernel_rfl
end
section
theorem q20:ZEp Tryz.prog hint idl t19 ZHi ZVL=true:=by kernel_rfl
end
end
end Go.Proofs.YtapdblnejhijnaaGreat.Tb
end
