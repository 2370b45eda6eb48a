/- Known calls, run by the kernel: part 2. -/
import Derived.Test.YtapdblnejhijnaaGreatB0
set_option linter.all false
noncomputable section
namespace Go.Proofs.YtapdblnejhijnaaGreat.Tb
section
open Go Go.Ae
section
theorem r5:ZCM Tryz.prog hint idl t4 ft4 l5=true:=by kernel_rfl
end
section
theorem q6:ZEp Tryz.prog hint idl t5 ft5 fl6=true:=by kernel_rfl
end
section
theorem r7:ZCM Tryz.prog hint idl t6 ft6 l7=true:=by kernel_rfl
end
section
theorem q8:ZEp Tryz.prog hint idl t7 ft7 fl8=true:=by kernel_rfl
end
end
end Go.Proofs.YtapdblnejhijnaaGreat.Tb
end
