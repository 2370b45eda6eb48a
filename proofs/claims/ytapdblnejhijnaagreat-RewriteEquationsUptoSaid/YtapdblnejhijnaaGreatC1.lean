/- Known calls, run by the kernel: part 1. -/
import Derived.Test.YtapdblnejhijnaaGreatB0
set_option linter.all false
noncomputable section
namespace Go.Proofs.YtapdblnejhijnaaGreat.Tb
section
open Go Go.Ae
section
theorem r1:ZCM Tryz.prog hint idl t0 ft0 l1=true:=by kernel_rfl
end
section
theorem r2:ZCM Tryz.prog hint idl t1 ft1 l2=true:=by kernel_rfl
end
section
theorem r3:ZCM Tryz.prog hint idl t2 ft2 l3=true:=by kernel_rfl
end
section
theorem q4:ZEp Tryz.prog hint idl t3 ft3 fl4=true:=by kernel_rfl
end
end
end Go.Proofs.YtapdblnejhijnaaGreat.Tb
end
