/- Known calls, run by the kernel: part 4. -/
import Derived.Test.YtapdblnejhijnaaGreatB0
set_option linter.all false
noncomputable section
namespace Go.Proofs.YtapdblnejhijnaaGreat.Tb
section
open Go Go.Ae
section
theorem r13:ZCM Tryz.prog hint idl t12 ZGA l13=true:=by kernel_rfl
theorem q13:ZEp Tryz.prog hint idl t12 ZGA ZIJ=true:=by kernel_rfl
end
section
theorem r14:ZCM Tryz.prog hint idl t13 ZGB l14=true:=by kernel_rfl
theorem q14:ZEp Tryz.prog hint idl t13 ZGB ZIK=true:=by kernel_rfl
end
section
theorem q15:ZEp Tryz.prog hint idl t14 ZGC ZIL=true:=by kernel_rfl
end
section
theorem q16:ZEp Tryz.prog hint idl t15 ZGD ZIM=true:=by kernel_rfl
end
end
end Go.Proofs.YtapdblnejhijnaaGreat.Tb
end
