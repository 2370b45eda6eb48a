/- Known calls, run by the kernel: part 8. -/
import Derived.Test.YtapdblnejhijnaaGreatB0
set_option linter.all false
noncomputable section
namespace Go.Proofs.YtapdblnejhijnaaGreat.Tb
section
open Go Go.Ae
section
theorem r29:ZCM Tryz.prog hint idl t28 ZHr l29=true:=by kernel_rfl
theorem q29:ZEp Tryz.prog hint idl t28 ZHr ZVS=true:=by kernel_rfl
end
section
theorem r30:ZCM Tryz.prog hint idl t29 ZHs l30=true:=by kernel_rfl
theorem q30:ZEp Tryz.prog hint idl t29 ZHs ZVT=true:=by kernel_rfl
end
section
theorem r31:ZCM Tryz.prog hint idl t30 ZHt l31=true:=by kernel_rfl
theorem q31:ZEp Tryz.prog hint idl t30 ZHt ZVU=true:=by kernel_rfl
end
section
theorem r32:ZCM Tryz.prog hint idl t31 ZHu l32=true:=by kernel_rfl
end
end
end Go.Proofs.YtapdblnejhijnaaGreat.Tb
end
