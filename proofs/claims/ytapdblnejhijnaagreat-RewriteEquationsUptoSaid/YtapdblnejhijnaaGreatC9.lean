/- Known calls, run by the kernel: part 9. -/
import Derived.Test.YtapdblnejhijnaaGreatB0
set_option linter.all false
noncomputable section
namespace Go.Proofs.YtapdblnejhijnaaGreat.Tb
section
open Go Go.Ae
section
theorem r33:ZCM Tryz.prog hint idl t32 ZHv l33=true:=by kernel_rfl
end
section
theorem q34:ZEp Tryz.prog hint idl t33 ZHw ZVV=true:=by kernel_rfl
end
section
theorem r35:ZCM Tryz.prog hint idl t34 ZQa l35=true:=by kernel_rfl
theorem q35:ZEp Tryz.prog hint idl t34 ZQa ZVW=true:=by kernel_rfl
end
section
theorem r36:ZCM Tryz.prog hint idl t35 ZQb l36=true:=by kernel_rfl
theorem q36:ZEp Tryz.prog hint idl t35 ZQb ZVX=true:=by kernel_rfl
end
end
end Go.Proofs.YtapdblnejhijnaaGreat.Tb
end
