/- Known calls, run by the kernel: part 11. -/
import Derived.Test.YtapdblnejhijnaaGreatB0
set_option linter.all false
noncomputable section
namespace Go.Proofs.YtapdblnejhijnaaGreat.Tb
section
open Go Go.Ae
section
theorem q41:ZEp Tryz.prog hint idl t40 ZSK ZV2=true:=by kernel_rfl
end
section
theorem q42:ZEp Tryz.prog hint idl t41 ZSL ZV3=true:=by kernel_rfl
end
section
theorem r43:ZCM Tryz.prog hint idl t42 ZQd l43=true:=by kernel_rfl
theorem q43:ZEp Tryz.prog hint idl t42 ZQd ZV4=true:=by kernel_rfl
end
section
theorem q44:ZEp Tryz.prog hint idl t43 ZSM ZV5=true:=by kernel_rfl
end
end
end Go.Proofs.YtapdblnejhijnaaGreat.Tb
end
