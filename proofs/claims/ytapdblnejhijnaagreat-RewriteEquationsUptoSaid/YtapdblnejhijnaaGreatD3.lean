/- Known calls, run by the kernel: part 12. -/
import Derived.Test.YtapdblnejhijnaaGreatB0
set_option linter.all false
noncomputable section
namespace Go.Proofs.YtapdblnejhijnaaGreat.Tb
section
open Go Go.Ae
section
theorem q45:ZEp Tryz.prog hint idl t44 ZSN ZV6=true:=by kernel_rfl
end
section
theorem r46:ZCM Tryz.prog hint idl t45 ZQe l46=true:=by kernel_rfl
theorem q46:ZEp Tryz.prog hint idl t45 ZQe ZV7=true:=by kernel_rfl
end
section
theorem q47:ZEp Tryz.prog hint idl t46 ZSO ZV8=true:=by kernel_rfl
end
section
theorem r48:ZCM Tryz.prog hint idl t47 ZQf l48=true:=by kernel_rfl
theorem q48:ZEp Tryz.prog hint idl t47 ZQf ZV9=true:=by kernel_rfl
end
end
end Go.Proofs.YtapdblnejhijnaaGreat.Tb
end
