/- Known calls, run by the kernel: part 15. -/
import Derived.Test.YtdlaladdeelegaaGreatB0
set_option linter.all false
namespace Go.Proofs.YtdlaladdeelegaaGreat.Tb
open Go Go.Ae
theorem r17:chkKs Tryz.prog hint idl t16 ft16 l17=true:=by kernel_rfl
theorem q17:chkFs Tryz.prog hint idl t16 ft16 fl17=true:=by kernel_rfl
theorem r18:chkKs Tryz.prog hint idl t17 ft17 l18=true:=by kernel_rfl
theorem r19:chkKs Tryz.prog hint idl t18 ft18 l19=true:=by kernel_rfl
theorem r20:chkKs Tryz.prog hint idl t19 ft19 l20=true:=by kernel_rfl
theorem r21:chkKs Tryz.prog hint idl t20 ft20 l21=true:=by kernel_rfl
theorem r22:chkKs Tryz.prog hint idl t21 ft21 l22=true:=by kernel_rfl
theorem r23:chkKs Tryz.prog hint idl t22 ft22 l23=true:=by kernel_rfl
theorem r24:chkKs Tryz.prog hint idl t23 ft23 l24=true:=by kernel_rfl
theorem r25:chkKs Tryz.prog hint idl t24 ft24 l25=true:=by kernel_rfl
end Go.Proofs.YtdlaladdeelegaaGreat.Tb
