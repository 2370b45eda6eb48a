/- The table of known calls is so. -/
import Derived.Test.YtdlaladdeelegaaGreatB1
import Derived.Test.YtdlaladdeelegaaGreatB2
import Derived.Test.YtdlaladdeelegaaGreatB3
import Derived.Test.YtdlaladdeelegaaGreatB4
import Derived.Test.YtdlaladdeelegaaGreatB5
import Derived.Test.YtdlaladdeelegaaGreatB6
import Derived.Test.YtdlaladdeelegaaGreatB7
import Derived.Test.YtdlaladdeelegaaGreatB8
import Derived.Test.YtdlaladdeelegaaGreatB9
import Derived.Test.YtdlaladdeelegaaGreatC1
import Derived.Test.YtdlaladdeelegaaGreatC2
import Derived.Test.YtdlaladdeelegaaGreatC3
import Derived.Test.YtdlaladdeelegaaGreatC4
import Derived.Test.YtdlaladdeelegaaGreatC5
import Derived.Test.YtdlaladdeelegaaGreatC6
import Derived.Test.YtdlaladdeelegaaGreatC7
import Derived.Test.YtdlaladdeelegaaGreatC8
import Derived.Test.YtdlaladdeelegaaGreatC9
import Derived.Test.YtdlaladdeelegaaGreatD1
set_option linter.all false
noncomputable section
namespace Go.Proofs.YtdlaladdeelegaaGreat.Tb
section
open Go Go.Ae
section
theorem zY:idl.all (ZEM Tryz.prog)=true:=by kernel_rfl
def ZJP:Bool:=Tryz.prog.funcs.toList.all fun fn=> !(fn.name== "runtime.NumGoroutine")
theorem zXU:ZJP=true:=by kernel_rfl
theorem zX (f:FuncId) (fn:Func) (h:Tryz.prog.funcs[f]?=some fn):(fn.name== "runtime.NumGoroutine")=false:=by
 have h1:=List.all_eq_true.1 zXU fn (Array.mem_toList_iff.2 (Array.mem_of_getElem? h))
 simpa using h1
theorem ok0:ZCw Tryz.prog t0:=zY5
theorem ZJG:ZCF Tryz.prog ft0:=zQP
theorem ok1:ZCw Tryz.prog t1:=ok0
theorem ZIP:ZCF Tryz.prog ft1:=zbF zY zX ok0 ZJG q1
theorem ok2:ZCw Tryz.prog t2:=Zv zY zX ok1 ZIP r2
theorem ZI0:ZCF Tryz.prog ft2:=ZIP
theorem ok3:ZCw Tryz.prog t3:=Zv zY zX ok2 ZI0 r3
theorem ZJb:ZCF Tryz.prog ft3:=ZI0
theorem ok4:ZCw Tryz.prog t4:=Zv zY zX ok3 ZJb r4
theorem ZJg:ZCF Tryz.prog ft4:=ZJb
theorem ok5:ZCw Tryz.prog t5:=Zv zY zX ok4 ZJg r5
theorem ZJh:ZCF Tryz.prog ft5:=ZJg
theorem ok6:ZCw Tryz.prog t6:=Zv zY zX ok5 ZJh r6
theorem ZJi:ZCF Tryz.prog ft6:=ZJh
theorem ok7:ZCw Tryz.prog t7:=Zv zY zX ok6 ZJi r7
theorem ZJj:ZCF Tryz.prog ft7:=ZJi
theorem ok8:ZCw Tryz.prog t8:=Zv zY zX ok7 ZJj r8
theorem ZJk:ZCF Tryz.prog ft8:=zbF zY zX ok7 ZJj q8
theorem ok9:ZCw Tryz.prog t9:=Zv zY zX ok8 ZJk r9
theorem ZJl:ZCF Tryz.prog ft9:=ZJk
theorem ZJp:ZCw Tryz.prog t10:=Zv zY zX ok9 ZJl r10
theorem ZIQ:ZCF Tryz.prog ZGz:=zbF zY zX ok9 ZJl q10
theorem ZJQ:ZCw Tryz.prog t11:=Zv zY zX ZJp ZIQ r11
theorem ZIR:ZCF Tryz.prog ZHf:=zbF zY zX ZJp ZIQ q11
theorem ZJq:ZCw Tryz.prog t12:=Zv zY zX ZJQ ZIR r12
theorem ZIS:ZCF Tryz.prog ZGA:=ZIR
theorem ZJr:ZCw Tryz.prog t13:=Zv zY zX ZJq ZIS r13
theorem ZIT:ZCF Tryz.prog ZGB:=zbF zY zX ZJq ZIS q13
theorem ZJs:ZCw Tryz.prog t14:=Zv zY zX ZJr ZIT r14
theorem ZIU:ZCF Tryz.prog ZGC:=zbF zY zX ZJr ZIT q14
theorem ZJt:ZCw Tryz.prog t15:=Zv zY zX ZJs ZIU r15
theorem ZIV:ZCF Tryz.prog ZGD:=zbF zY zX ZJs ZIU q15
theorem ok16:ZCw Tryz.prog t16:=Zv zY zX ZJt ZIV r16
theorem ZIW:ZCF Tryz.prog ZGE:=zbF zY zX ZJt ZIV q16
theorem ZJR:ZCw Tryz.prog t17:=Zv zY zX ok16 ZIW r17
theorem ZIX:ZCF Tryz.prog ZHg:=zbF zY zX ok16 ZIW q17
theorem ZJS:ZCw Tryz.prog t18:=Zv zY zX ZJR ZIX r18
theorem ZIY:ZCF Tryz.prog ZHh:=ZIX
theorem ZJT:ZCw Tryz.prog t19:=Zv zY zX ZJS ZIY r19
theorem ZIZ:ZCF Tryz.prog ZHi:=ZIY
theorem ZJU:ZCw Tryz.prog t20:=Zv zY zX ZJT ZIZ r20
theorem ZI1:ZCF Tryz.prog ZHj:=ZIZ
theorem ZJV:ZCw Tryz.prog t21:=Zv zY zX ZJU ZI1 r21
theorem ZI2:ZCF Tryz.prog ZHk:=ZI1
theorem ZJW:ZCw Tryz.prog t22:=Zv zY zX ZJV ZI2 r22
theorem ZI3:ZCF Tryz.prog ZHl:=ZI2
theorem ZJX:ZCw Tryz.prog t23:=Zv zY zX ZJW ZI3 r23
theorem ZI4:ZCF Tryz.prog ZHm:=ZI3
theorem ZJY:ZCw Tryz.prog t24:=Zv zY zX ZJX ZI4 r24
theorem ZI5:ZCF Tryz.prog ZHn:=ZI4
theorem ZJZ:ZCw Tryz.prog t25:=Zv zY zX ZJY ZI5 r25
theorem ZI6:ZCF Tryz.prog ZHo:=ZI5
theorem ZJ0:ZCw Tryz.prog t26:=Zv zY zX ZJZ ZI6 r26
theorem ZI7:ZCF Tryz.prog ZHp:=ZI6
theorem ZGZ:ZCw Tryz.prog t27:=Zv zY zX ZJ0 ZI7 r27
theorem ZI8:ZCF Tryz.prog ZHq:=ZI7
theorem ZJ1:ZCw Tryz.prog t28:=Zv zY zX ZGZ ZI8 r28
theorem ZI9:ZCF Tryz.prog ZHr:=ZI8
theorem ZJ2:ZCw Tryz.prog t29:=Zv zY zX ZJ1 ZI9 r29
theorem ZJa:ZCF Tryz.prog ZHs:=ZI9
theorem ZJ3:ZCw Tryz.prog t30:=Zv zY zX ZJ2 ZJa r30
theorem ZJc:ZCF Tryz.prog ZHt:=ZJa
theorem ZJ4:ZCw Tryz.prog t31:=Zv zY zX ZJ3 ZJc r31
theorem ZJd:ZCF Tryz.prog ZHu:=ZJc
theorem ok32:ZCw Tryz.prog t32:=Zv zY zX ZJ4 ZJd r32
theorem ZJe:ZCF Tryz.prog ZHv:=ZJd
theorem ZJ5:ZCw Tryz.prog t33:=Zv zY zX ok32 ZJe r33
theorem ZJf:ZCF Tryz.prog ZHw:=ZJe
theorem ZJ6:ZCw Tryz.prog t34:=Zv zY zX ZJ5 ZJf r34
end
end
end Go.Proofs.YtdlaladdeelegaaGreat.Tb
end
