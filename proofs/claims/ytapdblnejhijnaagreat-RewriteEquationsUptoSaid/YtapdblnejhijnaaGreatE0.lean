/- The table of known calls is so. -/
import Derived.Test.YtapdblnejhijnaaGreatC1
import Derived.Test.YtapdblnejhijnaaGreatC2
import Derived.Test.YtapdblnejhijnaaGreatC3
import Derived.Test.YtapdblnejhijnaaGreatC4
import Derived.Test.YtapdblnejhijnaaGreatC5
import Derived.Test.YtapdblnejhijnaaGreatC6
import Derived.Test.YtapdblnejhijnaaGreatC7
import Derived.Test.YtapdblnejhijnaaGreatC8
import Derived.Test.YtapdblnejhijnaaGreatC9
import Derived.Test.YtapdblnejhijnaaGreatD1
import Derived.Test.YtapdblnejhijnaaGreatD2
import Derived.Test.YtapdblnejhijnaaGreatD3
import Derived.Test.YtapdblnejhijnaaGreatD4
set_option linter.all false
noncomputable section
namespace Go.Proofs.YtapdblnejhijnaaGreat.Tb
section
open Go Go.Ae
section
theorem zY:idl.all (ZEM Tryz.prog)=true:=by kernel_rfl
def ZJP:Bool:=Tryz.prog.funcs.toList.all fun fn=> !(fn.name== "runtime.NumGoroutine")
theorem zXU:ZJP=true:=by kernel_rfl
theorem zX (f:FuncId) (fn:Func) (h:Tryz.prog.funcs[f]?=some fn):(fn.name== "runtime.NumGoroutine")=false:=by
 have h1:=List.all_eq_true.1 zXU fn (Array.mem_toList_iff.2 (Array.mem_of_getElem? h))
 simpa using h1
theorem ok0:ZCw Tryz.prog t0:=zY5
theorem ZJG:ZCF Tryz.prog ft0:=zQP
theorem ok1:ZCw Tryz.prog t1:=Zv zY zX ok0 ZJG r1
theorem ZIP:ZCF Tryz.prog ft1:=ZJG
theorem ok2:ZCw Tryz.prog t2:=Zv zY zX ok1 ZIP r2
theorem ZI0:ZCF Tryz.prog ft2:=ZIP
theorem ok3:ZCw Tryz.prog t3:=Zv zY zX ok2 ZI0 r3
theorem ZJb:ZCF Tryz.prog ft3:=ZI0
theorem ok4:ZCw Tryz.prog t4:=ok3
theorem ZJg:ZCF Tryz.prog ft4:=zbF zY zX ok3 ZJb q4
theorem ok5:ZCw Tryz.prog t5:=Zv zY zX ok4 ZJg r5
theorem ZJh:ZCF Tryz.prog ft5:=ZJg
theorem ok6:ZCw Tryz.prog t6:=ok5
theorem ZJi:ZCF Tryz.prog ft6:=zbF zY zX ok5 ZJh q6
theorem ok7:ZCw Tryz.prog t7:=Zv zY zX ok6 ZJi r7
theorem ZJj:ZCF Tryz.prog ft7:=ZJi
theorem ok8:ZCw Tryz.prog t8:=ok7
theorem ZJk:ZCF Tryz.prog ft8:=zbF zY zX ok7 ZJj q8
theorem ok9:ZCw Tryz.prog t9:=Zv zY zX ok8 ZJk r9
theorem ZJl:ZCF Tryz.prog ft9:=zbF zY zX ok8 ZJk q9
theorem ZJp:ZCw Tryz.prog t10:=Zv zY zX ok9 ZJl r10
theorem ZIQ:ZCF Tryz.prog ZGz:=zbF zY zX ok9 ZJl q10
theorem ZJQ:ZCw Tryz.prog t11:=Zv zY zX ZJp ZIQ r11
theorem ZIR:ZCF Tryz.prog ZHf:=zbF zY zX ZJp ZIQ q11
theorem ZJq:ZCw Tryz.prog t12:=Zv zY zX ZJQ ZIR r12
theorem ZIS:ZCF Tryz.prog ZGA:=zbF zY zX ZJQ ZIR q12
theorem ZJr:ZCw Tryz.prog t13:=Zv zY zX ZJq ZIS r13
theorem ZIT:ZCF Tryz.prog ZGB:=zbF zY zX ZJq ZIS q13
theorem ZJs:ZCw Tryz.prog t14:=Zv zY zX ZJr ZIT r14
theorem ZIU:ZCF Tryz.prog ZGC:=zbF zY zX ZJr ZIT q14
theorem ZJt:ZCw Tryz.prog t15:=ZJs
theorem ZIV:ZCF Tryz.prog ZGD:=zbF zY zX ZJs ZIU q15
theorem ok16:ZCw Tryz.prog t16:=ZJt
theorem ZIW:ZCF Tryz.prog ZGE:=zbF zY zX ZJt ZIV q16
theorem ZJR:ZCw Tryz.prog t17:=ok16
theorem ZIX:ZCF Tryz.prog ZHg:=zbF zY zX ok16 ZIW q17
theorem ZJS:ZCw Tryz.prog t18:=ZJR
theorem ZIY:ZCF Tryz.prog ZHh:=zbF zY zX ZJR ZIX q18
theorem ZJT:ZCw Tryz.prog t19:=ZJS
theorem ZIZ:ZCF Tryz.prog ZHi:=zbF zY zX ZJS ZIY q19
theorem ZJU:ZCw Tryz.prog t20:=ZJT
theorem ZI1:ZCF Tryz.prog ZHj:=zbF zY zX ZJT ZIZ q20
theorem ZJV:ZCw Tryz.prog t21:=Zv zY zX ZJU ZI1 r21
theorem ZI2:ZCF Tryz.prog ZHk:=zbF zY zX ZJU ZI1 q21
theorem ok22:ZCw Tryz.prog t22:=Zv zY zX ZJV ZI2 r22
theorem ZI3:ZCF Tryz.prog ZHl:=ZI2
theorem ZJX:ZCw Tryz.prog t23:=Zv zY zX ok22 ZI3 r23
theorem ZI4:ZCF Tryz.prog ZHm:=zbF zY zX ok22 ZI3 q23
theorem ZJY:ZCw Tryz.prog t24:=Zv zY zX ZJX ZI4 r24
theorem ZI5:ZCF Tryz.prog ZHn:=zbF zY zX ZJX ZI4 q24
theorem ZJZ:ZCw Tryz.prog t25:=ZJY
theorem ZI6:ZCF Tryz.prog ZHo:=zbF zY zX ZJY ZI5 q25
theorem ZJ0:ZCw Tryz.prog t26:=Zv zY zX ZJZ ZI6 r26
theorem ZI7:ZCF Tryz.prog ZHp:=ZI6
theorem ZGZ:ZCw Tryz.prog t27:=Zv zY zX ZJ0 ZI7 r27
theorem ZI8:ZCF Tryz.prog ZHq:=zbF zY zX ZJ0 ZI7 q27
theorem ZJ1:ZCw Tryz.prog t28:=ZGZ
theorem ZI9:ZCF Tryz.prog ZHr:=zbF zY zX ZGZ ZI8 q28
theorem ZJ2:ZCw Tryz.prog t29:=Zv zY zX ZJ1 ZI9 r29
theorem ZJa:ZCF Tryz.prog ZHs:=zbF zY zX ZJ1 ZI9 q29
theorem ZJ3:ZCw Tryz.prog t30:=Zv zY zX ZJ2 ZJa r30
theorem ZJc:ZCF Tryz.prog ZHt:=zbF zY zX ZJ2 ZJa q30
theorem ZJ4:ZCw Tryz.prog t31:=Zv zY zX ZJ3 ZJc r31
theorem ZJd:ZCF Tryz.prog ZHu:=zbF zY zX ZJ3 ZJc q31
theorem ok32:ZCw Tryz.prog t32:=Zv zY zX ZJ4 ZJd r32
theorem ZJe:ZCF Tryz.prog ZHv:=ZJd
theorem ZJ5:ZCw Tryz.prog t33:=Zv zY zX ok32 ZJe r33
theorem ZJf:ZCF Tryz.prog ZHw:=ZJe
theorem ZJ6:ZCw Tryz.prog t34:=ZJ5
theorem ZWe:ZCF Tryz.prog ZQa:=zbF zY zX ZJ5 ZJf q34
theorem ZXB:ZCw Tryz.prog t35:=Zv zY zX ZJ6 ZWe r35
theorem ZWf:ZCF Tryz.prog ZQb:=zbF zY zX ZJ6 ZWe q35
theorem ZXC:ZCw Tryz.prog t36:=Zv zY zX ZXB ZWf r36
theorem Z0d:ZCF Tryz.prog ZSH:=zbF zY zX ZXB ZWf q36
theorem ZXD:ZCw Tryz.prog t37:=ZXC
theorem Z0e:ZCF Tryz.prog ZSI:=zbF zY zX ZXC Z0d q37
theorem ZXE:ZCw Tryz.prog t38:=ZXD
theorem ZWg:ZCF Tryz.prog ZQc:=zbF zY zX ZXD Z0e q38
theorem ZXF:ZCw Tryz.prog t39:=Zv zY zX ZXE ZWg r39
theorem Z0f:ZCF Tryz.prog ZSJ:=zbF zY zX ZXE ZWg q39
theorem ZXG:ZCw Tryz.prog t40:=ZXF
theorem Z0g:ZCF Tryz.prog ZSK:=zbF zY zX ZXF Z0f q40
theorem ZXH:ZCw Tryz.prog t41:=ZXG
theorem Z0h:ZCF Tryz.prog ZSL:=zbF zY zX ZXG Z0g q41
theorem ZJu:ZCw Tryz.prog t42:=ZXH
theorem ZWh:ZCF Tryz.prog ZQd:=zbF zY zX ZXH Z0h q42
theorem ZXI:ZCw Tryz.prog t43:=Zv zY zX ZJu ZWh r43
theorem Z0i:ZCF Tryz.prog ZSM:=zbF zY zX ZJu ZWh q43
theorem ZXJ:ZCw Tryz.prog t44:=ZXI
theorem Z0j:ZCF Tryz.prog ZSN:=zbF zY zX ZXI Z0i q44
theorem ZXK:ZCw Tryz.prog t45:=ZXJ
theorem ZWi:ZCF Tryz.prog ZQe:=zbF zY zX ZXJ Z0j q45
theorem ZXL:ZCw Tryz.prog t46:=Zv zY zX ZXK ZWi r46
theorem Z0k:ZCF Tryz.prog ZSO:=zbF zY zX ZXK ZWi q46
theorem ZXM:ZCw Tryz.prog t47:=ZXL
theorem ZWj:ZCF Tryz.prog ZQf:=zbF zY zX ZXL Z0k q47
theorem ZXN:ZCw Tryz.prog t48:=Zv zY zX ZXM ZWj r48
theorem Z0l:ZCF Tryz.prog ZSP:=zbF zY zX ZXM ZWj q48
theorem ZXO:ZCw Tryz.prog t49:=ZXN
theorem ZWk:ZCF Tryz.prog ZQg:=zbF zY zX ZXN Z0l q49
theorem ZXP:ZCw Tryz.prog t50:=Zv zY zX ZXO ZWk r50
theorem ZWl:ZCF Tryz.prog ZQh:=zbF zY zX ZXO ZWk q50
theorem ZXQ:ZCw Tryz.prog t51:=Zv zY zX ZXP ZWl r51
theorem ZWm:ZCF Tryz.prog ZQi:=zbF zY zX ZXP ZWl q51
theorem Z1P:ZCw Tryz.prog t52:=Zv zY zX ZXQ ZWm r52
theorem ZWn:ZCF Tryz.prog ZSQ:=zbF zY zX ZXQ ZWm q52
theorem Z1Q:ZCw Tryz.prog t53:=Zv zY zX Z1P ZWn r53
theorem ZWo:ZCF Tryz.prog ZSR:=ZWn
theorem Z1R:ZCw Tryz.prog t54:=Zv zY zX Z1Q ZWo r54
theorem ZWp:ZCF Tryz.prog ZSS:=ZWo
theorem Z1S:ZCw Tryz.prog t55:=Zv zY zX Z1R ZWp r55
end
end
end Go.Proofs.YtapdblnejhijnaaGreat.Tb
end
