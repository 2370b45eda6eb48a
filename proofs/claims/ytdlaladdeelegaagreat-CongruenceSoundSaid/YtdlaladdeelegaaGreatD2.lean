/- The table of known calls is so. -/
import Derived.Test.YtdlaladdeelegaaGreatB1
import Derived.Test.YtdlaladdeelegaaGreatB2
import Derived.Test.YtdlaladdeelegaaGreatB3
import Derived.Test.YtdlaladdeelegaaGreatB4
import Derived.Test.YtdlaladdeelegaaGreatB5
import Derived.Test.YtdlaladdeelegaaGreatB6
import Derived.Test.YtdlaladdeelegaaGreatB7
import Derived.Test.YtdlaladdeelegaaGreatB8
import Derived.Test.YtdlaladdeelegaaGreatB9
import Derived.Test.YtdlaladdeelegaaGreatC1
import Derived.Test.YtdlaladdeelegaaGreatC2
import Derived.Test.YtdlaladdeelegaaGreatC3
import Derived.Test.YtdlaladdeelegaaGreatC4
import Derived.Test.YtdlaladdeelegaaGreatC5
import Derived.Test.YtdlaladdeelegaaGreatC6
import Derived.Test.YtdlaladdeelegaaGreatC7
import Derived.Test.YtdlaladdeelegaaGreatC8
import Derived.Test.YtdlaladdeelegaaGreatC9
import Derived.Test.YtdlaladdeelegaaGreatD1
set_option linter.all false
namespace Go.Proofs.YtdlaladdeelegaaGreat.Tb
open Go Go.Ae
theorem zY:idl.all (idleFn Tryz.prog)=true:=by kernel_rfl
noncomputable def namesOk:Bool:=Tryz.prog.funcs.toList.all fun fn=> !(fn.name== "runtime.NumGoroutine")
theorem zXU:namesOk=true:=by kernel_rfl
theorem zX (f:FuncId) (fn:Func) (h:Tryz.prog.funcs[f]?=some fn):(fn.name== "runtime.NumGoroutine")=false:=by
 have h1:=List.all_eq_true.1 zXU fn (Array.mem_toList_iff.2 (Array.mem_of_getElem? h))
 simpa using h1
theorem ok0:TabOk Tryz.prog t0:=zY5
theorem fok0:FTabOk Tryz.prog ft0:=zQP
theorem ok1:TabOk Tryz.prog t1:=ok0
theorem fok1:FTabOk Tryz.prog ft1:=zbF zY zX ok0 fok0 q1
theorem ok2:TabOk Tryz.prog t2:=Zv zY zX ok1 fok1 r2
theorem fok2:FTabOk Tryz.prog ft2:=fok1
theorem ok3:TabOk Tryz.prog t3:=Zv zY zX ok2 fok2 r3
theorem fok3:FTabOk Tryz.prog ft3:=fok2
theorem ok4:TabOk Tryz.prog t4:=Zv zY zX ok3 fok3 r4
theorem fok4:FTabOk Tryz.prog ft4:=fok3
theorem ok5:TabOk Tryz.prog t5:=Zv zY zX ok4 fok4 r5
theorem fok5:FTabOk Tryz.prog ft5:=fok4
theorem ok6:TabOk Tryz.prog t6:=Zv zY zX ok5 fok5 r6
theorem fok6:FTabOk Tryz.prog ft6:=fok5
theorem ok7:TabOk Tryz.prog t7:=Zv zY zX ok6 fok6 r7
theorem fok7:FTabOk Tryz.prog ft7:=fok6
theorem ok8:TabOk Tryz.prog t8:=Zv zY zX ok7 fok7 r8
theorem fok8:FTabOk Tryz.prog ft8:=zbF zY zX ok7 fok7 q8
theorem ok9:TabOk Tryz.prog t9:=Zv zY zX ok8 fok8 r9
theorem fok9:FTabOk Tryz.prog ft9:=fok8
theorem ok10:TabOk Tryz.prog t10:=Zv zY zX ok9 fok9 r10
theorem fok10:FTabOk Tryz.prog ft10:=zbF zY zX ok9 fok9 q10
theorem ok11:TabOk Tryz.prog t11:=Zv zY zX ok10 fok10 r11
theorem fok11:FTabOk Tryz.prog ft11:=zbF zY zX ok10 fok10 q11
theorem ok12:TabOk Tryz.prog t12:=Zv zY zX ok11 fok11 r12
theorem fok12:FTabOk Tryz.prog ft12:=fok11
theorem ok13:TabOk Tryz.prog t13:=Zv zY zX ok12 fok12 r13
theorem fok13:FTabOk Tryz.prog ft13:=zbF zY zX ok12 fok12 q13
theorem ok14:TabOk Tryz.prog t14:=Zv zY zX ok13 fok13 r14
theorem fok14:FTabOk Tryz.prog ft14:=zbF zY zX ok13 fok13 q14
theorem ok15:TabOk Tryz.prog t15:=Zv zY zX ok14 fok14 r15
theorem fok15:FTabOk Tryz.prog ft15:=zbF zY zX ok14 fok14 q15
theorem ok16:TabOk Tryz.prog t16:=Zv zY zX ok15 fok15 r16
theorem fok16:FTabOk Tryz.prog ft16:=zbF zY zX ok15 fok15 q16
theorem ok17:TabOk Tryz.prog t17:=Zv zY zX ok16 fok16 r17
theorem fok17:FTabOk Tryz.prog ft17:=zbF zY zX ok16 fok16 q17
theorem ok18:TabOk Tryz.prog t18:=Zv zY zX ok17 fok17 r18
theorem fok18:FTabOk Tryz.prog ft18:=fok17
theorem ok19:TabOk Tryz.prog t19:=Zv zY zX ok18 fok18 r19
theorem fok19:FTabOk Tryz.prog ft19:=fok18
theorem ok20:TabOk Tryz.prog t20:=Zv zY zX ok19 fok19 r20
theorem fok20:FTabOk Tryz.prog ft20:=fok19
theorem ok21:TabOk Tryz.prog t21:=Zv zY zX ok20 fok20 r21
theorem fok21:FTabOk Tryz.prog ft21:=fok20
theorem ok22:TabOk Tryz.prog t22:=Zv zY zX ok21 fok21 r22
theorem fok22:FTabOk Tryz.prog ft22:=fok21
theorem ok23:TabOk Tryz.prog t23:=Zv zY zX ok22 fok22 r23
theorem fok23:FTabOk Tryz.prog ft23:=fok22
theorem ok24:TabOk Tryz.prog t24:=Zv zY zX ok23 fok23 r24
theorem fok24:FTabOk Tryz.prog ft24:=fok23
theorem ok25:TabOk Tryz.prog t25:=Zv zY zX ok24 fok24 r25
theorem fok25:FTabOk Tryz.prog ft25:=fok24
theorem ok26:TabOk Tryz.prog t26:=Zv zY zX ok25 fok25 r26
theorem fok26:FTabOk Tryz.prog ft26:=fok25
theorem ok27:TabOk Tryz.prog t27:=Zv zY zX ok26 fok26 r27
theorem fok27:FTabOk Tryz.prog ft27:=fok26
theorem ok28:TabOk Tryz.prog t28:=Zv zY zX ok27 fok27 r28
theorem fok28:FTabOk Tryz.prog ft28:=fok27
theorem ok29:TabOk Tryz.prog t29:=Zv zY zX ok28 fok28 r29
theorem fok29:FTabOk Tryz.prog ft29:=fok28
theorem ok30:TabOk Tryz.prog t30:=Zv zY zX ok29 fok29 r30
theorem fok30:FTabOk Tryz.prog ft30:=fok29
theorem ok31:TabOk Tryz.prog t31:=Zv zY zX ok30 fok30 r31
theorem fok31:FTabOk Tryz.prog ft31:=fok30
theorem ok32:TabOk Tryz.prog t32:=Zv zY zX ok31 fok31 r32
theorem fok32:FTabOk Tryz.prog ft32:=fok31
theorem ok33:TabOk Tryz.prog t33:=Zv zY zX ok32 fok32 r33
theorem fok33:FTabOk Tryz.prog ft33:=fok32
theorem ok34:TabOk Tryz.prog t34:=Zv zY zX ok33 fok33 r34
end Go.Proofs.YtdlaladdeelegaaGreat.Tb
