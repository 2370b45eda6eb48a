/- The table of known calls is so. -/
import Derived.Test.YtelobjfgghlkfaaGreatB1
import Derived.Test.YtelobjfgghlkfaaGreatB2
import Derived.Test.YtelobjfgghlkfaaGreatB3
import Derived.Test.YtelobjfgghlkfaaGreatB4
import Derived.Test.YtelobjfgghlkfaaGreatB5
import Derived.Test.YtelobjfgghlkfaaGreatB6
import Derived.Test.YtelobjfgghlkfaaGreatB7
import Derived.Test.YtelobjfgghlkfaaGreatB8
import Derived.Test.YtelobjfgghlkfaaGreatB9
import Derived.Test.YtelobjfgghlkfaaGreatC1
import Derived.Test.YtelobjfgghlkfaaGreatC2
import Derived.Test.YtelobjfgghlkfaaGreatC3
import Derived.Test.YtelobjfgghlkfaaGreatC4
set_option linter.all false
noncomputable section
namespace Go.Proofs.YtelobjfgghlkfaaGreat.Tb
open Go Go.Ae
theorem idl_ok : idl.all (idleFn Tryz.prog) = true := by kernel_rfl
noncomputable def namesOk : Bool := Tryz.prog.funcs.toList.all fun fn => !(fn.name == "runtime.NumGoroutine")
theorem names_ok : namesOk = true := by kernel_rfl
theorem name_ok (f : FuncId) (fn : Func) (h : Tryz.prog.funcs[f]? = some fn) : (fn.name == "runtime.NumGoroutine") = false := by
  have h1 := List.all_eq_true.1 names_ok fn (Array.mem_toList_iff.2 (Array.mem_of_getElem? h))
  simpa using h1
theorem ok0 : TabOk Tryz.prog t0 := tab_nil
theorem ok1 : TabOk Tryz.prog t1 := tab_more idl_ok name_ok ok0 r1
theorem ok2 : TabOk Tryz.prog t2 := tab_more idl_ok name_ok ok1 r2
theorem ok3 : TabOk Tryz.prog t3 := tab_more idl_ok name_ok ok2 r3
theorem ok4 : TabOk Tryz.prog t4 := tab_more idl_ok name_ok ok3 r4
theorem ok5 : TabOk Tryz.prog t5 := tab_more idl_ok name_ok ok4 r5
theorem ok6 : TabOk Tryz.prog t6 := tab_more idl_ok name_ok ok5 r6
theorem ok7 : TabOk Tryz.prog t7 := tab_more idl_ok name_ok ok6 r7
theorem ok8 : TabOk Tryz.prog t8 := tab_more idl_ok name_ok ok7 r8
theorem ok9 : TabOk Tryz.prog t9 := tab_more idl_ok name_ok ok8 r9
theorem ok10 : TabOk Tryz.prog t10 := tab_more idl_ok name_ok ok9 r10
theorem ok11 : TabOk Tryz.prog t11 := tab_more idl_ok name_ok ok10 r11
theorem ok12 : TabOk Tryz.prog t12 := tab_more idl_ok name_ok ok11 r12
theorem ok13 : TabOk Tryz.prog t13 := tab_more idl_ok name_ok ok12 r13
end Go.Proofs.YtelobjfgghlkfaaGreat.Tb
